/- A function's code comes to a plain predicate transformer, shown once for all codes. No further condition. -/
import Derived.OrdersHeld
import Derived.WalkKit
import Derived.KernelRfl
import Derived.Laws.CopyRow
import Derived.Scope
import Derived.Laws.Externs
import Derived.Recover
set_option linter.all false
set_option maxRecDepth 50000
namespace Go.Sh
inductive Ty where
  | int (k:IntKind)|bool|ptr|sl|map|any|z7
structure AY where
  base:Option Addr
  len:Nat
  cap:Nat
def z8:Ty->Type
  | .int _=>Int
  | .bool=>Bool
  | .ptr=>Option Addr
  | .sl=>AY
  | .map=>Option Nat
  | .any=>Value
  | .z7=>Nat
def mkV:(t:Ty)->z8 t->Value
  | .int k,n=>.int k n
  | .bool,b=>.bool b
  | .ptr,a=>.pointer a
  | .sl,s=>.slice (AY.base s) (AY.len s) (AY.cap s)
  | .map,r=>.map r
  | .any,v=>v
  | .z7,b=>.float .f64 (show Nat from b)
def ik:IntKind->Nat
  | .i8=>0| .i16=>1| .i32=>2| .i64=>3| .u8=>4| .u16=>5| .u32=>6| .u64=>7
def cJ{a b:IntKind}(h:ik a=ik b):a=b:=by
  cases a<;>cases b<;>first|rfl|(simp[ik]at h)
def sameK(a b:IntKind)(X:Prop):Prop:=match Nat.beq (ik a) (ik b)with|true=>X|false=>False
def Fl{a b:IntKind}{X:Prop}(h:sameK a b X):a=b/\X:=by
  unfold sameK at h;split at h
  . rename_i e;exact⟨cJ (Nat.eq_of_beq_eq_true e),h⟩
  . exact h.elim
abbrev ZA(k:FloatKind)(X:Prop):Prop:=match k with| .f64=>X| .f32=>False
def Jv{k:FloatKind}{X:Prop}(h:ZA k X):k= .f64/\X:=by
  cases k
  . exact h.elim
  . exact⟨rfl,h⟩
def unV:(t:Ty)->Value->(z8 t->Prop)->Prop
  | .int k,.int k' n,K=>sameK k k' (K n)
  | .bool,.bool b,K=>K b
  | .ptr,.pointer a,K=>K a
  | .sl,.slice a n c,K=>K (AY.mk a n c)
  | .map,.map r,K=>K r
  | .any,v,K=>K v
  | .z7,.float k b,K=>ZA k (K b)
  | _,_,_=>False
def ZB{t:Ty}{v:Value}{K:z8 t->Prop}(h:unV t v K): ∃x,v=mkV t x/\K x:=by
  unfold unV at h;split at h
  . obtain⟨rfl,a⟩:=Fl h;exact⟨_,rfl,a⟩
  . exact⟨_,rfl,h⟩
  . exact⟨_,rfl,h⟩
  . exact⟨_,rfl,h⟩
  . exact⟨_,rfl,h⟩
  . exact⟨_,rfl,h⟩
  . obtain⟨rfl,a⟩:=Jv h;exact⟨_,rfl,a⟩
  grind
def kX:List Ty->Type
  | []=>Unit
  | t::r=>z8 t×kX r
def mkVs:(l:List Ty)->kX l->List Value
  | [],_=>[]
  | t::r,x=>mkV t x.1::mkVs r x.2
def unVs:(l:List Ty)->List Value->(kX l->Prop)->Prop
  | [],[],K=>K ()
  | t::r,v::vs,K=>unV t v λx=>unVs r vs λy=>K (x,y)
  | _,_,_=>False
def WW:{l:List Ty}->{vs:List Value}->{K:kX l->Prop}->unVs l vs K-> ∃x,vs=mkVs l x/\K x
  | [],[],_,h=>⟨(),rfl,h⟩
  | [],_::_,_,h=>h.elim
  | _::_,[],_,h=>h.elim
  | t::r,v::vs,K,h=>by
    simp only[unVs]at h;obtain⟨x,rfl,a⟩:=ZB h;obtain⟨y,rfl,e⟩:=WW a;exact⟨(x,y),rfl,e⟩
inductive VT where
  | one (t:Ty)
  | agg (l:List Ty)
def kY:VT->Type
  | .one t=>z8 t
  | .agg l=>kX l
def mkVT:(t:VT)->kY t->Value
  | .one t,x=>mkV t x
  | .agg l,x=>.agg ⟨mkVs l x⟩
def unVT:(t:VT)->Value->(kY t->Prop)->Prop
  | .one t,v,K=>unV t v K
  | .agg l,.agg cs,K=>unVs l cs.toList K
  | .agg _,_,_=>False
def Ru{t:VT}{v:Value}{K:kY t->Prop}(h:unVT t v K): ∃x,v=mkVT t x/\K x:=by
  cases t with
  | one t=>exact ZB h
  | agg l=>
    cases v<;>simp only[unVT]at h;rename_i cs;obtain⟨x,a,h⟩:=WW h;exact⟨x,by simp only[mkVT,<-a],h⟩
abbrev Fr:=Nat->Value
def Fr.put(f:Fr)(d:Nat)(v:Value):Fr:=λt=>bif Nat.beq t d then v else f t
def Fr.Lq(f:Fr):Option Nat->Value->Fr
  | some d,v=>f.put d v
  | none,_=>f
def memB:List Nat->Nat->Bool
  | [],_=>false
  | x::r,t=>bif Nat.beq t x then true else memB r t
def T5:{l:List Nat}->{t:Nat}->(memB l t=true↔t∈l)
  | [],t=>by simp[memB]
  | x::r,t=>by
    simp only[memB,List.mem_cons,cond_eq_ite];by_cases h:Nat.beq t x=true
    . simp[h,Nat.eq_of_beq_eq_true h]
    . have a:t≠x:=λe=>h (e▸Nat.beq_refl t);simp[h,T5 (l:=r) (t:=t),a]
def Fr.TW(f:Fr)(l:List Nat)(j:Nat->Value):Fr:=λt=>bif memB l t then j t else f t
def Fr.ev(f:Fr):Operand->Value
  | .tmp t=>f t
  | .const v=>v
  | .global g=>.pointer (some ⟨g,0,none⟩)
  | .func g=>.func (.func g) #[] #[]
def BZ(a:Act):Fr:=λt=>a.tmps.getD t undef
def Jw(a:Act)(x:Operand):(BZ a).ev x=a.eval x:=by cases x<;>rfl
def Hn(a:Act):(BZ a).ev=a.eval:=funext (Jw a)
def T6{a:Act}{d:Nat}(hd:d<a.tmps.size)(v:Value):BZ (a.put (some d) v)=(BZ a).put d v:=by
  funext t;simp only[BZ,Act.put,Fr.put,Array.getD_eq_getD_getElem?,cond_eq_ite];by_cases h:t=d
  . subst h;simp[hd]
  . have e:Nat.beq t d=false:=by
      cases e:Nat.beq t d
      . rfl
      . exact absurd (Nat.eq_of_beq_eq_true e) h
    grind
def Mf{a:Act}{d:Option Nat}(hd: ∀t,d=some t->t<a.tmps.size)(v:Value):BZ (a.put d v)=(BZ a).Lq d v:=by
  cases d with
  | none=>rfl
  | some t=>exact T6 (hd t rfl) v
def Gk(a:Act)(d:Option Nat)(v:Value):(a.put d v).tmps.size=a.tmps.size:=by
  cases d<;>simp[Act.put]
def M8(a:Act)(d:Option Nat)(v:Value):(a.put d v).defers=a.defers:=by
  cases d<;>rfl
abbrev uY:=List (Nat×VT)
def St:uY->Type
  | []=>Unit
  | (_,t)::r=>kY t×St r
def Fr.set:(l:uY)->St l->Fr->Fr
  | [],_,f=>f
  | (d,t)::r,s,f=>Fr.set r s.2 (f.put d (mkVT t s.1))
def Fr.get:(l:uY)->Fr->(St l->Prop)->Prop
  | [],_,K=>K ()
  | (d,t)::r,f,K=>unVT t (f d) λx=>Fr.get r f λs=>K (x,s)
def Lw:(l:uY)->St l->Fr->Prop
  | [],_,_=>True
  | (d,t)::r,s,f=>f d=mkVT t s.1/\Lw r s.2 f
def KQ:{l:uY}->{f:Fr}->{K:St l->Prop}->Fr.get l f K-> ∃s,Lw l s f/\K s
  | [],_,_,h=>⟨(),trivial,h⟩
  | (d,t)::r,f,K,h=>by
    obtain⟨x,e,h⟩:=Ru h;obtain⟨s,a,h⟩:=KQ h;exact⟨(x,s),⟨e,a⟩,h⟩
def iM:{t:Ty}->{x y:z8 t}->mkV t x=mkV t y->x=y
  | .int _,_,_,h=>by simp only[mkV]at h;injection h
  | .bool,_,_,h=>by simp only[mkV]at h;injection h
  | .ptr,_,_,h=>by simp only[mkV]at h;injection h
  | .sl,x,y,h=>by
    simp only[mkV]at h;injection h with h1 h2 h3
    cases x;cases y;grind
  | .map,_,_,h=>by simp only[mkV]at h;injection h
  | .any,_,_,h=>h
  | .z7,_,_,h=>by simp only[mkV]at h;injection h
def ZC:{l:List Ty}->{x y:kX l}->mkVs l x=mkVs l y->x=y
  | [],_,_,_=>rfl
  | t::r,(x,xs),(y,ys),h=>by
    simp only[mkVs]at h;injection h with h1 h2
    rw[iM h1,ZC h2]
def oK:{t:VT}->{x y:kY t}->mkVT t x=mkVT t y->x=y
  | .one _,_,_,h=>iM h
  | .agg _,_,_,h=>by
    simp only[mkVT]at h;injection h with h1
    injection h1 with h2
    exact ZC h2
def Rv:{l:uY}->{s s':St l}->{f:Fr}->Lw l s f->Lw l s' f->s=s'
  | [],_,_,_,_,_=>rfl
  | (d,t)::r,(x,s),(y,s'),f,h,h'=>by
    have h1:mkVT t x=mkVT t y:=h.1.symm.trans h'.1;have a:x=y:=oK h1;have e:s=s':=Rv h.2 h'.2
    grind
def oL:{l:uY}->{s:St l}->{g f:Fr}->Lw l s g->(∀t,t∉l.map (·.1)->f t=g t)->Fr.set l s f=g
  | [],_,g,f,_,h=>funext λt=>h t (by simp)
  | (d,t)::r,s,g,f,hs,h=>by
    simp only[Fr.set];refine oL hs.2 λu hu=> ?_;simp only[Fr.put,cond_eq_ite];by_cases e:Nat.beq u d=true
    . have:=Nat.eq_of_beq_eq_true e;subst this;simp[hs.1]
    . have j:u≠d:=λa=>e (a▸Nat.beq_refl u)
      grind
def KR{l:uY}{s:St l}{W:List Nat}{f g:Fr}(e:Lw l s g)(a: ∀t,t∉W->g t=f t):Fr.set l s (f.TW W g)=g:=by
  refine oL e λt _=> ?_;simp only[Fr.TW,cond_eq_ite];by_cases h:memB W t=true
  . simp[h]
  . simp only[h,Bool.false_eq_true,if_false];exact(a t λhm=>h (T5.2 hm)).symm
def NC(a:Option Addr)(K:Addr->Prop):Prop:=match a with|some p=>K p|none=>False
def CND(b:Bool)(T E:Prop):Prop:=match b with|true=>T|false=>E
def iN{b:Bool}{T E:Prop}:CND b T E↔(b=true->T)/\(b=false->E):=by cases b<;>simp[CND]
def G4{a:Option Addr}{K:Addr->Prop}(h:NC a K): ∃p,a=some p/\K p:=by
  cases a with
  | none=>exact h.elim
  | some p=>exact⟨p,rfl,h⟩
@[simp] theorem AK(p:Addr)(K:Addr->Prop):NC (some p) K=K p:=rfl
def XT(P:Program)(t:TypeId):Nat:=P.cellsOf t
def szK(P:Program)(t:TypeId)(K:Nat->Prop):Prop:=match XT P t with
  | 0=>False
  | n+1=>K (n+1)
def Fm{P:Program}{t:TypeId}{K:Nat->Prop}(h:szK P t K): ∃n,K n/\n≠0/\n=XT P t/\ ∀w,(sizeOf t).run P w= .ok n w:=by
  unfold szK at h;split at h
  . grind
  . rename_i n hn;refine⟨_,h,by omega,hn.symm,λw=> ?_⟩;cases hi:P.info? t with
    | none=>simp[XT,Program.cellsOf,hi]at hn
    | some i=>
      have:i.size=n+1:=by simpa[XT,Program.cellsOf,hi]using hn
      simp[sizeOf,typeInfo,hi,this]
def isAggP(P:Program)(t:TypeId):Bool:=match P.underlying t with
  | some (.struct _)|some (.array _ _)=>true
  | _=>false
def aggK(P:Program)(t:TypeId)(A:Prop)(B:TypeDesc->Prop):Prop:=match P.underlying t with
  | some (.struct _)=>A
  | some (.array _ _)=>A
  | some d=>B d
  | none=>False
def WX{P:Program}{t:TypeId}{A:Prop}{B:TypeDesc->Prop}(h:aggK P t A B):
    (P.info? t).isSome=true/\((A/\ ∀w,(isAgg t).run P w= .ok true w)∨(∃d,P.underlying t=some d/\B d/\ ∀w,(isAgg t).run P w= .ok false w)):=by
  unfold aggK at h;have hu: ∀d,P.underlying t=some d->(P.info? t).isSome=true:=by
    intro d hd;cases hi:P.info? t with
    | none=>simp[Program.underlying,hi]at hd
    | some i=>rfl
  split at h
  . rename_i hd;exact⟨hu _ hd,.inl ⟨h,λw=>by simp[isAgg,underlying,hd]⟩⟩
  . rename_i hd;exact⟨hu _ hd,.inl ⟨h,λw=>by simp[isAgg,underlying,hd]⟩⟩
  . rename_i d h1 h2 hd;refine⟨hu _ hd,.inr ⟨d,hd,h,λw=> ?_⟩⟩;cases d<;>first
      | exact(h1 _ rfl).elim
      | exact(h2 _ _ rfl).elim
      | simp[isAgg,underlying,hd]
  grind
def tyD:TypeDesc->Ty
  | .int k=>.int k
  | .bool=>.bool
  | .pointer _=>.ptr
  | .slice _=>.sl
  | .map _ _=>.map
  | .float .f64=>.z7
  | _=>.any
def oM:Nat->List Ty->List Ty
  | 0,_=>[]
  | n+1,l=>l++oM n l
def oN(P:Program):Nat->TypeId->List Ty
  | 0,_=>[]
  | d+1,t=>match P.underlying t with
    | some (.struct fs)=>fs.toList.flatMap λf=>oN P d f.type
    | some (.array n e)=>oM n (oN P d e)
    | some d=>[tyD d]
    | none=>[]
def cK(P:Program)(t:TypeId):VT:=match isAggP P t with
  | true=>.agg (oN P 12 t)
  | false=>match P.underlying t with
    | some d=>.one (tyD d)
    | none=>.one .any
def LH(P:Program)(t:TypeId):Option Value:=(P.info? t).bind (·.zero)
def evInt(op:BinOp)(k:IntKind)(a b:Int)(K:Value->Prop):Prop:=
  match op with
  | .add=>K (.int k (k.wrap (a+b)))
  | .sub=>K (.int k (k.wrap (a-b)))
  | .mul=>K (.int k (k.wrap (a*b)))
  | .quo=>b≠0/\K (.int k (k.wrap (a.tdiv b)))
  | .rem=>b≠0/\K (.int k (a.tmod b))
  | .and=>K (.int k (k.wrap (BitVec.ofInt k.bits a&&&BitVec.ofInt k.bits b).toNat))
  | .or=>K (.int k (k.wrap (BitVec.ofInt k.bits a|||BitVec.ofInt k.bits b).toNat))
  | .xor=>K (.int k (k.wrap (BitVec.ofInt k.bits a^^^BitVec.ofInt k.bits b).toNat))
  | .andNot=>K (.int k (k.wrap (BitVec.ofInt k.bits a&&& ~~~BitVec.ofInt k.bits b).toNat))
  | .eql=>K (.bool (a==b))
  | .neq=>K (.bool (a !=b))
  | .lss=>K (.bool (decide (a<b)))
  | .leq=>K (.bool (decide (a<=b)))
  | .gtr=>K (.bool (decide (a>b)))
  | .geq=>K (.bool (decide (a≥b)))
  | _=>False
def isFn:Value->Bool
  | .func .. =>true
  | .nilFunc=>true
  | _=>false
def isNilF:Value->Bool
  | .nilFunc=>true
  | _=>false
noncomputable def Kv{α:Type}(x:α):α:=Classical.choose (⟨x,rfl⟩: ∃y,y=x)
def Kk{α:Type}(x:α):Kv x=x:=Classical.choose_spec (⟨x,rfl⟩: ∃y,y=x)
noncomputable def EN(a b:Nat):Option Ordering:=Kv (FloatKind.f64.format.order a b)
def evFlt(op:BinOp)(a b:Nat)(K:Value->Prop):Prop:=match op with
  | .eql=>K (.bool (EN a b==some .eq))
  | .neq=>K (.bool (EN a b !=some .eq))
  | .lss=>K (.bool (EN a b==some .lt))
  | .leq=>K (.bool (EN a b==some .lt||EN a b==some .eq))
  | .gtr=>K (.bool (EN a b==some .gt))
  | .geq=>K (.bool (EN a b==some .gt||EN a b==some .eq))
  | _=>False
def PEQ0(a b:Option Addr)(K:Bool->Prop):Prop:=match a with
  | none=>K b.isNone
  | some p=>match b with
    | none=>K false
    | some q=>p.block=q.block/\K (p==q)
def evBin0(P:Program)(op:BinOp)(t:TypeId)(x y:Value)(K:Value->Prop):Prop:=
  match x with
  | .int k a=>match y with
    | .int k' b=>match op with
      | .shl=>0<=b/\K (.int k (k.wrap (a*2^(min b.toNat k.bits))))
      | .shr=>0<=b/\K (.int k (a.fdiv (2^(min b.toNat k.bits))))
      | op=>sameK k k' (evInt op k a b K)
    | _=>False
  | .bool a=>match y with
    | .bool b=>match P.underlying t with
      | some .bool=>match op with
        | .eql=>K (.bool (a==b))
        | .neq=>K (.bool (!(a==b)))
        | _=>False
      | _=>False
    | _=>False
  | .pointer a=>match y with
    | .pointer none=>match P.underlying t with
      | some (.pointer _)=>match op with
        | .eql=>K (.bool a.isNone)
        | .neq=>K (.bool (!a.isNone))
        | _=>False
      | _=>False
    | _=>False
  | .slice a _ _=>match y with
    | .slice none _ _=>match P.underlying t with
      | some (.slice _)=>match op with
        | .eql=>K (.bool a.isNone)
        | .neq=>K (.bool (!a.isNone))
        | _=>False
      | _=>False
    | _=>False
  | .map a=>match y with
    | .map none=>match P.underlying t with
      | some (.map _ _)=>match op with
        | .eql=>K (.bool a.isNone)
        | .neq=>K (.bool (!a.isNone))
        | _=>False
      | _=>False
    | _=>False
  | .float k a=>match y with
    | .float k' b=>ZA k (ZA k' (evFlt op a b K))
    | _=>False
  | _=>False
def evEqF(P:Program)(xs e:List Value):List Field->(Bool->Prop)->Prop
  | [],K=>K true
  | f::r,K=>match f.name != "_" with
    | true=>match P.underlying f.type with
      | some (.int _)=>match xs[f.offset]? with
        | some (.int k a)=>match e[f.offset]? with
          | some (.int k' b)=>sameK k k' (evEqF P xs e r λt=>K ((a==b)&&t))
          | _=>False
        | _=>False
      | some .bool=>match xs[f.offset]? with
        | some (.bool a)=>match e[f.offset]? with
          | some (.bool b)=>evEqF P xs e r λt=>K ((a==b)&&t)
          | _=>False
        | _=>False
      | _=>False
    | false=>False
def evEqS(P:Program)(op:BinOp)(t:TypeId)(xs a:List Value)(K:Value->Prop):Prop:=
  match P.underlying t with
  | some (.struct fs)=>match P.stoodInHeld t with
    | false=>match P.eqGuardType P.depth t with
      | false=>match op with
        | .eql=>evEqF P xs a fs.toList λr=>K (.bool r)
        | .neq=>evEqF P xs a fs.toList λr=>K (.bool (!r))
        | _=>False
      | true=>False
    | true=>False
  | _=>False
def isIf:Value->Bool
  | .iface .. =>true
  | .nilIface=>true
  | _=>false
def isNilI:Value->Bool
  | .nilIface=>true
  | _=>false
def evBin(P:Program)(op:BinOp)(t:TypeId)(x y:Value)(K:Value->Prop):Prop:=
  match y with
  | .nilIface=>match P.underlying t with
    | some (.interface ms)=>match ms.isEmpty with
      | true=>match op with
        | .eql=>isIf x=true/\K (.bool (isNilI x))
        | .neq=>isIf x=true/\K (.bool (!isNilI x))
        | _=>False
      | false=>False
    | _=>False
  | .nilFunc=>match P.underlying t with
    | some (.func _ _ _)=>match op with
      | .eql=>isFn x=true/\K (.bool (isNilF x))
      | .neq=>isFn x=true/\K (.bool (!isNilF x))
      | _=>False
    | _=>False
  | .agg ys=>match x with
    | .agg xs=>evEqS P op t xs.toList ys.toList K
    | _=>False
  | y=>evBin0 P op t x y K
def evBinT(P:Program)(op:BinOp)(t:TypeId)(x y:Value)(K:Value->Prop):Prop:=
  match x with
  | .pointer a=>match y with
    | .pointer b=>match P.underlying t with
      | some (.pointer e)=>szK P e λ_=>match op with
        | .eql=>PEQ0 a b λr=>K (.bool r)
        | .neq=>PEQ0 a b λr=>K (.bool (!r))
        | _=>False
      | _=>False
    | _=>evBin P op t x y K
  | _=>evBin P op t x y K
def evUn(op:UnOp)(x:Value)(K:Value->Prop):Prop:=
  match op,x with
  | .not,.bool b=>K (.bool (!b))
  | .neg,.int k n=>K (.int k (k.wrap (0-n)))
  | .xor,.int k n=>K (.int k (k.wrap (BitVec.ofInt k.bits (if k.signed then-1 else k.max)^^^BitVec.ofInt k.bits n).toNat))
  | _,_=>False
def evBound(x:Option Value)(oO top:Nat)(K:Nat->Prop):Prop:=
  match x with
  | none=>K oO
  | some (.int _ i)=>(0<=i/\i<=top)/\K i.toNat
  | some _=>False
def evPart(P:Program)(t:TypeId)(cs:List Value)(off:Nat)(K:Value->Prop):Prop:=
  aggK P t (K (.agg ⟨(cs.drop off).take (XT P t)⟩)) λ_=>match cs[off]? with
    | some v=>K v
    | none=>False
def KE(a:Option Addr)(c m z:Nat):Option Addr:=if c=m then a else a.map (·.add (m*z))
def u64(n:Int):Int:=IntKind.u64.wrap n
def i64(n:Int):Int:=IntKind.i64.wrap n
def PR(a b:Int):Int:=if b<a then b else a
def LI(a b:Int):Int:=if b>a then b else a
def T7(k:IntKind)(v:Value)(K:Int->Prop):Prop:=unV (.int k) v K
def vH(v:Value)(K:AY->Prop):Prop:=unV .sl v K
def JB{α:Type}(e:α)(K:α->Prop):Prop:=K e
def AL(o:Obj)(w:World)(K:Nat->World->Prop):Prop:=K w.heap.size (w.alloc o)
def fillL(cells:List Value)(off:Nat):List Value->List Value
  | []=>cells
  | v::r=>fillL (cells.set off v) (off+1) r
def Pn(n m:Nat)(X:Prop):Prop:=match Nat.beq n m with|true=>X|false=>False
def Jy{n m:Nat}{X:Prop}(h:Pn n m X):n=m/\X:=by
  unfold Pn at h;split at h
  . simp_all
  grind
def leK(n m:Nat)(X:Prop):Prop:=match Nat.ble n m with|true=>X|false=>False
def ZD{n m:Nat}{X:Prop}(h:leK n m X):n<=m/\X:=by
  unfold leK at h;split at h
  . simp_all
  grind
def evFill(places:Nat->Option (Nat×Nat)):List (Nat×Value)->List Value->(List Value->Prop)->Prop
  | [],cells,K=>K cells
  | (i,v)::r,cells,K=>match places i with
    | none=>False
    | some (off,size)=>Pn v.cells.toList.length size (leK (off+size) cells.length (evFill places r (fillL cells off v.cells.toList) K))
def WY(off:Nat): ∀(vs:List Value) (k:Nat) (cells:Array Value),
    ((vs.zipIdx k).foldl (λcs (c,j)=>cs.setIfInBounds (off+j) c) cells).toList=fillL cells.toList (off+k) vs
  | [],_,_=>rfl
  | v::r,k,cells=>by
    simp only[List.zipIdx_cons,List.foldl_cons,fillL];rw[WY off r (k+1)]
    grind
def Lx{places:Nat->Option (Nat×Nat)}:{parts:List (Nat×Value)}->{cells:Array Value}->{K:List Value->Prop}->
    evFill places parts cells.toList K-> ∃out,K out.toList/\Instr.fill places cells parts=some out
  | [],cells,K,h=>⟨cells,h,rfl⟩
  | (i,v)::r,cells,K,h=>by
    simp only[evFill]at h;cases hp:places i with
    | none=>grind
    | some os=>
      obtain⟨off,size⟩:=os;simp only[hp]at h;obtain⟨h1,h⟩:=Jy h;obtain⟨e,h⟩:=ZD h;have u:=WY off v.cells.toList 0 cells;have hz:(v.cells.zipIdx.foldl (λcs (c,j)=>cs.setIfInBounds (off+j) c) cells).toList=fillL cells.toList off v.cells.toList:=by
        rw[<-Array.foldl_toList,Array.toList_zipIdx];omega
      rw[<-hz]at h;obtain⟨out,a,ho⟩:=Lx h;refine⟨out,a,?_⟩;simp only[Instr.fill,hp]
      grind
def oP(P:Program):List Field->Prop->Prop
  | [],X=>X
  | f::r,X=>szK P f.type λ_=>oP P r X
def TAS(x:Value)(t:Nat)(z:Value)(K:Value->Bool->Prop):Prop:=match x with
  | .nilIface=>K z false
  | .iface u v=>match Nat.beq u t with
    | true=>K v true
    | false=>K z false
  | _=>False
def oQ:List Value->List (Option Addr)
  | []=>[]
  | v::r=>(match v with| .pointer a=>a|_=>none)::oQ r
def XU:List Value->Bool
  | []=>true
  | v::r=>match v with
    | .pointer _=>XU r
    | _=>false
def ZE: ∀{l:List Value} {i:Nat},XU l=true->i<l.length->l[i]? =some (.pointer ((oQ l).getD i none))
  | v::r,0,h,_=>by cases v<;>first|rfl|cases h
  | v::r,i+1,h,hi=>by
    have a:XU r=true:=by cases v<;>first|exact h|cases h
    have:=ZE a (i:=i) (by grind);simpa[oQ]using this
def oR(P:Program)(l:Nat)(e:TypeId)(cs:List Value)(n:Int)(K:Value->Prop):Prop:=match P.underlying e with
  | some (.pointer _)=>szK P e λz=>Pn z 1 (Pn cs.length l (match XU cs with
    | true=>(0<=n/\n<(l:Int))/\K (.pointer ((oQ cs).getD n.toNat none))
    | false=>False))
  | _=>False
noncomputable def Ng(n:Int):Nat:=Kv (FloatKind.f64.nearest n)
noncomputable def TX(b:Nat):Option Int:=Kv ((FloatKind.f64.decode b).toInt .zero)
def slL:List Value->List AY
  | []=>[]
  | v::r=>(match v with| .slice a n c=>⟨a,n,c⟩|_=>⟨none,0,0⟩)::slL r
def iO:List Value->Bool
  | []=>true
  | v::r=>match v with
    | .slice .. =>iO r
    | _=>false
def iP: ∀{l:List Value} {i:Nat},iO l=true->i<l.length->l[i]? =some (.slice ((slL l).getD i ⟨none,0,0⟩).base ((slL l).getD i ⟨none,0,0⟩).len ((slL l).getD i ⟨none,0,0⟩).cap)
  | v::r,0,h,_=>by cases v<;>first|rfl|cases h
  | v::r,i+1,h,hi=>by
    have a:iO r=true:=by cases v<;>first|exact h|cases h
    have:=iP a (i:=i) (by grind);simpa[slL]using this
def cL(P:Program)(l:Nat)(e:TypeId)(cs:List Value)(n:Int)(K:Value->Prop):Prop:=match P.underlying e with
  | some (.slice _)=>szK P e λz=>Pn z 1 (Pn cs.length l (match iO cs with
    | true=>(0<=n/\n<(l:Int))/\JB ((slL cs).getD n.toNat ⟨none,0,0⟩) λs=>K (.slice s.base s.len s.cap)
    | false=>False))
  | _=>False
def oS(s:ByteArray)(n:Int)(K:Int->Prop):Prop:=0<=n/\ ∃b,s[n.toNat]? =some b/\K (b.toNat:Int)
def evPure(P:Program)(o:Op)(ty:TypeId)(ρ:Operand->Value)(K:Value->Prop):Prop:=
  match o with
  | .move x| .assign x=>K (ρ x)
  | .pick c a b=>match ρ c with
    | .bool t=>K (bif t then ρ a else ρ b)
    | _=>False
  | .nilCheck x=>match ρ x with
    | .pointer a=>NC a λp=>K (.pointer (some p))
    | _=>False
  | .binOp op t x y _=>match y with
    | .tmp _=>evBinT P op t (ρ x) (ρ y) K
    | _=>evBin P op t (ρ x) (ρ y) K
  | .unOp op _ x=>evUn op (ρ x) K
  | .convert s d x=>match P.underlying s,P.underlying d,ρ x with
    | some (.int _),some (.int k),.int _ n=>K (.int k (k.wrap n))
    | some (.int _),some (.float k),.int _ n=>ZA k (K (.float .f64 (Ng n)))
    | some (.float _),some (.int k),.float k' b=>ZA k' (∃n,TX b=some n/\(k.min<=n/\n<=k.max)/\K (.int k n))
    | _,_,_=>False
  | .makeFunc fn fi ca=>K (.func fn (fi.map ρ) (ca.map ρ))
  | .fieldAddr s x i=>match P.underlying s with
    | some (.struct fs)=>match fs[i]? with
      | some f=>szK P f.type λ_=>match ρ x with
        | .pointer a=>NC a λp=>K (.pointer (some (p.add f.offset)))
        | _=>False
      | none=>False
    | _=>False
  | .field t x i=>match P.underlying t with
    | some (.struct fs)=>match fs[i]? with
      | some f=>match ρ x with
        | .agg cs=>evPart P f.type cs.toList f.offset K
        | _=>False
      | none=>False
    | _=>False
  | .indexAddr t x i=>match ρ i with
    | .int _ n=>match P.underlying t with
      | some (.slice e)=>szK P e λz=>match ρ x with
        | .slice b l _=>NC b λa=>(0<=n/\n<(l:Int))/\K (.pointer (some (a.add (n.toNat*z))))
        | _=>False
      | some (.array l e)=>szK P e λz=>match ρ x with
        | .pointer b=>NC b λa=>(0<=n/\n<(l:Int))/\K (.pointer (some (a.add (n.toNat*z))))
        | _=>False
      | _=>False
    | _=>False
  | .build t parts=>match LH P t with
    | some z=>match P.underlying t with
      | some (.struct fs)=>oP P fs.toList (evFill (λi=>(fs[i]?).map λf=>(f.offset,XT P f.type)) ((parts.map λ(i,x)=>(i,ρ x)).toList) z.cells.toList λl=>K (.agg ⟨l⟩))
      | some (.array _ e)=>szK P e λn=>evFill (λi=>some (i*n,n)) ((parts.map λ(i,x)=>(i,ρ x)).toList) z.cells.toList λl=>K (.agg ⟨l⟩)
      | _=>False
    | none=>False
  | .extract x i=>match ρ x with
    | .tuple vs=>match vs.toList[i]? with
      | some v=>unVT (cK P ty) v λx=>K (mkVT (cK P ty) x)
      | none=>False
    | _=>False
  | .slice t x lo hi none=>match P.underlying t with
    | some (.slice e)=>szK P e λz=>match ρ x with
      | .slice a l c=>evBound (hi.map ρ) l c λh=>evBound (lo.map ρ) 0 h λm=>K (.slice (if c=m then a else a.map (·.add (m*z))) (h-m) (c-m))
      | _=>False
    | some (.array n e)=>szK P e λz=>match ρ x with
      | .pointer a=>NC a λp=>evBound (hi.map ρ) n n λh=>evBound (lo.map ρ) 0 h λm=>K (.slice (some (if n=m then p else p.add (m*z))) (h-m) (n-m))
      | _=>False
    | _=>False
  | .makeInterface t x=>match P.underlying t with
    | some (.interface _)=>False
    | some _=>K (.iface t (ρ x))
    | none=>False
  | .typeAssert x _ asserted true=>match P.underlying asserted with
    | some (.interface _)=>False
    | some _=>match LH P asserted with
      | some z=>TAS (ρ x) asserted z λv b=>K (.tuple #[v,.bool b])
      | none=>False
    | none=>False
  | .call c=>match c.callee with
    | .builtin .len=>match c.args.toList with
      | [x]=>match ρ x with
        | .slice _ n _=>match(c.argTypes.toList.head?).bind P.underlying with
          | some (.slice _)=>K (.int .i64 n)
          | _=>False
        | _=>False
      | _=>False
    | .builtin .min=>match c.args.toList with
      | [x,y]=>match ρ x with
        | .int k a=>match ρ y with
          | .int _ b=>K (.int k (if b<a then b else a))
          | _=>False
        | _=>False
      | [x,y,z]=>match ρ x with
        | .int k a=>match ρ y with
          | .int _ b=>match ρ z with
            | .int _ d=>K (.int k (PR (PR a b) d))
            | _=>False
          | _=>False
        | _=>False
      | _=>False
    | .builtin .max=>match c.args.toList with
      | [x,y]=>match ρ x with
        | .int k a=>match ρ y with
          | .int _ b=>K (.int k (if b>a then b else a))
          | _=>False
        | _=>False
      | [x,y,z]=>match ρ x with
        | .int k a=>match ρ y with
          | .int _ b=>match ρ z with
            | .int _ d=>K (.int k (LI (LI a b) d))
            | _=>False
          | _=>False
        | _=>False
      | _=>False
    | _=>False
  | .index t x i=>match P.underlying t with
    | some (.array l e)=>match ρ x with
      | .agg cs=>match ρ i with
        | .int _ n=>match P.underlying e with
          | some (.slice _)=>cL P l e cs.toList n K
          | _=>oR P l e cs.toList n K
        | _=>False
      | _=>False
    | some .string=>match ρ x with
      | .string s=>match ρ i with
        | .int _ n=>oS s n λb=>K (.int .u8 b)
        | _=>False
      | _=>False
    | _=>False
  | _=>False
def Ac{P:Program}{t:TypeId}{d:TypeDesc}(h:P.underlying t=some d)(w:World):(underlying t).run P w= .ok d w:=by
  simp[underlying,h]
def ZF{P:Program}{t:TypeId}(h:(P.info? t).isSome=true)(w:World):(sizeOf t).run P w= .ok (XT P t) w:=by
  obtain⟨i,hi⟩:=Option.isSome_iff_exists.1 h;simp[sizeOf,typeInfo,hi,XT,Program.cellsOf]
def ZG{P:Program}{op:BinOp}{k:IntKind}{a b:Int}{K:Value->Prop}(h:evInt op k a b K)(ho:op≠ .shl/\op≠ .shr)(t:TypeId):
    ∃v,K v/\ ∀w,(binOp op t (.int k a) (.int k b)).run P w= .ok v w:=by
  cases op<;>simp only[evInt]at h<;>
    first
      | exact h.elim
      | exact(ho.1 rfl).elim
      | exact(ho.2 rfl).elim
      | exact⟨_,h,λw=>by simp[binOp,Op.intArith,Op.intCmp,Op.intBits]⟩
      | (obtain⟨h0,h⟩:=h;exact⟨_,h,λw=>by simp[binOp,Op.intDiv,h0]⟩)
def TY(P:Program)(d:Nat){t:TypeId}(w:World):
    (∀e a,P.underlying t=some (.pointer e)->(Op.equalIn (d+1) t (.pointer a) (.pointer none)).run P w= .ok a.isNone w)/\
    (∀e a n c u j,P.underlying t=some (.slice e)->(Op.equalIn (d+1) t (.slice a n c) (.slice none u j)).run P w= .ok a.isNone w)/\
    (∀k e a,P.underlying t=some (.map k e)->(Op.equalIn (d+1) t (.map a) (.map none)).run P w= .ok a.isNone w):=by
  refine⟨λe a h=> ?_,λe a n c u j h=> ?_,λk e a h=> ?_⟩<;>cases a<;>simp[Op.equalIn,Ac h]
def F1(P:Program){t:TypeId}(w:World):
    (∀e a,P.underlying t=some (.pointer e)->(Op.equal t (.pointer a) (.pointer none)).run P w= .ok a.isNone w)/\
    (∀e a n c u j,P.underlying t=some (.slice e)->(Op.equal t (.slice a n c) (.slice none u j)).run P w= .ok a.isNone w)/\
    (∀k e a,P.underlying t=some (.map k e)->(Op.equal t (.map a) (.map none)).run P w= .ok a.isNone w):=
  TY P 9999 w
def XV{P:Program}{op:BinOp}{t:TypeId}{x y:Value}{K:Value->Prop}(h:evBin0 P op t x y K):
    ∃v,K v/\ ∀w,(binOp op t x y).run P w= .ok v w:=by
  unfold evBin0 at h;split at h
  . split at h
    . split at h
      . obtain⟨h0,h⟩:=h;refine⟨_,h,λw=> ?_⟩;have: ¬(‹Int› :Int)<0:=by omega
        simp[binOp,Op.shift,Int.not_lt.2 h0]
      . obtain⟨h0,h⟩:=h;exact⟨_,h,λw=>by simp[binOp,Op.shift,Int.not_lt.2 h0]⟩
      . rename_i h1 h2;obtain⟨rfl,j⟩:=Fl h;exact ZG j ⟨λe=>h1 e,λe=>h2 e⟩ t
    grind
  . split at h
    . split at h
      . rename_i ht;split at h
        . exact⟨_,h,λw=>run_eql_bool w t _ _ ht⟩
        . exact⟨_,h,λw=>run_neq_bool w t _ _ ht⟩
        grind
      grind
    grind
  . split at h
    . split at h
      . rename_i ht;have u:P.underlying t=some (.pointer (P.pointee t)):=by simp[Program.pointee,ht]
        rename_i a _ _ _ _;split at h
        . refine⟨_,h,λw=> ?_⟩;simp only[binOp]
          first
            | simp[(F1 P w).1 _ _ ht]
            | simp[(F1 P w).2.1 _ _ _ _ _ _ ht]
            | simp[(F1 P w).2.2 _ _ _ ht]
        . refine⟨_,h,λw=> ?_⟩;simp only[binOp]
          first
            | simp[(F1 P w).1 _ _ ht]
            | simp[(F1 P w).2.1 _ _ _ _ _ _ ht]
            | simp[(F1 P w).2.2 _ _ _ ht]
        grind
      grind
    grind
  . split at h
    . split at h
      . rename_i ht;rename_i a _ _ _ _ _ _ _ _;split at h
        . refine⟨_,h,λw=> ?_⟩;simp only[binOp]
          first
            | simp[(F1 P w).1 _ _ ht]
            | simp[(F1 P w).2.1 _ _ _ _ _ _ ht]
            | simp[(F1 P w).2.2 _ _ _ ht]
        . refine⟨_,h,λw=> ?_⟩;simp only[binOp]
          first
            | simp[(F1 P w).1 _ _ ht]
            | simp[(F1 P w).2.1 _ _ _ _ _ _ ht]
            | simp[(F1 P w).2.2 _ _ _ ht]
        grind
      grind
    grind
  . split at h
    . split at h
      . rename_i ht;rename_i a _ _ _ _ _;split at h
        . refine⟨_,h,λw=> ?_⟩;simp only[binOp]
          first
            | simp[(F1 P w).1 _ _ ht]
            | simp[(F1 P w).2.1 _ _ _ _ _ _ ht]
            | simp[(F1 P w).2.2 _ _ _ ht]
        . refine⟨_,h,λw=> ?_⟩;simp only[binOp]
          first
            | simp[(F1 P w).1 _ _ ht]
            | simp[(F1 P w).2.1 _ _ _ _ _ _ ht]
            | simp[(F1 P w).2.2 _ _ _ ht]
        grind
      grind
    grind
  . split at h
    . obtain⟨e1,h⟩:=Jv h;obtain⟨e2,h⟩:=Jv h;subst e1;subst e2;unfold evFlt at h;split at h
      . exact⟨_,h,λw=>by simp[binOp,Op.floatCmp,EN,Kk]⟩
      . exact⟨_,h,λw=>by simp[binOp,Op.floatCmp,EN,Kk]⟩
      . exact⟨_,h,λw=>by simp[binOp,Op.floatCmp,EN,Kk]⟩
      . exact⟨_,h,λw=>by simp[binOp,Op.floatCmp,EN,Kk]⟩
      . exact⟨_,h,λw=>by simp[binOp,Op.floatCmp,EN,Kk]⟩
      . exact⟨_,h,λw=>by simp[binOp,Op.floatCmp,EN,Kk]⟩
      grind
    grind
  grind
def Ny(P:Program){t:TypeId}{ps rs:Array TypeId}{j:Bool}{x:Value}(w:World)(a:P.underlying t=some (.func ps rs j))(e:isFn x=true):
    (Op.equal t x .nilFunc).run P w= .ok (isNilF x) w:=by
  have key: ∀d,(Op.equalIn (d+1) t x .nilFunc).run P w= .ok (isNilF x) w:=by
    intro d;cases x<;>simp[isFn]at e<;>simp[Op.equalIn,Ac a,isNilF]
  exact key 9999
def Nz(P:Program){t:TypeId}{ms:Array (String×TypeId)}{x:Value}(w:World)(a:P.underlying t=some (.interface ms))(e:isIf x=true):
    (Op.equal t x .nilIface).run P w= .ok (isNilI x) w:=by
  have key: ∀d,(Op.equalIn (d+1) t x .nilIface).run P w= .ok (isNilI x) w:=by
    intro d;cases x<;>simp[isIf]at e<;>simp[Op.equalIn,Ac a,isNilI]
  exact key 9999
def Ly{P:Program}(d:Nat)(xs u:Array Value): ∀(fs:List Field) (K:Bool->Prop),evEqF P xs.toList u.toList fs K->
    ∃r,K r/\ ∀w,(Op.eqFields (d+1) xs u fs).run P w= .ok r w
  | [],K,h=>⟨true,h,λw=>by rfl⟩
  | f::r,K,h=>by
    unfold evEqF at h;split at h
    . rename_i hn;have J:f.name≠ "_" :=by grind
      split at h
      . rename_i ht;split at h
        . rename_i k a hx;split at h
          . rename_i k' b hy;obtain⟨rfl,h2⟩:=Fl h;obtain⟨t,O,T⟩:=Ly d xs u r _ h2;have e:xs[f.offset]? =some (.int k a):=by grind
            have j:u[f.offset]? =some (.int k b):=by grind
            refine⟨_,O,λw=> ?_⟩;have pa: ∀(cs:Array Value) v,cs[f.offset]? =some v->(part f.type cs f.offset).run P w= .ok v w:=by
              intro cs v Y;simp[part,isAgg,Ac ht,Y]
            simp only[Op.eqFields,if_pos J,Sem.run_bind,pa _ _ e,pa _ _ j,Result.andThen_ok,run_equalIn_int w d f.type k _ a b ht];cases hab:(a==b)<;>simp[T]
          grind
        grind
      . rename_i ht;split at h
        . rename_i a hx;split at h
          . rename_i b hy;obtain⟨t,O,T⟩:=Ly d xs u r _ h;have e:xs[f.offset]? =some (.bool a):=by grind
            have j:u[f.offset]? =some (.bool b):=by grind
            refine⟨_,O,λw=> ?_⟩;have pa: ∀(cs:Array Value) v,cs[f.offset]? =some v->(part f.type cs f.offset).run P w= .ok v w:=by
              intro cs v Y;simp[part,isAgg,Ac ht,Y]
            simp only[Op.eqFields,if_pos J,Sem.run_bind,pa _ _ e,pa _ _ j,Result.andThen_ok,run_equalIn_bool' w d f.type a b ht];cases hab:(a==b)<;>simp[T]
          grind
        grind
      grind
    grind
def Sg{P:Program}{op:BinOp}{t:TypeId}{xs a:Array Value}{K:Value->Prop}(h:evEqS P op t xs.toList a.toList K):
    (∃v,K v/\ ∀w,(binOp op t (.agg xs) (.agg a)).run P w= .ok v w)/\P.eqGuardType P.depth t=false:=by
  unfold evEqS at h;split at h
  . rename_i fs ht;split at h
    . rename_i hp;split at h
      . rename_i hg;refine⟨?_,hg⟩;have J:P.fieldsOf t=fs:=by simp[Program.fieldsOf,ht]
        have e:P.underlying t=some (.struct (P.fieldsOf t)):=by grind
        split at h
        . obtain⟨r,j,u⟩:=Ly 9998 xs a _ _ h;refine⟨_,j,λw=> ?_⟩;rw[run_eql_struct,run_equalIn_struct w 9999 t xs a e hp,J,u w];rfl
        . obtain⟨r,j,u⟩:=Ly 9998 xs a _ _ h;refine⟨_,j,λw=> ?_⟩;rw[run_neq_struct,run_equalIn_struct w 9999 t xs a e hp,J,u w];rfl
        grind
      grind
    grind
  grind
def N1{P:Program}{op:BinOp}{t:TypeId}{x y:Value}{K:Value->Prop}(h:evBin P op t x y K):
    ∃v,K v/\ ∀w,(binOp op t x y).run P w= .ok v w:=by
  unfold evBin at h;split at h
  . split at h
    . rename_i ms ht;split at h
      . split at h
        . obtain⟨a,e⟩:=h;refine⟨_,e,λw=> ?_⟩;have he:=Nz P w ht a;cases x<;>simp[isIf]at a<;>simp[binOp,he]
        . obtain⟨a,e⟩:=h;refine⟨_,e,λw=> ?_⟩;have he:=Nz P w ht a;cases x<;>simp[isIf]at a<;>simp[binOp,he]
        grind
      grind
    grind
  . split at h
    . rename_i ht;split at h
      . obtain⟨a,e⟩:=h;refine⟨_,e,λw=> ?_⟩;have he:=Ny P w ht a;cases x<;>simp[isFn]at a<;>simp[binOp,he]
      . obtain⟨a,e⟩:=h;refine⟨_,e,λw=> ?_⟩;have he:=Ny P w ht a;cases x<;>simp[isFn]at a<;>simp[binOp,he]
      grind
    grind
  . split at h
    . exact(Sg h).1
    grind
  . exact XV h
def KF(P:Program){t e:TypeId}{a b:Option Addr}{n:Nat}(w:World)(j:P.underlying t=some (.pointer e))(v:n≠0)(J:(sizeOf e).run P w= .ok n w){K:Bool->Prop}(h:PEQ0 a b K):
    ∃r,K r/\(Op.equal t (.pointer a) (.pointer b)).run P w= .ok r w/\r=(match a,b with|none,b=>b.isNone|some _,none=>false|some p,some q=>p==q):=by
  have key: ∀d,∃r,K r/\(Op.equalIn (d+1) t (.pointer a) (.pointer b)).run P w= .ok r w/\r=(match a,b with|none,b=>b.isNone|some _,none=>false|some p,some q=>p==q):=by
    intro d;cases a with
    | none=>exact⟨_,h,by simp[Op.equalIn,Ac j],rfl⟩
    | some p=>cases b with
      | none=>exact⟨_,h,by simp[Op.equalIn,Ac j],rfl⟩
      | some q=>
        obtain⟨u,h⟩:=h;exact⟨_,h,by simp[Op.equalIn,Ac j,J,v,sameAddr,u],rfl⟩
  exact key 9999
def XW{P:Program}{op:BinOp}{t:TypeId}{x y:Value}{K:Value->Prop}(h:evBinT P op t x y K):
    ∃v,K v/\ ∀w,(binOp op t x y).run P w= .ok v w:=by
  unfold evBinT at h;split at h
  . split at h
    . split at h
      . rename_i e ht;obtain⟨n,h,J,_,O⟩:=Fm h;split at h
        . obtain⟨r,T,_,j⟩:=KF P default ht J (O default) h;refine⟨_,T,λw=> ?_⟩;obtain⟨Y,_,a,u⟩:=KF P w ht J (O w) h;rw[u,<-j]at a;simp[binOp,a]
        . obtain⟨r,T,_,j⟩:=KF P default ht J (O default) h;refine⟨_,T,λw=> ?_⟩;obtain⟨Y,_,a,u⟩:=KF P w ht J (O w) h;rw[u,<-j]at a;simp[binOp,a]
        grind
      grind
    . exact N1 h
  . exact N1 h
def Po{P:Program}{op:BinOp}{t:TypeId}{x y:Operand}{a b:Value}{w:World}
    (h: ∀K,evBin P op t a b K->True)(e: ∃K,evBin P op t a b K):(eqGuard op t x y a b).run P w= .ok () w:=by
  obtain⟨K,e⟩:=e;unfold evBin at e;split at e
  . split at e
    . rename_i ms ht;split at e
      . rename_i hms;have v: ∀d,(Op.eqGuardIn (d+1) t .nilIface .nilIface).run P w= .ok false w:=λd=>by simp[Op.eqGuardIn,Ac ht,hms]
        have j:(Op.eqGuardIn Op.maxDepth t .nilIface .nilIface).run P w= .ok false w:=v 9999;split at e<;>first
          | exact e.elim
          | (obtain⟨u,_⟩:=e
             cases a<;>simp[isIf]at u
             all_goals first
               | rfl
               | (simp[eqGuard,j];done)
               | (simp[eqGuard,j];split<;>rfl)
               | (simp only[eqGuard];split<;>simp[j]))
      grind
    grind
  . split at e
    . split at e<;>first
        | exact e.elim
        | (obtain⟨u,_⟩:=e;cases a<;>simp[isFn]at u<;>rfl)
    grind
  . split at e
    . exact run_eqGuard_agg w op t x y _ _ (Sg e).2
    grind
  . unfold evBin0 at e;split at e<;>first
      | exact e.elim
      | (cases op<;>rfl)
def WZ{P:Program}{x:Option Value}{d top:Nat}{K:Nat->Prop}(h:evBound x d top K)(code:BoundsCode):
    (∃n,K n/\ ∀w,(match x with|some v=>Instr.sliceBound v top code|none=>pure d:Sem Nat).run P w= .ok n w):=by
  unfold evBound at h;split at h
  . exact⟨_,h,λw=>by simp⟩
  . obtain⟨⟨h0,h1⟩,h⟩:=h;exact⟨_,h,λw=>by simp[Instr.sliceBound,asIntOf,h0,h1]⟩
  grind
def T8{P:Program}{isS:Bool}{l c:Nat}{lo hi:Option Value}{K:Nat->Nat->Prop}
    (h:evBound hi l c λh=>evBound lo 0 h λm=>K h m):
    ∃h m,K h m/\ ∀w,(Instr.sliceBounds isS l c lo hi none).run P w= .ok (m,h,c) w:=by
  obtain⟨n,a,j⟩:=WZ (P:=P) h (if isS then .sliceAcap else .sliceAlen);obtain⟨m,a,e⟩:=WZ (P:=P) a .sliceB;refine⟨n,m,a,λw=> ?_⟩;have h1:=j w;have u:=e w;cases hi<;>cases lo<;>simp_all[Instr.sliceBounds]
def T9{P:Program}{t:TypeId}{cs:Array Value}{off:Nat}{K:Value->Prop}(h:evPart P t cs.toList off K):
    ∃v,K v/\ ∀w,(part t cs off).run P w= .ok v w:=by
  obtain⟨hi,h|h⟩:=WX h
  . obtain⟨h,a⟩:=h;refine⟨_,h,λw=> ?_⟩;simp[part,a,ZF hi]
    grind
  . obtain⟨d,hd,h,a⟩:=h;split at h
    . rename_i v hv;have e:cs[off]? =some v:=by grind
      exact⟨_,h,λw=>by simp[part,a,e]⟩
    grind
def Fh{P:Program}{t:TypeId}{z:Value}(h:LH P t=some z)(w:World):(zeroValue t).run P w= .ok z w:=by
  unfold LH at h;cases hi:P.info? t with
  | none=>grind
  | some i=>simp[hi]at h;simp[zeroValue,typeInfo,hi,h]
def UA{P:Program}:{a:List Field}->{X:Prop}->oP P a X->X/\ ∀f∈a,∀w,(sizeOf f.type).run P w= .ok (XT P f.type) w
  | [],_,h=>⟨h,by simp⟩
  | f::r,X,h=>by
    obtain⟨n,e,_,J,K⟩:=Fm h;obtain⟨j,u⟩:=UA e;refine⟨j,λg v w=> ?_⟩
    grind
def run_places{P:Program}(e:Array Field)(h: ∀f∈e.toList,∀w,(sizeOf f.type).run P w= .ok (XT P f.type) w)(w:World):
    (e.mapM λf=>do pure (f.offset,<-sizeOf f.type):Sem (Array (Nat×Nat))).run P w= .ok (e.map λf=>(f.offset,XT P f.type)) w:=by
  have key: ∀(l:List Field),(∀f∈l,∀w,(sizeOf f.type).run P w= .ok (XT P f.type) w)->
      (l.mapM (λf=>do pure (f.offset,<-sizeOf f.type):Field->Sem (Nat×Nat))).run P w= .ok (l.map λf=>(f.offset,XT P f.type)) w:=by
    intro l
    induction l with
    | nil=>intro _;simp
    | cons f r ih=>
      intro h;have a:=ih (λg j=>h g (by simp[j]));simp only[bind_pure_comp]at a;simp[List.mapM_cons,h f (by simp),a]
  have u:=key e.toList h;rw[Array.mapM_eq_mapM_toList];simp only[Sem.run_map,u,Result.andThen_ok];congr 1
  grind
def kZ{a b:Nat}(h:Nat.beq a b=false): ¬a=b:=λe=>by rw[e,Nat.beq_refl]at h;cases h
def vJ{P:Program}{l:Nat}{e:TypeId}{cs:Array Value}{n:Int}{K:Value->Prop}(h:oR P l e cs.toList n K):
    ∃v,K v/\(0<=n/\n<(l:Int))/\ ∀w,(sizeOf e).run P w= .ok 1 w/\(part e cs (n.toNat*1)).run P w= .ok v w:=by
  unfold oR at h;split at h
  . rename_i u hu;obtain⟨z,O,hz,_,hr⟩:=Fm h;have j:=Jy O;have J:=Jy j.2;have h1:=j.1;have Y:=J.1;have h:=J.2;subst h1;split at h
    . rename_i hp;obtain⟨hb,h⟩:=h;have hg:=ZE hp (i:=n.toNat) (by omega);have a:evPart P e cs.toList (n.toNat*1) λv=>v= .pointer ((oQ cs.toList).getD n.toNat none):=by
        unfold evPart aggK
        grind
      obtain⟨v,hv,T⟩:=T9 a
      grind
    grind
  grind
def oT{P:Program}{l:Nat}{e:TypeId}{cs:Array Value}{n:Int}{K:Value->Prop}(h:cL P l e cs.toList n K):
    ∃v,K v/\(0<=n/\n<(l:Int))/\ ∀w,(sizeOf e).run P w= .ok 1 w/\(part e cs (n.toNat*1)).run P w= .ok v w:=by
  unfold cL at h;split at h
  . rename_i u hu;obtain⟨z,T,hz,_,hr⟩:=Fm h;have J:=Jy T;have O:=Jy J.2;have h1:=J.1;have h2:=O.1;have h:=O.2;subst h1;split at h
    . rename_i hp;obtain⟨Y,h⟩:=h;have hg:=iP hp (i:=n.toNat) (by omega);have a:evPart P e cs.toList (n.toNat*1) λv=>v= .slice ((slL cs.toList).getD n.toNat ⟨none,0,0⟩).base ((slL cs.toList).getD n.toNat ⟨none,0,0⟩).len ((slL cs.toList).getD n.toNat ⟨none,0,0⟩).cap:=by
        unfold evPart aggK
        grind
      obtain⟨v,hv,j⟩:=T9 a;subst hv;exact⟨_,h,Y,λw=>⟨hr w,j w⟩⟩
    grind
  grind
def ZH{P:Program}{op:BinOp}{t:TypeId}{x y:Operand}{a b:Value}{w:World}{K:Value->Prop}(h:evBinT P op t a b K):
    (eqGuard op t x y a b).run P w= .ok () w:=by
  unfold evBinT at h;split at h
  . split at h
    . unfold eqGuard;cases op<;>simp
    . exact Po (λ_ _=>trivial) ⟨_,h⟩
  . exact Po (λ_ _=>trivial) ⟨_,h⟩
def QZ{P:Program}{o:Oper}{ρ:Operand->Value}{K:Value->Prop}(h:evPure P o.op o.type ρ K):
    ∃v,K v/\ ∀w,(execOp ρ o).run P w= .ok (.value v) w:=by
  obtain⟨dst,op,type,pos,after,guard⟩:=o;simp only at h;unfold evPure at h;split at h
  case h_1=>exact⟨_,h,λw=>by simp[execOp]⟩
  case h_2=>exact⟨_,h,λw=>by simp[execOp]⟩
  case h_3=>
    split at h
    . rename_i j;exact⟨_,h,λw=>by simp[execOp,j,asBool,cond_eq_ite]⟩
    grind
  case h_4=>
    split at h
    . rename_i j;obtain⟨p,rfl,h⟩:=G4 h;exact⟨_,h,λw=>by simp[execOp,j]⟩
    grind
  case h_5=>
    split at h
    . have hg: ∀x y w,(eqGuard _ _ x y _ _).run P w= .ok () w:=λx y w=>ZH h;obtain⟨v,J,a⟩:=XW h;exact⟨v,J,λw=>by simp[execOp,a,hg]⟩
    . have hg: ∀x y w,(eqGuard _ _ x y _ _).run P w= .ok () w:=λx y w=>Po (λ_ _=>trivial) ⟨_,h⟩;obtain⟨v,J,a⟩:=N1 h;exact⟨v,J,λw=>by simp[execOp,a,hg]⟩
  case h_6=>
    unfold evUn at h;split at h
    . rename_i hx;exact⟨_,h,λw=>by simp[execOp,Op.unary,hx]⟩
    . rename_i hx;exact⟨_,h,λw=>by simp[execOp,Op.unary,hx,Op.intArith]⟩
    . rename_i hx;exact⟨_,h,λw=>by simp[execOp,Op.unary,hx,Op.intBits]⟩
    grind
  case h_7=>
    split at h
    . rename_i hs hd hx;exact⟨_,h,λw=>by simp[execOp,convert,Ac hs,Ac hd,hx,Conv.intToInt]⟩
    . rename_i hs hd hx;obtain⟨e,h⟩:=Jv h;subst e;exact⟨_,h,λw=>by simp[execOp,convert,Ac hs,Ac hd,hx,Conv.intToFloat,Ng,Kk]⟩
    . rename_i hs hd hx;obtain⟨e,h⟩:=Jv h;subst e;obtain⟨n,h1,T,h⟩:=h;unfold TX at h1;rw[Kk]at h1;exact⟨_,h,λw=>by simp[execOp,convert,Ac hs,Ac hd,hx,Conv.floatToInt,h1,T]⟩
    grind
  case h_8=>exact⟨_,h,λw=>by simp[execOp,Instr.makeFunc]⟩
  case h_9=>
    split at h
    . rename_i hs;split at h
      . rename_i f Y;obtain⟨z,h,hz,_,a⟩:=Fm h;split at h
        . rename_i hx;obtain⟨p,rfl,h⟩:=G4 h;exact⟨_,h,λw=>by simp[execOp,Instr.fieldAt,Ac hs,Y,hx,Instr.sureAddr,fieldPlace,a,hz]⟩
        grind
      grind
    grind
  case h_10=>
    split at h
    . rename_i hs;split at h
      . rename_i f Y;split at h
        . rename_i hx;obtain⟨v,J,a⟩:=T9 h;exact⟨_,J,λw=>by simp[execOp,Instr.field,Ac hs,Y,hx,asAgg,a]⟩
        grind
      grind
    grind
  case h_11=>
    split at h
    . rename_i hi;split at h
      . rename_i ht;obtain⟨z,h,hz,_,a⟩:=Fm h;split at h
        . rename_i hx;obtain⟨p,rfl,h1,h⟩:=G4 h;exact⟨_,h,λw=>by simp[execOp,Instr.indexAt,Ac ht,hi,hx,asIntOf,a,h1]⟩
        grind
      . rename_i ht;obtain⟨z,h,hz,_,a⟩:=Fm h;split at h
        . rename_i hx;obtain⟨p,rfl,h1,h⟩:=G4 h;exact⟨_,h,λw=>by simp[execOp,Instr.indexAt,Ac ht,hi,hx,asIntOf,Instr.sureAddr,a,h1]⟩
        grind
      grind
    grind
  case h_12=>
    split at h
    . rename_i z hz;have aB:=Fh hz;split at h
      . rename_i fs hs;obtain⟨T,aD⟩:=UA h;obtain⟨out,J,Y⟩:=Lx T;refine⟨_,J,λw=> ?_⟩;have hp:=run_places fs aD w;have hg:(λi:Nat=>Option.map (λf:Field=>(f.offset,XT P f.type)) fs[i]?)=λi:Nat=>(fs.map λf:Field=>(f.offset,XT P f.type))[i]? :=by grind
        rw[hg]at Y;simp[execOp,Instr.build,aB,Ac hs];simp at hp Y;simp[hp,Y]
      . rename_i hs;obtain⟨n,T,_,hn,a⟩:=Fm h;obtain⟨out,J,Y⟩:=Lx T;refine⟨_,J,λw=> ?_⟩;simp at Y;simp[execOp,Instr.build,aB,Ac hs,a,Y]
      grind
    grind
  case h_13=>
    split at h
    . rename_i vs hx;split at h
      . rename_i v hv;rw[Array.getElem?_toList]at hv;obtain⟨u,rfl,T⟩:=Ru h;exact⟨_,T,λw=>by simp[execOp,Instr.extract,hx,hv]⟩
      grind
    grind
  case h_14=>
    split at h
    . rename_i ht;obtain⟨z,h,hz,_,a⟩:=Fm h;split at h
      . rename_i hx;obtain⟨hh,m,J,j⟩:=T8 (P:=P) (isS:=true) h;refine⟨_,J,λw=> ?_⟩;simp[execOp,Instr.sliceAt,Instr.slice,Ac ht,hx,j,a]
      grind
    . rename_i ht;obtain⟨z,h,hz,_,a⟩:=Fm h;split at h
      . rename_i hx;obtain⟨p,rfl,T⟩:=G4 h;obtain⟨hh,m,J,j⟩:=T8 (P:=P) (isS:=false) T;refine⟨_,J,λw=> ?_⟩;simp[execOp,Instr.sliceAt,Ac ht,hx,j,a,Instr.sureAddr]
      grind
    grind
  case h_15=>
    split at h
    . grind
    . rename_i d hni hd;refine⟨_,h,λw=> ?_⟩;cases d<;>first
        | (simp[execOp,Instr.makeInterface,Ac hd];done)
        | grind
    grind
  case h_16=>
    split at h
    . grind
    . rename_i d hni hd;split at h
      . rename_i z hz;unfold TAS at h;split at h
        . rename_i hx;refine⟨_,h,λw=> ?_⟩;cases d<;>first
            | (simp[execOp,Instr.typeAssert,Ac hd,hx,Fh hz];done)
            | exact(hni _ rfl).elim
        . rename_i t v hx;split at h
          . rename_i j;have j:=Nat.eq_of_beq_eq_true j;refine⟨_,h,λw=> ?_⟩;cases d<;>first
              | (simp[execOp,Instr.typeAssert,Ac hd,hx,j];done)
              | grind
          . rename_i j;have j:=kZ j;refine⟨_,h,λw=> ?_⟩;cases d<;>first
              | (simp[execOp,Instr.typeAssert,Ac hd,hx,j,Fh hz];done)
              | grind
        grind
      grind
    grind
  case h_17 c=>
    obtain⟨callee,args,argTypes⟩:=c;simp only at h;split at h
    . split at h
      . rename_i ha;split at h
        . rename_i hx;split at h
          . rename_i ht;have O:args= #[_]:=Array.toList_inj.1 (by omega);subst O;cases hT:argTypes.toList with
            | nil=>grind
            | cons t r=>
              have aC:argTypes[0]? =some t:=by simp[<-Array.getElem?_toList,hT]
              simp[hT]at ht;exact⟨_,h,λw=>by simp[execOp,resolve,invoke,builtin,Builtin.len_,aC,hx,Ac ht,goInt]⟩
          grind
        grind
      grind
    . split at h
      . rename_i ha;split at h
        . rename_i hx;split at h
          . rename_i hy;have O:args= #[_,_]:=Array.toList_inj.1 (by omega);subst O;exact⟨_,h,λw=>by simp[execOp,resolve,invoke,builtin,Builtin.min_,Builtin.min2,hx,hy]⟩
          grind
        grind
      . rename_i ha;split at h
        . rename_i hx;split at h
          . rename_i hy;split at h
            . rename_i hz;have O:args= #[_,_,_]:=Array.toList_inj.1 (by omega);subst O;exact⟨_,h,λw=>by simp[execOp,resolve,invoke,builtin,Builtin.min_,Builtin.min2,hx,hy,hz];rfl⟩
            grind
          grind
        grind
      grind
    . split at h
      . rename_i ha;split at h
        . rename_i hx;split at h
          . rename_i hy;have O:args= #[_,_]:=Array.toList_inj.1 (by omega);subst O;exact⟨_,h,λw=>by simp[execOp,resolve,invoke,builtin,Builtin.max_,Builtin.max2,hx,hy]⟩
          grind
        grind
      . rename_i ha;split at h
        . rename_i hx;split at h
          . rename_i hy;split at h
            . rename_i hz;have O:args= #[_,_,_]:=Array.toList_inj.1 (by omega);subst O;exact⟨_,h,λw=>by simp[execOp,resolve,invoke,builtin,Builtin.max_,Builtin.max2,hx,hy,hz];rfl⟩
            grind
          grind
        grind
      grind
    grind
  case h_18=>
    split at h
    . rename_i l e ht;split at h
      . rename_i cs hx;split at h
        . rename_i kk n hi;split at h
          . obtain⟨v,J,j,a⟩:=oT h;refine⟨v,J,λw=> ?_⟩;have h1:=(a w).1;have T:=(a w).2;rw[Nat.mul_one]at T;simp[execOp,Instr.index,Ac ht,hi,hx,asIntOf,j,h1,T]
          . obtain⟨v,J,j,a⟩:=vJ h;refine⟨v,J,λw=> ?_⟩;have h1:=(a w).1;have T:=(a w).2;rw[Nat.mul_one]at T;simp[execOp,Instr.index,Ac ht,hi,hx,asIntOf,j,h1,T]
        grind
      grind
    . rename_i ht;split at h
      . rename_i s hx;split at h
        . rename_i kk n hi;obtain⟨h0,b,j,J⟩:=h;exact⟨_,J,λw=>by simp[execOp,Instr.index,Ac ht,hi,hx,asIntOf,h0,j]⟩
        grind
      grind
    grind
  grind
abbrev G5:=World->Prop
def G5.all:G5:=λ_=>True
def G5.cell(p:Addr)(v:Value):G5:=λw=>w.cell? p=some v
def G5.and(a b:G5):G5:=λw=>a w/\b w
def G5.obj(r:Option Nat)(es:Array MapEntry):G5:=λw=>match r with
 | none=>es= #[]
 | some b=> ∃c,w.heap[b]? =some (.map es c)
def XX:List Ty->Addr->Nat->World->(List Value->G5->Prop)->Prop
 | [],_,_,_,K=>K [] G5.all
 | t::r,p,i,w,K=> ∃x:z8 t,w.cell? (p.add i)=some (mkV t x)/\XX r p (i+1) w λl S=>K (mkV t x::l) (G5.and (G5.cell (p.add i) (mkV t x)) S)
def cM(P:Program)(t:TypeId)(p:Addr)(w:World)(K:Value->G5->Prop):Prop:=
 aggK P t (Pn (oN P 12 t).length (XT P t) (XX (oN P 12 t) p 0 w λl S=>K (.agg ⟨l⟩) S))
  λd=> ∃x:z8 (tyD d),w.cell? p=some (mkV (tyD d) x)/\K (mkV (tyD d) x) (G5.cell p (mkV (tyD d) x))
abbrev Qa(w:World)(r:Option Nat)(es:Array MapEntry):Prop:=G5.obj r es w
def Nh(k:IntKind)(n:Int)(es:Array MapEntry)(res:Option (Nat×Value)):Prop:=
 Instr.findNow (.int k) (.int k n) es.toList 0=some res
def keyK(P:Program):Nat->List Field->List Value->Prop->Prop
 | _,[],[],X=>X
 | j,f::r,v::s,X=>match Nat.beq f.offset j with
  | true=>match f.name != "_" with
   | true=>match P.underlying f.type with
    | some (.int k)=>match v with
     | .int k' _=>sameK k k' (keyK P (j+1) r s X)
     | _=>False
    | some .bool=>match v with
     | .bool _=>keyK P (j+1) r s X
     | _=>False
    | _=>False
   | false=>False
  | false=>False
 | _,_,_,_=>False
def Mg{P:Program}:{j:Nat}->{a:List Field}->{cs:List Value}->{X:Prop}->keyK P j a cs X->X/\keyK P j a cs True
 | _,[],[],_,h=>⟨h,trivial⟩
 | _,[],_::_,_,h=>h.elim
 | _,_::_,[],_,h=>h.elim
 | j,f::r,v::s,X,h=>by
  revert h
  unfold keyK;split
  .split
   .split
    .split
     .intro h;obtain⟨e,u⟩:=Fl h;subst e;obtain⟨J,K⟩:=Mg u;exact⟨J,by unfold sameK;rw[Nat.beq_refl];exact K⟩
     grind
    .split
     .intro h;exact Mg h
     grind
    grind
   grind
  grind
def eqA:List Value->List Value->Option Bool
 | [],[]=>some true
 | .int k a::r,.int k' b::s=>match Nat.beq (ik k) (ik k')with
  | true=>bif a==b then eqA r s else some false
  | false=>none
 | .bool a::r,.bool b::s=>bif a==b then eqA r s else some false
 | _,_=>none
def findA(cs:List Value):List MapEntry->Nat->Option (Option (Nat×Value))
 | [],_=>some none
 | e::es,i=>match e.key with
  | .agg ds=>match eqA cs ds.toList with
   | some true=>some (some (i,e.val))
   | some false=>findA cs es (i+1)
   | none=>none
  | _=>none
def valOr(res:Option (Nat×Value))(z:Value):Value:=match res with|some (_,v)=>v|none=>z
def n9(k:IntKind)(n:Int)(r:Option Nat)(w:World)(z:Value)(K:Value->Bool->Array MapEntry->Prop):Prop:=
 ∃es res,Qa w r es/\Nh k n es res/\K (valOr res z) res.isSome es
def LKA(cs:List Value)(r:Option Nat)(w:World)(z:Value)(K:Value->Bool->Array MapEntry->Prop):Prop:=
 ∃es res,Qa w r es/\findA cs es.toList 0=some res/\K (valOr res z) res.isSome es
def evLookup(P:Program)(t:TypeId)(m key:Value)(ok:Bool)(w:World)(K:Value->G5->Prop):Prop:=
 match P.underlying t with
 | some (.map kt et)=>match P.underlying kt with
  | some (.int k)=>match key with
   | .int k' n=>sameK k k' (match m with
    | .map r=>match LH P et with
     | some z=> ∃es res,Qa w r es/\Nh k n es res/\ ∃x:kY (cK P et),valOr res z=mkVT (cK P et) x/\
       K (bif ok then .tuple #[mkVT (cK P et) x,.bool res.isSome]else mkVT (cK P et) x) (G5.obj r es)
     | none=>False
    | _=>False)
   | _=>False
  | some (.struct fs)=>match key with
   | .agg cs=>match P.stoodInHeld kt with
    | false=>keyK P 0 fs.toList cs.toList (match m with
     | .map r=>match LH P et with
      | some z=> ∃es res,Qa w r es/\findA cs.toList es.toList 0=some res/\ ∃x:kY (cK P et),valOr res z=mkVT (cK P et) x/\
        K (bif ok then .tuple #[mkVT (cK P et) x,.bool res.isSome]else mkVT (cK P et) x) (G5.obj r es)
      | none=>False
     | _=>False)
    | true=>False
   | _=>False
  | _=>False
 | _=>False
def G5.entry(r:Nat)(m since a:Nat)(seen:Array Nat)(es:Array MapEntry)(clock:Nat):G5:=λw=>
 w.heap[r]? =some (.mapIter (some m) since seen a)/\w.heap[m]? =some (.map es clock)
def oA(r:Nat)(w:World)(K:Value->Value->G5->Prop):Prop:=
 ∃m since a seen es clock j e,G5.entry r m since a seen es clock w/\seen.back?=some j/\clock=a/\
  es.find? (λx:MapEntry=>x.born==j)=some e/\K e.key e.val (G5.entry r m since a seen es clock)
def peqB:Option Addr->Option Addr->Bool
 | none,b=>b.isNone
 | some _,none=>false
 | some p,some q=>p==q
def okA(w:World)(p:Addr):Prop:= ∃t n,w.shape? p.block=some (t,n)/\w.frozen? p=false/\w.frozen? ⟨p.block,n,none⟩=false
def PAP(a b:Option Addr)(w:World):Prop:=match a with
 | some p=>match b with
  | some q=>p.block=q.block∨(okA w p/\okA w q)
  | none=>True
 | none=>True
def ZI{P:Program}{t e:TypeId}{a b:Option Addr}{n:Nat}{w:World}(j:P.underlying t=some (.pointer e))(v:n≠0)(J:(sizeOf e).run P w= .ok n w)(h:PAP a b w):
  (Op.equal t (.pointer a) (.pointer b)).run P w= .ok (peqB a b) w:=by
 have key: ∀d,(Op.equalIn (d+1) t (.pointer a) (.pointer b)).run P w= .ok (peqB a b) w:=by
  intro d;cases a with
  | none=>simp[Op.equalIn,Ac j,peqB]
  | some p=>cases b with
   | none=>simp[Op.equalIn,Ac j,peqB]
   | some q=>
    by_cases hb:p.block=q.block
    .simp[Op.equalIn,Ac j,J,v,sameAddr,hb,peqB]
    .obtain⟨⟨t1,n1,s1,f1,g1⟩,⟨t2,K,s2,f2,g2⟩⟩:=h.resolve_left hb;have u:(p==q)=false:=by
      have:p≠q:=λe=>hb (by rw[e]);simpa using this
     simp[Op.equalIn,Ac j,J,v,sameAddr,hb,peqB,frozen,noView,viewAt,shape,mayBeOne,stringish,Sem.run,s1,f1,g1,s2,f2,g2,u]
 exact key 9999
def oB(a b:Option Addr)(w:World)(K:Bool->Prop):Prop:=PAP a b w/\K (peqB a b)
def evRead(P:Program)(o:Op)(ρ:Operand->Value)(w:World)(K:Value->G5->Prop):Prop:=
 match o with
 | .load t a=>match ρ a with
  | .pointer p=>NC p λp=>cM P t p w K
  | _=>False
 | .lookup t m k ok=>evLookup P t (ρ m) (ρ k) ok w K
 | .entry it=>match ρ it with
  | .pointer (some ⟨r,0,_⟩)=>oA r w λk v S=>K (.tuple #[k,v]) S
  | _=>False
 | .call c=>match c.callee with
  | .builtin .len=>match c.args.toList with
   | [x]=>match ρ x with
    | .map r=>match(c.argTypes.toList.head?).bind P.underlying with
     | some (.map _ _)=> ∃es,Qa w r es/\K (.int .i64 es.size) (G5.obj r es)
     | _=>False
    | _=>False
   | _=>False
  | _=>False
 | .binOp op t x y _=>match ρ x with
  | .pointer a=>match ρ y with
   | .pointer b=>match P.underlying t with
    | some (.pointer e)=>szK P e λ_=>match op with
     | .eql=>oB a b w λr=>K (.bool r) (PAP a b)
     | .neq=>oB a b w λr=>K (.bool (!r)) (PAP a b)
     | _=>False
    | _=>False
   | _=>False
  | _=>False
 | _=>False
def Qb{P:Program}:{l:List Ty}->{p:Addr}->{i:Nat}->{w:World}->{K:List Value->G5->Prop}->XX l p i w K->
  ∃vs S,K vs S/\S w/\vs.length=l.length/\ ∀w',S w'-> ∀acc,(loadCellsFrom p i l.length acc).run P w'= .ok (acc++vs.toArray) w'
 | [],p,i,w,K,h=>⟨[],G5.all,h,trivial,rfl,λw' _ acc=>by simp[loadCellsFrom]⟩
 | t::r,p,i,w,K,h=>by
  obtain⟨x,J,h⟩:=h;obtain⟨vs,S,e,hS,u,v⟩:=Qb (P:=P) h;refine⟨_,_,e,⟨J,hS⟩,by simp[u],λw' a acc=> ?_⟩;have j:w'.cell? (p.add i)=some (mkV t x):=a.1;simp[loadCellsFrom,j,v w' a.2]
def Si{P:Program}{t:TypeId}{p:Addr}{w:World}{K:Value->G5->Prop}(h:cM P t p w K):
  ∃v S,K v S/\S w/\ ∀w',S w'->(loadVar t p).run P w'= .ok v w':=by
 obtain⟨hi,h|h⟩:=WX h
 .obtain⟨h,j⟩:=h;obtain⟨J,h⟩:=Jy h;obtain⟨vs,S,e,hS,Y,O⟩:=Qb (P:=P) h;refine⟨_,S,e,hS,λw' a=> ?_⟩;have:=O w' a #[];simp[loadVar,j,ZF hi,loadCells,<-J,this]
 .obtain⟨d,hd,⟨x,T,e⟩,j⟩:=h;refine⟨_,_,e,T,λw' a=> ?_⟩;have u:w'.cell? p=some (mkV (tyD d) x):=a;simp[loadVar,j,u]
def run_findKey{P:Program}{a:TypeId}{k:IntKind}{n:Int}{es:Array MapEntry}{res:Option (Nat×Value)}(e:P.underlying a=some (.int k))
  (h:Nh k n es res)(w:World):(Instr.findKey a (.int k n) es.toList).run P w= .ok res w:=by
 unfold Nh at h;simp[Instr.findKey,Ac e,h]
def V1{P:Program}{a:TypeId}{k:IntKind}{n:Int}{e:Bool}(d:Nat)(j:P.underlying a=some (.int k))(w:World):
  (Instr.checkKey e (d+1) a (.int k n)).run P w= .ok () w:=by
 simp[Instr.checkKey,Ac j]
def run_checkKey{P:Program}{a:TypeId}{k:IntKind}{n:Int}{e:Bool}(j:P.underlying a=some (.int k))(w:World):
  (Instr.checkKey e 10000 a (.int k n)).run P w= .ok () w:=V1 9999 j w
def drop_cons{l s:List Value}{j:Nat}{v:Value}(h:l.drop j=v::s):l[j]? =some v/\l.drop (j+1)=s:=by
 constructor
 .have:=List.getElem?_drop (xs:=l) (i:=j) (j:=0)
  grind
 .rw[<-List.tail_drop,h];rfl
def LB{P:Program}{t:TypeId}{cs:Array Value}{j:Nat}{v:Value}(a:(∃k,P.underlying t=some (.int k))∨P.underlying t=some .bool)(u:cs.toList[j]? =some v)(w:World):(part t cs j).run P w= .ok v w:=by
 have e:cs[j]? =some v:=by grind
 rcases a with ⟨k,a⟩|a<;>simp[part,isAgg,Ac a,e]
def Rw{P:Program}(d:Nat)(cs Y:Array Value): ∀(fs:List Field) (j:Nat) (s t:List Value) {b:Bool},cs.toList.drop j=s->Y.toList.drop j=t->keyK P j fs s True->eqA s t=some b->
  ∀w,(Op.eqFields (d+1) cs Y fs).run P w= .ok b w
 | [],j,[],t,b,hc,hd,h,he,w=>by
  cases t with
  | nil=>simp[eqA]at he;subst he;simp[Op.eqFields]
  | cons=>simp[eqA]at he
 | [],_,_::_,_,_,_,_,h,_,_=>h.elim
 | _::_,_,[],_,_,_,_,h,_,_=>h.elim
 | f::r,j,v::s,t,b,hc,hd,h,he,w=>by
  unfold keyK at h;obtain⟨K,O⟩:=drop_cons hc;split at h
  .rename_i e1;have e1:=Nat.eq_of_beq_eq_true e1;subst e1;split at h
   .rename_i hn;have T:f.name≠ "_" :=by grind
    split at h
    .rename_i kk e3;split at h
     .rename_i k a;obtain⟨aB,h2⟩:=Fl h;clear h;subst aB;cases t with
      | nil=>simp[eqA]at he
      | cons u t=>
       obtain⟨e,J⟩:=drop_cons hd;cases u<;>try (simp[eqA]at he;done)
       rename_i k' a';unfold eqA at he;split at he
       .rename_i ek;have ek:=cJ (Nat.eq_of_beq_eq_true ek);subst ek;simp only[Op.eqFields,if_pos T,Sem.run_bind,LB (.inl ⟨_,e3⟩) K,LB (.inl ⟨_,e3⟩) e,Result.andThen_ok,run_equalIn_int w d f.type _ _ _ _ e3];cases hab:(a==a')
        .rw[hab]at he;cases he;simp
        .rw[hab]at he;simp only[cond_true]at he;simp[Rw d cs Y r (f.offset+1) s t O J h2 he w]
       .cases he
     grind
    .rename_i e3;split at h
     .rename_i a;cases t with
      | nil=>simp[eqA]at he
      | cons u t=>
       obtain⟨e,J⟩:=drop_cons hd;cases u<;>try (simp[eqA]at he;done)
       rename_i a';unfold eqA at he;simp only[Op.eqFields,if_pos T,Sem.run_bind,LB (.inr e3) K,LB (.inr e3) e,Result.andThen_ok,run_equalIn_bool' w d f.type _ _ e3];cases hab:(a==a')
       .rw[hab]at he;cases he;simp
       .rw[hab]at he;simp only[cond_true]at he;simp[Rw d cs Y r (f.offset+1) s t O J h he w]
     grind
    grind
   grind
  grind
def UB{P:Program}{a:TypeId}{j:Array Field}{cs e:Array Value}{b:Bool}(J:P.underlying a=some (.struct j))(K:P.stoodInHeld a=false)(h:keyK P 0 j.toList cs.toList True)(he:eqA cs.toList e.toList=some b)(w:World):
  (Op.equal a (.agg cs) (.agg e)).run P w= .ok b w:=by
 have v:P.fieldsOf a=j:=by simp[Program.fieldsOf,J]
 have u:P.underlying a=some (.struct (P.fieldsOf a)):=by grind
 show(Op.equalIn (9999+1) a (.agg cs) (.agg e)).run P w=_;rw[run_equalIn_struct w 9999 a cs e u K,v];exact Rw 9998 cs e j.toList 0 _ _ rfl rfl h he w
def Wa{P:Program}{u:TypeId}{v:Array Field}{cs:Array Value}(a:P.underlying u=some (.struct v))(j:P.stoodInHeld u=false)(h:keyK P 0 v.toList cs.toList True)(w:World):
  ∀(es:List MapEntry) (i:Nat) {res:Option (Nat×Value)},findA cs.toList es i=some res->(Instr.findAsking u (.agg cs) es i).run P w= .ok res w
 | [],i,res,hf=>by simp[findA]at hf;subst hf;simp[Instr.findAsking]
 | e::es,i,res,hf=>by
  unfold findA at hf;split at hf
  .rename_i ds hd;split at hf
   .rename_i he;cases hf;simp[Instr.findAsking,hd,UB a j h he]
   .rename_i he;have:=Wa a j h w es (i+1) hf;simp[Instr.findAsking,hd,UB a j h he,this]
   .cases hf
  .cases hf
def Qc{P:Program}{u:TypeId}{v:Array Field}{cs:Array Value}(j:P.underlying u=some (.struct v))(K:P.stoodInHeld u=false)(h:keyK P 0 v.toList cs.toList True)
  {es:Array MapEntry}{res:Option (Nat×Value)}(a:findA cs.toList es.toList 0=some res)(w:World):(Instr.findKey u (.agg cs) es.toList).run P w= .ok res w:=by
 have J:=Wa j K h w es.toList 0 a;cases hes:es.toList with
 | nil=>rw[hes]at a;simp[findA]at a;subst a;simp[Instr.findKey,Ac j,Instr.findNow]
 | cons e l=>rw[hes]at J;simp[Instr.findKey,Ac j,Instr.findNow,Instr.sameNow,J]
def Pp{P:Program}(e:Bool)(d:Nat)(cs:Array Value): ∀(O:List Field) (j:Nat) (s:List Value),cs.toList.drop j=s->keyK P j O s True->
  ∀w,(do for f in O do if f.name≠ "_" then Instr.checkKey e (d+1) f.type (<-part f.type cs f.offset):Sem Unit).run P w= .ok () w
 | [],_,_,_,_,w=>by simp
 | _::_,_,[],_,h,_=>h.elim
 | f::r,j,v::s,hc,h,w=>by
  unfold keyK at h;obtain⟨a,u⟩:=drop_cons hc;split at h
  .rename_i e1;have e1:=Nat.eq_of_beq_eq_true e1;subst e1;split at h
   .rename_i hn;have J:f.name≠ "_" :=by grind
    split at h
    .rename_i kk e3;split at h
     .obtain⟨Y,T⟩:=Fl h;have K:=Pp e d cs r (f.offset+1) s u T w;simp only[List.forIn_cons,Sem.run_bind,if_pos J,LB (.inl ⟨_,e3⟩) a,Result.andThen_ok,Instr.checkKey,Ac e3,Sem.run_pure]at K⊢;exact K
     grind
    .rename_i e3;split at h
     .have K:=Pp e d cs r (f.offset+1) s u h w;simp only[List.forIn_cons,Sem.run_bind,if_pos J,LB (.inr e3) a,Result.andThen_ok,Instr.checkKey,Ac e3,Sem.run_pure]at K⊢;exact K
     grind
    grind
   grind
  grind
def PZ{P:Program}{j:TypeId}{a:Array Field}{cs:Array Value}(u:P.underlying j=some (.struct a))(h:keyK P 0 a.toList cs.toList True)(e:Bool)(w:World):
  (Instr.checkKey e 10000 j (.agg cs)).run P w= .ok () w:=by
 have key: ∀d,(Instr.checkKey e (d+1+1) j (.agg cs)).run P w= .ok () w:=by
  intro d;have:=Pp e d cs a.toList 0 _ rfl h w;rw[Instr.checkKey];simp only[Sem.run_bind,Ac u,Result.andThen_ok];rw[Array.forIn_toList,Sem.run_bind]at this;exact this
 grind
def Fp{P:Program}{w:World}{b:Nat}{es:Array MapEntry}{c:Nat}(h:w.heap[b]? =some (.map es c)):
  (getObj b).run P w= .ok (.map es c) w:=by
 simp[getObj,Sem.run,h]
def Qd{P:Program}{o:Oper}{ρ:Operand->Value}{w:World}{K:Value->G5->Prop}(h:evRead P o.op ρ w K):
  ∃v S,K v S/\S w/\ ∀w',S w'->(execOp ρ o).run P w'= .ok (.value v) w':=by
 obtain⟨dst,op,type,pos,after,guard⟩:=o;simp only at h;unfold evRead at h;split at h
 .split at h
  .rename_i J;obtain⟨p,rfl,h⟩:=G4 h;obtain⟨v,S,O,hS,hr⟩:=Si h;exact⟨v,S,O,hS,λw' j=>by simp[execOp,Instr.loadAt,J,Instr.sureAddr,hr w' j]⟩
  grind
 .rename_i t m k ok;unfold evLookup at h;split at h
  .rename_i kt et ht;split at h
   .rename_i kk hk;split at h
    .rename_i k' n hkey;obtain⟨rfl,h2⟩:=Fl h;split at h2
     .rename_i r hm;split at h2
      .rename_i z hz;obtain⟨es,res,u,hf,x,J,O⟩:=h2;refine⟨_,_,O,u,λw' j=> ?_⟩;have Y:=run_findKey hk hf w';have T:=λe=>run_checkKey (e:=e) (n:=n) hk w';rw[<-J];cases r with
       | none=>
        have he:es= #[]:=j;simp only[execOp,Instr.lookup,hm,hkey,Sem.run_bind,Ac ht,Result.andThen_ok,Sem.run_pure,T];rw[show([]:List MapEntry)=es.toList from by rw[he],Y];cases res<;>cases ok<;>simp[Fh hz,valOr]
       | some b=>
        obtain⟨c,hc⟩:=j;simp only[execOp,Instr.lookup,hm,hkey,Sem.run_bind,Ac ht,Result.andThen_ok,Sem.run_pure,T,Fp hc,Y];cases res<;>cases ok<;>simp[Fh hz,valOr]
      grind
     grind
    grind
   .rename_i fs hk;split at h
    .rename_i cs hkey;split at h
     .rename_i hp;obtain⟨h2,aE⟩:=Mg h;split at h2
      .rename_i r hm;split at h2
       .rename_i z hz;obtain⟨es,res,u,hf,x,J,O⟩:=h2;refine⟨_,_,O,u,λw' j=> ?_⟩;have Y:=Qc hk hp aE hf w';have T:=λe=>PZ hk aE e w';rw[<-J];cases r with
        | none=>
         have he:es= #[]:=j;simp only[execOp,Instr.lookup,hm,hkey,Sem.run_bind,Ac ht,Result.andThen_ok,Sem.run_pure,T];rw[show([]:List MapEntry)=es.toList from by rw[he],Y];cases res<;>cases ok<;>simp[Fh hz,valOr]
        | some b=>
         obtain⟨c,hc⟩:=j;simp only[execOp,Instr.lookup,hm,hkey,Sem.run_bind,Ac ht,Result.andThen_ok,Sem.run_pure,T,Fp hc,Y];cases res<;>cases ok<;>simp[Fh hz,valOr]
       grind
      grind
     grind
    grind
   grind
  grind
 .split at h
  .rename_i J;obtain⟨m,since,aG,seen,es,clock,aJ,e,hS,hb,hc,hf,O⟩:=h;refine⟨_,_,O,hS,λw' j=> ?_⟩;obtain⟨h1,h2⟩:=j;subst hc;simp[execOp,Instr.entry,J,getObj,Sem.run,h1,hb,h2,hf]
  grind
 .rename_i c;obtain⟨callee,args,argTypes⟩:=c;simp only at h;split at h
  .split at h
   .rename_i ha;split at h
    .rename_i r J;split at h
     .rename_i ht;obtain⟨es,u,O⟩:=h;refine⟨_,_,O,u,λw' j=> ?_⟩;have aI:args= #[_]:=Array.toList_inj.1 (by omega);subst aI;cases hT:argTypes.toList with
      | nil=>grind
      | cons t r'=>
       have aC:argTypes[0]? =some t:=by simp[<-Array.getElem?_toList,hT]
       simp[hT]at ht;cases r with
       | none=>
        have he:es= #[]:=j;subst he;simp[execOp,resolve,invoke,builtin,Builtin.len_,aC,J,Ac ht,goInt]
       | some b=>
        obtain⟨c,hc⟩:=j;simp[execOp,resolve,invoke,builtin,Builtin.len_,aC,J,Ac ht,goInt,Fp hc]
     grind
    grind
   grind
  grind
 .rename_i op t x y _;split at h
  .rename_i a J;split at h
   .rename_i b hy;split at h
    .rename_i e ht;obtain⟨n,h,hn,_,hr⟩:=Fm h;have hg: ∀w',(eqGuard op t x y (ρ x) (ρ y)).run P w'= .ok () w':=λw'=>by
      rw[J,hy];unfold eqGuard;cases op<;>simp
     split at h
     .obtain⟨hp,O⟩:=h;refine⟨_,_,O,hp,λw' j=> ?_⟩;have he:=ZI ht hn (hr w') j;have:=hg w';rw[J,hy]at this;simp[execOp,J,hy,binOp,he,this]
     .obtain⟨hp,O⟩:=h;refine⟨_,_,O,hp,λw' j=> ?_⟩;have he:=ZI ht hn (hr w') j;have:=hg w';rw[J,hy]at this;simp[execOp,J,hy,binOp,he,this]
     grind
    grind
   grind
  grind
 grind
def szZ(P:Program)(t:TypeId)(K:Nat->Prop):Prop:=match P.info? t with
 | some _=>K (XT P t)
 | none=>False
def oU{P:Program}{t:TypeId}{K:Nat->Prop}(h:szZ P t K): ∃n,K n/\n=XT P t/\ ∀w,(sizeOf t).run P w= .ok n w:=by
 unfold szZ at h;split at h
 .rename_i i hi;refine⟨_,h,rfl,λw=> ?_⟩;simp[sizeOf,typeInfo,hi,XT,Program.cellsOf]
 grind
def stCells(p:Addr):Nat->List Value->World->(World->Prop)->Prop
 | _,[],w,K=>K w
 | i,v::r,w,K=>((∃u,w.cell? (p.add i)=some u)/\w.frozen? (p.add i)=false/\v.oneCell'=true)/\stCells p (i+1) r (w.setCell (p.add i) v) K
def LJ(zs:Array Value)(n:Nat):Array Value:=(Array.range n).map λi=>zs[i %zs.size]!
def rowAt(w:World)(b:Option Addr)(n:Nat)(l:List Value):Prop:=match b with
 | none=>l=[]
 | some a=>l.length=n/\ ∀j v,l[j]? =some v->w.cell? (a.add j)=some v
def APP(elem size bytes:Nat)(zs:Array Value)(s x:AY)(w:World)(K:AY->World->Prop):Prop:=
 ∃news,rowAt w x.base (x.len*size) news/\
  (s.len+x.len<=s.cap->match s.base with
   | some a=>stCells (a.add (s.len*size)) 0 news w λw'=>K ⟨s.base,s.len+x.len,s.cap⟩ w'
   | none=>K ⟨none,s.len+x.len,s.cap⟩ w)/\
  (s.cap<s.len+x.len->(s.len+x.len)*bytes<=140737488355328/\s.len+x.len<=9223372036854775807/\ ∃e,rowAt w s.base (s.len*size) e/\
   ∀cap,s.len+x.len<=cap->cap<9223372036854775808->
    K ⟨some ⟨w.heap.size,0,none⟩,s.len+x.len,cap⟩ (w.drew.alloc (.cells (e.toArray++news.toArray++Builtin.zeroCells zs (cap-(s.len+x.len))) elem)))
def World.GR(w:World)(b:Nat)(o:Obj):World:={w with heap:=w.heap.setIfInBounds b o}
def mapPut(es:Array MapEntry)(c:Nat)(key v:Value)(res:Option (Nat×Value)):Obj:=match res with
 | some (i,_)=>.map (es.modify i λe=>{e with key,val:=v}) c
 | none=>.map (es.push {key,val:=v,born:=c}) (c+1)
def XY(es:Array MapEntry)(c:Nat)(res:Option (Nat×Value)):Obj:=match res with
 | some (i,_)=>.map (es.eraseIdxIfInBounds i) c
 | none=>.map es c
def KT(k:IntKind)(n:Int)(v:Value)(r:Option Nat)(w:World)(K:World->Prop):Prop:=
 ∃b es c res,r=some b/\w.heap[b]? =some (.map es c)/\Nh k n es res/\K (World.GR w b (mapPut es c (.int k n) v res))
def cO(cs:List Value)(v:Value)(r:Option Nat)(w:World)(K:World->Prop):Prop:=
 ∃b es c res,r=some b/\w.heap[b]? =some (.map es c)/\findA cs es.toList 0=some res/\K (World.GR w b (mapPut es c (.agg ⟨cs⟩) v res))
def vK(k:IntKind)(n:Int)(z:Value)(r:Option Nat)(w:World)(K:Value->Int->World->Prop):Prop:=
 ∃b es c res,r=some b/\w.heap[b]? =some (.map es c)/\Nh k n es res/\match res with
  | some (i,v)=> ∃e,es[i]? =some e/\K v (e.born:Int) (World.GR w b (.map (es.modify i λe=>{e with key:=.int k n}) c))
  | none=>K z (c:Int) (World.GR w b (.map (es.push {key:=.int k n,val:=z,born:=c}) (c+1)))
def vL(s:Int)(v:Value)(r:Option Nat)(w:World)(K:World->Prop):Prop:=
 ∃b es c i,r=some b/\w.heap[b]? =some (.map es c)/\es.findIdx? (λe=>(e.born:Int)==s)=some i/\K (World.GR w b (.map (es.modify i λe=>{e with val:=v}) c))
def CPY(size:Nat)(d x:AY)(w:World)(K:Nat->World->Prop):Prop:=
 ∃vs,rowAt w x.base (Nat.min x.len d.len*size) vs/\match d.base with
  | none=>K (Nat.min x.len d.len) w
  | some a=>stCells a 0 vs w λw'=>K (Nat.min x.len d.len) w'
def k6(t:Nat):Nat:=(t %2)*2^63+0x7ff0000000000000+1+(t/2) %(2^52-1)
def FRES(r:Option Nat)(w:World)(K:Nat->World->Prop):Prop:=match r with
 | some b=>K b w
 | none=> ∀t,K (k6 t) w.drew
def fArith0(op:BinOp)(a b:Nat):Option Nat:=match op with
 | .add=>FloatKind.f64.format.add a b
 | .sub=>FloatKind.f64.format.sub a b
 | .mul=>FloatKind.f64.format.mul a b
 | _=>FloatKind.f64.format.div a b
noncomputable def Kl(op:BinOp)(a b:Nat):Option Nat:=Kv (fArith0 op a b)
def isArith:BinOp->Bool
 | .add| .sub| .mul| .quo=>true
 | _=>false
def MDEL(k:IntKind)(n:Int)(r:Option Nat)(w:World)(K:World->Prop):Prop:=match r with
 | none=>K w
 | some b=> ∃es c res,w.heap[b]? =some (.map es c)/\Nh k n es res/\K (World.GR w b (XY es c res))
abbrev CP:=FuncId->Array Value->World->(Value->World->Prop)->(Value->World->Prop)->Prop
def Fi:Value->World->Prop:=λ_ _=>False
def Ends(K Kp:Value->World->Prop)(e:Ending)(w:World):Prop:=
 (∃v,e= .returned v/\K v w)∨(∃v,e= .panicked [{v:=v,recovered:=false}]/\Kp v w)
def Ends.val{K:Value->World->Prop}{e:Ending}{w:World}(h:Ends K Fi e w): ∃v,e= .returned v/\K v w:=by
 rcases h with h|⟨_,_,f⟩
 .exact h
 .exact f.elim
def DYN(G:CP)(v:Value)(args:Array Value)(w:World)(K:Value->World->Prop):Prop:=match v with
 | .func (.func g) first cap=>G g ((first++args)++cap) w K Fi
 | _=>False
def CAL(G:CP)(g:FuncId)(args:Array Value)(w:World)(K:Value->World->Prop):Prop:=G g args w K Fi
def exRs(P:Program):List TypeId->(List Value->Prop)->Prop
 | [],K=>K []
 | t::r,K=> ∃x:kY (cK P t),exRs P r λl=>K (mkVT (cK P t) x::l)
def exRes(P:Program)(ty:TypeId)(v:Value)(K:Value->Prop):Prop:=match P.underlying ty with
 | some (.tuple ts)=>exRs P ts.toList λl=>v= .tuple ⟨l⟩/\K (.tuple ⟨l⟩)
 | _=> ∃x:kY (cK P ty),v=mkVT (cK P ty) x/\K (mkVT (cK P ty) x)
def Wb{P:Program}:{ts:List TypeId}->{K:List Value->Prop}->exRs P ts K-> ∃l,K l
 | [],_,h=>⟨_,h⟩
 | _::_,_,⟨_,h⟩=>let⟨l,h⟩:=Wb h;⟨_,h⟩
def LK{P:Program}{ty:TypeId}{v:Value}{K:Value->Prop}(h:exRes P ty v K):K v:=by
 unfold exRes at h;split at h
 .obtain⟨l,rfl,a⟩:=Wb h;omega
 grind
def leftOf(es:Array MapEntry)(seen:Array Nat):Array MapEntry:=es.filter λe=> !seen.contains e.born
def TZ(r:Nat)(w:World)(a:World->Prop)(u:Value->Value->World->Prop):Prop:=
 ∃j since seen last,w.heap[r]? =some (.mapIter j since seen last)/\match j with
  | none=>a w
  | some m=> ∃es clock,w.heap[m]? =some (.map es clock)/\(!seen.isEmpty&& !es.isEmpty&&es.all (·.born≥last))=false/\
    (∀w',(w'=w∨w'=w.drew)->((leftOf es seen).filter (·.born<since)).isEmpty=true->a w')/\
    (∀w' e,(w'=w∨w'=w.drew)->e∈leftOf es seen->u e.key e.val (World.GR w' r (.mapIter (some m) since (seen.push e.born) clock)))
def Jz(r:Option Nat)(cl:Nat):Obj:=match r with
 | none=>.mapIter none 0 #[] 0
 | some m=>.mapIter (some m) cl #[] cl
def N3(w:World)(r:Option Nat)(cl:Nat):Prop:=match r with
 | none=>True
 | some m=> ∃es,w.heap[m]? =some (.map es cl)
def PAN(x:Value)(K:Prop):Prop:=match x with
 | .iface _ _=>K
 | _=>False
def ZJ{x:Value}{K:Prop}(h:PAN x K):(∃t v,x= .iface t v)/\K:=by
 unfold PAN at h
 grind
def CLR(zs:Array Value)(b:Option Addr)(n:Nat)(w:World)(K:World->Prop):Prop:=match b with
 | none=>K w
 | some a=>stCells a 0 (Builtin.zeroCells zs n).toList w K
def evEff(P:Program)(C G:CP)(o:Op)(ty:TypeId)(ρ:Operand->Value)(w:World)(K Kp:Value->World->Prop):Prop:=
 match o with
 | .alloc t=>match LH P t with
  | some z=>K (.pointer (some ⟨w.heap.size,0,none⟩)) (w.alloc (.cells z.cells t))
  | none=>False
 | .box t x=>K (.pointer (some ⟨w.heap.size,0,none⟩)) (w.alloc (.cells (ρ x).cells t))
 | .buildSlice t n parts=>match P.underlying t with
  | some (.slice e)=>szK P e λz=>leK (n*z) 4096 (match LH P e with
   | some zv=>evFill (λi=>some (i*z,z)) ((parts.map λ(i,x)=>(i,ρ x)).toList) (LJ zv.cells (n*z)).toList λl=>
     K (.slice (some ⟨w.heap.size,0,none⟩) n n) (w.alloc (.cells ⟨l⟩ e))
   | none=>False)
  | _=>False
 | .store t a x=>match ρ a with
  | .pointer p=>NC p λp=>szZ P t λn=>Pn (ρ x).cells.toList.length n (stCells p 0 (ρ x).cells.toList w λw'=>K undef w')
  | _=>False
 | .range t x=>match P.underlying t with
  | some (.map _ _)=>match ρ x with
   | .map r=> ∃cl,N3 w r cl/\K (.pointer (some ⟨w.heap.size,0,none⟩)) (w.alloc (Jz r cl))
   | _=>False
  | _=>False
 | .next it false=>match ρ it with
  | .pointer (some ⟨r,0,_⟩)=>TZ r w (λw'=>K (.tuple #[.bool false]) w') λk v w'=>K (.tuple #[.bool true,k,v]) w'
  | _=>False
 | .makeMap _ none=>K (.map (some w.heap.size)) (w.alloc (.map #[] 0))
 | .makeSlice t l c=>match P.underlying t with
  | some (.slice e)=>szK P e λz=>match LH P e with
   | some zv=>match ρ l with
    | .int .i64 l=>match ρ c with
     | .int .i64 c=>(0<=l/\l<=c/\c<9223372036854775808/\(P.bytesOf e:Int)*c<=140737488355328)/\
       K (.slice (some ⟨w.heap.size,0,none⟩) l.toNat c.toNat) (w.alloc (.cells (LJ zv.cells (c.toNat*z)) e))
     | _=>False
    | _=>False
   | none=>False
  | _=>False
 | .mapUpdate t m k x| .insert t m k x=>match P.underlying t with
  | some (.map kt _)=>match P.underlying kt with
   | some (.int kk)=>match ρ k with
    | .int k' n=>sameK kk k' (match ρ m with
     | .map r=>KT kk n (ρ x) r w λw'=>K undef w'
     | _=>False)
    | _=>False
   | some (.struct fs)=>match ρ k with
    | .agg cs=>match P.stoodInHeld kt with
     | false=>keyK P 0 fs.toList cs.toList (match ρ m with
      | .map r=>cO cs.toList (ρ x) r w λw'=>K undef w'
      | _=>False)
     | true=>False
    | _=>False
   | _=>False
  | _=>False
 | .mapEntry t m k=>match P.underlying t with
  | some (.map kt et)=>match P.underlying kt with
   | some (.int kk)=>match ρ k with
    | .int k' n=>sameK kk k' (match ρ m with
     | .map r=>match LH P et with
      | some z=>vK kk n z r w λv s w'=>K (.tuple #[v,.int .i64 s]) w'
      | none=>False
     | _=>False)
    | _=>False
   | _=>False
  | _=>False
 | .entryStore _ m s x=>match ρ s with
  | .int _ s=>match ρ m with
   | .map r=>vL s (ρ x) r w λw'=>K undef w'
   | _=>False
  | _=>False
 | .binOp op _ x y _=>match isArith op with
  | true=>match ρ x with
   | .float k a=>match ρ y with
    | .float k' b=>ZA k (ZA k' (FRES (Kl op a b) w λr w'=>K (.float .f64 r) w'))
    | _=>False
   | _=>False
  | false=>False
 | .call c=>match c.callee with
  | .value (.func g)=>C g (c.args.map ρ) w K Kp
  | .value f=>DYN G (ρ f) (c.args.map ρ) w λv w'=>exRes P ty v λv=>K v w'
  | .builtin .append=>match c.args.toList,c.argTypes.toList with
   | [s,x],[ts,tx]=>match P.underlying ts with
    | some (.slice e)=>match P.underlying tx with
     | some (.slice _)=>szK P e λz=>match LH P e with
      | some zv=>match ρ s with
       | .slice sb sl sc=>match ρ x with
        | .slice xb xl xc=>APP e z (P.bytesOf e) zv.cells ⟨sb,sl,sc⟩ ⟨xb,xl,xc⟩ w λr w'=>K (.slice r.base r.len r.cap) w'
        | _=>False
       | _=>False
      | none=>False
     | _=>False
    | _=>False
   | _,_=>False
  | .builtin .copy=>match c.args.toList,c.argTypes.toList with
   | [d,x],t::_=>match P.underlying t with
    | some (.slice e)=>szK P e λz=>match ρ d with
     | .slice db dl dc=>match ρ x with
      | .slice xb xl xc=>CPY z ⟨db,dl,dc⟩ ⟨xb,xl,xc⟩ w λn w'=>K (.int .i64 n) w'
      | _=>False
     | _=>False
    | _=>False
   | _,_=>False
  | .builtin .delete=>match c.args.toList,c.argTypes.toList with
   | [m,k],t::_=>match P.underlying t with
    | some (.map kt _)=>match P.underlying kt with
     | some (.int kk)=>match ρ k with
      | .int k' n=>sameK kk k' (match ρ m with
       | .map r=>MDEL kk n r w λw'=>K (.tuple #[]) w'
       | _=>False)
      | _=>False
     | _=>False
    | _=>False
   | _,_=>False
  | .builtin .clear=>match c.args.toList,c.argTypes.toList with
   | [x],[t]=>match P.underlying t with
    | some (.slice e)=>match LH P e with
     | some zv=>match ρ x with
      | .slice b n _=>CLR zv.cells b n w λw'=>K (.tuple #[]) w'
      | _=>False
     | none=>False
    | _=>False
   | _,_=>False
  | .builtin .panic=>match c.args.toList with
   | [x]=>PAN (ρ x) (Kp (ρ x) w)
   | _=>False
  | _=>False
 | .panic x=>PAN (ρ x) (Kp (ρ x) w)
 | _=>False
def Goes(P:Program)(r:Result Next)(K Kp:Value->World->Prop):Prop:=match r with
 | .ok (.value v) w=>K v w
 | .ok .skip w=>K undef w
 | .ok (.enter f args) w=>Calls P f args w (Ends K Kp)
 | .halt (.panic v) w=>Kp v w
 | _=>False
def JZ{P:Program}{p:Addr}:{vs:List Value}->{i:Nat}->{w:World}->{K:World->Prop}->stCells p i vs w K->
  ∃w',K w'/\(storeCells p vs i).run P w= .ok () w'
 | [],i,w,K,h=>⟨w,h,by rfl⟩
 | v::r,i,w,K,h=>by
  obtain⟨⟨⟨u,hu⟩,e,ho⟩,h⟩:=h;obtain⟨w',a,j⟩:=JZ (P:=P) h;exact⟨w',a,by simp[storeCells,run_store P w _ v .plain ho,hu,e,j]⟩
def HX{P:Program}{w:World}{b:Option Addr}{n size len cap:Nat}{l:List Value}(h:rowAt w b (n*size) l):
  (Builtin.firstCells size n (.slice b len cap)).run P w= .ok l.toArray w:=by
 cases b with
 | none=>have:l=[]:=h;subst this;rfl
 | some a=>exact run_firstCells_some w size n a len cap l h.1 h.2
def UC{w:World}{b:Option Addr}{n:Nat}{l:List Value}(h:rowAt w b n l):rowAt w.drew b n l:=by
 cases b with
 | none=>exact h
 | some a=>exact⟨h.1,λj v e=>by simpa using h.2 j v e⟩
def k7{P:Program}{e z ts tx ty:Nat}{zv:Value}{sb xb:Option Addr}{sl sc J xc:Nat}{w:World}{K:AY->World->Prop}
  (O:P.underlying ts=some (.slice e))(v: ∃e',P.underlying tx=some (.slice e'))(hz: ∀w,(sizeOf e).run P w= .ok z w)(aA:LH P e=some zv)
  (h:APP e z (P.bytesOf e) zv.cells ⟨sb,sl,sc⟩ ⟨xb,J,xc⟩ w K):
  ∃r w',K r w'/\(Builtin.append_ #[ts,tx] ty #[.slice sb sl sc,.slice xb J xc]).run P w= .ok (.slice r.base r.len r.cap) w':=by
 obtain⟨news,hn,u,j⟩:=h;obtain⟨e',v⟩:=v;simp only at u j hn;obtain⟨i,hi⟩: ∃i,P.info? e=some i:=by
  cases hi:P.info? e with
  | none=>simp[LH,hi]at aA
  | some i=>simp
 have aO:i.bytes=P.bytesOf e:=by simp[Program.bytesOf,hi]
 have aH:=Fh aA;by_cases hc:sl+J<=sc
 .have h1:=u hc;have hf:=HX (P:=P) (len:=J) (cap:=xc) hn;cases sb with
  | none=>exact⟨_,_,h1,by simp[Builtin.append_,Ac O,Ac v,hz,Builtin.lenOf,hc,hf]⟩
  | some a=>
   obtain⟨w',hK,hr⟩:=JZ (P:=P) h1;refine⟨_,_,hK,by simp[Builtin.append_,Ac O,Ac v,hz,Builtin.lenOf,hc,hf,hr]⟩
 .obtain⟨hb,aD,aL,ho,hK⟩:=j (by omega);have aK:=growslice_fits (bytes:=i.bytes) (by omega:sc<sl+J) (by grind);have T: ¬(281474976710656<Builtin.nextslicecap (sl+J) sc*i.bytes):=by omega
  have Y: ¬(9223372036854775807<((sl:Int)+(J:Int))):=by omega
  have hf:=HX (P:=P) (len:=J) (cap:=xc) (UC hn);have aF:=HX (P:=P) (len:=sl) (cap:=sc) (UC ho);have hk:=hK (grownCap w (sl+J) sc e) (grownCap_ge w _ _ _) (by
   have:=grownCap_le_maxLen w (sl+J) sc e (by simpa[maxLen]using aD);simp only[maxLen]at this;omega)
  refine⟨_,_,hk,?_⟩;simp[Builtin.append_,Ac O,Ac v,hz,typeInfo,hi,aH,Builtin.lenOf,hc,Y,T,Question.forced,hf,aF,newRow,grownCap]
  grind
def UD(kd:TypeDesc)(key:Value): ∀(es:List MapEntry) (j i:Nat) (v:Value),Instr.findNow kd key es j=some (some (i,v))->j<=i
 | [],j,i,v,h=>by simp[Instr.findNow]at h
 | e::r,j,i,v,h=>by
  simp only[Instr.findNow]at h;split at h
  .grind
  .have:=UD kd key r (j+1) i v h;omega
  grind
def NA(k:IntKind)(n:Int): ∀(es:List MapEntry) (j i:Nat) (v:Value),Instr.findNow (.int k) (.int k n) es j=some (some (i,v))->
  ∃e,es[i-j]? =some e/\e.key= .int k n/\e.val=v
 | [],j,i,v,h=>by simp[Instr.findNow]at h
 | e::r,j,i,v,h=>by
  simp only[Instr.findNow]at h;split at h
  .rename_i hs;simp at h;obtain⟨rfl,rfl⟩:=h;refine⟨e,by simp,?_,rfl⟩;unfold Instr.sameNow at hs
   grind
  .obtain⟨a,he,h1,u⟩:=NA k n r (j+1) i v h;have:=UD _ _ _ _ _ _ h
   grind
  grind
def G6{P:Program}{w:World}{b:Nat}{es:Array MapEntry}{c:Nat}(h:w.heap[b]? =some (.map es c))(o:Obj):
  (setObj b o).run P w= .ok () (World.GR w b o):=by
 simp[setObj,Sem.run,h,World.GR]
def Wc{P:Program}{k:IntKind}{n:Int}(w:World):(Instr.keyThatStays (.int k n) (.int k n)).run P w= .ok (.int k n) w:=by
 have:Instr.sameBits 10000 (.int k n) (.int k n)=true:=by
  rw[show(10000:Nat)=9999+1 from rfl];cases k<;>simp[Instr.sameBits]
 simp[Instr.keyThatStays,this]
def Pa{P:Program}{t Y et:TypeId}{k:IntKind}{n:Int}{v:Value}{r:Option Nat}{w:World}{K:World->Prop}
  (ht:P.underlying t=some (.map Y et))(T:P.underlying Y=some (.int k))(h:KT k n v r w K):
  ∃w',K w'/\(Instr.mapUpdate t (.map r) (.int k n) v).run P w= .ok () w':=by
 obtain⟨b,es,c,res,rfl,a,O,hK⟩:=h;refine⟨_,hK,?_⟩;have J:=run_findKey T O w;simp only[Instr.mapUpdate,Sem.run_bind,Ac ht,Result.andThen_ok,Fp a,run_checkKey T,J];cases res with
 | none=>simp[G6 a,mapPut]
 | some q=>
  obtain⟨i,u⟩:=q;obtain⟨e,he,h1,_⟩:=NA k n es.toList 0 i u O;have j:es[i]? =some e:=by grind
  simp[j,h1,Wc,G6 a,mapPut]
def cQ{P:Program}{t O T ty:TypeId}{k:IntKind}{n:Int}{r:Option Nat}{w:World}{K:World->Prop}{ts:Array TypeId}(a:ts[0]? =some t)
  (J:P.underlying t=some (.map O T))(v:P.underlying O=some (.int k))(h:MDEL k n r w K):
  ∃w',K w'/\(Builtin.delete_ ts ty #[.map r,.int k n]).run P w= .ok (.tuple #[]) w':=by
 cases r with
 | none=>exact⟨w,h,by simp[Builtin.delete_,a,Ac J,run_checkKey v]⟩
 | some b=>
  obtain⟨es,c,res,e,hf,Y⟩:=h;refine⟨_,Y,?_⟩;have j:=run_findKey v hf w;simp only[Builtin.delete_,a,List.getElem?_toArray,List.getElem?_cons_zero,List.getElem?_cons_succ,Sem.run_bind,Ac J,Result.andThen_ok,Fp e,run_checkKey v,j];cases res with
  | none=>simp[G6 e,XY]
  | some q=>obtain⟨i,u⟩:=q;simp[G6 e,XY]
def Fits(P:Program)(C:CP):Prop:= ∀g args w K Kp,C g args w K Kp->
 ((∀w,(callFunc g args).run P w= .ok (.enter g args) w)/\Calls P g args w (Ends K Kp))∨ ∃v w',(callFunc g args).run P w= .ok (.value v) w'/\K v w'
def cR: ∀{l m:List Value},eqA l m=some true->l=m
 | [],[],_=>rfl
 | [],_::_,h=>by simp[eqA]at h
 | v::l,m,h=>by
  cases v<;>cases m<;>try (simp[eqA]at h;done)
  all_goals (rename_i u m;cases u<;>try (simp[eqA]at h;done))
  .unfold eqA at h;rename_i a b;cases hab:(a==b)
   .grind
   .rw[hab]at h;rw[cR h,(by grind:a=b)]
  .unfold eqA at h;split at h
   .rename_i k a k' b _ e;have e:=cJ (Nat.eq_of_beq_eq_true e);cases hab:(a==b)
    .grind
    .rw[hab]at h;rw[cR h,e,(by grind:a=b)]
   grind
def UE(n:Nat): ∀{l m:List Value},eqA l m=some true->((l.zip l).all λ(x,y)=>Instr.sameBits n x y)=true
 | [],_,_=>rfl
 | v::l,m,h=>by
  cases v<;>cases m<;>try (simp[eqA]at h;done)
  all_goals (rename_i u m;cases u<;>try (simp[eqA]at h;done))
  .unfold eqA at h;rename_i a b;cases hab:(a==b)
   .grind
   .rw[hab]at h;simp only[List.zip_cons_cons,List.all_cons,UE n h,Bool.and_true];cases n<;>simp[Instr.sameBits]
  .unfold eqA at h;split at h
   .rename_i k a k' b _ ek;cases hab:(a==b)
    .grind
    .rw[hab]at h;simp only[List.zip_cons_cons,List.all_cons,UE n h,Bool.and_true];cases n<;>simp[Instr.sameBits]
   grind
def ZK(cs:List Value): ∀(es:List MapEntry) (j i:Nat) (v:Value),findA cs es j=some (some (i,v))-> ∃e a,es[i-j]? =some e/\j<=i/\e.key= .agg a/\eqA cs a.toList=some true
 | [],j,i,v,h=>by simp[findA]at h
 | e::es,j,i,v,h=>by
  unfold findA at h;split at h
  .rename_i a hd;split at h
   .grind
   .obtain⟨J,u,h1,K,O,T⟩:=ZK cs es (j+1) i v h
    grind
   grind
  grind
def N4{P:Program}{t kt et:TypeId}{fs:Array Field}{cs:Array Value}{v:Value}{r:Option Nat}{w:World}{K:World->Prop}
  (ht:P.underlying t=some (.map kt et))(hk:P.underlying kt=some (.struct fs))(hp:P.stoodInHeld kt=false)(a:keyK P 0 fs.toList cs.toList True)(h:cO cs.toList v r w K):
  ∃w',K w'/\(Instr.mapUpdate t (.map r) (.agg cs) v).run P w= .ok () w':=by
 obtain⟨b,es,c,res,rfl,j,hf,hK⟩:=h;refine⟨_,hK,?_⟩;have T:=Qc hk hp a hf w;simp only[Instr.mapUpdate,Sem.run_bind,Ac ht,Result.andThen_ok,Fp j,PZ hk a,T];cases res with
 | none=>simp[G6 j,mapPut]
 | some q=>
  obtain⟨i,u⟩:=q;obtain⟨e,ds,he,_,h1,h2⟩:=ZK cs.toList es.toList 0 i u hf;have O:es[i]? =some e:=by grind
  have J:cs=ds:=Array.toList_inj.1 (cR h2);subst J;have Y:(Instr.keyThatStays (.agg cs) (.agg cs)).run P w= .ok (.agg cs) w:=by
   have:Instr.sameBits 10000 (.agg cs) (.agg cs)=true:=by
    rw[Instr.sameBits];simp only[beq_self_eq_true,Bool.true_and];exact UE 9999 h2
   simp[Instr.keyThatStays,this]
  simp[O,h1,Y,G6 j,mapPut]
def ZL{P:Program}{w:World}{b:Nat}{a:Option Nat}{s l:Nat}{e:Array Nat}(h:w.heap[b]? =some (.mapIter a s e l))(o:Obj):
  (setObj b o).run P w= .ok () (World.GR w b o):=by
 simp[setObj,Sem.run,h,World.GR]
def k8{P:Program}{dst:Option Tmp}{it:Operand}{type:TypeId}{pos:String}{after:Array Edge}{guard:Option (Nat×Bool)}{ρ:Operand->Value}{w:World}{r m since last clock:Nat}{sp:Option Nat}
  {seen:Array Nat}{es:Array MapEntry}{K Kp:Value->World->Prop}(hx:ρ it= .pointer (some ⟨r,0,sp⟩))(hr:w.heap[r]? =some (.mapIter (some m) since seen last))(hm:w.heap[m]? =some (.map es clock))
  (v:(!seen.isEmpty&& !es.isEmpty&&es.all (·.born≥last))=false)
  (hn: ∀w',(w'=w∨w'=w.drew)->((leftOf es seen).filter (·.born<since)).isEmpty=true->K (.tuple #[.bool false]) w')
  (hs: ∀w' e,(w'=w∨w'=w.drew)->e∈leftOf es seen->K (.tuple #[.bool true,e.key,e.val]) (World.GR w' r (.mapIter (some m) since (seen.push e.born) clock))):
  Goes P ((execOp ρ ⟨dst,.next it false,type,pos,after,guard⟩).run P w) K Kp:=by
 have aC:(getObj r).run P w= .ok (.mapIter (some m) since seen last) w:=by simp[getObj,Sem.run,hr]
 have aB:=Fp (P:=P) hm;simp only[execOp,Instr.next,hx,Sem.run_bind,aC,Result.andThen_ok,aB,v,Bool.false_eq_true,if_false];obtain⟨left,u⟩: ∃left,left=leftOf es seen:=⟨_,rfl⟩;rw[<-u]at hn hs;have hl:(es.filter λe=> !seen.contains e.born)=left:=u.symm;simp only[hl];obtain⟨Pq,hold⟩: ∃Pq,Pq=left.filter (λx=>decide (x.born<since)):=⟨_,rfl⟩;obtain⟨nu,aE⟩: ∃nu,nu=left.filter (λx=>decide (x.born≥since)):=⟨_,rfl⟩;rw[<-hold]at hn;simp only[<-hold,<-aE];obtain⟨a,j⟩: ∃a,a=((if Pq.isEmpty=true then #[none]else #[])++Array.map some (Pq++nu):Array (Option MapEntry)):=⟨_,rfl⟩;simp only[<-j];have Y:0<a.size:=by
  rw[j];by_cases ho:Pq.isEmpty=true
  .grind
  .simp[ho];have:Pq.size≠0:=λe=>ho (by grind);omega
 have aA: ∃idx w',(w'=w∨w'=w.drew)/\(choose (.mapNext a.size)).run P w= .ok idx w'/\idx<a.size:=by
  rw[run_choose];by_cases hf:Question.forced (.mapNext a.size)=true
  .exact⟨0,w,.inl rfl,by grind,Y⟩
  .exact⟨_,_,.inr rfl,by rw[if_neg hf];rfl,Nat.mod_lt _ Y⟩
 obtain⟨idx,w',aH,T,aD⟩:=aA;rw[T];simp only[Result.andThen_ok];have O:a[idx]? =some a[idx]:=Array.getElem?_eq_getElem aD;rw[O];cases hc:a[idx]with
 | none=>
  have aF:Pq.isEmpty=true:=by grind
  simp only[Sem.run_pure,Result.andThen_ok,Goes]
  grind
 | some e=>
  have J:some e∈a:=by grind
  have aL:e∈left:=by
   rw[j]at J;simp only[Array.mem_append,Array.mem_map]at J
   grind
  have aG:w'.heap[r]? =some (.mapIter (some m) since seen last):=by
   rcases aH with rfl|rfl<;>exact hr
  simp only[Sem.run_bind,ZL aG,Result.andThen_ok,Sem.run_pure,Goes]
  grind
def ZM{P:Program}{C G:CP}(hC:Fits P C)(hG:Fits P G){o:Oper}{ρ:Operand->Value}{w:World}{K Kp:Value->World->Prop}(hρ: ∀g,ρ (.func g)= .func (.func g) #[] #[])
  (h:evEff P C G o.op o.type ρ w K Kp):Goes P ((execOp ρ o).run P w) K Kp:=by
 obtain⟨dst,op,type,pos,after,guard⟩:=o;simp only at h;unfold evEff at h;split at h
 case h_1=>
  split at h
  .rename_i z hz;simpa[execOp,Instr.alloc,Fh hz,newVar,newRow,Goes]using h
  grind
 case h_2=>simpa[execOp,Instr.box,newVar,newRow,Goes]using h
 case h_3=>
  split at h
  .rename_i t n parts _ e ht;obtain⟨z,h,aG,_,j⟩:=Fm h;obtain⟨hle,h⟩:=ZD h;split at h
   .rename_i zv hz;obtain⟨out,O,hf⟩:=Lx h;have aM: ¬(16777216<n*z):=Nat.not_lt.2 (Nat.le_trans hle (by decide));by_cases hn:n=0
    .subst hn;simp[LJ,Array.range_zero']at hf;simp[execOp,Instr.buildSlice,Ac ht,j,hf,newRow,Goes,Array.range_zero'];omega
    .have aX: ¬(n*z=0):=Nat.mul_ne_zero hn aG;simp[LJ]at hf;simp[execOp,Instr.buildSlice,Ac ht,j,aM,aX,Fh hz,hf,newRow,Goes];omega
   grind
  grind
 case h_4=>
  split at h
  .rename_i T;obtain⟨p,rfl,J⟩:=G4 h;obtain⟨n,h3,hn,j⟩:=oU J;obtain⟨hl,h4⟩:=Jy h3;obtain⟨w',O,aI⟩:=JZ (P:=P) h4;have aL:=hl;rw[Array.length_toList]at aL;simp[execOp,Instr.storeAt,T,Instr.sureAddr,storeVar,j,aL,aI,Goes,O]
  grind
 case h_5=>
  split at h
  .rename_i ht;split at h
   .rename_i r T;obtain⟨cl,j,O⟩:=h;cases r with
    | none=>simpa[execOp,Instr.range,Ac ht,T,Goes,Jz]using O
    | some m=>
     obtain⟨es,hm⟩:=j;simpa[execOp,Instr.range,Ac ht,T,Fp hm,Goes,Jz]using O
   grind
  grind
 case h_6=>
  split at h
  .rename_i r sp T;obtain⟨mo,since,seen,last,j,h⟩:=h;have aW:(getObj r).run P w= .ok (.mapIter mo since seen last) w:=by simp[getObj,Sem.run,j]
   cases mo with
   | none=>
    simp[execOp,Instr.next,T,aW,Goes];exact h
   | some m=>
    obtain⟨es,clock,hm,aF,hn,hs⟩:=h;exact k8 T j hm aF hn hs
  grind
 case h_7=>simpa[execOp,Instr.makeMap,Goes]using h
 case h_8=>
  split at h
  .rename_i e ht;obtain⟨z,h,aG,_,j⟩:=Fm h;split at h
   .rename_i zv hz;split at h
    .rename_i l hl;split at h
     .rename_i c hc;obtain⟨⟨h0,h1,J,h3⟩,O⟩:=h;obtain⟨i,hi⟩: ∃i,P.info? e=some i:=by
       cases hi:P.info? e with
       | none=>simp[LH,hi]at hz
       | some i=>simp
      have aU:P.bytesOf e=i.bytes:=by simp[Program.bytesOf,hi]
      rw[aU]at h3;have a5:0<=l:=h0;have w1:IntKind.i64.wrap l=l:=IntWalk.i64_in l (by omega);have w2:IntKind.i64.wrap c=c:=IntWalk.i64_in c (by omega);have t1: ¬(c<0):=by omega
      have t2: ¬(l<0):=by omega
      have t3: ¬(c<l):=by omega
      have t4: ¬(281474976710656<(i.bytes:Int)*c):=by omega
      by_cases aE:c.toNat*z=0
      .have:c.toNat=0:=by rcases Nat.mul_eq_zero.1 aE with h|h<;>omega
       simp[LJ,aE,Array.range_zero']at O;simp[execOp,Instr.makeSlice,Ac ht,hl,hc,asInt,asIntOf,typeInfo,hi,w1,w2,t1,t2,t3,t4,j,aE,newRow,Goes,Array.range_zero'];omega
      .have aJ: ¬(c.toNat*z=0):=aE;simp[LJ]at O;simp[execOp,Instr.makeSlice,Ac ht,hl,hc,asInt,asIntOf,typeInfo,hi,w1,w2,t1,t2,t3,t4,j,aJ,Fh hz,newRow,Goes];omega
     grind
    grind
   grind
  grind
 case h_9=>
  split at h
  .rename_i ht;split at h
   .rename_i hk;split at h
    .rename_i hkey;obtain⟨rfl,J⟩:=Fl h;split at J
     .rename_i hm;obtain⟨w',O,j⟩:=Pa ht hk J;simpa[execOp,hkey,hm,j,Goes]using O
     grind
    grind
   .rename_i hk;split at h
    .rename_i hkey;split at h
     .rename_i hp;obtain⟨J,aD⟩:=Mg h;split at J
      .rename_i hm;obtain⟨w',O,j⟩:=N4 ht hk hp aD J;simpa[execOp,hkey,hm,j,Goes]using O
      grind
     grind
    grind
   grind
  grind
 case h_10=>
  split at h
  .rename_i ht;split at h
   .rename_i hk;split at h
    .rename_i hkey;obtain⟨rfl,J⟩:=Fl h;split at J
     .rename_i hm;obtain⟨w',O,j⟩:=Pa ht hk J;simpa[execOp,hkey,hm,j,Goes]using O
     grind
    grind
   .rename_i hk;split at h
    .rename_i hkey;split at h
     .rename_i hp;obtain⟨J,aD⟩:=Mg h;split at J
      .rename_i hm;obtain⟨w',O,j⟩:=N4 ht hk hp aD J;simpa[execOp,hkey,hm,j,Goes]using O
      grind
     grind
    grind
   grind
  grind
 case h_11=>
  split at h
  .rename_i ht;split at h
   .rename_i hk;split at h
    .rename_i hkey;obtain⟨aD,J⟩:=Fl h;subst aD;split at J
     .rename_i hm;split at J
      .rename_i z hz;obtain⟨b,es,c,res,rfl,hb,hf,O⟩:=J;have aK:=run_findKey hk hf w;cases res with
       | none=>
        simp[execOp,hkey,hm,Instr.mapEntry,Ac ht,Fp hb,run_checkKey hk,aK,Fh hz,G6 hb,goInt,Goes];omega
       | some q=>
        obtain⟨i,u⟩:=q;obtain⟨e,he,O⟩:=O;obtain⟨e',a4,h1,_⟩:=NA _ _ es.toList 0 i u hf;have aZ:es[i]? =some e':=by grind
        have aV:e'=e:=by grind
        subst aV;simp[execOp,hkey,hm,Instr.mapEntry,Ac ht,Fp hb,run_checkKey hk,aK,he,h1,Wc,G6 hb,goInt,Goes];omega
      grind
     grind
    grind
   grind
  grind
 case h_12=>
  split at h
  .rename_i hs;split at h
   .rename_i hm;obtain⟨b,es,c,i,rfl,hb,hi,O⟩:=h;simp[execOp,hs,hm,Instr.entryStore,Fp hb,asInt,asIntOf,hi,G6 hb,Goes];omega
   grind
  grind
 case h_13 op t x y _=>
  split at h
  .rename_i hop;split at h
   .rename_i T;split at h
    .rename_i hy;obtain⟨e1,h1⟩:=Jv h;obtain⟨e2,J⟩:=Jv h1;clear h h1;subst e1;subst e2;have hg:(eqGuard op t x y (ρ x) (ρ y)).run P w= .ok () w:=by
      unfold eqGuard
      simp_all
     unfold FRES at J;split at J
     .rename_i r j;cases op<;>first|(simp[isArith]at hop;done)|(simp only[Kl,Kk,fArith0]at j;simp[execOp,T,hy]at hg⊢;simp[hg,binOp,Op.floatArith,j,Goes];omega)
     .rename_i j;cases op<;>first|(simp[isArith]at hop;done)|(simp only[Kl,Kk,fArith0]at j;simp[execOp,T,hy]at hg⊢;simp[hg,binOp,Op.floatArith,j,Goes,Question.forced];exact J _)
    grind
   grind
  grind
 case h_14 c=>
  obtain⟨callee,args,argTypes⟩:=c;simp only at h;split at h
  .simp[execOp,resolve,hρ,Deferred.ofValue,invoke];rcases hC _ _ _ _ _ h with ⟨h1,J⟩|⟨v,w',h1,J⟩
   .simpa[h1,Goes]using J
   .simpa[h1,Goes]using J
  .unfold DYN at h;split at h
   .rename_i hf;simp[execOp,resolve,hf,Deferred.ofValue,invoke];rcases hG _ _ _ _ _ h with ⟨h1,J⟩|⟨v,w',h1,J⟩
    .simp at h1 J;simp only[h1,Result.andThen_ok,Goes];refine J.mono ?_;intro e w' hE;obtain⟨v,rfl,hv⟩:=hE.val;exact .inl ⟨v,rfl,LK hv⟩
    .simp at h1;simp only[h1,Result.andThen_ok,Goes];exact LK J
   grind
  .split at h
   .rename_i ha hT;have Y:args= #[_,_]:=Array.toList_inj.1 (by omega);have aH:argTypes= #[_,_]:=Array.toList_inj.1 (by omega);subst Y;subst aH;split at h
    .rename_i ht;split at h
     .rename_i htx;obtain⟨z,h,aG,_,j⟩:=Fm h;split at h
      .rename_i zv hz;split at h
       .rename_i hs;split at h
        .rename_i T;obtain⟨r,w',O,aP⟩:=k7 (ty:=type) ht ⟨_,htx⟩ j hz h;simpa[execOp,resolve,invoke,builtin,hs,T,aP,Goes]using O
        grind
       grind
      grind
     grind
    grind
   grind
  .split at h
   .rename_i ha hT;have Y:args= #[_,_]:=Array.toList_inj.1 (by omega);subst Y;split at h
    .rename_i ht;obtain⟨z,h,aG,_,j⟩:=Fm h;split at h
     .rename_i hd;split at h
      .rename_i T;have aC:=congrArg (λl:List TypeId=>l[0]?) hT;simp only[Array.getElem?_toList,List.getElem?_cons_zero]at aC;obtain⟨vs,aO,h⟩:=h;have hf:=λlen cap=>HX (P:=P) (w:=w) (len:=len) (cap:=cap) aO;split at h
       .rename_i hb;simp only at hb;subst hb;simp only at hf;simpa[execOp,resolve,invoke,builtin,Builtin.copy_,aC,hd,T,Ac ht,j,Builtin.lenOf,hf,goInt,Goes]using h
       .rename_i a hb;simp only at hb;subst hb;simp only at hf;obtain⟨w',O,aI⟩:=JZ (P:=P) h;simpa[execOp,resolve,invoke,builtin,Builtin.copy_,aC,hd,T,Ac ht,j,Builtin.lenOf,hf,aI,goInt,Goes]using O
      grind
     grind
    grind
   grind
  .split at h
   .rename_i ha hT;have Y:args= #[_,_]:=Array.toList_inj.1 (by omega);subst Y;split at h
    .rename_i ht;split at h
     .rename_i hk;split at h
      .rename_i hkey;obtain⟨rfl,J⟩:=Fl h;split at J
       .rename_i hm;have aC:=congrArg (λl:List TypeId=>l[0]?) hT;simp only[Array.getElem?_toList,List.getElem?_cons_zero]at aC;obtain⟨w',O,j⟩:=cQ (ty:=type) aC ht hk J;simpa[execOp,resolve,invoke,builtin,hkey,hm,j,Goes]using O
       grind
      grind
     grind
    grind
   grind
  .split at h
   .rename_i ha hT;have Y:args= #[_]:=Array.toList_inj.1 (by omega);have aH:argTypes= #[_]:=Array.toList_inj.1 (by omega);subst Y;subst aH;split at h
    .rename_i ht;split at h
     .rename_i zv hz;split at h
      .rename_i b n c T;unfold CLR at h;split at h
       .simpa[execOp,resolve,invoke,builtin,Builtin.clear_,Ac ht,T,Goes]using h
       .rename_i a;cases n with
        | zero=>
         have:(Builtin.zeroCells zv.cells 0).toList=[]:=by simp[Builtin.zeroCells]
         rw[this]at h;simpa[execOp,resolve,invoke,builtin,Builtin.clear_,Ac ht,T,Goes,stCells]using h
        | succ n=>
         obtain⟨w',O,j⟩:=JZ (P:=P) h;simpa[execOp,resolve,invoke,builtin,Builtin.clear_,Ac ht,T,Fh hz,j,Goes]using O
      grind
     grind
    grind
   grind
  .split at h
   .rename_i ha;have Y:args= #[_]:=Array.toList_inj.1 (by omega);subst Y;obtain⟨⟨t,v,T⟩,h⟩:=ZJ h;rw[T]at h;simpa[execOp,resolve,invoke,builtin,Instr.panic,goPanic,T,Goes]using h
   grind
  grind
 case h_15=>
  obtain⟨⟨t,v,T⟩,h⟩:=ZJ h;rw[T]at h;simpa[execOp,Instr.panic,goPanic,T,Goes]using h
 grind
inductive OpK where|pure|read|eff
def isEqP:BinOp->Bool
 | .eql| .neq=>true
 | _=>false
def opK(P:Program):Op->OpK
 | .load .. | .lookup .. | .entry _=>.read
 | .range .. | .next .. | .alloc _| .box .. | .buildSlice .. | .store .. | .makeMap .. | .makeSlice .. | .mapUpdate .. | .insert .. | .mapEntry .. | .entryStore .. | .panic _=>.eff
 | .call c=>match c.callee with
  | .builtin .len=>match(c.argTypes.toList.head?).bind P.underlying with
   | some (.map _ _)=>.read
   | _=>.pure
  | .builtin .min| .builtin .max=>.pure
  | _=>.eff
 | .binOp op t _ y _=>match isArith op with
  | true=>match P.underlying t with
   | some (.float _)=>.eff
   | _=>.pure
  | false=>match y with
   | .tmp _=>match isEqP op with
    | true=>match P.underlying t with
     | some (.pointer _)=>.read
     | _=>.pure
    | false=>.pure
   | _=>.pure
 | _=>.pure
def isEff(P:Program)(o:Op):Bool:=match opK P o with| .eff=>true|_=>false
def cS(P:Program)(C G:CP)(o:Op)(ty:TypeId)(ρ:Operand->Value)(w:World)(K Kp:Value->World->Prop):Prop:=
 match opK P o with
 | .pure=>evPure P o ty ρ λv=>K v w
 | .read=>evRead P o ρ w λv _=>K v w
 | .eff=>evEff P C G o ty ρ w K Kp
def LL{P:Program}{C G:CP}(hC:Fits P C)(j:Fits P G){o:Oper}{ρ:Operand->Value}{w:World}{K Kp:Value->World->Prop}(u: ∀g,ρ (.func g)= .func (.func g) #[] #[])(h:cS P C G o.op o.type ρ w K Kp):
  Goes P ((execOp ρ o).run P w) K Kp:=by
 unfold cS at h;split at h
 .obtain⟨v,a,e⟩:=QZ h;rw[e w];exact a
 .obtain⟨v,S,a,hS,e⟩:=Qd h;rw[e w hS];exact a
 .exact ZM hC j u h
def Pt{P:Program}{o:Oper}{a:Act}{w:World}{K Kp:Value->World->Prop}{Q:Exit->Act->World->Prop}
  {next:Act->World->Prop}(h:Goes P ((execOp a.eval o).run P w) K Kp)(j: ∀v w',K v w'->next (a.put o.dst v) w')
  (J: ∀v w',Kp v w'->Q (.panic [{v:=v,recovered:=false}]) a w'):o.wp P a w next Q:=by
 unfold Oper.wp;unfold Goes at h;split at h
 .rename_i hr;rw[hr,Oper.upon_value];exact j _ _ h
 .rename_i hr;rw[hr,Oper.upon_skip];exact j _ _ h
 .rename_i hr;rw[hr,Oper.upon_enter];refine h.mono ?_;rintro e w' (⟨v,rfl,u⟩|⟨v,rfl,u⟩)
  .exact j _ _ u
  .exact J _ _ u
 .rename_i hr;rw[hr,Oper.upon_panic];exact J _ _ h
 .exact h.elim
def yieldF(ops:Array Oper)(f:Fr)(j:Nat):Option Bool:=match(ops[j]?).bind (·.dst)with
 | some t=>match f t with
  | .bool b=>some b
  | _=>none
 | none=>none
def wantF(ops:Array Oper)(f:Fr):Option (Nat×Bool)->Bool
 | none=>true
 | some (j,want)=>match yieldF ops f j with
  | some b=>match b,want with
   | true,true=>true
   | false,false=>true
   | _,_=>false
  | none=>false
def Qe{ops:Array Oper}{a:Act}{o:Oper}:wantF ops (BZ a) o.guard=Region.wanted o (yielded ops a.tmps):=by
 have e: ∀j,yieldF ops (BZ a) j=yielded ops a.tmps j:=by
  intro j;unfold yieldF yielded;cases (ops[j]?).bind (·.dst)with
  | none=>rfl
  | some t=>
   simp only[BZ,Option.bind_some,Array.getD_eq_getD_getElem?];cases h:a.tmps[t]? with
   | none=>simp[undef]
   | some v=>grind
 unfold wantF Region.wanted;cases o.guard with
 | none=>rfl
 | some g=>
  obtain⟨j,want⟩:=g;simp only[e];cases yielded ops a.tmps j with
  | none=>rfl
  | some b=>cases b<;>cases want<;>rfl
def Lz:List Oper->Nat->Bool
 | [],_=>false
 | o::r,i=>match o.guard with
  | some (j,_)=>bif Nat.beq j i then true else Lz r i
  | none=>Lz r i
def Sj(b:Bool)(v:Value)(K:Value->Prop):Prop:=
 match b with
 | true=>match v with
  | .bool x=>CND x (K (.bool true)) (K (.bool false))
  | v=>K v
 | false=>K v
def LM{b:Bool}{v:Value}{K:Value->Prop}(h:Sj b v K):K v:=by
 unfold Sj at h;split at h
 .split at h
  .rename_i x;cases x<;>exact h
  .exact h
 .exact h
def evOps(P:Program)(C G:CP)(ops:Array Oper)(Q:Fr->World->Prop)(a:Fr->Value->World->Prop):Nat->List Oper->Fr->World->Prop
 | _,[],f,w=>Q f w
 | i,o::r,f,w=>match wantF ops f o.guard with
  | true=>cS P C G o.op o.type f.ev w (λv w'=>Sj (Lz ops.toList i) v λv=>evOps P C G ops Q a (i+1) r (f.Lq o.dst v) w') (a f)
  | false=>evOps P C G ops Q a (i+1) r (f.Lq o.dst undef) w
def dsts:List Oper->List Nat
 | []=>[]
 | o::r=>match o.dst with
  | some d=>d::dsts r
  | none=>dsts r
structure Eg(W:List Nat)(a a':Act):Prop where
 size:a'.tmps.size=a.tmps.size
 defers:a'.defers=a.defers
 out: ∀t,t∉W->BZ a' t=BZ a t
def Eg.refl(W:List Nat)(a:Act):Eg W a a:=⟨rfl,rfl,λ_ _=>rfl⟩
def Eg.trans{W:List Nat}{a b c:Act}(h:Eg W a b)(k:Eg W b c):Eg W a c:=
 ⟨k.size.trans h.size,k.defers.trans h.defers,λt e=>(k.out t e).trans (h.out t e)⟩
def Eg.mono{W V:List Nat}{a b:Act}(h:Eg W a b)(e: ∀t,t∈W->t∈V):Eg V a b:=
 ⟨h.size,h.defers,λt j=>h.out t λhw=>j (e t hw)⟩
def Eg.put{W:List Nat}{a:Act}{d:Option Nat}{v:Value}(u: ∀t,d=some t->t∈W):Eg W a (a.put d v):=by
 refine⟨Gk a d v,M8 a d v,λt J=> ?_⟩;cases d with
 | none=>rfl
 | some d=>
  have j:d≠t:=λe=>J (e▸u d rfl);simp only[BZ,Act.put,Array.getD_eq_getD_getElem?,Array.getElem?_setIfInBounds_ne j]
def within(n:Nat)(W:List Nat):Prop:= ∀t,t∈W->t<n
def N5{P:Program}{C G:CP}(hC:Fits P C)(O:Fits P G){ops:Array Oper}{n:Nat}{W:List Nat}(hW:within n W)(Q:Fr->World->Prop)(u:Fr->Value->World->Prop)(J:Exit->Act->World->Prop)(a0:Act)
  (hQ: ∀a w,a.tmps.size=n->Eg W a0 a->Q (BZ a) w->J .normal a w)
  (Y: ∀a v w,a.tmps.size=n->Eg W a0 a->u (BZ a) v w->J (.panic [{v:=v,recovered:=false}]) a w):
  ∀(l:List Oper) (i:Nat) (a:Act) (w:World),(∀o∈l,∀d,o.dst=some d->d∈W)->a.tmps.size=n->Eg W a0 a->evOps P C G ops Q u i l (BZ a) w->wpList P ops J l a w
 | [],i,a,w,_,hn,ha,h=>hQ a w hn ha h
 | o::r,i,a,w,hd,hn,ha,h=>by
  simp only[evOps]at h;unfold wpList;rw[Qe]at h;have j: ∀t,o.dst=some t->t∈W:=λt ht=>hd o (by simp) t ht;have e: ∀v,BZ (a.put o.dst v)=(BZ a).Lq o.dst v:=λv=>Mf (λt ht=>by have:=hW t (j t ht);omega) v;split at h
  .rename_i hw;rw[if_pos hw];refine .inl (Pt (K:=λv w'=>Sj (Lz ops.toList i) v λv=>evOps P C G ops Q u (i+1) r ((BZ a).Lq o.dst v) w') (Kp:=u (BZ a)) ?_ (λv w' T=> ?_) λv w' T=>Y a v w' hn ha T)
   .have:=LL hC O (λ_=>rfl) (o:=o) h;rwa[Hn]at this
   .refine N5 hC O hW Q u J a0 hQ Y r (i+1) _ w' (λo ho=>hd o (by simp[ho])) (by rw[Gk];exact hn) (ha.trans (Eg.put j)) ?_;rw[e];exact LM T
  .rename_i hw;rw[if_neg (by simp[hw])];refine N5 hC O hW Q u J a0 hQ Y r (i+1) _ w (λo ho=>hd o (by simp[ho])) (by rw[Gk];exact hn) (ha.trans (Eg.put j)) ?_;rw[e];exact h
abbrev Fam:=List (Nat×(World->Prop))
def waits:List Edge->Nat->Bool
 | [],_=>false
 | e::r,k=>match Region.binds .any e with
  | true=>bif Nat.beq e.on k then true else waits r k
  | false=>waits r k
def ZN{l:List Edge}{k:Nat}(h: ∀e∈l,Region.binds .any e=true->e.on≠k):waits l k=false:=by
 induction l with
 | nil=>rfl
 | cons e r ih=>
  have j:=ih λe he=>h e (by simp[he]);unfold waits;split
  .rename_i hb;have a:=h e (by simp) hb;have:Nat.beq e.on k=false:=by
    cases hh:Nat.beq e.on k
    .rfl
    .exact absurd (Nat.eq_of_beq_eq_true hh) a
   grind
  omega
def keepFam{α:Type}(after:List Edge):List (Nat×α)->List (Nat×α)
 | []=>[]
 | p::r=>match waits after p.1 with
  | true=>keepFam after r
  | false=>p::keepFam after r
def JN{α:Type}(after:List Edge): ∀(l:List (Nat×α)) p,p∈keepFam after l->p∈l
 | [],p,h=>by simp[keepFam]at h
 | q::r,p,h=>by
  unfold keepFam at h;split at h
  .exact List.mem_cons_of_mem _ (JN after r p h)
  .rcases List.mem_cons.1 h with rfl|h
   .simp
   .exact List.mem_cons_of_mem _ (JN after r p h)
def Qf{α:Type}(after:List Edge): ∀(l m:List (Nat×α)),(∀p∈l,p∈m)-> ∀p∈keepFam after l,p∈keepFam after m:=by
 have key: ∀(m:List (Nat×α)) p,p∈m->waits after p.1=false->p∈keepFam after m:=by
  intro m
  induction m with
  | nil=>grind
  | cons q r ih=>
   intro p h hw;unfold keepFam;rcases List.mem_cons.1 h with rfl|h
   .simp[hw]
   .split
    .exact ih p h hw
    .exact List.mem_cons_of_mem _ (ih p h hw)
 have a: ∀(l:List (Nat×α)) p,p∈keepFam after l->waits after p.1=false:=by
  intro l
  induction l with
  | nil=>intro p h;simp[keepFam]at h
  | cons q r ih=>
   intro p h;unfold keepFam at h
   grind
 intro l m j p e;exact key m p (j p (JN after l p e)) (a l p e)
def afterOf(ops:Array Oper)(j:Nat):List Edge:=match ops[j]? with|some o=>o.after.toList|none=>[]
def gather(f:Edge->List Edge):List Edge->List Edge
 | []=>[]
 | e::r=>match Region.binds .any e with
  | true=>f e++gather f r
  | false=>gather f r
def afterAll(ops:Array Oper):Nat->List Edge->List Edge
 | 0,l=>l
 | n+1,l=>l++gather (λe=>afterAll ops n (afterOf ops e.on)) l
def We:List Oper->Bool
 | []=>false
 | o::r=>match o.op with
  | .lookup .. =>true
  | _=>We r
def viaMap(ops:Array Oper)(o:Op):Bool:=match o with
 | .call c=>match c.callee with
  | .value (.tmp _)=>We ops.toList
  | _=>false
 | _=>false
def KG(ops:Array Oper)(o:Oper):List Edge:=match viaMap ops o.op with
 | true=>afterAll ops 8 o.after.toList
 | false=>o.after.toList
def I1(ops:Array Oper)(j:Nat):List Edge:=match ops[j]? with|some o=>KG ops o|none=>[]
def MS(ops:Array Oper)(listed:Array Bool):Prop:= ∀(k:Nat) o,ops[k]? =some o->listed.getD k true=true-> ∀e∈o.after,Region.binds .any e=true->listed.getD e.on false=true
def Pu{f:Edge->List Edge}: ∀{l:List Edge} {e:Edge},e∈gather f l-> ∃d∈l,Region.binds .any d=true/\e∈f d
 | [],e,h=>by cases h
 | d::r,e,h=>by
  unfold gather at h;split at h
  .rename_i hb;rcases List.mem_append.1 h with h|h
   .exact⟨d,by simp,hb,h⟩
   .obtain⟨a,h1,j⟩:=Pu h;exact⟨a,by simp[h1],j⟩
  .obtain⟨a,h1,j⟩:=Pu h;exact⟨a,by simp[h1],j⟩
def MS.all{ops:Array Oper}{listed:Array Bool}(v:MS ops listed): ∀(n:Nat) {l:List Edge},(∀e∈l,Region.binds .any e=true->listed.getD e.on false=true)->
  ∀e∈afterAll ops n l,Region.binds .any e=true->listed.getD e.on false=true
 | 0,l,h,e,he,hb=>h e he hb
 | n+1,l,h,e,he,hb=>by
  unfold afterAll at he;rcases List.mem_append.1 he with he|he
  .exact h e he hb
  .obtain⟨d,hd,u,he⟩:=Pu he;refine v.all n (λJ a j=> ?_) e he hb;have K:=h d hd u;unfold afterOf at a;split at a
   .rename_i o ho;exact v d.on o ho (by grind) J (by simpa using a) j
   .cases a
def MS.ahead{ops:Array Oper}{listed:Array Bool}(v:MS ops listed){j:Nat}{u:Oper}(J:ops[j]? =some u)(a: ∀e∈u.after,Region.binds .any e=true->listed.getD e.on false=true):
  ∀e∈I1 ops j,Region.binds .any e=true->listed.getD e.on false=true:=by
 unfold I1;rw[J];show ∀e∈KG ops u,_;unfold KG;split
 .exact v.all 8 λe he=>a e (by simpa using he)
 .exact λe he=>a e (by simpa using he)
def MS.set{ops:Array Oper}{listed:Array Bool}(T:MS ops listed){j:Nat}(Y:j∈Region.ready .any ops listed):MS ops (listed.setIfInBounds j true):=by
 obtain⟨K,oj,v,a⟩:=mem_ready.1 Y;have up: ∀m,listed.getD m false=true->(listed.setIfInBounds j true).getD m false=true:=λm hm=>by
  rw[Array.getD_eq_getD_getElem?]at hm⊢;rw[Array.getElem?_setIfInBounds];split
  .split
   .rfl
   .rename_i e1 e2;rw[Array.getElem?_eq_none (by omega)]at hm;cases hm
  .exact hm
 intro k o u O e he J;by_cases hjk:j=k
 .subst hjk;rw[v]at u;cases u;exact up _ (a e he J)
 .rw[getD_set_ne true hjk]at O;exact up _ (T k o u O e he J)
def Km(P:Program)(ops:Array Oper)(Q:Exit->Act->World->Prop):Nat->Fam->Array Bool->Act->World->Prop
 | 0,_,listed,a,w=>Region.ready .any ops listed=[]/\Q .normal a w
 | fuel+1,fam,listed,a,w=>
  (Region.ready .any ops listed=[]->Q .normal a w)/\
  ∀j∈Region.ready .any ops listed,wpOp P ops Q j (λe w'=>(∀p∈keepFam (I1 ops j) fam,p.2 w')/\
   Km P ops Q fuel (keepFam (I1 ops j) fam) (listed.setIfInBounds j true) e w') a w
section
variable{P:Program}{ops:Array Oper}{Q:Exit->Act->World->Prop}
def UF: ∀(fuel:Nat) (e:Fam) (listed:Array Bool) (a:Act) (w:World),Km P ops Q fuel e listed a w->wpAny P .any ops Q fuel listed a w
 | 0,_,_,_,_,h=>h
 | fuel+1,_,_,_,_,h=>⟨h.1,λi hi=>wpOp_mono (λj w' u=>UF fuel _ _ j w' u.2) (h.2 i hi)⟩
def Sk: ∀(fuel:Nat) (u e:Fam) (listed:Array Bool) (a:Act) (w:World),(∀p∈e,p∈u)->Km P ops Q fuel u listed a w->Km P ops Q fuel e listed a w
 | 0,_,_,_,_,_,_,h=>h
 | fuel+1,u,e,_,_,_,hs,h=>⟨h.1,λj J=>wpOp_mono (λO w' v=>
   ⟨λp K=>v.1 p (Qf _ _ _ hs p K),Sk fuel _ _ _ _ _ (Qf _ _ _ hs) v.2⟩) (h.2 j J)⟩
def N6(i:Nat): ∀(fuel:Nat) (e:Fam) (listed:Array Bool) (a:Act) (w:World),Km P ops Q fuel e listed a w->Km P ops Q fuel ((i,λ_=>True)::e) listed a w
 | 0,_,_,_,_,h=>h
 | fuel+1,e,listed,a,w,h=>by
  refine⟨h.1,λj J=>wpOp_mono (λK w' u=> ?_) (h.2 j J)⟩;unfold keepFam;split
  .exact u
  .refine⟨λp v=> ?_,N6 i fuel _ _ _ _ u.2⟩;rcases List.mem_cons.1 v with rfl|v
   .trivial
   .exact u.1 p v
def N7{i:Nat}{oi:Oper}{v:Value}{S:World->Prop}(hi:ops[i]? =some oi)(aC: ∀(j:Nat) (o:Oper) cs b,ops[j]? =some o->o.op≠ .select cs b)
  (hQ: ∀c a w,¬Q (.panic c) a w):
  ∀(fuel:Nat) (u:Fam) (listed:Array Bool) (a:Act) (w:World),
   (∀j oj,ops[j]? =some oj->j≠i->listed.getD j true=false->(∀e∈oj.after,Region.binds .any e=true->e.on≠i)->oi.apart ops oj=true)->
   MS ops listed->i∈Region.ready .any ops listed->YieldsIf P ops S oi v a->S w->(∀p∈u,p.2 w)->
   Km P ops Q fuel ((i,S)::u) (listed.setIfInBounds i true) (a.put oi.dst v) w->Km P ops Q (fuel+1) u listed a w:=by
 have own: ∀(fuel:Nat) (u:Fam) (listed:Array Bool) (a:Act) (w:World),YieldsIf P ops S oi v a->S w->(∀p∈u,p.2 w)->
   Km P ops Q fuel ((i,S)::u) (listed.setIfInBounds i true) (a.put oi.dst v) w->
   wpOp P ops Q i (λa' w'=>(∀p∈keepFam (I1 ops i) u,p.2 w')/\Km P ops Q fuel (keepFam (I1 ops i) u) (listed.setIfInBounds i true) a' w') a w:=by
  intro fuel u listed a w hy hS J H;refine hy.wpOp hi hS ⟨λp hp=>J p (JN _ _ _ hp),Sk _ _ _ _ _ _ (λp hp=>List.mem_cons_of_mem _ (JN _ _ _ hp)) H⟩
 intro fuel
 induction fuel with
 | zero=>
  intro u listed a w _ aD hr hy hS J H;refine⟨λh=>(by rw[h]at hr;cases hr),λj hj=> ?_⟩;by_cases hji:j=i
  .subst hji;exact own 0 u listed a w hy hS J H
  .have:=ready_mono hj hji;rw[H.1]at this;cases this
 | succ fuel ih=>
  intro u listed a w O aD hr hy hS J H;refine⟨λh=>(by rw[h]at hr;cases hr),λj hj=> ?_⟩;by_cases hji:j=i
  .subst hji;exact own _ u listed a w hy hS J H
  .have h1:=H.2 j (ready_mono hj hji);obtain⟨aJ,oj,Y,aA⟩:=mem_ready.1 hj;have aK: ∀e∈oj.after,Region.binds .any e=true->e.on≠i:=λe he hb heq=>by
    have h1:=aA e he hb;have h0:=(mem_ready.1 hr).1
    grind
   have aE:keepFam (I1 ops j) ((i,S)::u)=(i,S)::keepFam (I1 ops j) u:=by
    have aS:waits (I1 ops j) i=false:=ZN λe he hb heq=>by
     have h1:=aD.ahead Y aA e he hb;have h0:=(mem_ready.1 hr).1
     grind
    simp[keepFam,aS]
   rw[aE]at h1;have h2:=wpOp_putIf Y (O j oj Y hji aJ aK) (λcs b=>aC i oi cs b hi) (λcs b=>aC j oj cs b Y) (λc a w h=>(hQ _ _ _ h).elim) hy h1;have T: ∀k ok,ops[k]? =some ok->k≠i->(listed.setIfInBounds j true).getD k true=false->
     (∀e∈ok.after,Region.binds .any e=true->e.on≠i)->oi.apart ops ok=true:=λk ok hk aQ aM aR=>by
    refine O k ok hk aQ ?_ aR;by_cases hjk:j=k
    .grind
    .rw[getD_set_ne true hjk]at aM;exact aM
   refine wpOp_mono (λa' w' h3=> ?_) h2;obtain⟨aT,aH,h4⟩:=h3;have aO:S w':=aH (i,S) (by simp);have K: ∀p∈keepFam (I1 ops j) u,p.2 w':=λp hp=>aH p (by simp[hp]);refine⟨K,ih _ (listed.setIfInBounds j true) a' w' T (aD.set hj) (ready_mono hr (Ne.symm hji)) aT aO K ?_⟩;rw[Array.setIfInBounds_comm _ _ hji];exact h4
end
def pickEarly(P:Program)(ops:Array Oper)(listed:Array Bool):List Nat->Option Nat
 | []=>none
 | i::r=>match ops[i]? with
  | some o=>match isEff P o.op with
   | true=>pickEarly P ops listed r
   | false=>match Region.free .any ops listed i with
    | true=>some i
    | false=>pickEarly P ops listed r
  | none=>pickEarly P ops listed r
def KH{P:Program}{ops:Array Oper}{listed:Array Bool}: ∀{l:List Nat} {i:Nat},pickEarly P ops listed l=some i->i∈l/\Region.free .any ops listed i=true
 | [],i,h=>by simp[pickEarly]at h
 | k::r,i,h=>by
  unfold pickEarly at h;split at h
  .split at h
   .obtain⟨h1,a⟩:=KH h;grind
   .split at h
    .grind
    .obtain⟨h1,a⟩:=KH h;grind
  .obtain⟨h1,a⟩:=KH h;grind
def XZ:List (Nat×G5)->World->Prop->Prop
 | [],_,X=>X
 | p::r,w,X=>p.2 w/\XZ r w X
def Qg: ∀{l:List (Nat×G5)} {w:World} {X:Prop},XZ l w X->(∀p∈l,p.2 w)/\X
 | [],_,_,h=>⟨by simp,h⟩
 | p::r,w,X,h=>by
  obtain⟨h1,e⟩:=h;obtain⟨j,u⟩:=Qg e;exact⟨λq a=>by rcases List.mem_cons.1 a with rfl|a;exact h1;exact j q a,u⟩
def oV:List Nat->(Nat->Prop)->Prop
 | [],_=>True
 | [j],K=>K j
 | j::r,K=>K j/\oV r K
def UG: ∀{l:List Nat} {K:Nat->Prop},oV l K-> ∀j∈l,K j
 | [],_,_,_,h=>by cases h
 | [j],K,h,k,a=>by simp at a;subst a;exact h
 | j::i::r,K,h,k,a=>by
  rcases List.mem_cons.1 a with rfl|a
  .exact h.1
  .exact UG h.2 k a
def evDraw(P:Program)(C G:CP)(ops:Array Oper)(Q:Fr->World->Prop):Nat->List (Nat×G5)->Array Bool->Fr->World->Prop
 | 0,_,listed,f,w=>match Region.ready .any ops listed with
  | []=>Q f w
  | _::_=>False
 | fuel+1,pend,listed,f,w=>match Region.ready .any ops listed with
  | []=>Q f w
  | j::rs=>match pickEarly P ops listed (j::rs)with
   | some i=>match ops[i]? with
    | some o=>match wantF ops f o.guard with
     | true=>match opK P o.op with
      | .pure=>evPure P o.op o.type f.ev λv=>Sj (Lz ops.toList i) v λv=>evDraw P C G ops Q fuel pend (listed.setIfInBounds i true) (f.Lq o.dst v) w
      | .read=>evRead P o.op f.ev w λv S=>Sj (Lz ops.toList i) v λv=>evDraw P C G ops Q fuel ((i,S)::pend) (listed.setIfInBounds i true) (f.Lq o.dst v) w
      | .eff=>False
     | false=>evDraw P C G ops Q fuel pend (listed.setIfInBounds i true) (f.Lq o.dst undef) w
    | none=>False
   | none=>oV (j::rs) λi=>match ops[i]? with
    | some o=>match wantF ops f o.guard with
     | true=>cS P C G o.op o.type f.ev w (λv w'=>XZ (keepFam (KG ops o) pend) w' (Sj (Lz ops.toList i) v λv=>
       evDraw P C G ops Q fuel (keepFam (KG ops o) pend) (listed.setIfInBounds i true) (f.Lq o.dst v) w')) Fi
     | false=>evDraw P C G ops Q fuel (keepFam (KG ops o) pend) (listed.setIfInBounds i true) (f.Lq o.dst undef) w
    | none=>False
def Xa{P:Program}{C G:CP}(hC:Fits P C)(hG:Fits P G){ops:Array Oper}{n:Nat}{W:List Nat}(hW:within n W)(hd: ∀(i:Nat) o,ops[i]? =some o-> ∀d,o.dst=some d->d∈W)
  (aC:Region.noSelect ops=true)(Q:Fr->World->Prop)(QQ:Exit->Act->World->Prop)(hP: ∀c a w,¬QQ (.panic c) a w)(a0:Act)
  (hQ: ∀a w,a.tmps.size=n->Eg W a0 a->Q (BZ a) w->QQ .normal a w):
  ∀(fuel:Nat) (e:List (Nat×G5)) (listed:Array Bool) (a:Act) (w:World),MS ops listed->a.tmps.size=n->Eg W a0 a->(∀p∈e,p.2 w)->
   evDraw P C G ops Q fuel e listed (BZ a) w->Km P ops QQ fuel e listed a w:=by
 have O: ∀(a:Act) (i:Nat) (o:Oper) v,a.tmps.size=n->ops[i]? =some o->BZ (a.put o.dst v)=(BZ a).Lq o.dst v:=
  λa i o v Y ho=>Mf (λt ht=>by have:=hW t (hd i o ho t ht);omega) v
 intro fuel
 induction fuel with
 | zero=>
  intro e listed a w K Y ha _ h;unfold evDraw at h;split at h
  .rename_i hr;exact⟨hr,hQ a w Y ha h⟩
  .exact h.elim
 | succ fuel ih=>
  intro e listed a w K Y ha J h;unfold evDraw at h;split at h
  .rename_i hr;exact⟨λ_=>hQ a w Y ha h,λj hj=>by rw[hr]at hj;cases hj⟩
  .rename_i j rs hr;split at h
   .rename_i i hpick;obtain⟨aK,T⟩:=KH hpick;split at h
    .rename_i o ho;have u:i∈Region.ready .any ops listed:=by rw[hr];exact aK
     rw[Qe]at h;split at h
     .rename_i hw;split at h
      .obtain⟨v,hK,aB⟩:=QZ h;have aA:=LM hK;rw[<-O a i o v Y ho]at aA;refine N7 (oi:=o) (v:=v) (S:=λ_=>True) ho (Region.noSelect_spec aC) hP fuel e listed a w (Region.free_spec ho T) K u (.inl ⟨hw,λw' _=> ?_⟩) trivial J ?_
       .have:=aB w';rwa[Hn]at this
       .exact N6 _ _ _ _ _ _ (ih _ _ _ w (K.set u) (by rw[Gk];exact Y) (ha.trans (Eg.put (hd i o ho))) J aA)
      .obtain⟨v,S,hK,hS,aB⟩:=Qd h;have aA:=LM hK;rw[<-O a i o v Y ho]at aA;refine N7 (oi:=o) (v:=v) (S:=S) ho (Region.noSelect_spec aC) hP fuel e listed a w (Region.free_spec ho T) K u (.inl ⟨hw,λw' aJ=> ?_⟩) hS J ?_
       .have:=aB w' aJ;rwa[Hn]at this
       .refine ih ((i,S)::e) _ _ w (K.set u) (by rw[Gk];exact Y) (ha.trans (Eg.put (hd i o ho))) ?_ aA
        grind
      grind
     .rename_i hw;rw[<-O a i o undef Y ho]at h;have h1:=ih e _ _ w (K.set u) (by rw[Gk];exact Y) (ha.trans (Eg.put (hd i o ho))) J h;refine N7 (oi:=o) (v:=undef) (S:=λ_=>True) ho (Region.noSelect_spec aC) hP fuel e listed a w (Region.free_spec ho T) K u (.inr ⟨by omega,rfl⟩) trivial J ?_;exact N6 _ _ _ _ _ _ h1
    .exact h.elim
   .refine⟨λh0=>(by rw[hr]at h0;cases h0),λi hi=> ?_⟩;rw[hr]at hi;have h1:=UG h i hi;split at h1
    .rename_i o ho;have aN:I1 ops i=KG ops o:=by simp[I1,ho]
     have aH:MS ops (listed.setIfInBounds i true):=K.set (by rw[hr];exact hi);suffices hgoal:wpOp P ops QQ i (λa' w'=>(∀p∈keepFam (KG ops o) e,p.2 w')/\
       Km P ops QQ fuel (keepFam (KG ops o) e) (listed.setIfInBounds i true) a' w') a w by grind
     unfold wpOp;rw[ho];show(if _ then _ else _);rw[Qe]at h1;split at h1
     .rename_i hw;rw[if_pos hw];have hg:=LL hC hG (λ_=>rfl) (o:=o) h1;rw[Hn]at hg;refine .inl (Pt hg (λv w' hK=> ?_) λ_ _ f=>f.elim);obtain⟨hk,h2⟩:=Qg hK;have h3:=LM h2;rw[<-O a i o v Y ho]at h3;exact⟨hk,ih _ _ _ w' aH (by rw[Gk];exact Y) (ha.trans (Eg.put (hd i o ho))) hk h3⟩
     .rename_i hw;rw[if_neg (by simp[hw])];rw[<-O a i o undef Y ho]at h1;have hk: ∀p∈keepFam (KG ops o) e,p.2 w:=λp hp=>J p (JN _ _ _ hp);exact⟨hk,ih _ _ _ w aH (by rw[Gk];exact Y) (ha.trans (Eg.put (hd i o ho))) hk h1⟩
    grind
structure Ni where
  loops:List (Nat×uY)
  L1:List (Nat×uY)
def look{α:Type}:List (Nat×α)->Nat->Option α
  | [],_=>none
  | (k,x)::r,n=>bif Nat.beq k n then some x else look r n
def orElse{α:Type}:Option α->Option α->Option α
  | some x,_=>some x
  | none,y=>y
def firstR:Code->Option Nat
  | .region id _ _=>some id
  | .seq a b=>orElse (firstR a) (firstR b)
  | .cond _ a b=>orElse (firstR a) (firstR b)
  | .block _ c=>firstR c
  | .loop c=>firstR c
  | .scope c=>firstR c
  | _=>none
def written:Code->List Nat
  | .region _ ops _=>dsts ops.toList
  | .seq a b=>written a++written b
  | .cond _ a b=>written a++written b
  | .block _ c=>written c
  | .loop c=>written c
  | .scope c=>written c
  | _=>[]
abbrev Post:=Exit->Fr->World->Prop
def Post.then(K:Fr->World->Prop)(Q:Post):Post:=λe f w=>match e with
  | .normal=>K f w
  | e=>Q e f w
def Post.inBlock(id:Nat)(Q:Post):Post:=λe f w=>match e with
  | .exit k=>match Nat.beq k id with
    | true=>Q .normal f w
    | false=>Q (.exit k) f w
  | e=>Q e f w
def Post.noGoto(Q:Post):Post:=λe f w=>match e with
  | .goto _=>False
  | e=>Q e f w
def BK(σ:Type)(s0:σ)(w0:World)(body:σ->(Nat->Value)->World->(σ->World->Prop)->Prop):Prop:=
  ∃(I:σ->World->Prop) (μ:σ->World->Nat),I s0 w0/\ ∀s j w,I s w->body s j w λs' w'=>I s' w'/\μ s' w'<μ s w
def At(σ:Type)(first:(σ->World->Prop)->Prop)(rest:σ->(Nat->Value)->World->Prop):Prop:=
  ∃J:σ->World->Prop,first J/\ ∀s j w,J s w->rest s j w
def ev(P:Program)(C G:CP)(A:Ni):Code->Post->Fr->World->Prop
  | .skip,Q,f,w=>Q .normal f w
  | .ret,Q,f,w=>Q .ret f w
  | .exit id,Q,f,w=>Q (.exit id) f w
  | .region _ ops d,Q,f,w=>match d with
    | false=>evOps P C G ops (Q .normal) (λf v w=>Q (.panic [{v:=v,recovered:=false}]) f w) 0 ops.toList f w
    | true=>match Region.noSelect ops with
      | true=>evDraw P C G ops (Q .normal) ops.size [] (Array.replicate ops.size false) f w.drew
      | false=>False
  | .seq x y,Q,f,w=>match(firstR y).bind (look A.L1)with
    | none=>ev P C G A x (Post.then (ev P C G A y Q) Q) f w
    | some l=>At (St l) (λJ=>ev P C G A x (Post.then (λf' w'=>Fr.get l f' λs=>J s w') Q) f w)
        λs j w'=>ev P C G A y Q (Fr.set l s (f.TW (written x) j)) w'
  | .cond c x y,Q,f,w=>match f.ev c with
    | .bool b=>CND b (ev P C G A x Q f w) (ev P C G A y Q f w)
    | _=>False
  | .block id c,Q,f,w=>ev P C G A c (Post.inBlock id Q) f w
  | .scope c,Q,f,w=>ev P C G A c (Post.noGoto Q) f w
  | .label _,Q,f,w=>Q .normal f w
  | .loop c,Q,f,w=>match(firstR c).bind (look A.loops)with
    | none=>False
    | some l=>Fr.get l f λs=>BK (St l) s w λs j w' next=>
        ev P C G A c (Post.then (λf' a=>Fr.get l f' λs'=>next s' a) Q) (Fr.set l s (f.TW (written c) j)) w'
  | _,_,_,_=>False
def lift(n:Nat)(W:List Nat)(a0:Act)(Q:Post):Exit->Act->World->Prop
  | .outgrown,_,_=>False
  | e,a,w=>a.tmps.size=n/\Eg W a0 a/\Q e (BZ a) w
def calmQ(Q:Post):Post:=λe f w=>match e with
  | .panic _=>False
  | e=>Q e f w
def JO{n:Nat}{W V:List Nat}{a0:Act}{Q:Post}(h: ∀t,t∈W->t∈V)(e:Exit)(a:Act)(w:World)(j:lift n W a0 Q e a w):lift n V a0 Q e a w:=by
  cases e<;>simp only[lift]at j⊢ <;>first
    | exact j
    | exact⟨j.1,j.2.1.mono h,j.2.2⟩
def N8: ∀{l:List Oper} {o:Oper} {d:Nat},o∈l->o.dst=some d->d∈dsts l
  | [],o,d,h,_=>by cases h
  | p::r,o,d,h,hd=>by
    unfold dsts;rcases List.mem_cons.1 h with rfl|h
    . rw[hd];simp
    . have:=N8 h hd
      grind
def Er{P:Program}{C G:CP}(hC:Fits P C)(O:Fits P G)(hm:P.follows .mixedOrders=true){A:Ni}{n:Nat}:
    ∀(c:Code),within n (written c)-> ∀(Q:Post) (a:Act) (w:World),a.tmps.size=n->ev P C G A c Q (BZ a) w->c.wp P (lift n (written c) a Q) a w
  | .skip,_,Q,a,w,hn,h=>wp_skip ⟨hn,.refl _ _,h⟩
  | .ret,_,Q,a,w,hn,h=>wp_ret ⟨hn,.refl _ _,h⟩
  | .exit id,_,Q,a,w,hn,h=>wp_exit ⟨hn,.refl _ _,h⟩
  | .region id ops d,hW,Q,a,w,hn,h=>by
    have hd: ∀(i:Nat) o,ops[i]? =some o-> ∀d,o.dst=some d->d∈dsts ops.toList:=λi o ho d hd=>
      N8 (Array.mem_toList_iff.2 (Array.mem_of_getElem? ho)) hd
    unfold ev at h;split at h
    . refine wp_region_list ?_;exact N5 hC O hW (Q .normal) (λf v w=>Q (.panic [{v:=v,recovered:=false}]) f w) _ a (λu w' Y ha hq=>⟨Y,ha,hq⟩) (λu v w' Y ha hq=>⟨Y,ha,hq⟩) ops.toList 0 a w (λo ho d hd=>N8 ho hd) hn (.refl _ _) h
    . split at h
      . rename_i hs;refine Code.wp_mono (Q:=lift n (dsts ops.toList) a (calmQ Q)) (λe u w' j=> ?_) (wp_region_any hm (UF _ [] _ _ _ ?_))
        . cases e<;>simp only[lift,calmQ]at j⊢ <;>first
            | exact j
            | grind
        exact Xa hC O hW hd hs (Q .normal) (lift n (dsts ops.toList) a (calmQ Q)) (λc a w h=>h.2.2) a (λu w' Y ha hq=>⟨Y,ha,hq⟩) ops.size [] _ a _ (λk o hk j=>by
          have aJ:=(Array.getElem?_eq_some_iff.1 hk).1;rw[Array.getD_eq_getD_getElem?,Array.getElem?_replicate,if_pos aJ]at j;cases j) hn (.refl _ _) (by simp) h
      grind
  | .seq x y,hW,Q,a,w,hn,h=>by
    have aB:within n (written x):=λt ht=>hW t (by simp[written,ht]);have aC:within n (written y):=λt ht=>hW t (by simp[written,ht]);unfold ev at h;split at h
    . refine wp_seq (Code.wp_mono (λe u w' j=> ?_) (Er hC O hm x aB _ a w hn h));cases e<;>simp only[lift,Exit.then,Post.then]at j⊢ <;>first
        | exact j.elim
        | exact⟨j.1,j.2.1.mono (by simp[written];grind),j.2.2⟩
        | (refine Code.wp_mono (λe aG K aI=> ?_) (Er hC O hm y aC Q u w' j.1 j.2.2)
           have h1:=JO (V:=written (.seq x y)) (by simp[written];grind) e aG K aI;have h2:Eg (written (.seq x y)) a u:=j.2.1.mono (by simp[written];grind);cases e<;>simp only[lift]at h1⊢ <;>first
             | exact h1
             | exact⟨h1.1,h2.trans h1.2.1,h1.2.2⟩)
    . rename_i l hl0;obtain⟨J,h1,h2⟩:=h;refine wp_seq (Code.wp_mono (λe u w' j=> ?_) (Er hC O hm x aB _ a w hn h1));cases e<;>simp only[lift,Exit.then,Post.then]at j⊢ <;>first
        | exact j.elim
        | exact⟨j.1,j.2.1.mono (by simp[written];grind),j.2.2⟩
        | (obtain⟨s,hs,hJ⟩:=KQ j.2.2
           have h3:ev P C G A y Q (Fr.set l s ((BZ a).TW (written x) (BZ u))) w':=h2 s (BZ u) w' hJ;rw[KR hs (λt ht=>j.2.1.out t ht)]at h3;refine Code.wp_mono (λe aG K aI=> ?_) (Er hC O hm y aC Q u w' j.1 h3);have h1:=JO (V:=written (.seq x y)) (by simp[written];grind) e aG K aI;have h2:Eg (written (.seq x y)) a u:=j.2.1.mono (by simp[written];grind);cases e<;>simp only[lift]at h1⊢ <;>first
             | exact h1
             | exact⟨h1.1,h2.trans h1.2.1,h1.2.2⟩)
  | .cond c x y,hW,Q,a,w,hn,h=>by
    have aB:within n (written x):=λt ht=>hW t (by simp[written,ht]);have aC:within n (written y):=λt ht=>hW t (by simp[written,ht]);unfold ev at h;split at h
    . rename_i b hb;rw[Jw]at hb;cases b
      . refine wp_cond_false hb (Code.wp_mono (λe u w' j=> ?_) (Er hC O hm y aC _ a w hn h));exact JO (by simp[written];grind) e u w' j
      . refine wp_cond_true hb (Code.wp_mono (λe u w' j=> ?_) (Er hC O hm x aB _ a w hn h));exact JO (by simp[written];grind) e u w' j
    grind
  | .block id c,hW,Q,a,w,hn,h=>by
    refine wp_block (Code.wp_mono (λe u w' j=> ?_) (Er hC O hm c hW _ a w hn h));cases e<;>simp only[lift,Exit.inBlock,Post.inBlock]at j⊢ <;>first
      | exact j
      | skip
    rename_i k;obtain⟨h1,h2,h3⟩:=j;split at h3
    . rename_i e;have:=Nat.eq_of_beq_eq_true e;subst this;rw[if_pos rfl];exact⟨h1,h2,h3⟩
    . rename_i e;rw[if_neg (by intro e';subst e';simp at e)];exact⟨h1,h2,h3⟩
  | .loop c,hW,Q,a,w,hn,h=>by
    unfold ev at h;split at h
    . exact h.elim
    . rename_i l hl0;obtain⟨s0,aS,I,μ,h0,aD⟩:=KQ h;have key:(Code.loop c).wp P (lift n (written c) a Q) a w:=by
        refine wp_loop (λu w'=>u.tmps.size=n/\Eg (written c) a u/\ ∃s,Lw l s (BZ u)/\I s w')
          (λu w'=> @dite Nat (∃s,Lw l s (BZ u)/\I s w') (Classical.propDecidable _) (λh=>μ (Classical.choose h) w') (λ_=>0)) ⟨hn,.refl _ _,s0,aS,h0⟩ ?_
        intro a1 w1 hI;obtain⟨aQ,aH,s,hs,hi⟩:=hI;have hex: ∃s,Lw l s (BZ a1)/\I s w1:=⟨s,hs,hi⟩;have hc:=Classical.choose_spec hex;have hr:ev P C G A c (Post.then (λf' K=>Fr.get l f' λs'=>I s' K/\μ s' K<μ (Classical.choose hex) w1) Q) (Fr.set l (Classical.choose hex) ((BZ a).TW (written c) (BZ a1))) w1:=aD (Classical.choose hex) (BZ a1) w1 hc.2;rw[KR hc.1 (λt ht=>aH.out t ht)]at hr;refine Code.wp_mono (λe a2 w2 j=> ?_) (Er hC O hm c hW _ a1 w1 aQ hr);cases e<;>simp only[lift,Exit.then,Post.then]at j⊢ <;>first
          | exact j.elim
          | exact⟨j.1,aH.trans j.2.1,j.2.2⟩
          | skip
        obtain⟨aR,aO,h3⟩:=j;obtain⟨s',aN,aP,aJ⟩:=KQ h3;have T: ∃s,Lw l s (BZ a2)/\I s w2:=⟨s',aN,aP⟩;refine⟨⟨aR,aH.trans aO,T⟩,?_⟩;rw[dif_pos T,dif_pos hex];rw[Rv (Classical.choose_spec T).1 aN];exact aJ
      exact key
  | .rangeFunc _ _ _ _,_,_,_,_,_,h=>by simp[ev]at h
  | .scope c,hW,Q,a,w,hn,h=>by
    refine wp_scope_straight (Code.wp_mono (λe u w' j=> ?_) (Er hC O hm c hW _ a w hn h));cases e<;>simp only[lift,Exit.noGoto,Post.noGoto]at j⊢ <;>first
      | exact j
      | grind
  | .label _,_,Q,a,w,hn,h=>wp_label ⟨hn,.refl _ _,h⟩
  | .goto _,_,_,_,_,_,h=>by simp[ev]at h
  | .refuse _,_,_,_,_,_,h=>by simp[ev]at h
def evRes(P:Program):List ResultVar->Fr->World->(List Value->Prop)->Prop
  | [],_,_,K=>K []
  | .tmp t::r,f,w,K=>evRes P r f w λl=>K (f t::l)
  | .cell a ty::r,f,w,K=>match f a with
    | .pointer p=>NC p λp=>cM P ty p w λv _=>evRes P r f w λl=>K (v::l)
    | _=>False
def resV:List Value->Value
  | [v]=>v
  | l=>.tuple ⟨l⟩
def nthV:List Value->Nat->Value
  | [],_=>undef
  | v::_,0=>v
  | _::r,n+1=>nthV r n
def FA(args:List Value):Fr:=λt=>nthV args t
def finQ(P:Program)(fn:Func)(K Kp:Value->World->Prop):Post:=λe f w=>match e with
  | .normal=>evRes P fn.results.toList f w λl=>K (resV l) w
  | .ret=>evRes P fn.results.toList f w λl=>K (resV l) w
  | .panic [⟨v,false,false⟩]=>Kp v w
  | _=>False
def withinB(n:Nat):List Nat->Bool
  | []=>true
  | t::r=>match Nat.ble (t+1) n with
    | true=>withinB n r
    | false=>false
def IM{n:Nat}:{W:List Nat}->withinB n W=true->within n W
  | [],_=>by intro t a;cases a
  | t::r,h=>by
    unfold withinB at h;split at h
    . rename_i hle;intro u hu;rcases List.mem_cons.1 hu with rfl|hu
      . have:=Nat.le_of_ble_eq_true hle;omega
      . exact IM h u hu
    . cases h
def Xb: ∀(l:List Value) (t:Nat),nthV l t=(l[t]?).getD undef
  | [],t=>by simp[nthV]
  | v::r,0=>by simp[nthV]
  | v::r,n+1=>by simp[nthV,Xb r n]
def resOne(tmps:Array Value):ResultVar->Sem Value
  | .tmp t=>pure (tmps.getD t undef)
  | .cell a t=>do loadVar t (<-asAddr (tmps.getD a undef))
def Pv{P:Program}{a:Act}{w:World}:{rs:List ResultVar}->{K:List Value->Prop}->evRes P rs (BZ a) w K->
    ∃l,K l/\(rs.mapM (resOne a.tmps)).run P w= .ok l w
  | [],K,h=>⟨[],h,by simp⟩
  | .tmp t::r,K,h=>by
    unfold evRes at h;obtain⟨l,e,u⟩:=Pv h;exact⟨_,e,by simp only[List.mapM_cons,Sem.run_bind,resOne,Sem.run_pure,Result.andThen_ok,u];rfl⟩
  | .cell p ty::r,K,h=>by
    unfold evRes at h;split at h
    . rename_i q hq;obtain⟨T,rfl,J⟩:=G4 h;obtain⟨v,S,h1,hS,O⟩:=Si J;obtain⟨l,e,u⟩:=Pv h1;have j:a.tmps.getD p undef= .pointer (some T):=hq;exact⟨_,e,by simp only[List.mapM_cons,Sem.run_bind,resOne,j,asAddr,Sem.run_pure,Result.andThen_ok,O w hS,u]⟩
    grind
def GS{P:Program}{fn:Func}{a:Act}{w:World}{K:List Value->Prop}(h:evRes P fn.results.toList (BZ a) w K):
    ∃l,K l/\(results fn a.tmps).run P w= .ok (resV l) w:=by
  obtain⟨l,e,j⟩:=Pv h;refine⟨l,e,?_⟩;have he:results fn a.tmps=(do let vs <-fn.results.mapM (resOne a.tmps);pure (if h:vs.size=1 then vs[0]else .tuple vs)):=by
    unfold results;congr 2
  rw[he,Array.mapM_eq_mapM_toList];simp only[Sem.run_bind,Sem.run_map,j,Result.andThen_ok,Sem.run_pure];congr 1
  match l with
  | []=>simp[resV]
  | [v]=>simp[resV]
  | v::u::r=>simp[resV]
def ZO{P:Program}{C G:CP}{A:Ni}{fn:Func}{c:Code}{args:List Value}{w:World}{K Kp:Value->World->Prop}
    (hC:Fits P C)(T:Fits P G)(hm:P.follows .mixedOrders=true)(J:Nat.ble args.length fn.ntmps=true)
    (hW:withinB fn.ntmps (written c)=true)(h:ev P C G A c (finQ P fn K Kp) (FA args) w):
    c.wp P (bodyPost P fn (Ends K Kp)) {tmps:=(⟨args⟩:Array Value)++Array.replicate (fn.ntmps-(⟨args⟩:Array Value).size) undef,defers:=[]} w:=by
  have O:=Nat.le_of_ble_eq_true J;have h0:BZ ⟨(⟨args⟩:Array Value)++Array.replicate (fn.ntmps-args.length) undef,[]⟩=FA args:=by
    funext t;simp only[BZ,FA,Xb,Array.getD_eq_getD_getElem?,Array.getElem?_append]
    grind
  have hn:((⟨args⟩:Array Value)++Array.replicate (fn.ntmps-args.length) undef).size=fn.ntmps:=by simp;omega
  rw[<-h0]at h;refine Code.wp_mono (λe a' w' a=> ?_) (Er hC T hm c (IM hW) _ _ w hn h);cases e<;>simp only[lift,finQ,bodyPost]at a⊢ <;>first
    | exact a.elim
    | exact a.2.2.elim
    | (obtain⟨_,u,j⟩:=a
       obtain⟨l,Y,hr⟩:=GS j;exact⟨u.defers,_,hr,.inl ⟨_,rfl,Y⟩⟩)
    | (obtain⟨_,u,j⟩:=a
       split at j
       . grind
       . grind
       . rename_i v he;cases he;exact⟨u.defers,.inr ⟨_,rfl,j⟩⟩
       grind)
def ZP{P:Program}{C G:CP}{A:Ni}{f:FuncId}{fn:Func}{c:Code}{args:List Value}{w:World}{K Kp:Value->World->Prop}
    (hC:Fits P C)(e:Fits P G)(hm:P.follows .mixedOrders=true)(v:P.funcs[f]? =some fn)(u:fn.body=some c)(a:Nat.ble args.length fn.ntmps=true)
    (j:withinB fn.ntmps (written c)=true)(h:ev P C G A c (finQ P fn K Kp) (FA args) w):
    Calls P f ⟨args⟩ w (Ends K Kp):=calls_of_wp v u (ZO hC e hm a j h)
def Fq:List VT->Type
  | []=>Unit
  | t::r=>kY t×Fq r
def mkArgs:(l:List VT)->Fq l->List Value
  | [],_=>[]
  | t::r,x=>mkVT t x.1::mkArgs r x.2
def unArgs:(l:List VT)->List Value->(Fq l->Prop)->Prop
  | [],[],K=>K ()
  | t::r,v::vs,K=>unVT t v λx=>unArgs r vs λy=>K (x,y)
  | _,_,_=>False
def CE:{l:List VT}->{vs:List Value}->{K:Fq l->Prop}->unArgs l vs K-> ∃x,vs=mkArgs l x/\K x
  | [],[],_,h=>⟨(),rfl,h⟩
  | [],_::_,_,h=>h.elim
  | _::_,[],_,h=>h.elim
  | t::r,v::vs,K,h=>by
    simp only[unArgs]at h;obtain⟨x,rfl,a⟩:=Ru h;obtain⟨y,rfl,e⟩:=CE a;exact⟨(x,y),rfl,e⟩
def GU:{l:List VT}->{x:Fq l}->(mkArgs l x).length=l.length
  | [],_=>rfl
  | t::r,x=>by simp[mkArgs,GU]
abbrev Entry:=Array Value->World->(Value->World->Prop)->(Value->World->Prop)->Prop
def Dn(P:Program)(g:FuncId)(c:Entry):Prop:= ∀args w K Kp,c args w K Kp->
  (∀w,(callFunc g args).run P w= .ok (.enter g args) w)/\Calls P g args w (Ends K Kp)
def EZ(P:Program)(g:FuncId)(c:Entry):Prop:= ∀args w K Kp,c args w K Kp->
  ((∀w,(callFunc g args).run P w= .ok (.enter g args) w)/\Calls P g args w (Ends K Kp))∨ ∃v w',(callFunc g args).run P w= .ok (.value v) w'/\K v w'
def Dn.any{P:Program}{g:FuncId}{c:Entry}(h:Dn P g c):EZ P g c:=λargs w K Kp a=>.inl (h args w K Kp a)
def UH{P:Program}{f:FuncId}{fn:Func}{e:Array Value->Sem Value}(O:P.funcs[f]? =some fn)(a:(fn.name== "runtime.NumGoroutine")=false)(u:fn.body.isNone=true)(T:Extern.findNext fn=none)(he:Extern.find fn=some e)
    {c:Entry}(J: ∀args w K Kp,c args w K Kp-> ∃v,(e args).run P w= .ok v w/\K v w):EZ P f c:=λargs w K Kp h=>by
  obtain⟨v,h1,j⟩:=J args w K Kp h;refine .inr ⟨v,w,?_,j⟩;rw[run_callFunc_extern O a u T he,h1];rfl
def tabC(l:List (Nat×Entry)):CP:=λg args w K Kp=>match look l g with
  | some c=>c args w K Kp
  | none=>False
def UI{α:Type}:{l:List (Nat×α)}->{g:Nat}->{c:α}->look l g=some c->(g,c)∈l
  | [],_,_,h=>by simp[look]at h
  | (k,x)::r,g,c,h=>by
    simp only[look,cond_eq_ite]at h;by_cases e:Nat.beq k g=true
    . rw[if_pos e]at h;have:=Nat.eq_of_beq_eq_true e
      grind
    . rw[if_neg e]at h;exact List.mem_cons_of_mem _ (UI h)
def LC{P:Program}{l:List (Nat×Entry)}(h: ∀p∈l,EZ P p.1 p.2):Fits P (tabC l):=by
  intro g args w K Kp a;unfold tabC at a;split at a
  . rename_i c hl;exact h _ (UI hl) args w K Kp a
  grind
def Ho{P:Program}: ∀p∈([]:List (Nat×Entry)),EZ P p.1 p.2:=by simp
def UJ{P:Program}{g:Nat}{c:Entry}{l:List (Nat×Entry)}(h:EZ P g c)(a: ∀p∈l,EZ P p.1 p.2): ∀p∈(g,c)::l,EZ P p.1 p.2:=by grind
def BU{P:Program}{g:Nat}{c:Entry}{l:List (Nat×Entry)}(h:Dn P g c)(a: ∀p∈l,EZ P p.1 p.2): ∀p∈(g,c)::l,EZ P p.1 p.2:=UJ h.any a
def ground(P:Program):CP:=λg args w K Kp=>
  (∀w,(callFunc g args).run P w= .ok (.enter g args) w)/\Calls P g args w (Ends K Kp)
def JP(P:Program):Fits P (ground P):=λ_ _ _ _ _ h=>.inl h
def Sl{P:Program}{T:List (Nat×Entry)}{A:Ni}{f:FuncId}{fn:Func}{c:Code}{l:List VT}{F:Fq l->(Value->World->Prop)->(Value->World->Prop)->World->Prop}
    (hT: ∀p∈T,EZ P p.1 p.2)(hm:P.follows .mixedOrders=true)(Y:P.funcs[f]? =some fn)(a: ∀args w,(callFunc f args).run P w= .ok (.enter f args) w)
    (O:fn.body=some c)(j:Nat.ble l.length fn.ntmps=true)(v:withinB fn.ntmps (written c)=true)
    (e: ∀x K Kp w,F x K Kp w=ev P (tabC T) (ground P) A c (finQ P fn K Kp) (FA (mkArgs l x)) w):
    Dn P f λargs w K Kp=>unArgs l args.toList λx=>F x K Kp w:=by
  intro args w K Kp h;obtain⟨x,hx,u⟩:=CE h;have J:args=⟨mkArgs l x⟩:=Array.toList_inj.1 (by omega);subst J;refine⟨λw=>a _ w,?_⟩;rw[e]at u;exact ZP (LC hT) (JP P) hm Y O (by rw[GU];exact j) v u
abbrev Qh:=FuncId->Array Value->Option Value->World->(Bool->World->Prop)->Prop
abbrev MT:=Array Value->Option Value->World->(Bool->World->Prop)->Prop
def modeOf:Option Value->FrameMode
  | none=>.returning
  | some v=>.panicking [{v:=v,recovered:=false}]
def UK:Option Value->Bool->FrameMode
  | none,_=>.returning
  | some v,b=>.panicking [{v:=v,recovered:=b}]
def Hp(P:Program)(g:FuncId)(c:MT):Prop:= ∀args pv w K,c args pv w K->
  (∀w,(callFunc g args).run P w= .ok (.enter g args) w)/\CallsD P g args (modeOf pv) w λe a w'=> ∃v b,e= .returned v/\K b w'/\a=UK pv b
def z9(P:Program)(C:Qh):Prop:= ∀g args pv w K,C g args pv w K->
  (∀w,(callFunc g args).run P w= .ok (.enter g args) w)/\CallsD P g args (modeOf pv) w λe a w'=> ∃v b,e= .returned v/\K b w'/\a=UK pv b
def tabD(l:List (Nat×MT)):Qh:=λg args pv w K=>match look l g with
  | some c=>c args pv w K
  | none=>False
def k9{P:Program}{l:List (Nat×MT)}(h: ∀p∈l,Hp P p.1 p.2):z9 P (tabD l):=by
  intro g args pv w K a;unfold tabD at a;split at a
  . rename_i c hl;exact h _ (UI hl) args pv w K a
  grind
def Rx{P:Program}: ∀p∈([]:List (Nat×MT)),Hp P p.1 p.2:=by simp
def Pw{P:Program}{g:Nat}{c:MT}{l:List (Nat×MT)}(h:Hp P g c)(a: ∀p∈l,Hp P p.1 p.2): ∀p∈(g,c)::l,Hp P p.1 p.2:=by grind
def ZQ{P:Program}{T:List (Nat×Entry)}{A:Ni}{f:FuncId}{fn:Func}{c:Code}{l:List VT}{F:Fq l->(World->Prop)->World->Prop}
    (hT: ∀p∈T,EZ P p.1 p.2)(hm:P.follows .mixedOrders=true)(hf:P.funcs[f]? =some fn)(a: ∀args w,(callFunc f args).run P w= .ok (.enter f args) w)
    (hb:fn.body=some c)(u:Nat.ble l.length fn.ntmps=true)(Y:withinB fn.ntmps (written c)=true)
    (j: ∀x K w,F x K w=ev P (tabC T) (ground P) A c (finQ P fn (λ_ w'=>K w') Fi) (FA (mkArgs l x)) w):
    Hp P f λargs _ w K=>unArgs l args.toList λx=>F x (K false) w:=by
  intro args pv w K h;obtain⟨x,hx,J⟩:=CE h;have ha:args=⟨mkArgs l x⟩:=Array.toList_inj.1 (by omega);subst ha;refine⟨λw=>a _ w,?_⟩;rw[j]at J;refine(callsD_of_wp hf hb (ZO (LC hT) (JP P) hm (by rw[GU];exact u) Y J)).mono ?_;rintro e u' w' ⟨rfl,hE⟩;obtain⟨v,rfl,O⟩:=hE.val;refine⟨v,false,rfl,O,?_⟩;cases pv<;>rfl
def recOf:Code->Option (Nat×Code)
  | .seq (.region _ ops false) y=>match ops.toList with
    | [o]=>match o.op with
      | .call c=>match c.callee with
        | .builtin .recover=>match o.guard,o.dst with
          | none,some d=>some (d,y)
          | _,_=>none
        | _=>none
      | _=>none
    | _=>none
  | _=>none
def cT{c:Code}{d:Nat}{y:Code}(h:recOf c=some (d,y)):
    ∃id o k,c= .seq (.region id #[o] false) y/\o.op= .call k/\k.callee= .builtin .recover/\o.guard=none/\o.dst=some d:=by
  unfold recOf at h;split at h
  . rename_i id ops y';split at h
    . rename_i o ho;split at h
      . rename_i k hk;split at h
        . rename_i hb;split at h
          . rename_i hg hd;cases h;have:ops= #[o]:=Array.toList_inj.1 (by omega);subst this
            grind
          . cases h
        . cases h
      . cases h
    . cases h
  . cases h
def Qi{args:List Value}{n:Nat}:BZ ⟨(⟨args⟩:Array Value)++Array.replicate (n-args.length) undef,[]⟩=FA args:=by
  funext t;simp only[BZ,FA,Xb,Array.getD_eq_getD_getElem?,Array.getElem?_append]
  grind
def Wf{P:Program}{T:List (Nat×Entry)}{A:Ni}{f:FuncId}{fn:Func}{c y:Code}{d:Nat}{l:List VT}{F:Fq l->Value->(World->Prop)->World->Prop}
    (hT: ∀p∈T,EZ P p.1 p.2)(hm:P.follows .mixedOrders=true)(hf:P.funcs[f]? =some fn)(u: ∀args w,(callFunc f args).run P w= .ok (.enter f args) w)
    (hb:fn.body=some c)(aD:recOf c=some (d,y))(aP:Nat.ble l.length fn.ntmps=true)(hd:Nat.ble (d+1) fn.ntmps=true)(hW:withinB fn.ntmps (written y)=true)
    (aG: ∀x v K w,F x v K w=ev P (tabC T) (ground P) A y (finQ P fn (λ_ w'=>K w') Fi) ((FA (mkArgs l x)).put d v) w):
    Hp P f λargs pv w K=>unArgs l args.toList λx=>F x (pv.getD .nilIface) (K pv.isSome) w:=by
  intro args pv w K h;obtain⟨x,hx,h2⟩:=CE h;have ha:args=⟨mkArgs l x⟩:=Array.toList_inj.1 (by omega);subst ha;refine⟨λw=>u _ w,?_⟩;rw[aG]at h2;obtain⟨id,o,k,rfl,ho,hk,hg,aA⟩:=cT aD;have aF:=Nat.le_of_ble_eq_true aP;have aX:=Nat.le_of_ble_eq_true hd;rw[<-GU (x:=x)]at aF;refine callsD_of_wpS hf hb λj cs J=>wpS_seq (wpS_region ?_);have hn:((⟨mkArgs l x⟩:Array Value)++Array.replicate (fn.ntmps-(⟨mkArgs l x⟩:Array Value).size) undef).size=fn.ntmps:=by simp;omega
  generalize hA:({tmps:=(⟨mkArgs l x⟩:Array Value)++Array.replicate (fn.ntmps-(⟨mkArgs l x⟩:Array Value).size) undef,defers:=[]}:Act)=a0;have aK:BZ a0=FA (mkArgs l x):=by rw[<-hA];exact Qi
  have aM:a0.tmps.size=fn.ntmps:=by grind
  have aL:a0.defers=[]:=by rw[<-hA]
  have aE:(execOp a0.eval o).run P w= .ok .recover w:=by
    obtain⟨dst,op,type,pos,after,guard⟩:=o;obtain⟨callee,aI,aT⟩:=k;simp only at ho hk;subst ho;subst hk;simp[execOp,resolve,invoke,builtin]
  have O:Region.wanted o (yielded #[o] a0.tmps)=true:=by simp[Region.wanted,hg]
  have key: ∀(a:List Frame) (v:Value),ev P (tabC T) (ground P) A y (finQ P fn (λ_ w'=>K pv.isSome w') Fi) ((FA (mkArgs l x)).put d v) w->
      (∃Y,a={j with mode:=Y}::cs/\Y=UK pv pv.isSome)->
      wpOpsS P #[o] (Exit.thenS (y.wpS P (bodyPostS P fn j cs λe Y w'=> ∃v b,e= .returned v/\K b w'/\Y=UK pv b)) (bodyPostS P fn j cs λe Y w'=> ∃v b,e= .returned v/\K b w'/\Y=UK pv b)) [] (a0.put o.dst v) a w:=by
    rintro a v aB ⟨Y,aW,hu⟩;show y.wpS P _ (a0.put o.dst v) a w;refine wpS_of_wp ?_;have aO:BZ (a0.put o.dst v)=(FA (mkArgs l x)).put d v:=by rw[aA,T6 (by omega),aK]
    rw[<-aO]at aB;refine Code.wp_mono (λe a' w' hl=> ?_) (Er (LC hT) (JP P) hm y (IM hW) _ _ w (by rw[Gk];exact aM) aB);have aR: ∀{W},Eg W (a0.put o.dst v) a'->a'.defers=[]:=λh=>by rw[h.defers,M8,aL]
    cases e<;>simp only[lift,finQ,bodyPostS]at hl⊢ <;>first
      | exact hl.elim
      | exact hl.2.2.elim
      | (obtain⟨_,ha,hq⟩:=hl
         obtain⟨r,hK,hr⟩:=GS hq
         grind)
      | (obtain⟨_,ha,hq⟩:=hl
         split at hq
         . grind
         . grind
         . exact hq.elim
         grind)
  show wpOpsS P #[o] _ [0] a0 (j::cs) w;unfold wpOpsS;simp only[List.getElem?_toArray,List.getElem?_cons_zero];rw[if_pos O,aE];cases pv with
  | none=>
    have:recoverD (j::cs)=none:=by simp[recoverD,J,modeOf]
    simp only[this];exact key (j::cs) .nilIface h2 ⟨j.mode,rfl,J⟩
  | some v=>
    have:recoverD (j::cs)=some (v,{j with mode:=.panicking [{v:=v,recovered:=true}]}::cs):=by simp[recoverD,J,modeOf]
    simp only[this];exact key _ v h2 ⟨_,rfl,rfl⟩
def deferOf:Code->Option Call
  | .region _ ops false=>match ops.toList with
    | [o]=>match o.op with
      | .defer c=>match o.guard,o.dst with
        | none,none=>some c
        | _,_=>none
      | _=>none
    | _=>none
  | _=>none
def Xc{x:Code}{c:Call}(h:deferOf x=some c): ∃id o,x= .region id #[o] false/\o.op= .defer c/\o.guard=none/\o.dst=none:=by
  unfold deferOf at h;split at h
  . rename_i id ops;split at h
    . rename_i o ho;split at h
      . rename_i k hk;split at h
        . rename_i hg hd;cases h;have:ops= #[o]:=Array.toList_inj.1 (by omega);subst this
          grind
        . cases h
      . cases h
    . cases h
  . cases h
def deferOf2:Code->Option (Oper×Call)
  | .region _ ops false=>match ops.toList with
    | [o1,o]=>match o.op with
      | .defer c=>match o.guard,o.dst with
        | none,none=>match o1.guard with
          | none=>some (o1,c)
          | _=>none
        | _,_=>none
      | _=>none
    | _=>none
  | _=>none
def V2{x:Code}{o1:Oper}{c:Call}(h:deferOf2 x=some (o1,c)): ∃id o,x= .region id #[o1,o] false/\o.op= .defer c/\o.guard=none/\o.dst=none/\o1.guard=none:=by
  unfold deferOf2 at h;split at h
  . rename_i id ops;split at h
    . rename_i p o ho;split at h
      . rename_i k hk;split at h
        . rename_i hg hd;split at h
          . rename_i hg1;cases h;have:ops= #[_,o]:=Array.toList_inj.1 (by omega);subst this
            grind
          . cases h
        . cases h
      . cases h
    . cases h
  . cases h
def evD(P:Program)(C G:CP)(A:Ni)(a:Post)(e:FuncId->Array Value->Post):Code->Fr->World->Prop
  | .seq x y,f,w=>match deferOf x with
    | some c=>match c.callee with
      | .value v=>match f.ev v with
        | .func (.func g) first cap=>ev P C G A y (e g ((first++c.args.map f.ev)++cap)) f w
        | _=>False
      | _=>False
    | none=>match deferOf2 x with
      | some (o1,c)=>cS P C G o1.op o1.type f.ev w (λu w'=>match c.callee with
        | .value v=>match(f.Lq o1.dst u).ev v with
          | .func (.func g) first cap=>ev P C G A y (e g ((first++c.args.map (f.Lq o1.dst u).ev)++cap)) (f.Lq o1.dst u) w'
          | _=>False
        | _=>False) λ_ _=>False
      | none=>match(firstR y).bind (look A.L1)with
        | none=>ev P C G A x (Post.then (evD P C G A a e y) a) f w
        | some l=>At (St l) (λJ=>ev P C G A x (Post.then (λf' w'=>Fr.get l f' λs=>J s w') a) f w)
            λs j w'=>evD P C G A a e y (Fr.set l s (f.TW (written x) j)) w'
  | c,f,w=>ev P C G A c a f w
def liftD(n:Nat)(j:Post)(u:FuncId->Array Value->Post):Exit->Act->World->Prop
  | .outgrown,_,_=>False
  | e,a,w=>a.tmps.size=n/\((a.defers=[]/\j e (BZ a) w)∨ ∃g cap args,a.defers=[⟨.fn (.func g) cap,args⟩]/\u g (args++cap) e (BZ a) w)
def lA{P:Program}{C G:CP}(hC:Fits P C)(hG:Fits P G)(hm:P.follows .mixedOrders=true){A:Ni}{n:Nat}{Q0:Post}{Q1:FuncId->Array Value->Post}:
    ∀(c:Code),within n (written c)-> ∀(a:Act) (w:World),a.tmps.size=n->a.defers=[]->evD P C G A Q0 Q1 c (BZ a) w->c.wp P (liftD n Q0 Q1) a w:=by
  have plain: ∀(c:Code),within n (written c)-> ∀(a:Act) (w:World),a.tmps.size=n->a.defers=[]->ev P C G A c Q0 (BZ a) w->c.wp P (liftD n Q0 Q1) a w:=by
    intro c hW a w hn hd h;refine Code.wp_mono (λe a' w' j=> ?_) (Er hC hG hm c hW Q0 a w hn h);cases e<;>simp only[lift,liftD]at j⊢ <;>first
      | exact j.elim
      | exact⟨j.1,.inl ⟨by rw[j.2.1.defers,hd],j.2.2⟩⟩
  intro c
  induction c with
  | seq x y _ ihy=>
    intro hW a w hn hd h;have aF:within n (written x):=λt ht=>hW t (by simp[written,ht]);have Y:within n (written y):=λt ht=>hW t (by simp[written,ht]);unfold evD at h;split at h
    . rename_i k hk;obtain⟨id,o,rfl,ho,hg,O⟩:=Xc hk;split at h
      . rename_i v hv;split at h
        . rename_i g first cap hf
          refine wp_seq (wp_region_list ?_);show wpList P #[o] _ [o] a w;unfold wpList;have K:Region.wanted o (yielded #[o] a.tmps)=true:=by simp[Region.wanted,hg]
          rw[if_pos K];refine .inl ?_;have T:(execOp a.eval o).run P w= .ok (.defer ⟨.fn (.func g) cap,first++k.args.map (BZ a).ev⟩) w:=by
            obtain⟨dst,op,type,pos,after,guard⟩:=o;obtain⟨callee,aE,aN⟩:=k;simp only at ho hv;subst ho;subst hv;rw[Jw]at hf;simp[execOp,resolve,hf,Deferred.ofValue,Hn]
          unfold Oper.wp;rw[T,Oper.upon_defer,O];show(Exit.then _ _ _ _ _:Prop);have h2:=Er hC hG hm y Y (Q1 g ((first++k.args.map (BZ a).ev)++cap)) {a with defers:=⟨.fn (.func g) cap,first++k.args.map (BZ a).ev⟩::a.defers} w hn h;refine Code.wp_mono (λe a' w' j=> ?_) h2;cases e<;>simp only[lift,liftD]at j⊢ <;>first
            | exact j.elim
            | exact⟨j.1,.inr ⟨g,cap,_,by rw[j.2.1.defers,hd],j.2.2⟩⟩
        grind
      grind
    . split at h
      . rename_i o1 k hk;obtain⟨id,o,rfl,ho,hg,O,aP⟩:=V2 hk;refine wp_seq (wp_region_list ?_);show wpList P #[o1,o] _ [o1,o] a w;unfold wpList;have aA:Region.wanted o1 (yielded #[o1,o] a.tmps)=true:=by simp[Region.wanted,aP]
        rw[if_pos aA];have aM: ∀v,BZ (a.put o1.dst v)=(BZ a).Lq o1.dst v:=λv=>Mf (λt ht=>by have:=aF t (by simp[written,dsts,ht]);omega) v;refine .inl (Pt (Kp:=λ_ _=>False) (by have:=LL hC hG (λ_=>rfl) (o:=o1) h;rwa[Hn]at this) (λu w' hK=> ?_) λv w' hK=>hK.elim);split at hK
        . rename_i v hv;rw[<-aM]at hK;split at hK
          . rename_i g first cap hf
            unfold wpList;have K:Region.wanted o (yielded #[o1,o] (a.put o1.dst u).tmps)=true:=by simp[Region.wanted,hg]
            rw[if_pos K];refine .inl ?_;have T:(execOp (a.put o1.dst u).eval o).run P w'= .ok (.defer ⟨.fn (.func g) cap,first++k.args.map (BZ (a.put o1.dst u)).ev⟩) w':=by
              obtain⟨dst,op,type,pos,after,guard⟩:=o;obtain⟨callee,aE,aN⟩:=k;simp only at ho hv;subst ho;subst hv;rw[Jw]at hf;simp[execOp,resolve,hf,Deferred.ofValue,Hn]
            unfold Oper.wp;rw[T,Oper.upon_defer,O];show(Exit.then _ _ _ _ _:Prop);have h2:=Er hC hG hm y Y (Q1 g ((first++k.args.map (BZ (a.put o1.dst u)).ev)++cap)) {(a.put o1.dst u)with defers:=⟨.fn (.func g) cap,first++k.args.map (BZ (a.put o1.dst u)).ev⟩::(a.put o1.dst u).defers} w' (by rw[<-hn];exact Gk _ _ _) hK;refine Code.wp_mono (λe a' w' j=> ?_) h2;cases e<;>simp only[lift,liftD]at j⊢ <;>first
              | exact j.elim
              | exact⟨j.1,.inr ⟨g,cap,_,by rw[j.2.1.defers,M8,hd],j.2.2⟩⟩
          . exact hK.elim
        . exact hK.elim
      split at h
      . refine wp_seq (Code.wp_mono (λe a' w' j=> ?_) (Er hC hG hm x aF _ a w hn h));cases e<;>simp only[lift,Exit.then,Post.then,liftD]at j⊢ <;>first
          | exact j.elim
          | exact⟨j.1,.inl ⟨by rw[j.2.1.defers,hd],j.2.2⟩⟩
          | exact ihy Y a' w' j.1 (by rw[j.2.1.defers,hd]) j.2.2
      . rename_i l hl0;obtain⟨J,h1,h2⟩:=h;refine wp_seq (Code.wp_mono (λe a' w' j=> ?_) (Er hC hG hm x aF _ a w hn h1));cases e<;>simp only[lift,Exit.then,Post.then,liftD]at j⊢ <;>first
          | exact j.elim
          | exact⟨j.1,.inl ⟨by rw[j.2.1.defers,hd],j.2.2⟩⟩
          | (obtain⟨s,hs,hJ⟩:=KQ j.2.2
             have h3:evD P C G A Q0 Q1 y (Fr.set l s ((BZ a).TW (written x) (BZ a'))) w':=h2 s (BZ a') w' hJ;rw[KR hs (λt ht=>j.2.1.out t ht)]at h3;exact ihy Y a' w' j.1 (by rw[j.2.1.defers,hd]) h3)
  | _=>intro hW a w hn hd h;exact plain _ hW a w hn hd (by unfold evD at h;exact h)
def finD(P:Program)(fn:Func)(D:Qh)(K Kp:Value->World->Prop)(g:FuncId)(args:Array Value):Post:=λe f w=>match e with
  | .normal=>D g args none w λ_ w'=>evRes P fn.results.toList f w' λl=>K (resV l) w'
  | .ret=>D g args none w λ_ w'=>evRes P fn.results.toList f w' λl=>K (resV l) w'
  | .panic [⟨v,false,false⟩]=>D g args (some v) w λb w'=>match b with
    | true=>evRes P fn.results.toList f w' λl=>K (resV l) w'
    | false=>Kp v w'
  | _=>False
def calls_of_evD{P:Program}{C G:CP}{D:Qh}{A:Ni}{f:FuncId}{fn:Func}{c:Code}{args:List Value}{w:World}{K Kp:Value->World->Prop}
    (hC:Fits P C)(hG:Fits P G)(hD:z9 P D)(hm:P.follows .mixedOrders=true)(hf:P.funcs[f]? =some fn)(hb:fn.body=some c)(aB:Nat.ble args.length fn.ntmps=true)
    (hW:withinB fn.ntmps (written c)=true)(h:evD P C G A (finQ P fn K Kp) (finD P fn D K Kp) c (FA args) w):
    Calls P f ⟨args⟩ w (Ends K Kp):=by
  have aC:=Nat.le_of_ble_eq_true aB;have hn:((⟨args⟩:Array Value)++Array.replicate (fn.ntmps-args.length) undef).size=fn.ntmps:=by simp;omega
  rw[<-Qi (n:=fn.ntmps)]at h;refine calls_of_wp_defers hf hb (Code.wp_mono (λe Y w' O=> ?_) (lA hC hG hm c (IM hW) _ w hn rfl h));have leave: ∀(pv:Option Value) (g:FuncId) (cap a:Array Value),D g (a++cap) pv w' (λb j=>match pv,b with
        | some v,false=>Kp v j
        | _,_=>evRes P fn.results.toList (BZ Y) j λl=>K (resV l) j)->
      Leaves P fn Y.tmps (Ends K Kp) [⟨.fn (.func g) cap,a⟩] (modeOf pv) w':=by
    intro pv g cap a hd;obtain⟨h1,h2⟩:=hD _ _ _ _ _ hd;refine leaves_cons (by cases pv<;>simp[modeOf]) (f:=g) (args:=a++cap) (by simp[invoke,h1]) (h2.mono ?_);rintro e u' j ⟨v,b,rfl,hk,rfl⟩;cases pv with
    | none=>
      obtain⟨r,J,T⟩:=GS hk;exact⟨_,T,.inl ⟨_,rfl,J⟩⟩
    | some p=>
      cases b with
      | true=>
        obtain⟨r,J,T⟩:=GS hk;exact⟨_,T,.inl ⟨_,rfl,J⟩⟩
      | false=>exact .inr ⟨_,rfl,hk⟩
  cases e<;>simp only[liftD,bodyPostD]at O⊢ <;>first
    | exact O.elim
    | skip
  . obtain⟨_,⟨hd,u⟩|⟨g,cap,a,hd,u⟩⟩:=O
    . rw[hd];obtain⟨r,J,T⟩:=GS u;exact⟨_,T,.inl ⟨_,rfl,J⟩⟩
    . rw[hd];exact leave none g cap a u
  . obtain⟨_,⟨_,u⟩|⟨_,_,_,_,u⟩⟩:=O<;>exact u.elim
  . obtain⟨_,⟨_,u⟩|⟨_,_,_,_,u⟩⟩:=O<;>exact u.elim
  . obtain⟨_,⟨hd,u⟩|⟨g,cap,a,hd,u⟩⟩:=O
    . rw[hd];obtain⟨r,J,T⟩:=GS u;exact⟨_,T,.inl ⟨_,rfl,J⟩⟩
    . rw[hd];exact leave none g cap a u
  . obtain⟨_,⟨hd,u⟩|⟨g,cap,a,hd,u⟩⟩:=O
    . rw[hd];unfold finQ at u;split at u
      . grind
      . grind
      . rename_i v he;cases he;exact .inr ⟨_,rfl,u⟩
      grind
    . rw[hd];unfold finD at u;split at u
      . grind
      . grind
      . rename_i v he;cases he;refine leave (some v) g cap a ?_;have:(λ(b:Bool) (j:World)=>match b with
          | true=>evRes P fn.results.toList (BZ Y) j λl=>K (resV l) j
          | false=>Kp v j)=λ(b:Bool) (j:World)=>match some v,b with
          | some v,false=>Kp v j
          | _,_=>evRes P fn.results.toList (BZ Y) j λl=>K (resV l) j:=by grind
        grind
      grind
def Ends.mono{K Kp a:Value->World->Prop}{e:Ending}{w:World}(h:Ends K Kp e w)(u: ∀v w,Kp v w->a v w):Ends K a e w:=by
  rcases h with h|⟨v,h1,j⟩
  . exact .inl h
  . exact .inr ⟨v,h1,u _ _ j⟩
def NB{P:Program}{T:List (Nat×Entry)}{TD:List (Nat×MT)}{A:Ni}{f:FuncId}{fn:Func}{c:Code}{l:List VT}{F:Fq l->(Value->World->Prop)->World->Prop}
    (hT: ∀p∈T,EZ P p.1 p.2)(u: ∀p∈TD,Hp P p.1 p.2)(hm:P.follows .mixedOrders=true)(hf:P.funcs[f]? =some fn)(a: ∀args w,(callFunc f args).run P w= .ok (.enter f args) w)
    (hb:fn.body=some c)(v:Nat.ble l.length fn.ntmps=true)(O:withinB fn.ntmps (written c)=true)
    (j: ∀x K w,F x K w=evD P (tabC T) (ground P) A (finQ P fn K Fi) (finD P fn (tabD TD) K Fi) c (FA (mkArgs l x)) w):
    Dn P f λargs w K _=>unArgs l args.toList λx=>F x K w:=by
  intro args w K Kp h;obtain⟨x,hx,J⟩:=CE h;have Y:args=⟨mkArgs l x⟩:=Array.toList_inj.1 (by omega);subst Y;refine⟨λw=>a _ w,?_⟩;rw[j]at J;exact(calls_of_evD (LC hT) (JP P) (k9 u) hm hf hb (by rw[GU];exact v) O J).mono λe w' hE=>hE.mono λ_ _ f=>f.elim
def lB{P:Program}{f:FuncId}{C:Nat->Entry}(h: ∀n,Dn P f (C n)):Dn P f λargs w K Kp=> ∃n,C n args w K Kp:=
  λargs w K Kp ⟨n,hc⟩=>h n args w K Kp hc
def EA(k:IntKind)(op:Nat)(a b:Int):Int:=
 k.wrap (match op with
  | 0=>BitVec.ofInt k.bits a&&&BitVec.ofInt k.bits b
  | 1=>BitVec.ofInt k.bits a|||BitVec.ofInt k.bits b
  | 2=>BitVec.ofInt k.bits a^^^BitVec.ofInt k.bits b
  | _=>BitVec.ofInt k.bits a&&& ~~~BitVec.ofInt k.bits b).toNat
def Xd{P:Program}{c:Entry}(a:c=λargs w K Kp=>unArgs [.one (.int .u64)] args.toList λx=>K (.float .f64 (Int.toNat x.1)) w):
  ∀args w K Kp,c args w K Kp-> ∃v,(Extern.MathFloatBits.float64frombits args).run P w= .ok v w/\K v w:=by
 subst a;intro args w K Kp h;obtain⟨x,e,h⟩:=CE h;obtain rfl:args= #[.int .u64 x.1]:=Array.toList_inj.1 (by rw[e];rfl);exact⟨_,rfl,h⟩
def cU{P:Program}{c:Entry}(a:c=λargs w K Kp=>unArgs [.one .z7] args.toList λx=>K (.int .u64 ((show Nat from x.1):Int)) w):
  ∀args w K Kp,c args w K Kp-> ∃v,(Extern.MathFloatBits.float64bits args).run P w= .ok v w/\K v w:=by
 subst a;intro args w K Kp h;obtain⟨x,e,h⟩:=CE h;obtain rfl:args= #[.float .f64 x.1]:=Array.toList_inj.1 (by rw[e];rfl);exact⟨_,rfl,h⟩
def cV(a b c:Int)(K:Int->Int->Prop):Prop:=(0<=a/\0<=b/\0<=c/\c<=1)/\K ((a+b+c) %18446744073709551616) ((a+b+c)/18446744073709551616)
def lC{P:Program}{c:Entry}(O:c=λargs w K Kp=>unArgs [.one (.int .u64),.one (.int .u64),.one (.int .u64)] args.toList λx=>cV x.1 x.2.1 x.2.2.1 λa b=>K (.tuple ⟨[.int .u64 a,.int .u64 b]⟩) w):
  ∀args w K Kp,c args w K Kp-> ∃v,(add64Entry args).run P w= .ok v w/\K v w:=by
 subst O;intro args w K Kp h;obtain⟨x,T,⟨h1,e,j,u⟩,J⟩:=CE h;clear h;obtain rfl:args= #[.int .u64 x.1,.int .u64 x.2.1,.int .u64 x.2.2.1]:=Array.toList_inj.1 (by rw[T];rfl);exact⟨_,run_add64 _ _ _ h1 e j u w,J⟩
end Go.Sh

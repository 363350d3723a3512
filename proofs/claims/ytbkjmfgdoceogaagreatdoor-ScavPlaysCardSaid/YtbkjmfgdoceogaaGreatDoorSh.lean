/- A function's code comes to a plain predicate transformer, shown once for all codes. No further condition. -/
import Derived.OrdersHeld
import Derived.WalkKit
import Derived.KernelRfl
import Derived.Laws.CopyRow
import Derived.Scope
import Derived.Laws.Externs
import Derived.Recover
set_option linter.all false
namespace Go.Sh
inductive Ty where
  | int (k:IntKind)|bool|ptr|sl|map|any|iZ
structure AZ where
  base:Option Addr
  len:Nat
  cap:Nat
def aX:Ty->Type
  | .int _=>Int
  | .bool=>Bool
  | .ptr=>Option Addr
  | .sl=>AZ
  | .map=>Option Nat
  | .any=>Value
  | .iZ=>Nat
def mkV:(t:Ty)->aX t->Value
  | .int k,n=>.int k n
  | .bool,b=>.bool b
  | .ptr,a=>.pointer a
  | .sl,s=>.slice (AZ.base s) (AZ.len s) (AZ.cap s)
  | .map,r=>.map r
  | .any,v=>v
  | .iZ,b=>.float .f64 (show Nat from b)
def ik:IntKind->Nat
  | .i8=>0| .i16=>1| .i32=>2| .i64=>3| .u8=>4| .u16=>5| .u32=>6| .u64=>7
theorem TI{a b:IntKind}(h:ik a=ik b):a=b:=by
  cases a<;>cases b<;>first|rfl|(simp[ik]at h)
def sameK(a b:IntKind)(X:Prop):Prop:=match Nat.beq (ik a) (ik b)with|true=>X|false=>False
theorem EB{a b:IntKind}{X:Prop}(h:sameK a b X):a=b/\X:=by
  unfold sameK at h;split at h
  · rename_i e;exact⟨TI (Nat.eq_of_beq_eq_true e),h⟩
  · exact h.elim
abbrev RK(k:FloatKind)(X:Prop):Prop:=match k with| .f64=>X| .f32=>False
theorem GU{k:FloatKind}{X:Prop}(h:RK k X):k= .f64/\X:=by
  cases k
  · exact h.elim
  · exact⟨rfl,h⟩
def unV:(t:Ty)->Value->(aX t->Prop)->Prop
  | .int k,.int k' n,K=>sameK k k' (K n)
  | .bool,.bool b,K=>K b
  | .ptr,.pointer a,K=>K a
  | .sl,.slice a n c,K=>K (AZ.mk a n c)
  | .map,.map r,K=>K r
  | .any,v,K=>K v
  | .iZ,.float k b,K=>RK k (K b)
  | _,_,_=>False
theorem RL{t:Ty}{v:Value}{K:aX t->Prop}(h:unV t v K): ∃x,v=mkV t x/\K x:=by
  unfold unV at h;split at h
  · obtain⟨rfl,d⟩:=EB h;exact⟨_,rfl,d⟩
  · exact⟨_,rfl,h⟩
  · exact⟨_,rfl,h⟩
  · exact⟨_,rfl,h⟩
  · exact⟨_,rfl,h⟩
  · exact⟨_,rfl,h⟩
  · obtain⟨rfl,d⟩:=GU h;exact⟨_,rfl,d⟩
  · exact h.elim
def Vb:List Ty->Type
  | []=>Unit
  | t::r=>aX t×Vb r
def mkVs:(l:List Ty)->Vb l->List Value
  | [],_=>[]
  | t::r,x=>mkV t x.1::mkVs r x.2
def unVs:(l:List Ty)->List Value->(Vb l->Prop)->Prop
  | [],[],K=>K ()
  | t::r,v::vs,K=>unV t v fun x=>unVs r vs fun y=>K (x,y)
  | _,_,_=>False
theorem PL:{l:List Ty}->{vs:List Value}->{K:Vb l->Prop}->unVs l vs K-> ∃x,vs=mkVs l x/\K x
  | [],[],_,h=>⟨(),rfl,h⟩
  | [],_::_,_,h=>h.elim
  | _::_,[],_,h=>h.elim
  | t::r,v::vs,K,h=>by
    simp only[unVs]at h;obtain⟨x,rfl,j⟩:=RL h;obtain⟨y,rfl,d⟩:=PL j;exact⟨(x,y),rfl,d⟩
inductive VT where
  | one (t:Ty)
  | agg (l:List Ty)
def Yp:VT->Type
  | .one t=>aX t
  | .agg l=>Vb l
def mkVT:(t:VT)->Yp t->Value
  | .one t,x=>mkV t x
  | .agg l,x=>.agg ⟨mkVs l x⟩
def unVT:(t:VT)->Value->(Yp t->Prop)->Prop
  | .one t,v,K=>unV t v K
  | .agg l,.agg cs,K=>unVs l cs.toList K
  | .agg _,_,_=>False
theorem MK{t:VT}{v:Value}{K:Yp t->Prop}(h:unVT t v K): ∃x,v=mkVT t x/\K x:=by
  cases t with
  | one t=>exact RL h
  | agg l=>
    cases v<;>simp only[unVT]at h;rename_i cs;obtain⟨x,d,h⟩:=PL h;exact⟨x,by simp only[mkVT,<-d],h⟩
abbrev Fr:=Nat->Value
def Fr.put(f:Fr)(d:Nat)(v:Value):Fr:=fun t=>bif Nat.beq t d then v else f t
def Fr.Km(f:Fr):Option Nat->Value->Fr
  | some d,v=>f.put d v
  | none,_=>f
def memB:List Nat->Nat->Bool
  | [],_=>false
  | x::r,t=>bif Nat.beq t x then true else memB r t
theorem RM:{l:List Nat}->{t:Nat}->(memB l t=true↔t∈l)
  | [],t=>by simp[memB]
  | x::r,t=>by
    simp only[memB,List.mem_cons,cond_eq_ite];by_cases h:Nat.beq t x=true
    · simp[h,Nat.eq_of_beq_eq_true h]
    · have d:t≠x:=fun e=>h (e▸Nat.beq_refl t);simp[h,RM (l:=r) (t:=t),d]
def Fr.RN(f:Fr)(l:List Nat)(j:Nat->Value):Fr:=fun t=>bif memB l t then j t else f t
def Fr.ev(f:Fr):Operand->Value
  | .tmp t=>f t
  | .const v=>v
  | .global g=>.pointer (some ⟨g,0,none⟩)
  | .func g=>.func (.func g) #[] #[]
def DB(a:Act):Fr:=fun t=>a.tmps.getD t undef
theorem KJ(a:Act)(x:Operand):(DB a).ev x=a.eval x:=by cases x<;>rfl
theorem Ft(a:Act):(DB a).ev=a.eval:=funext (KJ a)
theorem Ww{a:Act}{d:Nat}(C:d<a.tmps.size)(v:Value):DB (a.put (some d) v)=(DB a).put d v:=by
  funext t;simp only[DB,Act.put,Fr.put,Array.getD_eq_getD_getElem?,cond_eq_ite];by_cases h:t=d
  · subst h;simp[C]
  · have j:Nat.beq t d=false:=by
      cases j:Nat.beq t d
      · rfl
      · exact absurd (Nat.eq_of_beq_eq_true j) h
    simp[j,Array.getElem?_setIfInBounds_ne (Ne.symm h)]
theorem ML{a:Act}{d:Option Nat}(j: ∀t,d=some t->t<a.tmps.size)(v:Value):DB (a.put d v)=(DB a).Km d v:=by
  cases d with
  | none=>rfl
  | some t=>exact Ww (j t rfl) v
theorem F7(a:Act)(d:Option Nat)(v:Value):(a.put d v).tmps.size=a.tmps.size:=by
  cases d<;>simp[Act.put]
theorem Nn(a:Act)(d:Option Nat)(v:Value):(a.put d v).defers=a.defers:=by
  cases d<;>rfl
abbrev Yq:=List (Nat×VT)
def St:Yq->Type
  | []=>Unit
  | (_,t)::r=>Yp t×St r
def Fr.set:(l:Yq)->St l->Fr->Fr
  | [],_,f=>f
  | (d,t)::r,s,f=>Fr.set r s.2 (f.put d (mkVT t s.1))
def Fr.get:(l:Yq)->Fr->(St l->Prop)->Prop
  | [],_,K=>K ()
  | (d,t)::r,f,K=>unVT t (f d) fun x=>Fr.get r f fun s=>K (x,s)
def Kc:(l:Yq)->St l->Fr->Prop
  | [],_,_=>True
  | (d,t)::r,s,f=>f d=mkVT t s.1/\Kc r s.2 f
theorem JN:{l:Yq}->{f:Fr}->{K:St l->Prop}->Fr.get l f K-> ∃s,Kc l s f/\K s
  | [],_,_,h=>⟨(),trivial,h⟩
  | (d,t)::r,f,K,h=>by
    obtain⟨x,j,h⟩:=MK h;obtain⟨s,hs,h⟩:=JN h;exact⟨(x,s),⟨j,hs⟩,h⟩
theorem Uh:{t:Ty}->{x y:aX t}->mkV t x=mkV t y->x=y
  | .int _,_,_,h=>by simp only[mkV]at h;injection h
  | .bool,_,_,h=>by simp only[mkV]at h;injection h
  | .ptr,_,_,h=>by simp only[mkV]at h;injection h
  | .sl,x,y,h=>by
    simp only[mkV]at h;injection h with h1 h2 h3
    cases x;cases y;cases h1;cases h2;cases h3;rfl
  | .map,_,_,h=>by simp only[mkV]at h;injection h
  | .any,_,_,h=>h
  | .iZ,_,_,h=>by simp only[mkV]at h;injection h
theorem RO:{l:List Ty}->{x y:Vb l}->mkVs l x=mkVs l y->x=y
  | [],_,_,_=>rfl
  | t::r,(x,xs),(y,ys),h=>by
    simp only[mkVs]at h;injection h with h1 h2
    rw[Uh h1,RO h2]
theorem Wx:{t:VT}->{x y:Yp t}->mkVT t x=mkVT t y->x=y
  | .one _,_,_,h=>Uh h
  | .agg _,_,_,h=>by
    simp only[mkVT]at h;injection h with h1
    injection h1 with h2
    exact RO h2
theorem PM:{l:Yq}->{s s':St l}->{f:Fr}->Kc l s f->Kc l s' f->s=s'
  | [],_,_,_,_,_=>rfl
  | (d,t)::r,(x,s),(y,s'),f,h,h'=>by
    have h1:mkVT t x=mkVT t y:=h.1.symm.trans h'.1;have v:x=y:=Wx h1;have j:s=s':=PM h.2 h'.2;subst v;subst j;rfl
theorem Wy:{l:Yq}->{s:St l}->{g f:Fr}->Kc l s g->(∀t,t∉l.map (·.1)->f t=g t)->Fr.set l s f=g
  | [],_,g,f,_,h=>funext fun t=>h t (by simp)
  | (d,t)::r,s,g,f,hs,h=>by
    simp only[Fr.set];refine Wy hs.2 fun u hu=> ?_;simp only[Fr.put,cond_eq_ite];by_cases e:Nat.beq u d=true
    · have:=Nat.eq_of_beq_eq_true e;subst this;simp[hs.1]
    · have j:u≠d:=fun e'=>e (e'▸Nat.beq_refl u);simp only[e];exact h u (by simp[j,hu])
theorem JO{l:Yq}{s:St l}{W:List Nat}{f g:Fr}(hs:Kc l s g)(d: ∀t,t∉W->g t=f t):Fr.set l s (f.RN W g)=g:=by
  refine Wy hs fun t _=> ?_;simp only[Fr.RN,cond_eq_ite];by_cases h:memB W t=true
  · simp[h]
  · simp only[h,Bool.false_eq_true,if_false];exact(d t fun hm=>h (RM.2 hm)).symm
end Go.Sh
set_option linter.all false
namespace Go.Sh
def NC(a:Option Addr)(K:Addr->Prop):Prop:=match a with|some p=>K p|none=>False
def CND(b:Bool)(T E:Prop):Prop:=match b with|true=>T|false=>E
theorem Ui{b:Bool}{T E:Prop}:CND b T E↔(b=true->T)/\(b=false->E):=by cases b<;>simp[CND]
theorem Fq{a:Option Addr}{K:Addr->Prop}(h:NC a K): ∃p,a=some p/\K p:=by
  cases a with
  | none=>exact h.elim
  | some p=>exact⟨p,rfl,h⟩
@[simp] theorem AI(p:Addr)(K:Addr->Prop):NC (some p) K=K p:=rfl
def QD(P:Program)(t:TypeId):Nat:=P.cellsOf t
def szK(P:Program)(t:TypeId)(K:Nat->Prop):Prop:=match QD P t with
  | 0=>False
  | n+1=>K (n+1)
theorem EP{P:Program}{t:TypeId}{K:Nat->Prop}(h:szK P t K): ∃n,K n/\n≠0/\n=QD P t/\ ∀w,(sizeOf t).run P w= .ok n w:=by
  unfold szK at h;split at h
  · exact h.elim
  · rename_i n hn;refine⟨_,h,by omega,hn.symm,fun w=> ?_⟩;cases hi:P.info? t with
    | none=>simp[QD,Program.cellsOf,hi]at hn
    | some i=>
      have:i.size=n+1:=by simpa[QD,Program.cellsOf,hi]using hn
      simp[sizeOf,typeInfo,hi,this]
def isAggP(P:Program)(t:TypeId):Bool:=match P.underlying t with
  | some (.struct _)|some (.array _ _)=>true
  | _=>false
def aggK(P:Program)(t:TypeId)(A:Prop)(B:TypeDesc->Prop):Prop:=match P.underlying t with
  | some (.struct _)=>A
  | some (.array _ _)=>A
  | some d=>B d
  | none=>False
theorem PN{P:Program}{t:TypeId}{A:Prop}{B:TypeDesc->Prop}(h:aggK P t A B):
    (P.info? t).isSome=true/\((A/\ ∀w,(isAgg t).run P w= .ok true w)∨(∃d,P.underlying t=some d/\B d/\ ∀w,(isAgg t).run P w= .ok false w)):=by
  unfold aggK at h;have hu: ∀d,P.underlying t=some d->(P.info? t).isSome=true:=by
    intro d j;cases hi:P.info? t with
    | none=>simp[Program.underlying,hi]at j
    | some i=>rfl
  split at h
  · rename_i j;exact⟨hu _ j,.inl ⟨h,fun w=>by simp[isAgg,underlying,j]⟩⟩
  · rename_i j;exact⟨hu _ j,.inl ⟨h,fun w=>by simp[isAgg,underlying,j]⟩⟩
  · rename_i d h1 h2 j;refine⟨hu _ j,.inr ⟨d,j,h,fun w=> ?_⟩⟩;cases d<;>first
      | exact(h1 _ rfl).elim
      | exact(h2 _ _ rfl).elim
      | simp[isAgg,underlying,j]
  · exact h.elim
def bT:TypeDesc->Ty
  | .int k=>.int k
  | .bool=>.bool
  | .pointer _=>.ptr
  | .slice _=>.sl
  | .map _ _=>.map
  | .float .f64=>.iZ
  | _=>.any
def Wz:Nat->List Ty->List Ty
  | 0,_=>[]
  | n+1,l=>l++Wz n l
def W0(P:Program):Nat->TypeId->List Ty
  | 0,_=>[]
  | d+1,t=>match P.underlying t with
    | some (.struct fs)=>fs.toList.flatMap fun f=>W0 P d f.type
    | some (.array n e)=>Wz n (W0 P d e)
    | some d=>[bT d]
    | none=>[]
def TJ(P:Program)(t:TypeId):VT:=match isAggP P t with
  | true=>.agg (W0 P 12 t)
  | false=>match P.underlying t with
    | some d=>.one (bT d)
    | none=>.one .any
def HX(P:Program)(t:TypeId):Option Value:=(P.info? t).bind (·.zero)
def evInt(op:BinOp)(k:IntKind)(a b:Int)(K:Value->Prop):Prop:=
  match op with
  | .add=>K (.int k (k.wrap (a+b)))
  | .sub=>K (.int k (k.wrap (a-b)))
  | .mul=>K (.int k (k.wrap (a*b)))
  | .quo=>b≠0/\K (.int k (k.wrap (a.tdiv b)))
  | .rem=>b≠0/\K (.int k (a.tmod b))
  | .and=>K (.int k (k.wrap (BitVec.ofInt k.bits a&&&BitVec.ofInt k.bits b).toNat))
  | .or=>K (.int k (k.wrap (BitVec.ofInt k.bits a|||BitVec.ofInt k.bits b).toNat))
  | .xor=>K (.int k (k.wrap (BitVec.ofInt k.bits a^^^BitVec.ofInt k.bits b).toNat))
  | .andNot=>K (.int k (k.wrap (BitVec.ofInt k.bits a&&& ~~~BitVec.ofInt k.bits b).toNat))
  | .eql=>K (.bool (a==b))
  | .neq=>K (.bool (a !=b))
  | .lss=>K (.bool (decide (a<b)))
  | .leq=>K (.bool (decide (a<=b)))
  | .gtr=>K (.bool (decide (a>b)))
  | .geq=>K (.bool (decide (a≥b)))
  | _=>False
def isFn:Value->Bool
  | .func .. =>true
  | .nilFunc=>true
  | _=>false
def isNilF:Value->Bool
  | .nilFunc=>true
  | _=>false
noncomputable def RP{α:Type}(x:α):α:=Classical.choose (⟨x,rfl⟩: ∃y,y=x)
theorem GV{α:Type}(x:α):RP x=x:=Classical.choose_spec (⟨x,rfl⟩: ∃y,y=x)
noncomputable def Cd(a b:Nat):Option Ordering:=RP (FloatKind.f64.format.order a b)
def evFlt(op:BinOp)(a b:Nat)(K:Value->Prop):Prop:=match op with
  | .eql=>K (.bool (Cd a b==some .eq))
  | .neq=>K (.bool (Cd a b !=some .eq))
  | .lss=>K (.bool (Cd a b==some .lt))
  | .leq=>K (.bool (Cd a b==some .lt||Cd a b==some .eq))
  | .gtr=>K (.bool (Cd a b==some .gt))
  | .geq=>K (.bool (Cd a b==some .gt||Cd a b==some .eq))
  | _=>False
def nK(a b:Option Addr)(K:Bool->Prop):Prop:=match a with
  | none=>K b.isNone
  | some p=>match b with
    | none=>K false
    | some q=>p.block=q.block/\K (p==q)
def evBin0(P:Program)(op:BinOp)(t:TypeId)(x y:Value)(K:Value->Prop):Prop:=
  match x with
  | .int k a=>match y with
    | .int k' b=>match op with
      | .shl=>0<=b/\K (.int k (k.wrap (a*2^(min b.toNat k.bits))))
      | .shr=>0<=b/\K (.int k (a.fdiv (2^(min b.toNat k.bits))))
      | op=>sameK k k' (evInt op k a b K)
    | _=>False
  | .bool a=>match y with
    | .bool b=>match P.underlying t with
      | some .bool=>match op with
        | .eql=>K (.bool (a==b))
        | .neq=>K (.bool (!(a==b)))
        | _=>False
      | _=>False
    | _=>False
  | .pointer a=>match y with
    | .pointer none=>match P.underlying t with
      | some (.pointer _)=>match op with
        | .eql=>K (.bool a.isNone)
        | .neq=>K (.bool (!a.isNone))
        | _=>False
      | _=>False
    | _=>False
  | .slice a _ _=>match y with
    | .slice none _ _=>match P.underlying t with
      | some (.slice _)=>match op with
        | .eql=>K (.bool a.isNone)
        | .neq=>K (.bool (!a.isNone))
        | _=>False
      | _=>False
    | _=>False
  | .map a=>match y with
    | .map none=>match P.underlying t with
      | some (.map _ _)=>match op with
        | .eql=>K (.bool a.isNone)
        | .neq=>K (.bool (!a.isNone))
        | _=>False
      | _=>False
    | _=>False
  | .float k a=>match y with
    | .float k' b=>RK k (RK k' (evFlt op a b K))
    | _=>False
  | _=>False
def evEqF(P:Program)(xs d:List Value):List Field->(Bool->Prop)->Prop
  | [],K=>K true
  | f::r,K=>match f.name != "_" with
    | true=>match P.underlying f.type with
      | some (.int _)=>match xs[f.offset]? with
        | some (.int k a)=>match d[f.offset]? with
          | some (.int k' b)=>sameK k k' (evEqF P xs d r fun t=>K ((a==b)&&t))
          | _=>False
        | _=>False
      | some .bool=>match xs[f.offset]? with
        | some (.bool a)=>match d[f.offset]? with
          | some (.bool b)=>evEqF P xs d r fun t=>K ((a==b)&&t)
          | _=>False
        | _=>False
      | _=>False
    | false=>False
def evEqS(P:Program)(op:BinOp)(t:TypeId)(xs d:List Value)(K:Value->Prop):Prop:=
  match P.underlying t with
  | some (.struct fs)=>match P.stoodInHeld t with
    | false=>match P.eqGuardType P.depth t with
      | false=>match op with
        | .eql=>evEqF P xs d fs.toList fun r=>K (.bool r)
        | .neq=>evEqF P xs d fs.toList fun r=>K (.bool (!r))
        | _=>False
      | true=>False
    | true=>False
  | _=>False
def isIf:Value->Bool
  | .iface .. =>true
  | .nilIface=>true
  | _=>false
def isNilI:Value->Bool
  | .nilIface=>true
  | _=>false
def evBin(P:Program)(op:BinOp)(t:TypeId)(x y:Value)(K:Value->Prop):Prop:=
  match y with
  | .nilIface=>match P.underlying t with
    | some (.interface ms)=>match ms.isEmpty with
      | true=>match op with
        | .eql=>isIf x=true/\K (.bool (isNilI x))
        | .neq=>isIf x=true/\K (.bool (!isNilI x))
        | _=>False
      | false=>False
    | _=>False
  | .nilFunc=>match P.underlying t with
    | some (.func _ _ _)=>match op with
      | .eql=>isFn x=true/\K (.bool (isNilF x))
      | .neq=>isFn x=true/\K (.bool (!isNilF x))
      | _=>False
    | _=>False
  | .agg ys=>match x with
    | .agg xs=>evEqS P op t xs.toList ys.toList K
    | _=>False
  | y=>evBin0 P op t x y K
def evBinT(P:Program)(op:BinOp)(t:TypeId)(x y:Value)(K:Value->Prop):Prop:=
  match x with
  | .pointer a=>match y with
    | .pointer b=>match P.underlying t with
      | some (.pointer e)=>szK P e fun _=>match op with
        | .eql=>nK a b fun r=>K (.bool r)
        | .neq=>nK a b fun r=>K (.bool (!r))
        | _=>False
      | _=>False
    | _=>evBin P op t x y K
  | _=>evBin P op t x y K
def evUn(op:UnOp)(x:Value)(K:Value->Prop):Prop:=
  match op,x with
  | .not,.bool b=>K (.bool (!b))
  | .neg,.int k n=>K (.int k (k.wrap (0-n)))
  | .xor,.int k n=>K (.int k (k.wrap (BitVec.ofInt k.bits (if k.signed then-1 else k.max)^^^BitVec.ofInt k.bits n).toNat))
  | _,_=>False
def evBound(x:Option Value)(W1 top:Nat)(K:Nat->Prop):Prop:=
  match x with
  | none=>K W1
  | some (.int _ i)=>(0<=i/\i<=top)/\K i.toNat
  | some _=>False
def evPart(P:Program)(t:TypeId)(cs:List Value)(off:Nat)(K:Value->Prop):Prop:=
  aggK P t (K (.agg ⟨(cs.drop off).take (QD P t)⟩)) fun _=>match cs[off]? with
    | some v=>K v
    | none=>False
def Fe(a:Option Addr)(c m z:Nat):Option Addr:=if c=m then a else a.map (·.add (m*z))
def u64(n:Int):Int:=IntKind.u64.wrap n
def i64(n:Int):Int:=IntKind.i64.wrap n
def KX(a b:Int):Int:=if b<a then b else a
def HL(a b:Int):Int:=if b>a then b else a
def RQ(k:IntKind)(v:Value)(K:Int->Prop):Prop:=unV (.int k) v K
def Gl{α:Type}(e:α)(K:α->Prop):Prop:=K e
def AL(o:Obj)(w:World)(K:Nat->World->Prop):Prop:=K w.heap.size (w.alloc o)
def fillL(cells:List Value)(off:Nat):List Value->List Value
  | []=>cells
  | v::r=>fillL (cells.set off v) (off+1) r
def QE(n m:Nat)(X:Prop):Prop:=match Nat.beq n m with|true=>X|false=>False
theorem GW{n m:Nat}{X:Prop}(h:QE n m X):n=m/\X:=by
  unfold QE at h;split at h
  · rename_i e;exact⟨Nat.eq_of_beq_eq_true e,h⟩
  · exact h.elim
def mO(n m:Nat)(X:Prop):Prop:=match Nat.ble n m with|true=>X|false=>False
theorem RR{n m:Nat}{X:Prop}(h:mO n m X):n<=m/\X:=by
  unfold mO at h;split at h
  · rename_i e;exact⟨Nat.le_of_ble_eq_true e,h⟩
  · exact h.elim
def evFill(places:Nat->Option (Nat×Nat)):List (Nat×Value)->List Value->(List Value->Prop)->Prop
  | [],cells,K=>K cells
  | (i,v)::r,cells,K=>match places i with
    | none=>False
    | some (off,size)=>QE v.cells.toList.length size (mO (off+size) cells.length (evFill places r (fillL cells off v.cells.toList) K))
theorem PO(off:Nat): ∀(vs:List Value) (k:Nat) (cells:Array Value),
    ((vs.zipIdx k).foldl (fun cs (c,j)=>cs.setIfInBounds (off+j) c) cells).toList=fillL cells.toList (off+k) vs
  | [],_,_=>rfl
  | v::r,k,cells=>by
    simp only[List.zipIdx_cons,List.foldl_cons,fillL];rw[PO off r (k+1)];simp[Nat.add_assoc]
theorem Hw{places:Nat->Option (Nat×Nat)}:{parts:List (Nat×Value)}->{cells:Array Value}->{K:List Value->Prop}->
    evFill places parts cells.toList K-> ∃out,K out.toList/\Instr.fill places cells parts=some out
  | [],cells,K,h=>⟨cells,h,rfl⟩
  | (i,v)::r,cells,K,h=>by
    simp only[evFill]at h;cases hp:places i with
    | none=>simp[hp]at h
    | some os=>
      obtain⟨off,size⟩:=os;simp only[hp]at h;obtain⟨h1,h⟩:=GW h;obtain⟨J,h⟩:=RR h;have hf:=PO off v.cells.toList 0 cells;have hz:(v.cells.zipIdx.foldl (fun cs (c,j)=>cs.setIfInBounds (off+j) c) cells).toList=fillL cells.toList off v.cells.toList:=by
        rw[<-Array.foldl_toList,Array.toList_zipIdx];exact hf
      rw[<-hz]at h;obtain⟨out,C,d⟩:=Hw h;refine⟨out,C,?_⟩;simp only[Instr.fill,hp];rw[if_neg]
      · exact d
      · simp at h1 J⊢;omega
def W2(P:Program):List Field->Prop->Prop
  | [],X=>X
  | f::r,X=>szK P f.type fun _=>W2 P r X
def TAS(x:Value)(t:Nat)(z:Value)(K:Value->Bool->Prop):Prop:=match x with
  | .nilIface=>K z false
  | .iface u v=>match Nat.beq u t with
    | true=>K v true
    | false=>K z false
  | _=>False
def W3:List Value->List (Option Addr)
  | []=>[]
  | v::r=>(match v with| .pointer a=>a|_=>none)::W3 r
def QF:List Value->Bool
  | []=>true
  | v::r=>match v with
    | .pointer _=>QF r
    | _=>false
theorem RS: ∀{l:List Value} {i:Nat},QF l=true->i<l.length->l[i]? =some (.pointer ((W3 l).getD i none))
  | v::r,0,h,_=>by cases v<;>first|rfl|cases h
  | v::r,i+1,h,hi=>by
    have d:QF r=true:=by cases v<;>first|exact h|cases h
    have:=RS d (i:=i) (by simpa using hi);simpa[W3]using this
def W4(P:Program)(l:Nat)(e:TypeId)(cs:List Value)(n:Int)(K:Value->Prop):Prop:=match P.underlying e with
  | some (.pointer _)=>szK P e fun z=>QE z 1 (QE cs.length l (match QF cs with
    | true=>(0<=n/\n<(l:Int))/\K (.pointer ((W3 cs).getD n.toNat none))
    | false=>False))
  | _=>False
noncomputable def JC(n:Int):Nat:=RP (FloatKind.f64.nearest n)
noncomputable def LG(b:Nat):Option Int:=RP ((FloatKind.f64.decode b).toInt .zero)
def slL:List Value->List AZ
  | []=>[]
  | v::r=>(match v with| .slice a n c=>⟨a,n,c⟩|_=>⟨none,0,0⟩)::slL r
def Uj:List Value->Bool
  | []=>true
  | v::r=>match v with
    | .slice .. =>Uj r
    | _=>false
theorem Uk: ∀{l:List Value} {i:Nat},Uj l=true->i<l.length->l[i]? =some (.slice ((slL l).getD i ⟨none,0,0⟩).base ((slL l).getD i ⟨none,0,0⟩).len ((slL l).getD i ⟨none,0,0⟩).cap)
  | v::r,0,h,_=>by cases v<;>first|rfl|cases h
  | v::r,i+1,h,hi=>by
    have d:Uj r=true:=by cases v<;>first|exact h|cases h
    have:=Uk d (i:=i) (by simpa using hi);simpa[slL]using this
def TK(P:Program)(l:Nat)(e:TypeId)(cs:List Value)(n:Int)(K:Value->Prop):Prop:=match P.underlying e with
  | some (.slice _)=>szK P e fun z=>QE z 1 (QE cs.length l (match Uj cs with
    | true=>(0<=n/\n<(l:Int))/\Gl ((slL cs).getD n.toNat ⟨none,0,0⟩) fun s=>K (.slice s.base s.len s.cap)
    | false=>False))
  | _=>False
def nL(s:ByteArray)(n:Int)(K:Int->Prop):Prop:=0<=n/\ ∃b,s[n.toNat]? =some b/\K (b.toNat:Int)
def evPure(P:Program)(o:Op)(ty:TypeId)(ρ:Operand->Value)(K:Value->Prop):Prop:=
  match o with
  | .move x| .assign x=>K (ρ x)
  | .pick c a b=>match ρ c with
    | .bool t=>K (bif t then ρ a else ρ b)
    | _=>False
  | .nilCheck x=>match ρ x with
    | .pointer a=>NC a fun p=>K (.pointer (some p))
    | _=>False
  | .binOp op t x y _=>match y with
    | .tmp _=>evBinT P op t (ρ x) (ρ y) K
    | _=>evBin P op t (ρ x) (ρ y) K
  | .unOp op _ x=>evUn op (ρ x) K
  | .convert s d x=>match P.underlying s,P.underlying d,ρ x with
    | some (.int _),some (.int k),.int _ n=>K (.int k (k.wrap n))
    | some (.int _),some (.float k),.int _ n=>RK k (K (.float .f64 (JC n)))
    | some (.float _),some (.int k),.float k' b=>RK k' (∃n,LG b=some n/\(k.min<=n/\n<=k.max)/\K (.int k n))
    | _,_,_=>False
  | .makeFunc fn fi ca=>K (.func fn (fi.map ρ) (ca.map ρ))
  | .fieldAddr s x i=>match P.underlying s with
    | some (.struct fs)=>match fs[i]? with
      | some f=>szK P f.type fun _=>match ρ x with
        | .pointer a=>NC a fun p=>K (.pointer (some (p.add f.offset)))
        | _=>False
      | none=>False
    | _=>False
  | .field t x i=>match P.underlying t with
    | some (.struct fs)=>match fs[i]? with
      | some f=>match ρ x with
        | .agg cs=>evPart P f.type cs.toList f.offset K
        | _=>False
      | none=>False
    | _=>False
  | .indexAddr t x i=>match ρ i with
    | .int _ n=>match P.underlying t with
      | some (.slice e)=>szK P e fun z=>match ρ x with
        | .slice b l _=>NC b fun a=>(0<=n/\n<(l:Int))/\K (.pointer (some (a.add (n.toNat*z))))
        | _=>False
      | some (.array l e)=>szK P e fun z=>match ρ x with
        | .pointer b=>NC b fun a=>(0<=n/\n<(l:Int))/\K (.pointer (some (a.add (n.toNat*z))))
        | _=>False
      | _=>False
    | _=>False
  | .build t parts=>match HX P t with
    | some z=>match P.underlying t with
      | some (.struct fs)=>W2 P fs.toList (evFill (fun i=>(fs[i]?).map fun f=>(f.offset,QD P f.type)) ((parts.map fun(i,x)=>(i,ρ x)).toList) z.cells.toList fun l=>K (.agg ⟨l⟩))
      | some (.array _ e)=>szK P e fun n=>evFill (fun i=>some (i*n,n)) ((parts.map fun(i,x)=>(i,ρ x)).toList) z.cells.toList fun l=>K (.agg ⟨l⟩)
      | _=>False
    | none=>False
  | .extract x i=>match ρ x with
    | .tuple vs=>match vs.toList[i]? with
      | some v=>unVT (TJ P ty) v fun x=>K (mkVT (TJ P ty) x)
      | none=>False
    | _=>False
  | .slice t x lo hi none=>match P.underlying t with
    | some (.slice e)=>szK P e fun z=>match ρ x with
      | .slice a l c=>evBound (hi.map ρ) l c fun h=>evBound (lo.map ρ) 0 h fun m=>K (.slice (if c=m then a else a.map (·.add (m*z))) (h-m) (c-m))
      | _=>False
    | some (.array n e)=>szK P e fun z=>match ρ x with
      | .pointer a=>NC a fun p=>evBound (hi.map ρ) n n fun h=>evBound (lo.map ρ) 0 h fun m=>K (.slice (some (if n=m then p else p.add (m*z))) (h-m) (n-m))
      | _=>False
    | _=>False
  | .makeInterface t x=>match P.underlying t with
    | some (.interface _)=>False
    | some _=>K (.iface t (ρ x))
    | none=>False
  | .typeAssert x _ asserted true=>match P.underlying asserted with
    | some (.interface _)=>False
    | some _=>match HX P asserted with
      | some z=>TAS (ρ x) asserted z fun v b=>K (.tuple #[v,.bool b])
      | none=>False
    | none=>False
  | .call c=>match c.callee with
    | .builtin .len=>match c.args.toList with
      | [x]=>match ρ x with
        | .slice _ n _=>match(c.argTypes.toList.head?).bind P.underlying with
          | some (.slice _)=>K (.int .i64 n)
          | _=>False
        | _=>False
      | _=>False
    | .builtin .min=>match c.args.toList with
      | [x,y]=>match ρ x with
        | .int k a=>match ρ y with
          | .int _ b=>K (.int k (if b<a then b else a))
          | _=>False
        | _=>False
      | [x,y,z]=>match ρ x with
        | .int k a=>match ρ y with
          | .int _ b=>match ρ z with
            | .int _ d=>K (.int k (KX (KX a b) d))
            | _=>False
          | _=>False
        | _=>False
      | _=>False
    | .builtin .max=>match c.args.toList with
      | [x,y]=>match ρ x with
        | .int k a=>match ρ y with
          | .int _ b=>K (.int k (if b>a then b else a))
          | _=>False
        | _=>False
      | [x,y,z]=>match ρ x with
        | .int k a=>match ρ y with
          | .int _ b=>match ρ z with
            | .int _ d=>K (.int k (HL (HL a b) d))
            | _=>False
          | _=>False
        | _=>False
      | _=>False
    | _=>False
  | .index t x i=>match P.underlying t with
    | some (.array l e)=>match ρ x with
      | .agg cs=>match ρ i with
        | .int _ n=>match P.underlying e with
          | some (.slice _)=>TK P l e cs.toList n K
          | _=>W4 P l e cs.toList n K
        | _=>False
      | _=>False
    | some .string=>match ρ x with
      | .string s=>match ρ i with
        | .int _ n=>nL s n fun b=>K (.int .u8 b)
        | _=>False
      | _=>False
    | _=>False
  | _=>False
theorem AW{P:Program}{t:TypeId}{d:TypeDesc}(h:P.underlying t=some d)(w:World):(underlying t).run P w= .ok d w:=by
  simp[underlying,h]
theorem RT{P:Program}{t:TypeId}(h:(P.info? t).isSome=true)(w:World):(sizeOf t).run P w= .ok (QD P t) w:=by
  obtain⟨i,d⟩:=Option.isSome_iff_exists.1 h;simp[sizeOf,typeInfo,d,QD,Program.cellsOf]
theorem RU{P:Program}{op:BinOp}{k:IntKind}{a b:Int}{K:Value->Prop}(h:evInt op k a b K)(d:op≠ .shl/\op≠ .shr)(t:TypeId):
    ∃v,K v/\ ∀w,(binOp op t (.int k a) (.int k b)).run P w= .ok v w:=by
  cases op<;>simp only[evInt]at h<;>
    first
      | exact h.elim
      | exact(d.1 rfl).elim
      | exact(d.2 rfl).elim
      | exact⟨_,h,fun w=>by simp[binOp,Op.intArith,Op.intCmp,Op.intBits]⟩
      | (obtain⟨h0,h⟩:=h;exact⟨_,h,fun w=>by simp[binOp,Op.intDiv,h0]⟩)
theorem NJ(P:Program)(d:Nat){t:TypeId}(w:World):
    (∀e a,P.underlying t=some (.pointer e)->(Op.equalIn (d+1) t (.pointer a) (.pointer none)).run P w= .ok a.isNone w)/\
    (∀e a n c j v,P.underlying t=some (.slice e)->(Op.equalIn (d+1) t (.slice a n c) (.slice none j v)).run P w= .ok a.isNone w)/\
    (∀k e a,P.underlying t=some (.map k e)->(Op.equalIn (d+1) t (.map a) (.map none)).run P w= .ok a.isNone w):=by
  refine⟨fun e a h=> ?_,fun e a n c j v h=> ?_,fun k e a h=> ?_⟩<;>cases a<;>simp[Op.equalIn,AW h]
theorem EJ(P:Program){t:TypeId}(w:World):
    (∀e a,P.underlying t=some (.pointer e)->(Op.equal t (.pointer a) (.pointer none)).run P w= .ok a.isNone w)/\
    (∀e a n c d j,P.underlying t=some (.slice e)->(Op.equal t (.slice a n c) (.slice none d j)).run P w= .ok a.isNone w)/\
    (∀k e a,P.underlying t=some (.map k e)->(Op.equal t (.map a) (.map none)).run P w= .ok a.isNone w):=
  NJ P 9999 w
theorem QG{P:Program}{op:BinOp}{t:TypeId}{x y:Value}{K:Value->Prop}(h:evBin0 P op t x y K):
    ∃v,K v/\ ∀w,(binOp op t x y).run P w= .ok v w:=by
  unfold evBin0 at h;split at h
  · split at h
    · split at h
      · obtain⟨h0,h⟩:=h;refine⟨_,h,fun w=> ?_⟩;have: ¬(‹Int› :Int)<0:=by omega
        simp[binOp,Op.shift,Int.not_lt.2 h0]
      · obtain⟨h0,h⟩:=h;exact⟨_,h,fun w=>by simp[binOp,Op.shift,Int.not_lt.2 h0]⟩
      · rename_i h1 h2;obtain⟨rfl,C⟩:=EB h;exact RU C ⟨fun e=>h1 e,fun e=>h2 e⟩ t
    · exact h.elim
  · split at h
    · split at h
      · rename_i ht;split at h
        · exact⟨_,h,fun w=>run_eql_bool w t _ _ ht⟩
        · exact⟨_,h,fun w=>run_neq_bool w t _ _ ht⟩
        · exact h.elim
      · exact h.elim
    · exact h.elim
  · split at h
    · split at h
      · rename_i ht;have d:P.underlying t=some (.pointer (P.pointee t)):=by simp[Program.pointee,ht]
        rename_i a _ _ _ _;split at h
        · refine⟨_,h,fun w=> ?_⟩;simp only[binOp]
          first
            | simp[(EJ P w).1 _ _ ht]
            | simp[(EJ P w).2.1 _ _ _ _ _ _ ht]
            | simp[(EJ P w).2.2 _ _ _ ht]
        · refine⟨_,h,fun w=> ?_⟩;simp only[binOp]
          first
            | simp[(EJ P w).1 _ _ ht]
            | simp[(EJ P w).2.1 _ _ _ _ _ _ ht]
            | simp[(EJ P w).2.2 _ _ _ ht]
        · exact h.elim
      · exact h.elim
    · exact h.elim
  · split at h
    · split at h
      · rename_i ht;rename_i a _ _ _ _ _ _ _ _;split at h
        · refine⟨_,h,fun w=> ?_⟩;simp only[binOp]
          first
            | simp[(EJ P w).1 _ _ ht]
            | simp[(EJ P w).2.1 _ _ _ _ _ _ ht]
            | simp[(EJ P w).2.2 _ _ _ ht]
        · refine⟨_,h,fun w=> ?_⟩;simp only[binOp]
          first
            | simp[(EJ P w).1 _ _ ht]
            | simp[(EJ P w).2.1 _ _ _ _ _ _ ht]
            | simp[(EJ P w).2.2 _ _ _ ht]
        · exact h.elim
      · exact h.elim
    · exact h.elim
  · split at h
    · split at h
      · rename_i ht;rename_i a _ _ _ _ _;split at h
        · refine⟨_,h,fun w=> ?_⟩;simp only[binOp]
          first
            | simp[(EJ P w).1 _ _ ht]
            | simp[(EJ P w).2.1 _ _ _ _ _ _ ht]
            | simp[(EJ P w).2.2 _ _ _ ht]
        · refine⟨_,h,fun w=> ?_⟩;simp only[binOp]
          first
            | simp[(EJ P w).1 _ _ ht]
            | simp[(EJ P w).2.1 _ _ _ _ _ _ ht]
            | simp[(EJ P w).2.2 _ _ _ ht]
        · exact h.elim
      · exact h.elim
    · exact h.elim
  · split at h
    · obtain⟨j,h⟩:=GU h;obtain⟨J,h⟩:=GU h;subst j;subst J;unfold evFlt at h;split at h
      · exact⟨_,h,fun w=>by simp[binOp,Op.floatCmp,Cd,GV]⟩
      · exact⟨_,h,fun w=>by simp[binOp,Op.floatCmp,Cd,GV]⟩
      · exact⟨_,h,fun w=>by simp[binOp,Op.floatCmp,Cd,GV]⟩
      · exact⟨_,h,fun w=>by simp[binOp,Op.floatCmp,Cd,GV]⟩
      · exact⟨_,h,fun w=>by simp[binOp,Op.floatCmp,Cd,GV]⟩
      · exact⟨_,h,fun w=>by simp[binOp,Op.floatCmp,Cd,GV]⟩
      · exact h.elim
    · exact h.elim
  · exact h.elim
theorem JP(P:Program){t:TypeId}{C rs:Array TypeId}{j:Bool}{x:Value}(w:World)(v:P.underlying t=some (.func C rs j))(J:isFn x=true):
    (Op.equal t x .nilFunc).run P w= .ok (isNilF x) w:=by
  have key: ∀d,(Op.equalIn (d+1) t x .nilFunc).run P w= .ok (isNilF x) w:=by
    intro d;cases x<;>simp[isFn]at J<;>simp[Op.equalIn,AW v,isNilF]
  exact key 9999
theorem JQ(P:Program){t:TypeId}{ms:Array (String×TypeId)}{x:Value}(w:World)(j:P.underlying t=some (.interface ms))(v:isIf x=true):
    (Op.equal t x .nilIface).run P w= .ok (isNilI x) w:=by
  have key: ∀d,(Op.equalIn (d+1) t x .nilIface).run P w= .ok (isNilI x) w:=by
    intro d;cases x<;>simp[isIf]at v<;>simp[Op.equalIn,AW j,isNilI]
  exact key 9999
theorem Hx{P:Program}(d:Nat)(xs J:Array Value): ∀(fs:List Field) (K:Bool->Prop),evEqF P xs.toList J.toList fs K->
    ∃r,K r/\ ∀w,(Op.eqFields (d+1) xs J fs).run P w= .ok r w
  | [],K,h=>⟨true,h,fun w=>by simp[Op.eqFields]⟩
  | f::r,K,h=>by
    unfold evEqF at h;split at h
    · rename_i hn;have O:f.name≠ "_" :=by simpa using hn
      split at h
      · rename_i ht;split at h
        · rename_i k a hx;split at h
          · rename_i k' b hy;obtain⟨rfl,h2⟩:=EB h;obtain⟨t,T,Y⟩:=Hx d xs J r _ h2;have j:xs[f.offset]? =some (.int k a):=by simpa using hx
            have C:J[f.offset]? =some (.int k b):=by simpa using hy
            refine⟨_,T,fun w=> ?_⟩;have N: ∀(cs:Array Value) v,cs[f.offset]? =some v->(part f.type cs f.offset).run P w= .ok v w:=by
              intro cs v hv;simp[part,isAgg,AW ht,hv]
            simp only[Op.eqFields,if_pos O,Sem.run_bind,N _ _ j,N _ _ C,Result.andThen_ok,run_equalIn_int w d f.type k _ a b ht];cases hab:(a==b)<;>simp[Y]
          · exact h.elim
        · exact h.elim
      · rename_i ht;split at h
        · rename_i a hx;split at h
          · rename_i b hy;obtain⟨t,T,Y⟩:=Hx d xs J r _ h;have j:xs[f.offset]? =some (.bool a):=by simpa using hx
            have C:J[f.offset]? =some (.bool b):=by simpa using hy
            refine⟨_,T,fun w=> ?_⟩;have N: ∀(cs:Array Value) v,cs[f.offset]? =some v->(part f.type cs f.offset).run P w= .ok v w:=by
              intro cs v hv;simp[part,isAgg,AW ht,hv]
            simp only[Op.eqFields,if_pos O,Sem.run_bind,N _ _ j,N _ _ C,Result.andThen_ok,run_equalIn_bool' w d f.type a b ht];cases hab:(a==b)<;>simp[Y]
          · exact h.elim
        · exact h.elim
      · exact h.elim
    · exact h.elim
theorem Mg{P:Program}{op:BinOp}{t:TypeId}{xs d:Array Value}{K:Value->Prop}(h:evEqS P op t xs.toList d.toList K):
    (∃v,K v/\ ∀w,(binOp op t (.agg xs) (.agg d)).run P w= .ok v w)/\P.eqGuardType P.depth t=false:=by
  unfold evEqS at h;split at h
  · rename_i fs ht;split at h
    · rename_i hp;split at h
      · rename_i hg;refine⟨?_,hg⟩;have hf:P.fieldsOf t=fs:=by simp[Program.fieldsOf,ht]
        have j:P.underlying t=some (.struct (P.fieldsOf t)):=by rw[hf];exact ht
        split at h
        · obtain⟨r,C,J⟩:=Hx 9998 xs d _ _ h;refine⟨_,C,fun w=> ?_⟩;rw[run_eql_struct,run_equalIn_struct w 9999 t xs d j hp,hf,J w];rfl
        · obtain⟨r,C,J⟩:=Hx 9998 xs d _ _ h;refine⟨_,C,fun w=> ?_⟩;rw[run_neq_struct,run_equalIn_struct w 9999 t xs d j hp,hf,J w];rfl
        · exact h.elim
      · exact h.elim
    · exact h.elim
  · exact h.elim
theorem JR{P:Program}{op:BinOp}{t:TypeId}{x y:Value}{K:Value->Prop}(h:evBin P op t x y K):
    ∃v,K v/\ ∀w,(binOp op t x y).run P w= .ok v w:=by
  unfold evBin at h;split at h
  · split at h
    · rename_i ms ht;split at h
      · split at h
        · obtain⟨d,j⟩:=h;refine⟨_,j,fun w=> ?_⟩;have he:=JQ P w ht d;cases x<;>simp[isIf]at d<;>simp[binOp,he]
        · obtain⟨d,j⟩:=h;refine⟨_,j,fun w=> ?_⟩;have he:=JQ P w ht d;cases x<;>simp[isIf]at d<;>simp[binOp,he]
        · exact h.elim
      · exact h.elim
    · exact h.elim
  · split at h
    · rename_i ht;split at h
      · obtain⟨d,j⟩:=h;refine⟨_,j,fun w=> ?_⟩;have he:=JP P w ht d;cases x<;>simp[isFn]at d<;>simp[binOp,he]
      · obtain⟨d,j⟩:=h;refine⟨_,j,fun w=> ?_⟩;have he:=JP P w ht d;cases x<;>simp[isFn]at d<;>simp[binOp,he]
      · exact h.elim
    · exact h.elim
  · split at h
    · exact(Mg h).1
    · exact h.elim
  · exact QG h
theorem Gf(P:Program){t e:TypeId}{a b:Option Addr}{n:Nat}(w:World)(j:P.underlying t=some (.pointer e))(J:n≠0)(C:(sizeOf e).run P w= .ok n w){K:Bool->Prop}(h:nK a b K):
    ∃r,K r/\(Op.equal t (.pointer a) (.pointer b)).run P w= .ok r w/\r=(match a,b with|none,b=>b.isNone|some _,none=>false|some p,some q=>p==q):=by
  have key: ∀d,∃r,K r/\(Op.equalIn (d+1) t (.pointer a) (.pointer b)).run P w= .ok r w/\r=(match a,b with|none,b=>b.isNone|some _,none=>false|some p,some q=>p==q):=by
    intro d;cases a with
    | none=>exact⟨_,h,by simp[Op.equalIn,AW j],rfl⟩
    | some p=>cases b with
      | none=>exact⟨_,h,by simp[Op.equalIn,AW j],rfl⟩
      | some q=>
        obtain⟨v,h⟩:=h;exact⟨_,h,by simp[Op.equalIn,AW j,C,J,sameAddr,v],rfl⟩
  exact key 9999
theorem QH{P:Program}{op:BinOp}{t:TypeId}{x y:Value}{K:Value->Prop}(h:evBinT P op t x y K):
    ∃v,K v/\ ∀w,(binOp op t x y).run P w= .ok v w:=by
  unfold evBinT at h;split at h
  · split at h
    · split at h
      · rename_i e ht;obtain⟨n,h,N,_,J⟩:=EP h;split at h
        · obtain⟨r,O,_,j⟩:=Gf P default ht N (J default) h;refine⟨_,O,fun w=> ?_⟩;obtain⟨T,_,d,C⟩:=Gf P w ht N (J w) h;rw[C,<-j]at d;simp[binOp,d]
        · obtain⟨r,O,_,j⟩:=Gf P default ht N (J default) h;refine⟨_,O,fun w=> ?_⟩;obtain⟨T,_,d,C⟩:=Gf P w ht N (J w) h;rw[C,<-j]at d;simp[binOp,d]
        · exact h.elim
      · exact h.elim
    · exact JR h
  · exact JR h
end Go.Sh
set_option linter.all false
namespace Go.Sh
theorem Ko{P:Program}{op:BinOp}{t:TypeId}{x y:Operand}{a b:Value}{w:World}
    (h: ∀K,evBin P op t a b K->True)(j: ∃K,evBin P op t a b K):(eqGuard op t x y a b).run P w= .ok () w:=by
  obtain⟨K,j⟩:=j;unfold evBin at j;split at j
  · split at j
    · rename_i ms ht;split at j
      · rename_i hms;have J: ∀d,(Op.eqGuardIn (d+1) t .nilIface .nilIface).run P w= .ok false w:=fun d=>by simp[Op.eqGuardIn,AW ht,hms]
        have v:(Op.eqGuardIn Op.maxDepth t .nilIface .nilIface).run P w= .ok false w:=J 9999;split at j<;>first
          | exact j.elim
          | (obtain⟨C,_⟩:=j
             cases a<;>simp[isIf]at C
             all_goals first
               | rfl
               | (simp[eqGuard,v];done)
               | (simp[eqGuard,v];split<;>rfl)
               | (simp only[eqGuard];split<;>simp[v]))
      · exact j.elim
    · exact j.elim
  · split at j
    · split at j<;>first
        | exact j.elim
        | (obtain⟨C,_⟩:=j;cases a<;>simp[isFn]at C<;>rfl)
    · exact j.elim
  · split at j
    · exact run_eqGuard_agg w op t x y _ _ (Mg j).2
    · exact j.elim
  · unfold evBin0 at j;split at j<;>first
      | exact j.elim
      | (cases op<;>rfl)
theorem PQ{P:Program}{x:Option Value}{d top:Nat}{K:Nat->Prop}(h:evBound x d top K)(code:BoundsCode):
    (∃n,K n/\ ∀w,(match x with|some v=>Instr.sliceBound v top code|none=>pure d:Sem Nat).run P w= .ok n w):=by
  unfold evBound at h;split at h
  · exact⟨_,h,fun w=>by simp⟩
  · obtain⟨⟨h0,h1⟩,h⟩:=h;exact⟨_,h,fun w=>by simp[Instr.sliceBound,asIntOf,h0,h1]⟩
  · exact h.elim
theorem No{P:Program}{isS:Bool}{l c:Nat}{lo j:Option Value}{K:Nat->Nat->Prop}
    (h:evBound j l c fun h=>evBound lo 0 h fun m=>K h m):
    ∃h m,K h m/\ ∀w,(Instr.sliceBounds isS l c lo j none).run P w= .ok (m,h,c) w:=by
  obtain⟨n,d,C⟩:=PQ (P:=P) h (if isS then .sliceAcap else .sliceAlen);obtain⟨m,d,v⟩:=PQ (P:=P) d .sliceB;refine⟨n,m,d,fun w=> ?_⟩;have h1:=C w;have J:=v w;cases j<;>cases lo<;>simp_all[Instr.sliceBounds]
theorem Np{P:Program}{t:TypeId}{cs:Array Value}{off:Nat}{K:Value->Prop}(h:evPart P t cs.toList off K):
    ∃v,K v/\ ∀w,(part t cs off).run P w= .ok v w:=by
  obtain⟨J,h|h⟩:=PN h
  · obtain⟨h,C⟩:=h;refine⟨_,h,fun w=> ?_⟩;simp[part,C,RT J];apply Array.ext';simp
  · obtain⟨d,N,h,C⟩:=h;split at h
    · rename_i v hv;have j:cs[off]? =some v:=by simpa using hv
      exact⟨_,h,fun w=>by simp[part,C,j]⟩
    · exact h.elim
theorem D7{P:Program}{t:TypeId}{z:Value}(h:HX P t=some z)(w:World):(zeroValue t).run P w= .ok z w:=by
  unfold HX at h;cases hi:P.info? t with
  | none=>simp[hi]at h
  | some i=>simp[hi]at h;simp[zeroValue,typeInfo,hi,h]
theorem Nq{P:Program}:{j:List Field}->{X:Prop}->W2 P j X->X/\ ∀f∈j,∀w,(sizeOf f.type).run P w= .ok (QD P f.type) w
  | [],_,h=>⟨h,by simp⟩
  | f::r,X,h=>by
    obtain⟨n,N,_,v,J⟩:=EP h;obtain⟨K,C⟩:=Nq N;refine⟨K,fun g d w=> ?_⟩;rcases List.mem_cons.1 d with rfl|d
    · rw[J w,v]
    · exact C g d w
theorem run_places{P:Program}(j:Array Field)(h: ∀f∈j.toList,∀w,(sizeOf f.type).run P w= .ok (QD P f.type) w)(w:World):
    (j.mapM fun f=>do pure (f.offset,<-sizeOf f.type):Sem (Array (Nat×Nat))).run P w= .ok (j.map fun f=>(f.offset,QD P f.type)) w:=by
  have key: ∀(l:List Field),(∀f∈l,∀w,(sizeOf f.type).run P w= .ok (QD P f.type) w)->
      (l.mapM (fun f=>do pure (f.offset,<-sizeOf f.type):Field->Sem (Nat×Nat))).run P w= .ok (l.map fun f=>(f.offset,QD P f.type)) w:=by
    intro l
    induction l with
    | nil=>intro _;simp
    | cons f r ih=>
      intro h;have d:=ih (fun g C=>h g (by simp[C]));simp only[bind_pure_comp]at d;simp[List.mapM_cons,h f (by simp),d]
  have v:=key j.toList h;rw[Array.mapM_eq_mapM_toList];simp only[Sem.run_map,v,Result.andThen_ok];congr 1;apply Array.ext';simp
theorem Vc{a b:Nat}(h:Nat.beq a b=false): ¬a=b:=fun e=>by rw[e,Nat.beq_refl]at h;cases h
theorem Yx{P:Program}{l:Nat}{e:TypeId}{cs:Array Value}{n:Int}{K:Value->Prop}(h:W4 P l e cs.toList n K):
    ∃v,K v/\(0<=n/\n<(l:Int))/\ ∀w,(sizeOf e).run P w= .ok 1 w/\(part e cs (n.toNat*1)).run P w= .ok v w:=by
  unfold W4 at h;split at h
  · rename_i u hu;obtain⟨z,O,hz,_,T⟩:=EP h;have J:=GW O;have C:=GW J.2;have h1:=J.1;have h2:=C.1;have h:=C.2;subst h1;split at h
    · rename_i hp;obtain⟨N,h⟩:=h;have hg:=RS hp (i:=n.toNat) (by omega);have d:evPart P e cs.toList (n.toNat*1) fun v=>v= .pointer ((W3 cs.toList).getD n.toNat none):=by
        unfold evPart aggK;rw[hu,Nat.mul_one,hg]
      obtain⟨v,Y,j⟩:=Np d;subst Y;exact⟨_,h,N,fun w=>⟨T w,j w⟩⟩
    · exact h.elim
  · exact h.elim
theorem W5{P:Program}{l:Nat}{e:TypeId}{cs:Array Value}{n:Int}{K:Value->Prop}(h:TK P l e cs.toList n K):
    ∃v,K v/\(0<=n/\n<(l:Int))/\ ∀w,(sizeOf e).run P w= .ok 1 w/\(part e cs (n.toNat*1)).run P w= .ok v w:=by
  unfold TK at h;split at h
  · rename_i u hu;obtain⟨z,O,hz,_,T⟩:=EP h;have J:=GW O;have C:=GW J.2;have h1:=J.1;have h2:=C.1;have h:=C.2;subst h1;split at h
    · rename_i hp;obtain⟨N,h⟩:=h;have hg:=Uk hp (i:=n.toNat) (by omega);have d:evPart P e cs.toList (n.toNat*1) fun v=>v= .slice ((slL cs.toList).getD n.toNat ⟨none,0,0⟩).base ((slL cs.toList).getD n.toNat ⟨none,0,0⟩).len ((slL cs.toList).getD n.toNat ⟨none,0,0⟩).cap:=by
        unfold evPart aggK;rw[hu,Nat.mul_one,hg]
      obtain⟨v,Y,j⟩:=Np d;subst Y;exact⟨_,h,N,fun w=>⟨T w,j w⟩⟩
    · exact h.elim
  · exact h.elim
theorem RV{P:Program}{op:BinOp}{t:TypeId}{x y:Operand}{a b:Value}{w:World}{K:Value->Prop}(h:evBinT P op t a b K):
    (eqGuard op t x y a b).run P w= .ok () w:=by
  unfold evBinT at h;split at h
  · split at h
    · unfold eqGuard;cases op<;>simp
    · exact Ko (fun _ _=>trivial) ⟨_,h⟩
  · exact Ko (fun _ _=>trivial) ⟨_,h⟩
theorem LH{P:Program}{o:Oper}{ρ:Operand->Value}{K:Value->Prop}(h:evPure P o.op o.type ρ K):
    ∃v,K v/\ ∀w,(execOp ρ o).run P w= .ok (.value v) w:=by
  obtain⟨dst,op,type,pos,after,guard⟩:=o;simp only at h;unfold evPure at h;split at h
  case h_1=>exact⟨_,h,fun w=>by simp[execOp]⟩
  case h_2=>exact⟨_,h,fun w=>by simp[execOp]⟩
  case h_3=>
    split at h
    · rename_i C;exact⟨_,h,fun w=>by simp[execOp,C,asBool,cond_eq_ite]⟩
    · exact h.elim
  case h_4=>
    split at h
    · rename_i C;obtain⟨p,rfl,h⟩:=Fq h;exact⟨_,h,fun w=>by simp[execOp,C]⟩
    · exact h.elim
  case h_5=>
    split at h
    · have T: ∀x y w,(eqGuard _ _ x y _ _).run P w= .ok () w:=fun x y w=>RV h;obtain⟨v,J,j⟩:=QH h;exact⟨v,J,fun w=>by simp[execOp,j,T]⟩
    · have T: ∀x y w,(eqGuard _ _ x y _ _).run P w= .ok () w:=fun x y w=>Ko (fun _ _=>trivial) ⟨_,h⟩;obtain⟨v,J,j⟩:=JR h;exact⟨v,J,fun w=>by simp[execOp,j,T]⟩
  case h_6=>
    unfold evUn at h;split at h
    · rename_i hx;exact⟨_,h,fun w=>by simp[execOp,Op.unary,hx]⟩
    · rename_i hx;exact⟨_,h,fun w=>by simp[execOp,Op.unary,hx,Op.intArith]⟩
    · rename_i hx;exact⟨_,h,fun w=>by simp[execOp,Op.unary,hx,Op.intBits]⟩
    · exact h.elim
  case h_7=>
    split at h
    · rename_i hs hd hx;exact⟨_,h,fun w=>by simp[execOp,convert,AW hs,AW hd,hx,Conv.intToInt]⟩
    · rename_i hs hd hx;obtain⟨e,h⟩:=GU h;subst e;exact⟨_,h,fun w=>by simp[execOp,convert,AW hs,AW hd,hx,Conv.intToFloat,JC,GV]⟩
    · rename_i hs hd hx;obtain⟨e,h⟩:=GU h;subst e;obtain⟨n,h1,O,h⟩:=h;unfold LG at h1;rw[GV]at h1;exact⟨_,h,fun w=>by simp[execOp,convert,AW hs,AW hd,hx,Conv.floatToInt,h1,O]⟩
    · exact h.elim
  case h_8=>exact⟨_,h,fun w=>by simp[execOp,Instr.makeFunc]⟩
  case h_9=>
    split at h
    · rename_i hs;split at h
      · rename_i f hf;obtain⟨z,h,hz,_,j⟩:=EP h;split at h
        · rename_i hx;obtain⟨p,rfl,h⟩:=Fq h;exact⟨_,h,fun w=>by simp[execOp,Instr.fieldAt,AW hs,hf,hx,Instr.sureAddr,fieldPlace,j,hz]⟩
        · exact h.elim
      · exact h.elim
    · exact h.elim
  case h_10=>
    split at h
    · rename_i hs;split at h
      · rename_i f hf;split at h
        · rename_i hx;obtain⟨v,J,j⟩:=Np h;exact⟨_,J,fun w=>by simp[execOp,Instr.field,AW hs,hf,hx,asAgg,j]⟩
        · exact h.elim
      · exact h.elim
    · exact h.elim
  case h_11=>
    split at h
    · rename_i hi;split at h
      · rename_i ht;obtain⟨z,h,hz,_,j⟩:=EP h;split at h
        · rename_i hx;obtain⟨p,rfl,h1,h⟩:=Fq h;exact⟨_,h,fun w=>by simp[execOp,Instr.indexAt,AW ht,hi,hx,asIntOf,j,h1]⟩
        · exact h.elim
      · rename_i ht;obtain⟨z,h,hz,_,j⟩:=EP h;split at h
        · rename_i hx;obtain⟨p,rfl,h1,h⟩:=Fq h;exact⟨_,h,fun w=>by simp[execOp,Instr.indexAt,AW ht,hi,hx,asIntOf,Instr.sureAddr,j,h1]⟩
        · exact h.elim
      · exact h.elim
    · exact h.elim
  case h_12=>
    split at h
    · rename_i z hz;have Y:=D7 hz;split at h
      · rename_i fs hs;obtain⟨O,aB⟩:=Nq h;obtain⟨out,J,hf⟩:=Hw O;refine⟨_,J,fun w=> ?_⟩;have hp:=run_places fs aB w;have T:(fun i:Nat=>Option.map (fun f:Field=>(f.offset,QD P f.type)) fs[i]?)=fun i:Nat=>(fs.map fun f:Field=>(f.offset,QD P f.type))[i]? :=by
          funext i;simp
        rw[T]at hf;simp[execOp,Instr.build,Y,AW hs];simp at hp hf;simp[hp,hf]
      · rename_i hs;obtain⟨n,O,_,hn,j⟩:=EP h;obtain⟨out,J,hf⟩:=Hw O;refine⟨_,J,fun w=> ?_⟩;simp at hf;simp[execOp,Instr.build,Y,AW hs,j,hf]
      · exact h.elim
    · exact h.elim
  case h_13=>
    split at h
    · rename_i vs hx;split at h
      · rename_i v hv;rw[Array.getElem?_toList]at hv;obtain⟨u,rfl,O⟩:=MK h;exact⟨_,O,fun w=>by simp[execOp,Instr.extract,hx,hv]⟩
      · exact h.elim
    · exact h.elim
  case h_14=>
    split at h
    · rename_i ht;obtain⟨z,h,hz,_,j⟩:=EP h;split at h
      · rename_i hx;obtain⟨hh,m,J,C⟩:=No (P:=P) (isS:=true) h;refine⟨_,J,fun w=> ?_⟩;simp[execOp,Instr.sliceAt,Instr.slice,AW ht,hx,C,j]
      · exact h.elim
    · rename_i ht;obtain⟨z,h,hz,_,j⟩:=EP h;split at h
      · rename_i hx;obtain⟨p,rfl,O⟩:=Fq h;obtain⟨hh,m,J,C⟩:=No (P:=P) (isS:=false) O;refine⟨_,J,fun w=> ?_⟩;simp[execOp,Instr.sliceAt,AW ht,hx,C,j,Instr.sureAddr]
      · exact h.elim
    · exact h.elim
  case h_15=>
    split at h
    · exact h.elim
    · rename_i d hni hd;refine⟨_,h,fun w=> ?_⟩;cases d<;>first
        | (simp[execOp,Instr.makeInterface,AW hd];done)
        | exact(hni _ rfl).elim
    · exact h.elim
  case h_16=>
    split at h
    · exact h.elim
    · rename_i d hni hd;split at h
      · rename_i z hz;unfold TAS at h;split at h
        · rename_i hx;refine⟨_,h,fun w=> ?_⟩;cases d<;>first
            | (simp[execOp,Instr.typeAssert,AW hd,hx,D7 hz];done)
            | exact(hni _ rfl).elim
        · rename_i t v hx;split at h
          · rename_i C;have C:=Nat.eq_of_beq_eq_true C;refine⟨_,h,fun w=> ?_⟩;cases d<;>first
              | (simp[execOp,Instr.typeAssert,AW hd,hx,C];done)
              | exact(hni _ rfl).elim
          · rename_i C;have C:=Vc C;refine⟨_,h,fun w=> ?_⟩;cases d<;>first
              | (simp[execOp,Instr.typeAssert,AW hd,hx,C,D7 hz];done)
              | exact(hni _ rfl).elim
        · exact h.elim
      · exact h.elim
    · exact h.elim
  case h_17 c=>
    obtain⟨callee,args,argTypes⟩:=c;simp only at h;split at h
    · split at h
      · rename_i ha;split at h
        · rename_i hx;split at h
          · rename_i ht;have N:args= #[_]:=Array.toList_inj.1 (by simpa using ha);subst N;cases hT:argTypes.toList with
            | nil=>simp[hT]at ht
            | cons t r=>
              have aA:argTypes[0]? =some t:=by simp[<-Array.getElem?_toList,hT]
              simp[hT]at ht;exact⟨_,h,fun w=>by simp[execOp,resolve,invoke,builtin,Builtin.len_,aA,hx,AW ht,goInt]⟩
          · exact h.elim
        · exact h.elim
      · exact h.elim
    · split at h
      · rename_i ha;split at h
        · rename_i hx;split at h
          · rename_i hy;have N:args= #[_,_]:=Array.toList_inj.1 (by simpa using ha);subst N;exact⟨_,h,fun w=>by simp[execOp,resolve,invoke,builtin,Builtin.min_,Builtin.min2,hx,hy]⟩
          · exact h.elim
        · exact h.elim
      · rename_i ha;split at h
        · rename_i hx;split at h
          · rename_i hy;split at h
            · rename_i hz;have N:args= #[_,_,_]:=Array.toList_inj.1 (by simpa using ha);subst N;exact⟨_,h,fun w=>by simp[execOp,resolve,invoke,builtin,Builtin.min_,Builtin.min2,hx,hy,hz];rfl⟩
            · exact h.elim
          · exact h.elim
        · exact h.elim
      · exact h.elim
    · split at h
      · rename_i ha;split at h
        · rename_i hx;split at h
          · rename_i hy;have N:args= #[_,_]:=Array.toList_inj.1 (by simpa using ha);subst N;exact⟨_,h,fun w=>by simp[execOp,resolve,invoke,builtin,Builtin.max_,Builtin.max2,hx,hy]⟩
          · exact h.elim
        · exact h.elim
      · rename_i ha;split at h
        · rename_i hx;split at h
          · rename_i hy;split at h
            · rename_i hz;have N:args= #[_,_,_]:=Array.toList_inj.1 (by simpa using ha);subst N;exact⟨_,h,fun w=>by simp[execOp,resolve,invoke,builtin,Builtin.max_,Builtin.max2,hx,hy,hz];rfl⟩
            · exact h.elim
          · exact h.elim
        · exact h.elim
      · exact h.elim
    · exact h.elim
  case h_18=>
    split at h
    · rename_i l e ht;split at h
      · rename_i cs hx;split at h
        · rename_i kk n hi;split at h
          · obtain⟨v,J,C,j⟩:=W5 h;refine⟨v,J,fun w=> ?_⟩;have h1:=(j w).1;have O:=(j w).2;rw[Nat.mul_one]at O;simp[execOp,Instr.index,AW ht,hi,hx,asIntOf,C,h1,O]
          · obtain⟨v,J,C,j⟩:=Yx h;refine⟨v,J,fun w=> ?_⟩;have h1:=(j w).1;have O:=(j w).2;rw[Nat.mul_one]at O;simp[execOp,Instr.index,AW ht,hi,hx,asIntOf,C,h1,O]
        · exact h.elim
      · exact h.elim
    · rename_i ht;split at h
      · rename_i s hx;split at h
        · rename_i kk n hi;obtain⟨h0,b,C,J⟩:=h;exact⟨_,J,fun w=>by simp[execOp,Instr.index,AW ht,hi,hx,asIntOf,h0,C]⟩
        · exact h.elim
      · exact h.elim
    · exact h.elim
  case h_19=>exact h.elim
end Go.Sh
set_option linter.all false
namespace Go.Sh
abbrev FT:=World->Prop
def FT.all:FT:=fun _=>True
def FT.cell(p:Addr)(v:Value):FT:=fun w=>w.cell? p=some v
def FT.and(a b:FT):FT:=fun w=>a w/\b w
def FT.obj(r:Option Nat)(es:Array MapEntry):FT:=fun w=>match r with
 | none=>es= #[]
 | some b=> ∃c,w.heap[b]? =some (.map es c)
def QI:List Ty->Addr->Nat->World->(List Value->FT->Prop)->Prop
 | [],_,_,_,K=>K [] FT.all
 | t::r,p,i,w,K=> ∃x:aX t,w.cell? (p.add i)=some (mkV t x)/\QI r p (i+1) w fun l S=>K (mkV t x::l) (FT.and (FT.cell (p.add i) (mkV t x)) S)
def TL(P:Program)(t:TypeId)(p:Addr)(w:World)(K:Value->FT->Prop):Prop:=
 aggK P t (QE (W0 P 12 t).length (QD P t) (QI (W0 P 12 t) p 0 w fun l S=>K (.agg ⟨l⟩) S))
  fun d=> ∃x:aX (bT d),w.cell? p=some (mkV (bT d) x)/\K (mkV (bT d) x) (FT.cell p (mkV (bT d) x))
abbrev Mh(w:World)(r:Option Nat)(es:Array MapEntry):Prop:=FT.obj r es w
def JD(k:IntKind)(n:Int)(es:Array MapEntry)(res:Option (Nat×Value)):Prop:=
 Instr.findNow (.int k) (.int k n) es.toList 0=some res
def keyK(P:Program):Nat->List Field->List Value->Prop->Prop
 | _,[],[],X=>X
 | j,f::r,v::s,X=>match Nat.beq f.offset j with
  | true=>match f.name != "_" with
   | true=>match P.underlying f.type with
    | some (.int k)=>match v with
     | .int k' _=>sameK k k' (keyK P (j+1) r s X)
     | _=>False
    | some .bool=>match v with
     | .bool _=>keyK P (j+1) r s X
     | _=>False
    | _=>False
   | false=>False
  | false=>False
 | _,_,_,_=>False
theorem IY{P:Program}:{j:Nat}->{d:List Field}->{cs:List Value}->{X:Prop}->keyK P j d cs X->X/\keyK P j d cs True
 | _,[],[],_,h=>⟨h,trivial⟩
 | _,[],_::_,_,h=>h.elim
 | _,_::_,[],_,h=>h.elim
 | j,f::r,v::s,X,h=>by
  revert h
  unfold keyK;split
  ·split
   ·split
    ·split
     ·intro h;obtain⟨e,K⟩:=EB h;subst e;obtain⟨J,C⟩:=IY K;exact⟨J,by unfold sameK;rw[Nat.beq_refl];exact C⟩
     ·intro h;exact h.elim
    ·split
     ·intro h;exact IY h
     ·intro h;exact h.elim
    ·intro h;exact h.elim
   ·intro h;exact h.elim
  ·intro h;exact h.elim
def eqA:List Value->List Value->Option Bool
 | [],[]=>some true
 | .int k a::r,.int k' b::s=>match Nat.beq (ik k) (ik k')with
  | true=>bif a==b then eqA r s else some false
  | false=>none
 | .bool a::r,.bool b::s=>bif a==b then eqA r s else some false
 | _,_=>none
def findA(cs:List Value):List MapEntry->Nat->Option (Option (Nat×Value))
 | [],_=>some none
 | e::es,i=>match e.key with
  | .agg ds=>match eqA cs ds.toList with
   | some true=>some (some (i,e.val))
   | some false=>findA cs es (i+1)
   | none=>none
  | _=>none
def valOr(res:Option (Nat×Value))(z:Value):Value:=match res with|some (_,v)=>v|none=>z
def mP(k:IntKind)(n:Int)(r:Option Nat)(w:World)(z:Value)(K:Value->Bool->Array MapEntry->Prop):Prop:=
 ∃es res,Mh w r es/\JD k n es res/\K (valOr res z) res.isSome es
def evLookup(P:Program)(t:TypeId)(m key:Value)(ok:Bool)(w:World)(K:Value->FT->Prop):Prop:=
 match P.underlying t with
 | some (.map kt et)=>match P.underlying kt with
  | some (.int k)=>match key with
   | .int k' n=>sameK k k' (match m with
    | .map r=>match HX P et with
     | some z=> ∃es res,Mh w r es/\JD k n es res/\ ∃x:Yp (TJ P et),valOr res z=mkVT (TJ P et) x/\
       K (bif ok then .tuple #[mkVT (TJ P et) x,.bool res.isSome]else mkVT (TJ P et) x) (FT.obj r es)
     | none=>False
    | _=>False)
   | _=>False
  | some (.struct fs)=>match key with
   | .agg cs=>match P.stoodInHeld kt with
    | false=>keyK P 0 fs.toList cs.toList (match m with
     | .map r=>match HX P et with
      | some z=> ∃es res,Mh w r es/\findA cs.toList es.toList 0=some res/\ ∃x:Yp (TJ P et),valOr res z=mkVT (TJ P et) x/\
        K (bif ok then .tuple #[mkVT (TJ P et) x,.bool res.isSome]else mkVT (TJ P et) x) (FT.obj r es)
      | none=>False
     | _=>False)
    | true=>False
   | _=>False
  | _=>False
 | _=>False
def FT.entry(r:Nat)(m since d:Nat)(seen:Array Nat)(es:Array MapEntry)(clock:Nat):FT:=fun w=>
 w.heap[r]? =some (.mapIter (some m) since seen d)/\w.heap[m]? =some (.map es clock)
def iK(r:Nat)(w:World)(K:Value->Value->FT->Prop):Prop:=
 ∃m since d seen es clock j e,FT.entry r m since d seen es clock w/\seen.back?=some j/\clock=d/\
  es.find? (fun x:MapEntry=>x.born==j)=some e/\K e.key e.val (FT.entry r m since d seen es clock)
def evRead(P:Program)(o:Op)(ρ:Operand->Value)(w:World)(K:Value->FT->Prop):Prop:=
 match o with
 | .load t a=>match ρ a with
  | .pointer p=>NC p fun p=>TL P t p w K
  | _=>False
 | .lookup t m k ok=>evLookup P t (ρ m) (ρ k) ok w K
 | .entry it=>match ρ it with
  | .pointer (some ⟨r,0,_⟩)=>iK r w fun k v S=>K (.tuple #[k,v]) S
  | _=>False
 | .call c=>match c.callee with
  | .builtin .len=>match c.args.toList with
   | [x]=>match ρ x with
    | .map r=>match(c.argTypes.toList.head?).bind P.underlying with
     | some (.map _ _)=> ∃es,Mh w r es/\K (.int .i64 es.size) (FT.obj r es)
     | _=>False
    | _=>False
   | _=>False
  | _=>False
 | _=>False
theorem LI{P:Program}:{l:List Ty}->{p:Addr}->{i:Nat}->{w:World}->{K:List Value->FT->Prop}->QI l p i w K->
  ∃vs S,K vs S/\S w/\vs.length=l.length/\ ∀w',S w'-> ∀acc,(loadCellsFrom p i l.length acc).run P w'= .ok (acc++vs.toArray) w'
 | [],p,i,w,K,h=>⟨[],FT.all,h,trivial,rfl,fun w' _ acc=>by simp[loadCellsFrom]⟩
 | t::r,p,i,w,K,h=>by
  obtain⟨x,C,h⟩:=h;obtain⟨vs,S,v,N,j,J⟩:=LI (P:=P) h;refine⟨_,_,v,⟨C,N⟩,by simp[j],fun w' d acc=> ?_⟩;have O:w'.cell? (p.add i)=some (mkV t x):=d.1;simp[loadCellsFrom,O,J w' d.2]
theorem Mi{P:Program}{t:TypeId}{p:Addr}{w:World}{K:Value->FT->Prop}(h:TL P t p w K):
  ∃v S,K v S/\S w/\ ∀w',S w'->(loadVar t p).run P w'= .ok v w':=by
 obtain⟨Y,h|h⟩:=PN h
 ·obtain⟨h,J⟩:=h;obtain⟨T,h⟩:=GW h;obtain⟨vs,S,C,hS,hl,O⟩:=LI (P:=P) h;refine⟨_,S,C,hS,fun w' j=> ?_⟩;have:=O w' j #[];simp[loadVar,J,RT Y,loadCells,<-T,this]
 ·obtain⟨d,hd,⟨x,N,C⟩,J⟩:=h;refine⟨_,_,C,N,fun w' j=> ?_⟩;have hc:w'.cell? p=some (mkV (bT d) x):=j;simp[loadVar,J,hc]
theorem run_findKey{P:Program}{d:TypeId}{k:IntKind}{n:Int}{es:Array MapEntry}{res:Option (Nat×Value)}(j:P.underlying d=some (.int k))
  (h:JD k n es res)(w:World):(Instr.findKey d (.int k n) es.toList).run P w= .ok res w:=by
 unfold JD at h;simp[Instr.findKey,AW j,h]
theorem O8{P:Program}{j:TypeId}{k:IntKind}{n:Int}{e:Bool}(d:Nat)(v:P.underlying j=some (.int k))(w:World):
  (Instr.checkKey e (d+1) j (.int k n)).run P w= .ok () w:=by
 simp[Instr.checkKey,AW v]
theorem run_checkKey{P:Program}{d:TypeId}{k:IntKind}{n:Int}{e:Bool}(j:P.underlying d=some (.int k))(w:World):
  (Instr.checkKey e 10000 d (.int k n)).run P w= .ok () w:=O8 9999 j w
theorem drop_cons{l s:List Value}{j:Nat}{v:Value}(h:l.drop j=v::s):l[j]? =some v/\l.drop (j+1)=s:=by
 constructor
 ·have:=List.getElem?_drop (xs:=l) (i:=j) (j:=0);rw[h]at this;simpa using this.symm
 ·rw[<-List.tail_drop,h];rfl
theorem HQ{P:Program}{t:TypeId}{cs:Array Value}{j:Nat}{v:Value}(d:(∃k,P.underlying t=some (.int k))∨P.underlying t=some .bool)(J:cs.toList[j]? =some v)(w:World):(part t cs j).run P w= .ok v w:=by
 have C:cs[j]? =some v:=by simpa using J
 rcases d with ⟨k,d⟩|d<;>simp[part,isAgg,AW d,C]
theorem MM{P:Program}(d:Nat)(cs T:Array Value): ∀(fs:List Field) (j:Nat) (s t:List Value) {b:Bool},cs.toList.drop j=s->T.toList.drop j=t->keyK P j fs s True->eqA s t=some b->
  ∀w,(Op.eqFields (d+1) cs T fs).run P w= .ok b w
 | [],j,[],t,b,hc,hd,h,he,w=>by
  cases t with
  | nil=>simp[eqA]at he;subst he;simp[Op.eqFields]
  | cons=>simp[eqA]at he
 | [],_,_::_,_,_,_,_,h,_,_=>h.elim
 | _::_,_,[],_,_,_,_,h,_,_=>h.elim
 | f::r,j,v::s,t,b,hc,hd,h,he,w=>by
  unfold keyK at h;obtain⟨K,O⟩:=drop_cons hc;split at h
  ·rename_i e1;have e1:=Nat.eq_of_beq_eq_true e1;subst e1;split at h
   ·rename_i hn;have N:f.name≠ "_" :=by simpa using hn
    split at h
    ·rename_i kk e3;split at h
     ·rename_i k a;obtain⟨aB,h2⟩:=EB h;clear h;subst aB;cases t with
      | nil=>simp[eqA]at he
      | cons u t=>
       obtain⟨C,J⟩:=drop_cons hd;cases u<;>try (simp[eqA]at he;done)
       rename_i k' a';unfold eqA at he;split at he
       ·rename_i Y;have Y:=TI (Nat.eq_of_beq_eq_true Y);subst Y;simp only[Op.eqFields,if_pos N,Sem.run_bind,HQ (.inl ⟨_,e3⟩) K,HQ (.inl ⟨_,e3⟩) C,Result.andThen_ok,run_equalIn_int w d f.type _ _ _ _ e3];cases hab:(a==a')
        ·rw[hab]at he;cases he;simp
        ·rw[hab]at he;simp only[cond_true]at he;simp[MM d cs T r (f.offset+1) s t O J h2 he w]
       ·cases he
     ·exact h.elim
    ·rename_i e3;split at h
     ·rename_i a;cases t with
      | nil=>simp[eqA]at he
      | cons u t=>
       obtain⟨C,J⟩:=drop_cons hd;cases u<;>try (simp[eqA]at he;done)
       rename_i a';unfold eqA at he;simp only[Op.eqFields,if_pos N,Sem.run_bind,HQ (.inr e3) K,HQ (.inr e3) C,Result.andThen_ok,run_equalIn_bool' w d f.type _ _ e3];cases hab:(a==a')
       ·rw[hab]at he;cases he;simp
       ·rw[hab]at he;simp only[cond_true]at he;simp[MM d cs T r (f.offset+1) s t O J h he w]
     ·exact h.elim
    ·exact h.elim
   ·exact h.elim
  ·exact h.elim
theorem Nr{P:Program}{d:TypeId}{v:Array Field}{cs j:Array Value}{b:Bool}(J:P.underlying d=some (.struct v))(hp:P.stoodInHeld d=false)(h:keyK P 0 v.toList cs.toList True)(he:eqA cs.toList j.toList=some b)(w:World):
  (Op.equal d (.agg cs) (.agg j)).run P w= .ok b w:=by
 have hf:P.fieldsOf d=v:=by simp[Program.fieldsOf,J]
 have C:P.underlying d=some (.struct (P.fieldsOf d)):=by rw[hf];exact J
 show(Op.equalIn (9999+1) d (.agg cs) (.agg j)).run P w=_;rw[run_equalIn_struct w 9999 d cs j C hp,hf];exact MM 9998 cs j v.toList 0 _ _ rfl rfl h he w
theorem PR{P:Program}{d:TypeId}{v:Array Field}{cs:Array Value}(j:P.underlying d=some (.struct v))(hp:P.stoodInHeld d=false)(h:keyK P 0 v.toList cs.toList True)(w:World):
  ∀(es:List MapEntry) (i:Nat) {res:Option (Nat×Value)},findA cs.toList es i=some res->(Instr.findAsking d (.agg cs) es i).run P w= .ok res w
 | [],i,res,hf=>by simp[findA]at hf;subst hf;simp[Instr.findAsking]
 | e::es,i,res,hf=>by
  unfold findA at hf;split at hf
  ·rename_i ds hd;split at hf
   ·rename_i he;cases hf;simp[Instr.findAsking,hd,Nr j hp h he]
   ·rename_i he;have:=PR j hp h w es (i+1) hf;simp[Instr.findAsking,hd,Nr j hp h he,this]
   ·cases hf
  ·cases hf
theorem LJ{P:Program}{d:TypeId}{C:Array Field}{cs:Array Value}(j:P.underlying d=some (.struct C))(hp:P.stoodInHeld d=false)(h:keyK P 0 C.toList cs.toList True)
  {es:Array MapEntry}{res:Option (Nat×Value)}(hf:findA cs.toList es.toList 0=some res)(w:World):(Instr.findKey d (.agg cs) es.toList).run P w= .ok res w:=by
 have v:=PR j hp h w es.toList 0 hf;cases hes:es.toList with
 | nil=>rw[hes]at hf;simp[findA]at hf;subst hf;simp[Instr.findKey,AW j,Instr.findNow]
 | cons e l=>rw[hes]at v;simp[Instr.findKey,AW j,Instr.findNow,Instr.sameNow,v]
theorem Kq{P:Program}(e:Bool)(d:Nat)(cs:Array Value): ∀(T:List Field) (j:Nat) (s:List Value),cs.toList.drop j=s->keyK P j T s True->
  ∀w,(do for f in T do if f.name≠ "_" then Instr.checkKey e (d+1) f.type (<-part f.type cs f.offset):Sem Unit).run P w= .ok () w
 | [],_,_,_,_,w=>by simp
 | _::_,_,[],_,h,_=>h.elim
 | f::r,j,v::s,hc,h,w=>by
  unfold keyK at h;obtain⟨K,J⟩:=drop_cons hc;split at h
  ·rename_i O;have O:=Nat.eq_of_beq_eq_true O;subst O;split at h
   ·rename_i hn;have C:f.name≠ "_" :=by simpa using hn
    split at h
    ·rename_i kk e3;split at h
     ·obtain⟨Y,h2⟩:=EB h;have N:=Kq e d cs r (f.offset+1) s J h2 w;simp only[List.forIn_cons,Sem.run_bind,if_pos C,HQ (.inl ⟨_,e3⟩) K,Result.andThen_ok,Instr.checkKey,AW e3,Sem.run_pure]at N⊢;exact N
     ·exact h.elim
    ·rename_i e3;split at h
     ·have N:=Kq e d cs r (f.offset+1) s J h w;simp only[List.forIn_cons,Sem.run_bind,if_pos C,HQ (.inr e3) K,Result.andThen_ok,Instr.checkKey,AW e3,Sem.run_pure]at N⊢;exact N
     ·exact h.elim
    ·exact h.elim
   ·exact h.elim
  ·exact h.elim
theorem Kd{P:Program}{j:TypeId}{v:Array Field}{cs:Array Value}(C:P.underlying j=some (.struct v))(h:keyK P 0 v.toList cs.toList True)(e:Bool)(w:World):
  (Instr.checkKey e 10000 j (.agg cs)).run P w= .ok () w:=by
 have key: ∀d,(Instr.checkKey e (d+1+1) j (.agg cs)).run P w= .ok () w:=by
  intro d;have:=Kq e d cs v.toList 0 _ rfl h w;rw[Instr.checkKey];simp only[Sem.run_bind,AW C,Result.andThen_ok];rw[Array.forIn_toList,Sem.run_bind]at this;exact this
 exact key 9998
theorem EC{P:Program}{w:World}{b:Nat}{es:Array MapEntry}{c:Nat}(h:w.heap[b]? =some (.map es c)):
  (getObj b).run P w= .ok (.map es c) w:=by
 simp[getObj,Sem.run,h]
theorem LK{P:Program}{o:Oper}{ρ:Operand->Value}{w:World}{K:Value->FT->Prop}(h:evRead P o.op ρ w K):
  ∃v S,K v S/\S w/\ ∀w',S w'->(execOp ρ o).run P w'= .ok (.value v) w':=by
 obtain⟨dst,op,type,pos,after,guard⟩:=o;simp only at h;unfold evRead at h;split at h
 ·split at h
  ·rename_i O;obtain⟨p,rfl,h⟩:=Fq h;obtain⟨v,S,T,hS,hr⟩:=Mi h;exact⟨v,S,T,hS,fun w' d=>by simp[execOp,Instr.loadAt,O,Instr.sureAddr,hr w' d]⟩
  ·exact h.elim
 ·rename_i t m k ok;unfold evLookup at h;split at h
  ·rename_i kt et ht;split at h
   ·rename_i kk hk;split at h
    ·rename_i k' n hkey;obtain⟨rfl,C⟩:=EB h;split at C
     ·rename_i r hm;split at C
      ·rename_i z hz;obtain⟨es,res,j,hf,x,O,T⟩:=C;refine⟨_,_,T,j,fun w' d=> ?_⟩;have J:=run_findKey hk hf w';have N:=fun e=>run_checkKey (e:=e) (n:=n) hk w';rw[<-O];cases r with
       | none=>
        have he:es= #[]:=d;simp only[execOp,Instr.lookup,hm,hkey,Sem.run_bind,AW ht,Result.andThen_ok,Sem.run_pure,N];rw[show([]:List MapEntry)=es.toList from by rw[he],J];cases res<;>cases ok<;>simp[D7 hz,valOr]
       | some b=>
        obtain⟨c,Y⟩:=d;simp only[execOp,Instr.lookup,hm,hkey,Sem.run_bind,AW ht,Result.andThen_ok,Sem.run_pure,N,EC Y,J];cases res<;>cases ok<;>simp[D7 hz,valOr]
      ·exact C.elim
     ·exact C.elim
    ·exact h.elim
   ·rename_i fs hk;split at h
    ·rename_i cs hkey;split at h
     ·rename_i hp;obtain⟨C,aC⟩:=IY h;split at C
      ·rename_i r hm;split at C
       ·rename_i z hz;obtain⟨es,res,j,hf,x,O,T⟩:=C;refine⟨_,_,T,j,fun w' d=> ?_⟩;have J:=LJ hk hp aC hf w';have N:=fun e=>Kd hk aC e w';rw[<-O];cases r with
        | none=>
         have he:es= #[]:=d;simp only[execOp,Instr.lookup,hm,hkey,Sem.run_bind,AW ht,Result.andThen_ok,Sem.run_pure,N];rw[show([]:List MapEntry)=es.toList from by rw[he],J];cases res<;>cases ok<;>simp[D7 hz,valOr]
        | some b=>
         obtain⟨c,Y⟩:=d;simp only[execOp,Instr.lookup,hm,hkey,Sem.run_bind,AW ht,Result.andThen_ok,Sem.run_pure,N,EC Y,J];cases res<;>cases ok<;>simp[D7 hz,valOr]
       ·exact C.elim
      ·exact C.elim
     ·exact h.elim
    ·exact h.elim
   ·exact h.elim
  ·exact h.elim
 ·split at h
  ·rename_i O;obtain⟨m,since,aB,seen,es,clock,aE,e,hS,hb,Y,hf,T⟩:=h;refine⟨_,_,T,hS,fun w' d=> ?_⟩;obtain⟨h1,C⟩:=d;subst Y;simp[execOp,Instr.entry,O,getObj,Sem.run,h1,hb,C,hf]
  ·exact h.elim
 ·rename_i c;obtain⟨callee,args,argTypes⟩:=c;simp only at h;split at h
  ·split at h
   ·rename_i ha;split at h
    ·rename_i r O;split at h
     ·rename_i ht;obtain⟨es,j,T⟩:=h;refine⟨_,_,T,j,fun w' d=> ?_⟩;have aF:args= #[_]:=Array.toList_inj.1 (by simpa using ha);subst aF;cases hT:argTypes.toList with
      | nil=>simp[hT]at ht
      | cons t r'=>
       have aA:argTypes[0]? =some t:=by simp[<-Array.getElem?_toList,hT]
       simp[hT]at ht;cases r with
       | none=>
        have he:es= #[]:=d;subst he;simp[execOp,resolve,invoke,builtin,Builtin.len_,aA,O,AW ht,goInt]
       | some b=>
        obtain⟨c,Y⟩:=d;simp[execOp,resolve,invoke,builtin,Builtin.len_,aA,O,AW ht,goInt,EC Y]
     ·exact h.elim
    ·exact h.elim
   ·exact h.elim
  ·exact h.elim
 ·exact h.elim
end Go.Sh
set_option linter.all false
namespace Go.Sh
def szZ(P:Program)(t:TypeId)(K:Nat->Prop):Prop:=match P.info? t with
 | some _=>K (QD P t)
 | none=>False
theorem W6{P:Program}{t:TypeId}{K:Nat->Prop}(h:szZ P t K): ∃n,K n/\n=QD P t/\ ∀w,(sizeOf t).run P w= .ok n w:=by
 unfold szZ at h;split at h
 ·rename_i i hi;refine⟨_,h,rfl,fun w=> ?_⟩;simp[sizeOf,typeInfo,hi,QD,Program.cellsOf]
 ·exact h.elim
def stCells(p:Addr):Nat->List Value->World->(World->Prop)->Prop
 | _,[],w,K=>K w
 | i,v::r,w,K=>((∃u,w.cell? (p.add i)=some u)/\w.frozen? (p.add i)=false/\v.oneCell'=true)/\stCells p (i+1) r (w.setCell (p.add i) v) K
def Fu(zs:Array Value)(n:Nat):Array Value:=(Array.range n).map fun i=>zs[i %zs.size]!
def rowAt(w:World)(b:Option Addr)(n:Nat)(l:List Value):Prop:=match b with
 | none=>l=[]
 | some a=>l.length=n/\ ∀j v,l[j]? =some v->w.cell? (a.add j)=some v
def APP(elem size bytes:Nat)(zs:Array Value)(s x:AZ)(w:World)(K:AZ->World->Prop):Prop:=
 ∃news,rowAt w x.base (x.len*size) news/\
  (s.len+x.len<=s.cap->match s.base with
   | some a=>stCells (a.add (s.len*size)) 0 news w fun w'=>K ⟨s.base,s.len+x.len,s.cap⟩ w'
   | none=>K ⟨none,s.len+x.len,s.cap⟩ w)/\
  (s.cap<s.len+x.len->(s.len+x.len)*bytes<=140737488355328/\s.len+x.len<=9223372036854775807/\ ∃d,rowAt w s.base (s.len*size) d/\
   ∀cap,s.len+x.len<=cap->cap<9223372036854775808->
    K ⟨some ⟨w.heap.size,0,none⟩,s.len+x.len,cap⟩ (w.drew.alloc (.cells (d.toArray++news.toArray++Builtin.zeroCells zs (cap-(s.len+x.len))) elem)))
def World.Gm(w:World)(b:Nat)(o:Obj):World:={w with heap:=w.heap.setIfInBounds b o}
def mapPut(es:Array MapEntry)(c:Nat)(key v:Value)(res:Option (Nat×Value)):Obj:=match res with
 | some (i,_)=>.map (es.modify i fun e=>{e with key,val:=v}) c
 | none=>.map (es.push {key,val:=v,born:=c}) (c+1)
def QJ(es:Array MapEntry)(c:Nat)(res:Option (Nat×Value)):Obj:=match res with
 | some (i,_)=>.map (es.eraseIdxIfInBounds i) c
 | none=>.map es c
def QK(k:IntKind)(n:Int)(v:Value)(r:Option Nat)(w:World)(K:World->Prop):Prop:=
 ∃b es c res,r=some b/\w.heap[b]? =some (.map es c)/\JD k n es res/\K (World.Gm w b (mapPut es c (.int k n) v res))
def jA(cs:List Value)(v:Value)(r:Option Nat)(w:World)(K:World->Prop):Prop:=
 ∃b es c res,r=some b/\w.heap[b]? =some (.map es c)/\findA cs es.toList 0=some res/\K (World.Gm w b (mapPut es c (.agg ⟨cs⟩) v res))
def nM(k:IntKind)(n:Int)(z:Value)(r:Option Nat)(w:World)(K:Value->Int->World->Prop):Prop:=
 ∃b es c res,r=some b/\w.heap[b]? =some (.map es c)/\JD k n es res/\match res with
  | some (i,v)=> ∃e,es[i]? =some e/\K v (e.born:Int) (World.Gm w b (.map (es.modify i fun e=>{e with key:=.int k n}) c))
  | none=>K z (c:Int) (World.Gm w b (.map (es.push {key:=.int k n,val:=z,born:=c}) (c+1)))
def nN(s:Int)(v:Value)(r:Option Nat)(w:World)(K:World->Prop):Prop:=
 ∃b es c i,r=some b/\w.heap[b]? =some (.map es c)/\es.findIdx? (fun e=>(e.born:Int)==s)=some i/\K (World.Gm w b (.map (es.modify i fun e=>{e with val:=v}) c))
def tD(size:Nat)(d x:AZ)(w:World)(K:Nat->World->Prop):Prop:=
 ∃vs,rowAt w x.base (Nat.min x.len d.len*size) vs/\match d.base with
  | none=>K (Nat.min x.len d.len) w
  | some a=>stCells a 0 vs w fun w'=>K (Nat.min x.len d.len) w'
def Vd(t:Nat):Nat:=(t %2)*2^63+0x7ff0000000000000+1+(t/2) %(2^52-1)
def FRES(r:Option Nat)(w:World)(K:Nat->World->Prop):Prop:=match r with
 | some b=>K b w
 | none=> ∀t,K (Vd t) w.drew
def fArith0(op:BinOp)(a b:Nat):Option Nat:=match op with
 | .add=>FloatKind.f64.format.add a b
 | .sub=>FloatKind.f64.format.sub a b
 | .mul=>FloatKind.f64.format.mul a b
 | _=>FloatKind.f64.format.div a b
noncomputable def GX(op:BinOp)(a b:Nat):Option Nat:=RP (fArith0 op a b)
def isArith:BinOp->Bool
 | .add| .sub| .mul| .quo=>true
 | _=>false
def MDEL(k:IntKind)(n:Int)(r:Option Nat)(w:World)(K:World->Prop):Prop:=match r with
 | none=>K w
 | some b=> ∃es c res,w.heap[b]? =some (.map es c)/\JD k n es res/\K (World.Gm w b (QJ es c res))
abbrev Dc:=FuncId->Array Value->World->(Value->World->Prop)->(Value->World->Prop)->Prop
def Ns:Value->World->Prop:=fun _ _=>False
def Ends(K Kp:Value->World->Prop)(e:Ending)(w:World):Prop:=
 (∃v,e= .returned v/\K v w)∨(∃v,e= .panicked [{v:=v,recovered:=false}]/\Kp v w)
theorem Ends.val{K:Value->World->Prop}{e:Ending}{w:World}(h:Ends K Ns e w): ∃v,e= .returned v/\K v w:=by
 rcases h with h|⟨_,_,f⟩
 ·exact h
 ·exact f.elim
def DYN(G:Dc)(v:Value)(args:Array Value)(w:World)(K:Value->World->Prop):Prop:=match v with
 | .func (.func g) first cap=>G g ((first++args)++cap) w K Ns
 | _=>False
def nO(G:Dc)(g:FuncId)(args:Array Value)(w:World)(K:Value->World->Prop):Prop:=G g args w K Ns
def bU(P:Program):List TypeId->(List Value->Prop)->Prop
 | [],K=>K []
 | t::r,K=> ∃x:Yp (TJ P t),bU P r fun l=>K (mkVT (TJ P t) x::l)
def exRes(P:Program)(ty:TypeId)(v:Value)(K:Value->Prop):Prop:=match P.underlying ty with
 | some (.tuple ts)=>bU P ts.toList fun l=>v= .tuple ⟨l⟩/\K (.tuple ⟨l⟩)
 | _=> ∃x:Yp (TJ P ty),v=mkVT (TJ P ty) x/\K (mkVT (TJ P ty) x)
theorem PS{P:Program}:{d:List TypeId}->{K:List Value->Prop}->bU P d K-> ∃l,K l
 | [],_,h=>⟨_,h⟩
 | _::_,_,⟨_,h⟩=>let⟨l,h⟩:=PS h;⟨_,h⟩
theorem Nt{P:Program}{ty:TypeId}{v:Value}{K:Value->Prop}(h:exRes P ty v K):K v:=by
 unfold exRes at h;split at h
 ·obtain⟨l,rfl,d⟩:=PS h;exact d
 ·obtain⟨x,rfl,d⟩:=h;exact d
def leftOf(es:Array MapEntry)(seen:Array Nat):Array MapEntry:=es.filter fun e=> !seen.contains e.born
def Ve(r:Nat)(w:World)(j:World->Prop)(v:Value->Value->World->Prop):Prop:=
 ∃d since seen last,w.heap[r]? =some (.mapIter d since seen last)/\match d with
  | none=>j w
  | some m=> ∃es clock,w.heap[m]? =some (.map es clock)/\(!seen.isEmpty&& !es.isEmpty&&es.all (·.born≥last))=false/\
    (∀w',(w'=w∨w'=w.drew)->((leftOf es seen).filter (·.born<since)).isEmpty=true->j w')/\
    (∀w' e,(w'=w∨w'=w.drew)->e∈leftOf es seen->v e.key e.val (World.Gm w' r (.mapIter (some m) since (seen.push e.born) clock)))
def Kr(r:Option Nat)(d:Nat):Obj:=match r with
 | none=>.mapIter none 0 #[] 0
 | some m=>.mapIter (some m) d #[] d
def RW(w:World)(r:Option Nat)(d:Nat):Prop:=match r with
 | none=>True
 | some m=> ∃es,w.heap[m]? =some (.map es d)
def PAN(x:Value)(K:Prop):Prop:=match x with
 | .iface _ _=>K
 | _=>False
theorem RX{x:Value}{K:Prop}(h:PAN x K):(∃t v,x= .iface t v)/\K:=by
 unfold PAN at h;split at h
 ·exact⟨⟨_,_,rfl⟩,h⟩
 ·exact h.elim
def sG(zs:Array Value)(b:Option Addr)(n:Nat)(w:World)(K:World->Prop):Prop:=match b with
 | none=>K w
 | some a=>stCells a 0 (Builtin.zeroCells zs n).toList w K
def evEff(P:Program)(C G:Dc)(o:Op)(ty:TypeId)(ρ:Operand->Value)(w:World)(K Kp:Value->World->Prop):Prop:=
 match o with
 | .alloc t=>match HX P t with
  | some z=>K (.pointer (some ⟨w.heap.size,0,none⟩)) (w.alloc (.cells z.cells t))
  | none=>False
 | .box t x=>K (.pointer (some ⟨w.heap.size,0,none⟩)) (w.alloc (.cells (ρ x).cells t))
 | .buildSlice t n parts=>match P.underlying t with
  | some (.slice e)=>szK P e fun z=>mO (n*z) 4096 (match HX P e with
   | some zv=>evFill (fun i=>some (i*z,z)) ((parts.map fun(i,x)=>(i,ρ x)).toList) (Fu zv.cells (n*z)).toList fun l=>
     K (.slice (some ⟨w.heap.size,0,none⟩) n n) (w.alloc (.cells ⟨l⟩ e))
   | none=>False)
  | _=>False
 | .store t a x=>match ρ a with
  | .pointer p=>NC p fun p=>szZ P t fun n=>QE (ρ x).cells.toList.length n (stCells p 0 (ρ x).cells.toList w fun w'=>K undef w')
  | _=>False
 | .range t x=>match P.underlying t with
  | some (.map _ _)=>match ρ x with
   | .map r=> ∃j,RW w r j/\K (.pointer (some ⟨w.heap.size,0,none⟩)) (w.alloc (Kr r j))
   | _=>False
  | _=>False
 | .next it false=>match ρ it with
  | .pointer (some ⟨r,0,_⟩)=>Ve r w (fun w'=>K (.tuple #[.bool false]) w') fun k v w'=>K (.tuple #[.bool true,k,v]) w'
  | _=>False
 | .makeMap _ none=>K (.map (some w.heap.size)) (w.alloc (.map #[] 0))
 | .makeSlice t l c=>match P.underlying t with
  | some (.slice e)=>szK P e fun z=>match HX P e with
   | some zv=>match ρ l with
    | .int .i64 l=>match ρ c with
     | .int .i64 c=>(0<=l/\l<=c/\c<9223372036854775808/\(P.bytesOf e:Int)*c<=140737488355328)/\
       K (.slice (some ⟨w.heap.size,0,none⟩) l.toNat c.toNat) (w.alloc (.cells (Fu zv.cells (c.toNat*z)) e))
     | _=>False
    | _=>False
   | none=>False
  | _=>False
 | .mapUpdate t m k x| .insert t m k x=>match P.underlying t with
  | some (.map kt _)=>match P.underlying kt with
   | some (.int kk)=>match ρ k with
    | .int k' n=>sameK kk k' (match ρ m with
     | .map r=>QK kk n (ρ x) r w fun w'=>K undef w'
     | _=>False)
    | _=>False
   | some (.struct fs)=>match ρ k with
    | .agg cs=>match P.stoodInHeld kt with
     | false=>keyK P 0 fs.toList cs.toList (match ρ m with
      | .map r=>jA cs.toList (ρ x) r w fun w'=>K undef w'
      | _=>False)
     | true=>False
    | _=>False
   | _=>False
  | _=>False
 | .mapEntry t m k=>match P.underlying t with
  | some (.map kt et)=>match P.underlying kt with
   | some (.int kk)=>match ρ k with
    | .int k' n=>sameK kk k' (match ρ m with
     | .map r=>match HX P et with
      | some z=>nM kk n z r w fun v s w'=>K (.tuple #[v,.int .i64 s]) w'
      | none=>False
     | _=>False)
    | _=>False
   | _=>False
  | _=>False
 | .entryStore _ m s x=>match ρ s with
  | .int _ s=>match ρ m with
   | .map r=>nN s (ρ x) r w fun w'=>K undef w'
   | _=>False
  | _=>False
 | .binOp op _ x y _=>match isArith op with
  | true=>match ρ x with
   | .float k a=>match ρ y with
    | .float k' b=>RK k (RK k' (FRES (GX op a b) w fun r w'=>K (.float .f64 r) w'))
    | _=>False
   | _=>False
  | false=>False
 | .call c=>match c.callee with
  | .value (.func g)=>C g (c.args.map ρ) w K Kp
  | .value f=>DYN G (ρ f) (c.args.map ρ) w fun v w'=>exRes P ty v fun v=>K v w'
  | .builtin .append=>match c.args.toList,c.argTypes.toList with
   | [s,x],[ts,tx]=>match P.underlying ts with
    | some (.slice e)=>match P.underlying tx with
     | some (.slice _)=>szK P e fun z=>match HX P e with
      | some zv=>match ρ s with
       | .slice sb sl sc=>match ρ x with
        | .slice xb xl xc=>APP e z (P.bytesOf e) zv.cells ⟨sb,sl,sc⟩ ⟨xb,xl,xc⟩ w fun r w'=>K (.slice r.base r.len r.cap) w'
        | _=>False
       | _=>False
      | none=>False
     | _=>False
    | _=>False
   | _,_=>False
  | .builtin .copy=>match c.args.toList,c.argTypes.toList with
   | [d,x],t::_=>match P.underlying t with
    | some (.slice e)=>szK P e fun z=>match ρ d with
     | .slice db dl dc=>match ρ x with
      | .slice xb xl xc=>tD z ⟨db,dl,dc⟩ ⟨xb,xl,xc⟩ w fun n w'=>K (.int .i64 n) w'
      | _=>False
     | _=>False
    | _=>False
   | _,_=>False
  | .builtin .delete=>match c.args.toList,c.argTypes.toList with
   | [m,k],t::_=>match P.underlying t with
    | some (.map kt _)=>match P.underlying kt with
     | some (.int kk)=>match ρ k with
      | .int k' n=>sameK kk k' (match ρ m with
       | .map r=>MDEL kk n r w fun w'=>K (.tuple #[]) w'
       | _=>False)
      | _=>False
     | _=>False
    | _=>False
   | _,_=>False
  | .builtin .clear=>match c.args.toList,c.argTypes.toList with
   | [x],[t]=>match P.underlying t with
    | some (.slice e)=>match HX P e with
     | some zv=>match ρ x with
      | .slice b n _=>sG zv.cells b n w fun w'=>K (.tuple #[]) w'
      | _=>False
     | none=>False
    | _=>False
   | _,_=>False
  | .builtin .panic=>match c.args.toList with
   | [x]=>PAN (ρ x) (Kp (ρ x) w)
   | _=>False
  | _=>False
 | .panic x=>PAN (ρ x) (Kp (ρ x) w)
 | _=>False
def Goes(P:Program)(r:Result Next)(K Kp:Value->World->Prop):Prop:=match r with
 | .ok (.value v) w=>K v w
 | .ok .skip w=>K undef w
 | .ok (.enter f args) w=>Calls P f args w (Ends K Kp)
 | .halt (.panic v) w=>Kp v w
 | _=>False
theorem F8{P:Program}{p:Addr}:{vs:List Value}->{i:Nat}->{w:World}->{K:World->Prop}->stCells p i vs w K->
  ∃w',K w'/\(storeCells p vs i).run P w= .ok () w'
 | [],i,w,K,h=>⟨w,h,by simp[storeCells]⟩
 | v::r,i,w,K,h=>by
  obtain⟨⟨⟨u,hu⟩,hf,d⟩,h⟩:=h;obtain⟨w',j,C⟩:=F8 (P:=P) h;exact⟨w',j,by simp[storeCells,run_store P w _ v .plain d,hu,hf,C]⟩
theorem KK{P:Program}{w:World}{b:Option Addr}{n size len cap:Nat}{l:List Value}(h:rowAt w b (n*size) l):
  (Builtin.firstCells size n (.slice b len cap)).run P w= .ok l.toArray w:=by
 cases b with
 | none=>have:l=[]:=h;subst this;simp[Builtin.firstCells]
 | some a=>exact run_firstCells_some w size n a len cap l h.1 h.2
theorem Nu{w:World}{b:Option Addr}{n:Nat}{l:List Value}(h:rowAt w b n l):rowAt w.drew b n l:=by
 cases b with
 | none=>exact h
 | some a=>exact⟨h.1,fun j v d=>by simpa using h.2 j v d⟩
theorem Vf{P:Program}{e z ts tx ty:Nat}{zv:Value}{sb xb:Option Addr}{sl J C xc:Nat}{w:World}{K:AZ->World->Prop}
  (N:P.underlying ts=some (.slice e))(j: ∃e',P.underlying tx=some (.slice e'))(hz: ∀w,(sizeOf e).run P w= .ok z w)(Y:HX P e=some zv)
  (h:APP e z (P.bytesOf e) zv.cells ⟨sb,sl,J⟩ ⟨xb,C,xc⟩ w K):
  ∃r w',K r w'/\(Builtin.append_ #[ts,tx] ty #[.slice sb sl J,.slice xb C xc]).run P w= .ok (.slice r.base r.len r.cap) w':=by
 obtain⟨news,hn,v,d⟩:=h;obtain⟨e',j⟩:=j;simp only at v d hn;obtain⟨i,hi⟩: ∃i,P.info? e=some i:=by
  cases hi:P.info? e with
  | none=>simp[HX,hi]at Y
  | some i=>exact⟨i,rfl⟩
 have aD:i.bytes=P.bytesOf e:=by simp[Program.bytesOf,hi]
 have aF:=D7 Y;by_cases hc:sl+C<=J
 ·have h1:=v hc;have hf:=KK (P:=P) (len:=C) (cap:=xc) hn;cases sb with
  | none=>exact⟨_,_,h1,by simp[Builtin.append_,AW N,AW j,hz,Builtin.lenOf,hc,hf]⟩
  | some a=>
   obtain⟨w',hK,hr⟩:=F8 (P:=P) h1;refine⟨_,_,hK,by simp[Builtin.append_,AW N,AW j,hz,Builtin.lenOf,hc,hf,hr]⟩
 ·obtain⟨hb,aE,aK,ho,hK⟩:=d (by omega);have aJ:=growslice_fits (bytes:=i.bytes) (by omega:J<sl+C) (by rw[aD];exact hb);have T: ¬(281474976710656<Builtin.nextslicecap (sl+C) J*i.bytes):=by omega
  have O: ¬(9223372036854775807<((sl:Int)+(C:Int))):=by omega
  have hf:=KK (P:=P) (len:=C) (cap:=xc) (Nu hn);have aI:=KK (P:=P) (len:=sl) (cap:=J) (Nu ho);have hk:=hK (grownCap w (sl+C) J e) (grownCap_ge w _ _ _) (by
   have:=grownCap_le_maxLen w (sl+C) J e (by simpa[maxLen]using aE);simp only[maxLen]at this;omega)
  refine⟨_,_,hk,?_⟩;simp[Builtin.append_,AW N,AW j,hz,typeInfo,hi,aF,Builtin.lenOf,hc,O,T,Question.forced,hf,aI,newRow,grownCap];congr 2;apply Array.ext';simp[List.append_assoc]
theorem Nv(d:TypeDesc)(key:Value): ∀(es:List MapEntry) (j i:Nat) (v:Value),Instr.findNow d key es j=some (some (i,v))->j<=i
 | [],j,i,v,h=>by simp[Instr.findNow]at h
 | e::r,j,i,v,h=>by
  simp only[Instr.findNow]at h;split at h
  ·simp at h;omega
  ·have:=Nv d key r (j+1) i v h;omega
  ·simp at h
theorem Ip(k:IntKind)(n:Int): ∀(es:List MapEntry) (j i:Nat) (v:Value),Instr.findNow (.int k) (.int k n) es j=some (some (i,v))->
  ∃e,es[i-j]? =some e/\e.key= .int k n/\e.val=v
 | [],j,i,v,h=>by simp[Instr.findNow]at h
 | e::r,j,i,v,h=>by
  simp only[Instr.findNow]at h;split at h
  ·rename_i hs;simp at h;obtain⟨rfl,rfl⟩:=h;refine⟨e,by simp,?_,rfl⟩;unfold Instr.sameNow at hs;split at hs
   ·rename_i a k' b _ he;split at hs
    ·rename_i hk;simp at hs
     simp_all
    ·simp at hs
   ·rename_i h1 d h3;simp at h1
   ·rename_i h1 d h3;simp at h1
   ·simp at hs
  ·obtain⟨e',he,h1,d⟩:=Ip k n r (j+1) i v h;have:=Nv _ _ _ _ _ _ h;refine⟨e',?_,h1,d⟩;rw[show i-j=(i-(j+1))+1 from by omega];simpa using he
  ·simp at h
theorem Es{P:Program}{w:World}{b:Nat}{es:Array MapEntry}{c:Nat}(h:w.heap[b]? =some (.map es c))(o:Obj):
  (setObj b o).run P w= .ok () (World.Gm w b o):=by
 simp[setObj,Sem.run,h,World.Gm]
theorem PT{P:Program}{k:IntKind}{n:Int}(w:World):(Instr.keyThatStays (.int k n) (.int k n)).run P w= .ok (.int k n) w:=by
 have:Instr.sameBits 10000 (.int k n) (.int k n)=true:=by
  rw[show(10000:Nat)=9999+1 from rfl];cases k<;>simp[Instr.sameBits]
 simp[Instr.keyThatStays,this]
theorem Ke{P:Program}{t J Y:TypeId}{k:IntKind}{n:Int}{v:Value}{r:Option Nat}{w:World}{K:World->Prop}
  (T:P.underlying t=some (.map J Y))(N:P.underlying J=some (.int k))(h:QK k n v r w K):
  ∃w',K w'/\(Instr.mapUpdate t (.map r) (.int k n) v).run P w= .ok () w':=by
 obtain⟨b,es,c,res,rfl,d,hf,O⟩:=h;refine⟨_,O,?_⟩;have C:=run_findKey N hf w;simp only[Instr.mapUpdate,Sem.run_bind,AW T,Result.andThen_ok,EC d,run_checkKey N,C];cases res with
 | none=>simp[Es d,mapPut]
 | some q=>
  obtain⟨i,u⟩:=q;obtain⟨e,he,h1,_⟩:=Ip k n es.toList 0 i u hf;have j:es[i]? =some e:=by simpa using he
  simp[j,h1,PT,Es d,mapPut]
theorem TM{P:Program}{t O Y ty:TypeId}{k:IntKind}{n:Int}{r:Option Nat}{w:World}{K:World->Prop}{J:Array TypeId}(d:J[0]? =some t)
  (N:P.underlying t=some (.map O Y))(C:P.underlying O=some (.int k))(h:MDEL k n r w K):
  ∃w',K w'/\(Builtin.delete_ J ty #[.map r,.int k n]).run P w= .ok (.tuple #[]) w':=by
 cases r with
 | none=>exact⟨w,h,by simp[Builtin.delete_,d,AW N,run_checkKey C]⟩
 | some b=>
  obtain⟨es,c,res,j,hf,T⟩:=h;refine⟨_,T,?_⟩;have v:=run_findKey C hf w;simp only[Builtin.delete_,d,List.getElem?_toArray,List.getElem?_cons_zero,List.getElem?_cons_succ,Sem.run_bind,AW N,Result.andThen_ok,EC j,run_checkKey C,v];cases res with
  | none=>simp[Es j,QJ]
  | some q=>obtain⟨i,u⟩:=q;simp[Es j,QJ]
def Fits(P:Program)(C:Dc):Prop:= ∀g args w K Kp,C g args w K Kp->
 ((∀w,(callFunc g args).run P w= .ok (.enter g args) w)/\Calls P g args w (Ends K Kp))∨ ∃v w',(callFunc g args).run P w= .ok (.value v) w'/\K v w'
theorem TN: ∀{l m:List Value},eqA l m=some true->l=m
 | [],[],_=>rfl
 | [],_::_,h=>by simp[eqA]at h
 | v::l,m,h=>by
  cases v<;>cases m<;>try (simp[eqA]at h;done)
  all_goals (rename_i u m;cases u<;>try (simp[eqA]at h;done))
  ·unfold eqA at h;rename_i a b;cases d:(a==b)
   ·rw[d]at h;cases h
   ·rw[d]at h;rw[TN h,(by simpa using d:a=b)]
  ·unfold eqA at h;split at h
   ·rename_i k a k' b _ j;have j:=TI (Nat.eq_of_beq_eq_true j);cases d:(a==b)
    ·rw[d]at h;cases h
    ·rw[d]at h;rw[TN h,j,(by simpa using d:a=b)]
   ·cases h
theorem Nw(n:Nat): ∀{l m:List Value},eqA l m=some true->((l.zip l).all fun(x,y)=>Instr.sameBits n x y)=true
 | [],_,_=>rfl
 | v::l,m,h=>by
  cases v<;>cases m<;>try (simp[eqA]at h;done)
  all_goals (rename_i u m;cases u<;>try (simp[eqA]at h;done))
  ·unfold eqA at h;rename_i a b;cases hab:(a==b)
   ·rw[hab]at h;cases h
   ·rw[hab]at h;simp only[List.zip_cons_cons,List.all_cons,Nw n h,Bool.and_true];cases n<;>simp[Instr.sameBits]
  ·unfold eqA at h;split at h
   ·rename_i k a k' b _ ek;cases hab:(a==b)
    ·rw[hab]at h;cases h
    ·rw[hab]at h;simp only[List.zip_cons_cons,List.all_cons,Nw n h,Bool.and_true];cases n<;>simp[Instr.sameBits]
   ·cases h
theorem RY(cs:List Value): ∀(es:List MapEntry) (j i:Nat) (v:Value),findA cs es j=some (some (i,v))-> ∃e d,es[i-j]? =some e/\j<=i/\e.key= .agg d/\eqA cs d.toList=some true
 | [],j,i,v,h=>by simp[findA]at h
 | e::es,j,i,v,h=>by
  unfold findA at h;split at h
  ·rename_i d hd;split at h
   ·rename_i he;cases h;exact⟨e,d,by simp,Nat.le_refl _,hd,he⟩
   ·obtain⟨e',C,h1,N,J,K⟩:=RY cs es (j+1) i v h;refine⟨e',C,?_,by omega,J,K⟩;rw[show i-j=(i-(j+1))+1 by omega];simpa using h1
   ·cases h
  ·cases h
theorem JS{P:Program}{t T et:TypeId}{Y:Array Field}{cs:Array Value}{v:Value}{r:Option Nat}{w:World}{K:World->Prop}
  (ht:P.underlying t=some (.map T et))(hk:P.underlying T=some (.struct Y))(hp:P.stoodInHeld T=false)(d:keyK P 0 Y.toList cs.toList True)(h:jA cs.toList v r w K):
  ∃w',K w'/\(Instr.mapUpdate t (.map r) (.agg cs) v).run P w= .ok () w':=by
 obtain⟨b,es,c,res,rfl,O,hf,hK⟩:=h;refine⟨_,hK,?_⟩;have N:=LJ hk hp d hf w;simp only[Instr.mapUpdate,Sem.run_bind,AW ht,Result.andThen_ok,EC O,Kd hk d,N];cases res with
 | none=>simp[Es O,mapPut]
 | some q=>
  obtain⟨i,u⟩:=q;obtain⟨e,ds,he,_,h1,h2⟩:=RY cs.toList es.toList 0 i u hf;have J:es[i]? =some e:=by simpa using he
  have j:cs=ds:=Array.toList_inj.1 (TN h2);subst j;have C:(Instr.keyThatStays (.agg cs) (.agg cs)).run P w= .ok (.agg cs) w:=by
   have:Instr.sameBits 10000 (.agg cs) (.agg cs)=true:=by
    rw[Instr.sameBits];simp only[beq_self_eq_true,Bool.true_and];exact Nw 9999 h2
   simp[Instr.keyThatStays,this]
  simp[J,h1,C,Es O,mapPut]
theorem RZ{P:Program}{w:World}{b:Nat}{j:Option Nat}{s l:Nat}{d:Array Nat}(h:w.heap[b]? =some (.mapIter j s d l))(o:Obj):
  (setObj b o).run P w= .ok () (World.Gm w b o):=by
 simp[setObj,Sem.run,h,World.Gm]
theorem Vg{P:Program}{dst:Option Tmp}{it:Operand}{type:TypeId}{pos:String}{after:Array Edge}{guard:Option (Nat×Bool)}{ρ:Operand->Value}{w:World}{r m since last clock:Nat}{sp:Option Nat}
  {seen:Array Nat}{es:Array MapEntry}{K Kp:Value->World->Prop}(hx:ρ it= .pointer (some ⟨r,0,sp⟩))(hr:w.heap[r]? =some (.mapIter (some m) since seen last))(hm:w.heap[m]? =some (.map es clock))
  (J:(!seen.isEmpty&& !es.isEmpty&&es.all (·.born≥last))=false)
  (hn: ∀w',(w'=w∨w'=w.drew)->((leftOf es seen).filter (·.born<since)).isEmpty=true->K (.tuple #[.bool false]) w')
  (hs: ∀w' e,(w'=w∨w'=w.drew)->e∈leftOf es seen->K (.tuple #[.bool true,e.key,e.val]) (World.Gm w' r (.mapIter (some m) since (seen.push e.born) clock))):
  Goes P ((execOp ρ ⟨dst,.next it false,type,pos,after,guard⟩).run P w) K Kp:=by
 have aD:(getObj r).run P w= .ok (.mapIter (some m) since seen last) w:=by simp[getObj,Sem.run,hr]
 have aH:=EC (P:=P) hm;simp only[execOp,Instr.next,hx,Sem.run_bind,aD,Result.andThen_ok,aH,J,Bool.false_eq_true,if_false];obtain⟨left,C⟩: ∃left,left=leftOf es seen:=⟨_,rfl⟩;rw[<-C]at hn hs;have hl:(es.filter fun e=> !seen.contains e.born)=left:=C.symm;simp only[hl];obtain⟨JT,hold⟩: ∃JT,JT=left.filter (fun x=>decide (x.born<since)):=⟨_,rfl⟩;obtain⟨nu,aB⟩: ∃nu,nu=left.filter (fun x=>decide (x.born≥since)):=⟨_,rfl⟩;rw[<-hold]at hn;simp only[<-hold,<-aB];obtain⟨d,v⟩: ∃d,d=((if JT.isEmpty=true then #[none]else #[])++Array.map some (JT++nu):Array (Option MapEntry)):=⟨_,rfl⟩;simp only[<-v];have Y:0<d.size:=by
  rw[v];by_cases ho:JT.isEmpty=true
  ·simp[ho];omega
  ·simp[ho];have:JT.size≠0:=fun e=>ho (by simpa[Array.isEmpty]using e);omega
 have aJ: ∃idx w',(w'=w∨w'=w.drew)/\(choose (.mapNext d.size)).run P w= .ok idx w'/\idx<d.size:=by
  rw[run_choose];by_cases hf:Question.forced (.mapNext d.size)=true
  ·exact⟨0,w,.inl rfl,by simp[hf],Y⟩
  ·exact⟨_,_,.inr rfl,by rw[if_neg hf];rfl,Nat.mod_lt _ Y⟩
 obtain⟨idx,w',O,aC,T⟩:=aJ;rw[aC];simp only[Result.andThen_ok];have aA:d[idx]? =some d[idx]:=Array.getElem?_eq_getElem T;rw[aA];cases hc:d[idx]with
 | none=>
  have N:JT.isEmpty=true:=by
   by_cases ho:JT.isEmpty=true
   ·exact ho
   ·exfalso;have j:(none:Option MapEntry)∈d:=by rw[<-hc];exact Array.getElem_mem T
    rw[v]at j;simp[ho]at j
  simp only[Sem.run_pure,Result.andThen_ok,Goes];exact hn w' O N
 | some e=>
  have j:some e∈d:=by rw[<-hc];exact Array.getElem_mem T
  have aI:e∈left:=by
   rw[v]at j;simp only[Array.mem_append,Array.mem_map]at j;rcases j with j|⟨e',j,he⟩
   ·by_cases ho:JT.isEmpty=true<;>simp[ho]at j
   ·cases he;rcases j with j|j
    ·rw[hold]at j;exact(Array.mem_filter.1 j).1
    ·rw[aB]at j;exact(Array.mem_filter.1 j).1
  have aF:w'.heap[r]? =some (.mapIter (some m) since seen last):=by
   rcases O with rfl|rfl<;>exact hr
  simp only[Sem.run_bind,RZ aF,Result.andThen_ok,Sem.run_pure,Goes];exact hs w' e O aI
theorem Ra{P:Program}{C G:Dc}(hC:Fits P C)(hG:Fits P G){o:Oper}{ρ:Operand->Value}{w:World}{K Kp:Value->World->Prop}(hρ: ∀g,ρ (.func g)= .func (.func g) #[] #[])
  (h:evEff P C G o.op o.type ρ w K Kp):Goes P ((execOp ρ o).run P w) K Kp:=by
 obtain⟨dst,op,type,pos,after,guard⟩:=o;simp only at h;unfold evEff at h;split at h
 case h_1=>
  split at h
  ·rename_i z hz;simpa[execOp,Instr.alloc,D7 hz,newVar,newRow,Goes]using h
  ·exact h.elim
 case h_2=>simpa[execOp,Instr.box,newVar,newRow,Goes]using h
 case h_3=>
  split at h
  ·rename_i t n parts _ e ht;obtain⟨z,h,aD,_,J⟩:=EP h;obtain⟨hle,h⟩:=RR h;split at h
   ·rename_i zv hz;obtain⟨out,j,hf⟩:=Hw h;have aN: ¬(16777216<n*z):=Nat.not_lt.2 (Nat.le_trans hle (by decide));by_cases hn:n=0
    ·subst hn;simp[Fu,Array.range_zero']at hf;simp[execOp,Instr.buildSlice,AW ht,J,hf,newRow,Goes,Array.range_zero'];exact j
    ·have aV: ¬(n*z=0):=Nat.mul_ne_zero hn aD;simp[Fu]at hf;simp[execOp,Instr.buildSlice,AW ht,J,aN,aV,D7 hz,hf,newRow,Goes];exact j
   ·exact h.elim
  ·exact h.elim
 case h_4=>
  split at h
  ·rename_i N;obtain⟨p,rfl,d⟩:=Fq h;obtain⟨n,h3,hn,J⟩:=W6 d;obtain⟨hl,h4⟩:=GW h3;obtain⟨w',j,aF⟩:=F8 (P:=P) h4;have aL:=hl;rw[Array.length_toList]at aL;simp[execOp,Instr.storeAt,N,Instr.sureAddr,storeVar,J,aL,aF,Goes,j]
  ·exact h.elim
 case h_5=>
  split at h
  ·rename_i ht;split at h
   ·rename_i r N;obtain⟨cl,J,j⟩:=h;cases r with
    | none=>simpa[execOp,Instr.range,AW ht,N,Goes,Kr]using j
    | some m=>
     obtain⟨es,hm⟩:=J;simpa[execOp,Instr.range,AW ht,N,EC hm,Goes,Kr]using j
   ·exact h.elim
  ·exact h.elim
 case h_6=>
  split at h
  ·rename_i r sp N;obtain⟨mo,since,seen,last,J,h⟩:=h;have aW:(getObj r).run P w= .ok (.mapIter mo since seen last) w:=by simp[getObj,Sem.run,J]
   cases mo with
   | none=>
    simp[execOp,Instr.next,N,aW,Goes];exact h
   | some m=>
    obtain⟨es,clock,hm,aB,hn,hs⟩:=h;exact Vg N J hm aB hn hs
  ·exact h.elim
 case h_7=>simpa[execOp,Instr.makeMap,Goes]using h
 case h_8=>
  split at h
  ·rename_i e ht;obtain⟨z,h,aD,_,J⟩:=EP h;split at h
   ·rename_i zv hz;split at h
    ·rename_i l hl;split at h
     ·rename_i c hc;obtain⟨⟨h0,h1,d,h3⟩,j⟩:=h;obtain⟨i,hi⟩: ∃i,P.info? e=some i:=by
       cases hi:P.info? e with
       | none=>simp[HX,hi]at hz
       | some i=>exact⟨i,rfl⟩
      have aT:P.bytesOf e=i.bytes:=by simp[Program.bytesOf,hi]
      rw[aT]at h3;have a4:0<=l:=h0;have w1:IntKind.i64.wrap l=l:=IntWalk.i64_in l (by omega);have w2:IntKind.i64.wrap c=c:=IntWalk.i64_in c (by omega);have t1: ¬(c<0):=by omega
      have t2: ¬(l<0):=by omega
      have t3: ¬(c<l):=by omega
      have t4: ¬(281474976710656<(i.bytes:Int)*c):=by omega
      by_cases aC:c.toNat*z=0
      ·have:c.toNat=0:=by rcases Nat.mul_eq_zero.1 aC with h|h<;>omega
       simp[Fu,aC,Array.range_zero']at j;simp[execOp,Instr.makeSlice,AW ht,hl,hc,asInt,asIntOf,typeInfo,hi,w1,w2,t1,t2,t3,t4,J,aC,newRow,Goes,Array.range_zero'];exact j
      ·have aK: ¬(c.toNat*z=0):=aC;simp[Fu]at j;simp[execOp,Instr.makeSlice,AW ht,hl,hc,asInt,asIntOf,typeInfo,hi,w1,w2,t1,t2,t3,t4,J,aK,D7 hz,newRow,Goes];exact j
     ·exact h.elim
    ·exact h.elim
   ·exact h.elim
  ·exact h.elim
 case h_9=>
  split at h
  ·rename_i ht;split at h
   ·rename_i hk;split at h
    ·rename_i hkey;obtain⟨rfl,d⟩:=EB h;split at d
     ·rename_i hm;obtain⟨w',j,J⟩:=Ke ht hk d;simpa[execOp,hkey,hm,J,Goes]using j
     ·exact d.elim
    ·exact h.elim
   ·rename_i hk;split at h
    ·rename_i hkey;split at h
     ·rename_i hp;obtain⟨d,aA⟩:=IY h;split at d
      ·rename_i hm;obtain⟨w',j,J⟩:=JS ht hk hp aA d;simpa[execOp,hkey,hm,J,Goes]using j
      ·exact d.elim
     ·exact h.elim
    ·exact h.elim
   ·exact h.elim
  ·exact h.elim
 case h_10=>
  split at h
  ·rename_i ht;split at h
   ·rename_i hk;split at h
    ·rename_i hkey;obtain⟨rfl,d⟩:=EB h;split at d
     ·rename_i hm;obtain⟨w',j,J⟩:=Ke ht hk d;simpa[execOp,hkey,hm,J,Goes]using j
     ·exact d.elim
    ·exact h.elim
   ·rename_i hk;split at h
    ·rename_i hkey;split at h
     ·rename_i hp;obtain⟨d,aA⟩:=IY h;split at d
      ·rename_i hm;obtain⟨w',j,J⟩:=JS ht hk hp aA d;simpa[execOp,hkey,hm,J,Goes]using j
      ·exact d.elim
     ·exact h.elim
    ·exact h.elim
   ·exact h.elim
  ·exact h.elim
 case h_11=>
  split at h
  ·rename_i ht;split at h
   ·rename_i hk;split at h
    ·rename_i hkey;obtain⟨aA,d⟩:=EB h;subst aA;split at d
     ·rename_i hm;split at d
      ·rename_i z hz;obtain⟨b,es,c,res,rfl,Y,hf,j⟩:=d;have aJ:=run_findKey hk hf w;cases res with
       | none=>
        simp[execOp,hkey,hm,Instr.mapEntry,AW ht,EC Y,run_checkKey hk,aJ,D7 hz,Es Y,goInt,Goes];exact j
       | some q=>
        obtain⟨i,u⟩:=q;obtain⟨e,he,j⟩:=j;obtain⟨e',aS,h1,_⟩:=Ip _ _ es.toList 0 i u hf;have aE:es[i]? =some e':=by simpa using aS
        have aU:e'=e:=by rw[he]at aE;exact(Option.some.inj aE).symm
        subst aU;simp[execOp,hkey,hm,Instr.mapEntry,AW ht,EC Y,run_checkKey hk,aJ,he,h1,PT,Es Y,goInt,Goes];exact j
      ·exact d.elim
     ·exact d.elim
    ·exact h.elim
   ·exact h.elim
  ·exact h.elim
 case h_12=>
  split at h
  ·rename_i hs;split at h
   ·rename_i hm;obtain⟨b,es,c,i,rfl,Y,hi,j⟩:=h;simp[execOp,hs,hm,Instr.entryStore,EC Y,asInt,asIntOf,hi,Es Y,Goes];exact j
   ·exact h.elim
  ·exact h.elim
 case h_13 op t x y _=>
  split at h
  ·rename_i hop;split at h
   ·rename_i N;split at h
    ·rename_i hy;obtain⟨e1,h1⟩:=GU h;obtain⟨e2,d⟩:=GU h1;clear h h1;subst e1;subst e2;have hg:(eqGuard op t x y (ρ x) (ρ y)).run P w= .ok () w:=by
      unfold eqGuard;cases op<;>first|(simp[isArith]at hop;done)|simp
     unfold FRES at d;split at d
     ·rename_i r J;cases op<;>first|(simp[isArith]at hop;done)|(simp only[GX,GV,fArith0]at J;simp[execOp,N,hy]at hg⊢;simp[hg,binOp,Op.floatArith,J,Goes];exact d)
     ·rename_i J;cases op<;>first|(simp[isArith]at hop;done)|(simp only[GX,GV,fArith0]at J;simp[execOp,N,hy]at hg⊢;simp[hg,binOp,Op.floatArith,J,Goes,Question.forced];exact d _)
    ·exact h.elim
   ·exact h.elim
  ·exact h.elim
 case h_14 c=>
  obtain⟨callee,args,argTypes⟩:=c;simp only at h;split at h
  ·simp[execOp,resolve,hρ,Deferred.ofValue,invoke];rcases hC _ _ _ _ _ h with ⟨h1,d⟩|⟨v,w',h1,d⟩
   ·simpa[h1,Goes]using d
   ·simpa[h1,Goes]using d
  ·unfold DYN at h;split at h
   ·rename_i hf;simp[execOp,resolve,hf,Deferred.ofValue,invoke];rcases hG _ _ _ _ _ h with ⟨h1,d⟩|⟨v,w',h1,d⟩
    ·simp at h1 d;simp only[h1,Result.andThen_ok,Goes];refine d.mono ?_;intro e w' hE;obtain⟨v,rfl,hv⟩:=hE.val;exact .inl ⟨v,rfl,Nt hv⟩
    ·simp at h1;simp only[h1,Result.andThen_ok,Goes];exact Nt d
   ·exact h.elim
  ·split at h
   ·rename_i ha hT;have O:args= #[_,_]:=Array.toList_inj.1 (by simpa using ha);have aG:argTypes= #[_,_]:=Array.toList_inj.1 (by simpa using hT);subst O;subst aG;split at h
    ·rename_i ht;split at h
     ·rename_i htx;obtain⟨z,h,aD,_,J⟩:=EP h;split at h
      ·rename_i zv hz;split at h
       ·rename_i hs;split at h
        ·rename_i N;obtain⟨r,w',j,aO⟩:=Vf (ty:=type) ht ⟨_,htx⟩ J hz h;simpa[execOp,resolve,invoke,builtin,hs,N,aO,Goes]using j
        ·exact h.elim
       ·exact h.elim
      ·exact h.elim
     ·exact h.elim
    ·exact h.elim
   ·exact h.elim
  ·split at h
   ·rename_i ha hT;have O:args= #[_,_]:=Array.toList_inj.1 (by simpa using ha);subst O;split at h
    ·rename_i ht;obtain⟨z,h,aD,_,J⟩:=EP h;split at h
     ·rename_i hd;split at h
      ·rename_i N;have T:=congrArg (fun l:List TypeId=>l[0]?) hT;simp only[Array.getElem?_toList,List.getElem?_cons_zero]at T;obtain⟨vs,aI,h⟩:=h;have hf:=fun len cap=>KK (P:=P) (w:=w) (len:=len) (cap:=cap) aI;split at h
       ·rename_i Y;simp only at Y;subst Y;simp only at hf;simpa[execOp,resolve,invoke,builtin,Builtin.copy_,T,hd,N,AW ht,J,Builtin.lenOf,hf,goInt,Goes]using h
       ·rename_i a Y;simp only at Y;subst Y;simp only at hf;obtain⟨w',j,aF⟩:=F8 (P:=P) h;simpa[execOp,resolve,invoke,builtin,Builtin.copy_,T,hd,N,AW ht,J,Builtin.lenOf,hf,aF,goInt,Goes]using j
      ·exact h.elim
     ·exact h.elim
    ·exact h.elim
   ·exact h.elim
  ·split at h
   ·rename_i ha hT;have O:args= #[_,_]:=Array.toList_inj.1 (by simpa using ha);subst O;split at h
    ·rename_i ht;split at h
     ·rename_i hk;split at h
      ·rename_i hkey;obtain⟨rfl,d⟩:=EB h;split at d
       ·rename_i hm;have T:=congrArg (fun l:List TypeId=>l[0]?) hT;simp only[Array.getElem?_toList,List.getElem?_cons_zero]at T;obtain⟨w',j,J⟩:=TM (ty:=type) T ht hk d;simpa[execOp,resolve,invoke,builtin,hkey,hm,J,Goes]using j
       ·exact d.elim
      ·exact h.elim
     ·exact h.elim
    ·exact h.elim
   ·exact h.elim
  ·split at h
   ·rename_i ha hT;have O:args= #[_]:=Array.toList_inj.1 (by simpa using ha);have aG:argTypes= #[_]:=Array.toList_inj.1 (by simpa using hT);subst O;subst aG;split at h
    ·rename_i ht;split at h
     ·rename_i zv hz;split at h
      ·rename_i b n c N;unfold sG at h;split at h
       ·simpa[execOp,resolve,invoke,builtin,Builtin.clear_,AW ht,N,Goes]using h
       ·rename_i a;cases n with
        | zero=>
         have:(Builtin.zeroCells zv.cells 0).toList=[]:=by simp[Builtin.zeroCells]
         rw[this]at h;simpa[execOp,resolve,invoke,builtin,Builtin.clear_,AW ht,N,Goes,stCells]using h
        | succ n=>
         obtain⟨w',j,J⟩:=F8 (P:=P) h;simpa[execOp,resolve,invoke,builtin,Builtin.clear_,AW ht,N,D7 hz,J,Goes]using j
      ·exact h.elim
     ·exact h.elim
    ·exact h.elim
   ·exact h.elim
  ·split at h
   ·rename_i ha;have O:args= #[_]:=Array.toList_inj.1 (by simpa using ha);subst O;obtain⟨⟨t,v,N⟩,h⟩:=RX h;rw[N]at h;simpa[execOp,resolve,invoke,builtin,Instr.panic,goPanic,N,Goes]using h
   ·exact h.elim
  ·exact h.elim
 case h_15=>
  obtain⟨⟨t,v,N⟩,h⟩:=RX h;rw[N]at h;simpa[execOp,Instr.panic,goPanic,N,Goes]using h
 case h_16=>exact h.elim
end Go.Sh
set_option linter.all false
namespace Go.Sh
inductive tE where|pure|read|iL
def opK(P:Program):Op->tE
 | .load .. | .lookup .. | .entry _=>.read
 | .range .. | .next .. | .alloc _| .box .. | .buildSlice .. | .store .. | .makeMap .. | .makeSlice .. | .mapUpdate .. | .insert .. | .mapEntry .. | .entryStore .. | .panic _=>.iL
 | .call c=>match c.callee with
  | .builtin .len=>match(c.argTypes.toList.head?).bind P.underlying with
   | some (.map _ _)=>.read
   | _=>.pure
  | .builtin .min| .builtin .max=>.pure
  | _=>.iL
 | .binOp op t _ _ _=>match isArith op with
  | true=>match P.underlying t with
   | some (.float _)=>.iL
   | _=>.pure
  | false=>.pure
 | _=>.pure
def jB(P:Program)(o:Op):Bool:=match opK P o with| .iL=>true|_=>false
def W7(P:Program)(C G:Dc)(o:Op)(ty:TypeId)(ρ:Operand->Value)(w:World)(K Kp:Value->World->Prop):Prop:=
 match opK P o with
 | .pure=>evPure P o ty ρ fun v=>K v w
 | .read=>evRead P o ρ w fun v _=>K v w
 | .iL=>evEff P C G o ty ρ w K Kp
theorem Kt{P:Program}{C G:Dc}(N:Fits P C)(J:Fits P G){o:Oper}{ρ:Operand->Value}{w:World}{K Kp:Value->World->Prop}(O: ∀g,ρ (.func g)= .func (.func g) #[] #[])(h:W7 P C G o.op o.type ρ w K Kp):
  Goes P ((execOp ρ o).run P w) K Kp:=by
 unfold W7 at h;split at h
 ·obtain⟨v,d,j⟩:=LH h;rw[j w];exact d
 ·obtain⟨v,S,d,T,j⟩:=LK h;rw[j w T];exact d
 ·exact Ra N J O h
theorem Ku{P:Program}{o:Oper}{a:Act}{w:World}{K Kp:Value->World->Prop}{Q:Exit->Act->World->Prop}
  {next:Act->World->Prop}(h:Goes P ((execOp a.eval o).run P w) K Kp)(d: ∀v w',K v w'->next (a.put o.dst v) w')
  (hp: ∀v w',Kp v w'->Q (.panic [{v:=v,recovered:=false}]) a w'):o.wp P a w next Q:=by
 unfold Oper.wp;unfold Goes at h;split at h
 ·rename_i hr;rw[hr,Oper.upon_value];exact d _ _ h
 ·rename_i hr;rw[hr,Oper.upon_skip];exact d _ _ h
 ·rename_i hr;rw[hr,Oper.upon_enter];refine h.mono ?_;rintro e w' (⟨v,rfl,j⟩|⟨v,rfl,j⟩)
  ·exact d _ _ j
  ·exact hp _ _ j
 ·rename_i hr;rw[hr,Oper.upon_panic];exact hp _ _ h
 ·exact h.elim
def yieldF(ops:Array Oper)(f:Fr)(j:Nat):Option Bool:=match(ops[j]?).bind (·.dst)with
 | some t=>match f t with
  | .bool b=>some b
  | _=>none
 | none=>none
def wantF(ops:Array Oper)(f:Fr):Option (Nat×Bool)->Bool
 | none=>true
 | some (j,want)=>match yieldF ops f j with
  | some b=>match b,want with
   | true,true=>true
   | false,false=>true
   | _,_=>false
  | none=>false
theorem Nx{ops:Array Oper}{a:Act}{o:Oper}:wantF ops (DB a) o.guard=Region.wanted o (yielded ops a.tmps):=by
 have d: ∀j,yieldF ops (DB a) j=yielded ops a.tmps j:=by
  intro j;unfold yieldF yielded;cases (ops[j]?).bind (·.dst)with
  | none=>rfl
  | some t=>
   simp only[DB,Option.bind_some,Array.getD_eq_getD_getElem?];cases h:a.tmps[t]? with
   | none=>simp[undef]
   | some v=>cases v<;>simp
 unfold wantF Region.wanted;cases o.guard with
 | none=>rfl
 | some g=>
  obtain⟨j,want⟩:=g;simp only[d];cases yielded ops a.tmps j with
  | none=>rfl
  | some b=>cases b<;>cases want<;>rfl
def Iq:List Oper->Nat->Bool
 | [],_=>false
 | o::r,i=>match o.guard with
  | some (j,_)=>bif Nat.beq j i then true else Iq r i
  | none=>Iq r i
def Ny(b:Bool)(v:Value)(K:Value->Prop):Prop:=
 match b with
 | true=>match v with
  | .bool x=>CND x (K (.bool true)) (K (.bool false))
  | v=>K v
 | false=>K v
theorem Ir{b:Bool}{v:Value}{K:Value->Prop}(h:Ny b v K):K v:=by
 unfold Ny at h;split at h
 ·split at h
  ·rename_i x;cases x<;>exact h
  ·exact h
 ·exact h
def evOps(P:Program)(C G:Dc)(ops:Array Oper)(Q:Fr->World->Prop)(d:Fr->Value->World->Prop):Nat->List Oper->Fr->World->Prop
 | _,[],f,w=>Q f w
 | i,o::r,f,w=>match wantF ops f o.guard with
  | true=>W7 P C G o.op o.type f.ev w (fun v w'=>Ny (Iq ops.toList i) v fun v=>evOps P C G ops Q d (i+1) r (f.Km o.dst v) w') (d f)
  | false=>evOps P C G ops Q d (i+1) r (f.Km o.dst undef) w
def dsts:List Oper->List Nat
 | []=>[]
 | o::r=>match o.dst with
  | some d=>d::dsts r
  | none=>dsts r
structure Ee(W:List Nat)(a a':Act):Prop where
 size:a'.tmps.size=a.tmps.size
 defers:a'.defers=a.defers
 out: ∀t,t∉W->DB a' t=DB a t
theorem Ee.refl(W:List Nat)(a:Act):Ee W a a:=⟨rfl,rfl,fun _ _=>rfl⟩
theorem Ee.trans{W:List Nat}{a b c:Act}(h:Ee W a b)(k:Ee W b c):Ee W a c:=
 ⟨k.size.trans h.size,k.defers.trans h.defers,fun t d=>(k.out t d).trans (h.out t d)⟩
theorem Ee.mono{W V:List Nat}{a b:Act}(h:Ee W a b)(hs: ∀t,t∈W->t∈V):Ee V a b:=
 ⟨h.size,h.defers,fun t d=>h.out t fun hw=>d (hs t hw)⟩
theorem Ee.put{W:List Nat}{a:Act}{d:Option Nat}{v:Value}(J: ∀t,d=some t->t∈W):Ee W a (a.put d v):=by
 refine⟨F7 a d v,Nn a d v,fun t C=> ?_⟩;cases d with
 | none=>rfl
 | some d=>
  have j:d≠t:=fun e=>C (e▸J d rfl);simp only[DB,Act.put,Array.getD_eq_getD_getElem?,Array.getElem?_setIfInBounds_ne j]
def within(n:Nat)(W:List Nat):Prop:= ∀t,t∈W->t<n
theorem JU{P:Program}{C G:Dc}(hC:Fits P C)(hG:Fits P G){ops:Array Oper}{n:Nat}{W:List Nat}(hW:within n W)(Q:Fr->World->Prop)(N:Fr->Value->World->Prop)(O:Exit->Act->World->Prop)(a0:Act)
  (hQ: ∀a w,a.tmps.size=n->Ee W a0 a->Q (DB a) w->O .normal a w)
  (hP: ∀a v w,a.tmps.size=n->Ee W a0 a->N (DB a) v w->O (.panic [{v:=v,recovered:=false}]) a w):
  ∀(l:List Oper) (i:Nat) (a:Act) (w:World),(∀o∈l,∀d,o.dst=some d->d∈W)->a.tmps.size=n->Ee W a0 a->evOps P C G ops Q N i l (DB a) w->wpList P ops O l a w
 | [],i,a,w,_,hn,ha,h=>hQ a w hn ha h
 | o::r,i,a,w,hd,hn,ha,h=>by
  simp only[evOps]at h;unfold wpList;rw[Nx]at h;have J: ∀t,o.dst=some t->t∈W:=fun t ht=>hd o (by simp) t ht;have j: ∀v,DB (a.put o.dst v)=(DB a).Km o.dst v:=fun v=>ML (fun t ht=>by have:=hW t (J t ht);omega) v;split at h
  ·rename_i hw;rw[if_pos hw];refine .inl (Ku (K:=fun v w'=>Ny (Iq ops.toList i) v fun v=>evOps P C G ops Q N (i+1) r ((DB a).Km o.dst v) w') (Kp:=N (DB a)) ?_ (fun v w' Y=> ?_) fun v w' Y=>hP a v w' hn ha Y)
   ·have:=Kt hC hG (fun _=>rfl) (o:=o) h;rwa[Ft]at this
   ·refine JU hC hG hW Q N O a0 hQ hP r (i+1) _ w' (fun o T=>hd o (by simp[T])) (by rw[F7];exact hn) (ha.trans (Ee.put J)) ?_;rw[j];exact Ir Y
  ·rename_i hw;rw[if_neg (by simp[hw])];refine JU hC hG hW Q N O a0 hQ hP r (i+1) _ w (fun o T=>hd o (by simp[T])) (by rw[F7];exact hn) (ha.trans (Ee.put J)) ?_;rw[j];exact h
end Go.Sh
set_option linter.all false
namespace Go.Sh
abbrev iM:=List (Nat×(World->Prop))
def waits:List Edge->Nat->Bool
 | [],_=>false
 | e::r,k=>match Region.binds .any e with
  | true=>bif Nat.beq e.on k then true else waits r k
  | false=>waits r k
theorem Rb{l:List Edge}{k:Nat}(h: ∀e∈l,Region.binds .any e=true->e.on≠k):waits l k=false:=by
 induction l with
 | nil=>rfl
 | cons e r ih=>
  have d:=ih fun e he=>h e (by simp[he]);unfold waits;split
  ·rename_i hb;have j:=h e (by simp) hb;have:Nat.beq e.on k=false:=by
    cases hh:Nat.beq e.on k
    ·rfl
    ·exact absurd (Nat.eq_of_beq_eq_true hh) j
   simp[this,d]
  ·exact d
def keepFam{α:Type}(after:List Edge):List (Nat×α)->List (Nat×α)
 | []=>[]
 | p::r=>match waits after p.1 with
  | true=>keepFam after r
  | false=>p::keepFam after r
theorem Fz{α:Type}(after:List Edge): ∀(l:List (Nat×α)) p,p∈keepFam after l->p∈l
 | [],p,h=>by simp[keepFam]at h
 | q::r,p,h=>by
  unfold keepFam at h;split at h
  ·exact List.mem_cons_of_mem _ (Fz after r p h)
  ·rcases List.mem_cons.1 h with rfl|h
   ·simp
   ·exact List.mem_cons_of_mem _ (Fz after r p h)
theorem LL{α:Type}(after:List Edge): ∀(l m:List (Nat×α)),(∀p∈l,p∈m)-> ∀p∈keepFam after l,p∈keepFam after m:=by
 have key: ∀(m:List (Nat×α)) p,p∈m->waits after p.1=false->p∈keepFam after m:=by
  intro m
  induction m with
  | nil=>intro p h;cases h
  | cons q r ih=>
   intro p h hw;unfold keepFam;rcases List.mem_cons.1 h with rfl|h
   ·simp[hw]
   ·split
    ·exact ih p h hw
    ·exact List.mem_cons_of_mem _ (ih p h hw)
 have d: ∀(l:List (Nat×α)) p,p∈keepFam after l->waits after p.1=false:=by
  intro l
  induction l with
  | nil=>intro p h;simp[keepFam]at h
  | cons q r ih=>
   intro p h;unfold keepFam at h;split at h
   ·exact ih p h
   ·rename_i hw;rcases List.mem_cons.1 h with rfl|h
    ·exact hw
    ·exact ih p h
 intro l m hs p hp;exact key m p (hs p (Fz after l p hp)) (d l p hp)
def afterOf(ops:Array Oper)(j:Nat):List Edge:=match ops[j]? with|some o=>o.after.toList|none=>[]
def HH(P:Program)(ops:Array Oper)(Q:Exit->Act->World->Prop):Nat->iM->Array Bool->Act->World->Prop
 | 0,_,listed,a,w=>Region.ready .any ops listed=[]/\Q .normal a w
 | fuel+1,fam,listed,a,w=>
  (Region.ready .any ops listed=[]->Q .normal a w)/\
  ∀j∈Region.ready .any ops listed,wpOp P ops Q j (fun d w'=>(∀p∈keepFam (afterOf ops j) fam,p.2 w')/\
   HH P ops Q fuel (keepFam (afterOf ops j) fam) (listed.setIfInBounds j true) d w') a w
section
variable{P:Program}{ops:Array Oper}{Q:Exit->Act->World->Prop}
theorem Nz: ∀(fuel:Nat) (d:iM) (listed:Array Bool) (a:Act) (w:World),HH P ops Q fuel d listed a w->wpAny P .any ops Q fuel listed a w
 | 0,_,_,_,_,h=>h
 | fuel+1,_,_,_,_,h=>⟨h.1,fun i j=>wpOp_mono (fun v w' C=>Nz fuel _ _ v w' C.2) (h.2 i j)⟩
theorem Mj: ∀(fuel:Nat) (v d:iM) (listed:Array Bool) (a:Act) (w:World),(∀p∈d,p∈v)->HH P ops Q fuel v listed a w->HH P ops Q fuel d listed a w
 | 0,_,_,_,_,_,_,h=>h
 | fuel+1,v,d,_,_,_,hs,h=>⟨h.1,fun j J=>wpOp_mono (fun K w' C=>
   ⟨fun p hp=>C.1 p (LL _ _ _ hs p hp),Mj fuel _ _ _ _ _ (LL _ _ _ hs) C.2⟩) (h.2 j J)⟩
theorem JV(i:Nat): ∀(fuel:Nat) (d:iM) (listed:Array Bool) (a:Act) (w:World),HH P ops Q fuel d listed a w->HH P ops Q fuel ((i,fun _=>True)::d) listed a w
 | 0,_,_,_,_,h=>h
 | fuel+1,d,listed,a,w,h=>by
  refine⟨h.1,fun j C=>wpOp_mono (fun J w' v=> ?_) (h.2 j C)⟩;unfold keepFam;split
  ·exact v
  ·refine⟨fun p hp=> ?_,JV i fuel _ _ _ _ v.2⟩;rcases List.mem_cons.1 hp with rfl|hp
   ·trivial
   ·exact v.1 p hp
theorem JW{i:Nat}{oi:Oper}{v:Value}{S:World->Prop}(hi:ops[i]? =some oi)(aA: ∀(j:Nat) (o:Oper) cs b,ops[j]? =some o->o.op≠ .select cs b)
  (hQ: ∀c a w,¬Q (.panic c) a w):
  ∀(fuel:Nat) (d:iM) (listed:Array Bool) (a:Act) (w:World),
   (∀j oj,ops[j]? =some oj->j≠i->listed.getD j true=false->(∀e∈oj.after,Region.binds .any e=true->e.on≠i)->oi.apart ops oj=true)->
   i∈Region.ready .any ops listed->YieldsIf P ops S oi v a->S w->(∀p∈d,p.2 w)->
   HH P ops Q fuel ((i,S)::d) (listed.setIfInBounds i true) (a.put oi.dst v) w->HH P ops Q (fuel+1) d listed a w:=by
 have own: ∀(fuel:Nat) (d:iM) (listed:Array Bool) (a:Act) (w:World),YieldsIf P ops S oi v a->S w->(∀p∈d,p.2 w)->
   HH P ops Q fuel ((i,S)::d) (listed.setIfInBounds i true) (a.put oi.dst v) w->
   wpOp P ops Q i (fun a' w'=>(∀p∈keepFam (afterOf ops i) d,p.2 w')/\HH P ops Q fuel (keepFam (afterOf ops i) d) (listed.setIfInBounds i true) a' w') a w:=by
  intro fuel d listed a w hy hS C H;refine hy.wpOp hi hS ⟨fun p hp=>C p (Fz _ _ _ hp),Mj _ _ _ _ _ _ (fun p hp=>List.mem_cons_of_mem _ (Fz _ _ _ hp)) H⟩
 intro fuel
 induction fuel with
 | zero=>
  intro d listed a w _ hr hy hS C H;refine⟨fun h=>(by rw[h]at hr;cases hr),fun j hj=> ?_⟩;by_cases hji:j=i
  ·subst hji;exact own 0 d listed a w hy hS C H
  ·have:=ready_mono hj hji;rw[H.1]at this;cases this
 | succ fuel ih=>
  intro d listed a w J hr hy hS C H;refine⟨fun h=>(by rw[h]at hr;cases hr),fun j hj=> ?_⟩;by_cases hji:j=i
  ·subst hji;exact own _ d listed a w hy hS C H
  ·have h1:=H.2 j (ready_mono hj hji);obtain⟨Y,oj,N,aI⟩:=mem_ready.1 hj;have T: ∀e∈oj.after,Region.binds .any e=true->e.on≠i:=fun e he hb heq=>by
    have h1:=aI e he hb;have h0:=(mem_ready.1 hr).1;rw[heq]at h1;rcases Nat.lt_or_ge i listed.size with h'|h'
    ·simp[h']at h0 h1;rw[h0]at h1;cases h1
    ·simp[Array.getElem?_eq_none h']at h1
   have aC:keepFam (afterOf ops j) ((i,S)::d)=(i,S)::keepFam (afterOf ops j) d:=by
    have aM:waits (afterOf ops j) i=false:=Rb fun e he hb=>by
     simp only[afterOf,N]at he;exact T e (by simpa using he) hb
    simp[keepFam,aM]
   rw[aC]at h1;have h2:=wpOp_putIf N (J j oj N hji Y T) (fun cs b=>aA i oi cs b hi) (fun cs b=>aA j oj cs b N) (fun c a w h=>(hQ _ _ _ h).elim) hy h1;have O: ∀k ok,ops[k]? =some ok->k≠i->(listed.setIfInBounds j true).getD k true=false->
     (∀e∈ok.after,Region.binds .any e=true->e.on≠i)->oi.apart ops ok=true:=fun k ok hk aQ aG aN=>by
    refine J k ok hk aQ ?_ aN;by_cases hjk:j=k
    ·subst hjk;exact Y
    ·rw[getD_set_ne true hjk]at aG;exact aG
   refine wpOp_mono (fun a' w' h3=> ?_) h2;obtain⟨aO,aF,h4⟩:=h3;have aK:S w':=aF (i,S) (by simp);have K: ∀p∈keepFam (afterOf ops j) d,p.2 w':=fun p hp=>aF p (by simp[hp]);refine⟨K,ih _ (listed.setIfInBounds j true) a' w' O (ready_mono hr (Ne.symm hji)) aO aK K ?_⟩;rw[Array.setIfInBounds_comm _ _ hji];exact h4
end
def pickEarly(P:Program)(ops:Array Oper)(listed:Array Bool):List Nat->Option Nat
 | []=>none
 | i::r=>match ops[i]? with
  | some o=>match jB P o.op with
   | true=>pickEarly P ops listed r
   | false=>match Region.free .any ops listed i with
    | true=>some i
    | false=>pickEarly P ops listed r
  | none=>pickEarly P ops listed r
theorem Gg{P:Program}{ops:Array Oper}{listed:Array Bool}: ∀{l:List Nat} {i:Nat},pickEarly P ops listed l=some i->i∈l/\Region.free .any ops listed i=true
 | [],i,h=>by simp[pickEarly]at h
 | k::r,i,h=>by
  unfold pickEarly at h;split at h
  ·split at h
   ·obtain⟨h1,d⟩:=Gg h;exact⟨List.mem_cons_of_mem _ h1,d⟩
   ·split at h
    ·rename_i hf;cases h;exact⟨by simp,hf⟩
    ·obtain⟨h1,d⟩:=Gg h;exact⟨List.mem_cons_of_mem _ h1,d⟩
  ·obtain⟨h1,d⟩:=Gg h;exact⟨List.mem_cons_of_mem _ h1,d⟩
def QL:List (Nat×FT)->World->Prop->Prop
 | [],_,X=>X
 | p::r,w,X=>p.2 w/\QL r w X
theorem LM: ∀{l:List (Nat×FT)} {w:World} {X:Prop},QL l w X->(∀p∈l,p.2 w)/\X
 | [],_,_,h=>⟨by simp,h⟩
 | p::r,w,X,h=>by
  obtain⟨h1,j⟩:=h;obtain⟨C,v⟩:=LM j;exact⟨fun q d=>by rcases List.mem_cons.1 d with rfl|d;exact h1;exact C q d,v⟩
def W8:List Nat->(Nat->Prop)->Prop
 | [],_=>True
 | [j],K=>K j
 | j::r,K=>K j/\W8 r K
theorem N0: ∀{l:List Nat} {K:Nat->Prop},W8 l K-> ∀j∈l,K j
 | [],_,_,_,h=>by cases h
 | [j],K,h,k,d=>by simp at d;subst d;exact h
 | j::i::r,K,h,k,d=>by
  rcases List.mem_cons.1 d with rfl|d
  ·exact h.1
  ·exact N0 h.2 k d
def evDraw(P:Program)(C G:Dc)(ops:Array Oper)(Q:Fr->World->Prop):Nat->List (Nat×FT)->Array Bool->Fr->World->Prop
 | 0,_,listed,f,w=>match Region.ready .any ops listed with
  | []=>Q f w
  | _::_=>False
 | fuel+1,pend,listed,f,w=>match Region.ready .any ops listed with
  | []=>Q f w
  | j::rs=>match pickEarly P ops listed (j::rs)with
   | some i=>match ops[i]? with
    | some o=>match wantF ops f o.guard with
     | true=>match opK P o.op with
      | .pure=>evPure P o.op o.type f.ev fun v=>Ny (Iq ops.toList i) v fun v=>evDraw P C G ops Q fuel pend (listed.setIfInBounds i true) (f.Km o.dst v) w
      | .read=>evRead P o.op f.ev w fun v S=>Ny (Iq ops.toList i) v fun v=>evDraw P C G ops Q fuel ((i,S)::pend) (listed.setIfInBounds i true) (f.Km o.dst v) w
      | .iL=>False
     | false=>evDraw P C G ops Q fuel pend (listed.setIfInBounds i true) (f.Km o.dst undef) w
    | none=>False
   | none=>W8 (j::rs) fun i=>match ops[i]? with
    | some o=>match wantF ops f o.guard with
     | true=>W7 P C G o.op o.type f.ev w (fun v w'=>QL (keepFam o.after.toList pend) w' (Ny (Iq ops.toList i) v fun v=>
       evDraw P C G ops Q fuel (keepFam o.after.toList pend) (listed.setIfInBounds i true) (f.Km o.dst v) w')) Ns
     | false=>evDraw P C G ops Q fuel (keepFam o.after.toList pend) (listed.setIfInBounds i true) (f.Km o.dst undef) w
    | none=>False
theorem QM{P:Program}{C G:Dc}(hC:Fits P C)(hG:Fits P G){ops:Array Oper}{n:Nat}{W:List Nat}(hW:within n W)(hd: ∀(i:Nat) o,ops[i]? =some o-> ∀d,o.dst=some d->d∈W)
  (aC:Region.noSelect ops=true)(Q:Fr->World->Prop)(QQ:Exit->Act->World->Prop)(hP: ∀c a w,¬QQ (.panic c) a w)(a0:Act)
  (hQ: ∀a w,a.tmps.size=n->Ee W a0 a->Q (DB a) w->QQ .normal a w):
  ∀(fuel:Nat) (J:List (Nat×FT)) (listed:Array Bool) (a:Act) (w:World),a.tmps.size=n->Ee W a0 a->(∀p∈J,p.2 w)->
   evDraw P C G ops Q fuel J listed (DB a) w->HH P ops QQ fuel J listed a w:=by
 have T: ∀(a:Act) (i:Nat) (o:Oper) v,a.tmps.size=n->ops[i]? =some o->DB (a.put o.dst v)=(DB a).Km o.dst v:=
  fun a i o v hn N=>ML (fun t ht=>by have:=hW t (hd i o N t ht);omega) v
 intro fuel
 induction fuel with
 | zero=>
  intro J listed a w hn ha _ h;unfold evDraw at h;split at h
  ·rename_i hr;exact⟨hr,hQ a w hn ha h⟩
  ·exact h.elim
 | succ fuel ih=>
  intro J listed a w hn ha K h;unfold evDraw at h;split at h
  ·rename_i hr;exact⟨fun _=>hQ a w hn ha h,fun j hj=>by rw[hr]at hj;cases hj⟩
  ·rename_i j rs hr;split at h
   ·rename_i i hpick;obtain⟨aK,Y⟩:=Gg hpick;split at h
    ·rename_i o N;have O:i∈Region.ready .any ops listed:=by rw[hr];exact aK
     rw[Nx]at h;split at h
     ·rename_i hw;split at h
      ·obtain⟨v,hK,aD⟩:=LH h;have aB:=Ir hK;rw[<-T a i o v hn N]at aB;refine JW (oi:=o) (v:=v) (S:=fun _=>True) N (Region.noSelect_spec aC) hP fuel J listed a w (Region.free_spec N Y) O (.inl ⟨hw,fun w' _=> ?_⟩) trivial K ?_
       ·have:=aD w';rwa[Ft]at this
       ·exact JV _ _ _ _ _ _ (ih _ _ _ w (by rw[F7];exact hn) (ha.trans (Ee.put (hd i o N))) K aB)
      ·obtain⟨v,S,hK,hS,aD⟩:=LK h;have aB:=Ir hK;rw[<-T a i o v hn N]at aB;refine JW (oi:=o) (v:=v) (S:=S) N (Region.noSelect_spec aC) hP fuel J listed a w (Region.free_spec N Y) O (.inl ⟨hw,fun w' aL=> ?_⟩) hS K ?_
       ·have:=aD w' aL;rwa[Ft]at this
       ·refine ih ((i,S)::J) _ _ w (by rw[F7];exact hn) (ha.trans (Ee.put (hd i o N))) ?_ aB;intro p hp;rcases List.mem_cons.1 hp with rfl|hp
        ·exact hS
        ·exact K p hp
      ·exact h.elim
     ·rename_i hw;rw[<-T a i o undef hn N]at h;have h1:=ih J _ _ w (by rw[F7];exact hn) (ha.trans (Ee.put (hd i o N))) K h;refine JW (oi:=o) (v:=undef) (S:=fun _=>True) N (Region.noSelect_spec aC) hP fuel J listed a w (Region.free_spec N Y) O (.inr ⟨by simpa using hw,rfl⟩) trivial K ?_;exact JV _ _ _ _ _ _ h1
    ·exact h.elim
   ·refine⟨fun h0=>(by rw[hr]at h0;cases h0),fun i hi=> ?_⟩;rw[hr]at hi;have h1:=N0 h i hi;split at h1
    ·rename_i o N;have aG:afterOf ops i=o.after.toList:=by simp[afterOf,N]
     suffices hgoal:wpOp P ops QQ i (fun a' w'=>(∀p∈keepFam o.after.toList J,p.2 w')/\
       HH P ops QQ fuel (keepFam o.after.toList J) (listed.setIfInBounds i true) a' w') a w by rw[aG];exact hgoal
     unfold wpOp;rw[N];show(if _ then _ else _);rw[Nx]at h1;split at h1
     ·rename_i hw;rw[if_pos hw];have hg:=Kt hC hG (fun _=>rfl) (o:=o) h1;rw[Ft]at hg;refine .inl (Ku hg (fun v w' hK=> ?_) fun _ _ f=>f.elim);obtain⟨hk,h2⟩:=LM hK;have h3:=Ir h2;rw[<-T a i o v hn N]at h3;exact⟨hk,ih _ _ _ w' (by rw[F7];exact hn) (ha.trans (Ee.put (hd i o N))) hk h3⟩
     ·rename_i hw;rw[if_neg (by simp[hw])];rw[<-T a i o undef hn N]at h1;have hk: ∀p∈keepFam o.after.toList J,p.2 w:=fun p hp=>K p (Fz _ _ _ hp);exact⟨hk,ih _ _ _ w (by rw[F7];exact hn) (ha.trans (Ee.put (hd i o N))) hk h1⟩
    ·exact h1.elim
end Go.Sh
set_option linter.all false
namespace Go.Sh
structure Ed where
  loops:List (Nat×Yq)
  Aw:List (Nat×Yq)
def look{α:Type}:List (Nat×α)->Nat->Option α
  | [],_=>none
  | (k,x)::r,n=>bif Nat.beq k n then some x else look r n
def orElse{α:Type}:Option α->Option α->Option α
  | some x,_=>some x
  | none,y=>y
def firstR:Code->Option Nat
  | .region id _ _=>some id
  | .seq a b=>orElse (firstR a) (firstR b)
  | .cond _ a b=>orElse (firstR a) (firstR b)
  | .block _ c=>firstR c
  | .loop c=>firstR c
  | .scope c=>firstR c
  | _=>none
def written:Code->List Nat
  | .region _ ops _=>dsts ops.toList
  | .seq a b=>written a++written b
  | .cond _ a b=>written a++written b
  | .block _ c=>written c
  | .loop c=>written c
  | .scope c=>written c
  | _=>[]
abbrev Post:=Exit->Fr->World->Prop
def Post.then(K:Fr->World->Prop)(Q:Post):Post:=fun e f w=>match e with
  | .normal=>K f w
  | e=>Q e f w
def Post.inBlock(id:Nat)(Q:Post):Post:=fun e f w=>match e with
  | .exit k=>match Nat.beq k id with
    | true=>Q .normal f w
    | false=>Q (.exit k) f w
  | e=>Q e f w
def Post.noGoto(Q:Post):Post:=fun e f w=>match e with
  | .goto _=>False
  | e=>Q e f w
def Be(σ:Type)(s0:σ)(w0:World)(body:σ->(Nat->Value)->World->(σ->World->Prop)->Prop):Prop:=
  ∃(I:σ->World->Prop) (μ:σ->World->Nat),I s0 w0/\ ∀s j w,I s w->body s j w fun s' w'=>I s' w'/\μ s' w'<μ s w
def Av(σ:Type)(first:(σ->World->Prop)->Prop)(rest:σ->(Nat->Value)->World->Prop):Prop:=
  ∃J:σ->World->Prop,first J/\ ∀s j w,J s w->rest s j w
def ev(P:Program)(C G:Dc)(A:Ed):Code->Post->Fr->World->Prop
  | .skip,Q,f,w=>Q .normal f w
  | .ret,Q,f,w=>Q .ret f w
  | .exit id,Q,f,w=>Q (.exit id) f w
  | .region _ ops d,Q,f,w=>match d with
    | false=>evOps P C G ops (Q .normal) (fun f v w=>Q (.panic [{v:=v,recovered:=false}]) f w) 0 ops.toList f w
    | true=>match Region.noSelect ops with
      | true=>evDraw P C G ops (Q .normal) ops.size [] (Array.replicate ops.size false) f w.drew
      | false=>False
  | .seq x y,Q,f,w=>match(firstR y).bind (look A.Aw)with
    | none=>ev P C G A x (Post.then (ev P C G A y Q) Q) f w
    | some l=>Av (St l) (fun J=>ev P C G A x (Post.then (fun f' w'=>Fr.get l f' fun s=>J s w') Q) f w)
        fun s j w'=>ev P C G A y Q (Fr.set l s (f.RN (written x) j)) w'
  | .cond c x y,Q,f,w=>match f.ev c with
    | .bool b=>CND b (ev P C G A x Q f w) (ev P C G A y Q f w)
    | _=>False
  | .block id c,Q,f,w=>ev P C G A c (Post.inBlock id Q) f w
  | .scope c,Q,f,w=>ev P C G A c (Post.noGoto Q) f w
  | .label _,Q,f,w=>Q .normal f w
  | .loop c,Q,f,w=>match(firstR c).bind (look A.loops)with
    | none=>False
    | some l=>Fr.get l f fun s=>Be (St l) s w fun s j w' next=>
        ev P C G A c (Post.then (fun f' K=>Fr.get l f' fun s'=>next s' K) Q) (Fr.set l s (f.RN (written c) j)) w'
  | _,_,_,_=>False
def lift(n:Nat)(W:List Nat)(a0:Act)(Q:Post):Exit->Act->World->Prop
  | .outgrown,_,_=>False
  | e,a,w=>a.tmps.size=n/\Ee W a0 a/\Q e (DB a) w
def calmQ(Q:Post):Post:=fun e f w=>match e with
  | .panic _=>False
  | e=>Q e f w
theorem KL{n:Nat}{W V:List Nat}{a0:Act}{Q:Post}(h: ∀t,t∈W->t∈V)(e:Exit)(a:Act)(w:World)(d:lift n W a0 Q e a w):lift n V a0 Q e a w:=by
  cases e<;>simp only[lift]at d⊢ <;>first
    | exact d
    | exact⟨d.1,d.2.1.mono h,d.2.2⟩
theorem N1: ∀{l:List Oper} {o:Oper} {d:Nat},o∈l->o.dst=some d->d∈dsts l
  | [],o,d,h,_=>by cases h
  | p::r,o,d,h,hd=>by
    unfold dsts;rcases List.mem_cons.1 h with rfl|h
    · rw[hd];simp
    · have:=N1 h hd;split
      · exact List.mem_cons_of_mem _ this
      · exact this
theorem ED{P:Program}{C G:Dc}(T:Fits P C)(hG:Fits P G)(hm:P.follows .mixedOrders=true){A:Ed}{n:Nat}:
    ∀(c:Code),within n (written c)-> ∀(Q:Post) (a:Act) (w:World),a.tmps.size=n->ev P C G A c Q (DB a) w->c.wp P (lift n (written c) a Q) a w
  | .skip,_,Q,a,w,hn,h=>wp_skip ⟨hn,.refl _ _,h⟩
  | .ret,_,Q,a,w,hn,h=>wp_ret ⟨hn,.refl _ _,h⟩
  | .exit id,_,Q,a,w,hn,h=>wp_exit ⟨hn,.refl _ _,h⟩
  | .region id ops d,hW,Q,a,w,hn,h=>by
    have hd: ∀(i:Nat) o,ops[i]? =some o-> ∀d,o.dst=some d->d∈dsts ops.toList:=fun i o ho d hd=>
      N1 (Array.mem_toList_iff.2 (Array.mem_of_getElem? ho)) hd
    unfold ev at h;split at h
    · refine wp_region_list ?_;exact JU T hG hW (Q .normal) (fun f v w=>Q (.panic [{v:=v,recovered:=false}]) f w) _ a (fun N w' Y ha hq=>⟨Y,ha,hq⟩) (fun N v w' Y ha hq=>⟨Y,ha,hq⟩) ops.toList 0 a w (fun o ho d hd=>N1 ho hd) hn (.refl _ _) h
    · split at h
      · rename_i hs;refine Code.wp_mono (Q:=lift n (dsts ops.toList) a (calmQ Q)) (fun e N w' j=> ?_) (wp_region_any hm (Nz _ [] _ _ _ ?_))
        · cases e<;>simp only[lift,calmQ]at j⊢ <;>first
            | exact j
            | exact j.2.2.elim
        exact QM T hG hW hd hs (Q .normal) (lift n (dsts ops.toList) a (calmQ Q)) (fun c a w h=>h.2.2) a (fun N w' Y ha hq=>⟨Y,ha,hq⟩) ops.size [] _ a _ hn (.refl _ _) (by simp) h
      · exact h.elim
  | .seq x y,hW,Q,a,w,hn,h=>by
    have aE:within n (written x):=fun t K=>hW t (by simp[written,K]);have aD:within n (written y):=fun t K=>hW t (by simp[written,K]);unfold ev at h;split at h
    · refine wp_seq (Code.wp_mono (fun e N w' j=> ?_) (ED T hG hm x aE _ a w hn h));cases e<;>simp only[lift,Exit.then,Post.then]at j⊢ <;>first
        | exact j.elim
        | exact⟨j.1,j.2.1.mono (by simp[written];intro t K;exact .inl K),j.2.2⟩
        | (refine Code.wp_mono (fun e aH O aJ=> ?_) (ED T hG hm y aD Q N w' j.1 j.2.2)
           have h1:=KL (V:=written (.seq x y)) (by simp[written];intro t K;exact .inr K) e aH O aJ;have h2:Ee (written (.seq x y)) a N:=j.2.1.mono (by simp[written];intro t K;exact .inl K);cases e<;>simp only[lift]at h1⊢ <;>first
             | exact h1
             | exact⟨h1.1,h2.trans h1.2.1,h1.2.2⟩)
    · rename_i l hl0;obtain⟨J,h1,h2⟩:=h;refine wp_seq (Code.wp_mono (fun e N w' j=> ?_) (ED T hG hm x aE _ a w hn h1));cases e<;>simp only[lift,Exit.then,Post.then]at j⊢ <;>first
        | exact j.elim
        | exact⟨j.1,j.2.1.mono (by simp[written];intro t K;exact .inl K),j.2.2⟩
        | (obtain⟨s,hs,hJ⟩:=JN j.2.2
           have h3:ev P C G A y Q (Fr.set l s ((DB a).RN (written x) (DB N))) w':=h2 s (DB N) w' hJ;rw[JO hs (fun t K=>j.2.1.out t K)]at h3;refine Code.wp_mono (fun e aH O aJ=> ?_) (ED T hG hm y aD Q N w' j.1 h3);have h1:=KL (V:=written (.seq x y)) (by simp[written];intro t K;exact .inr K) e aH O aJ;have h2:Ee (written (.seq x y)) a N:=j.2.1.mono (by simp[written];intro t K;exact .inl K);cases e<;>simp only[lift]at h1⊢ <;>first
             | exact h1
             | exact⟨h1.1,h2.trans h1.2.1,h1.2.2⟩)
  | .cond c x y,hW,Q,a,w,hn,h=>by
    have aE:within n (written x):=fun t K=>hW t (by simp[written,K]);have aD:within n (written y):=fun t K=>hW t (by simp[written,K]);unfold ev at h;split at h
    · rename_i b hb;rw[KJ]at hb;cases b
      · refine wp_cond_false hb (Code.wp_mono (fun e N w' j=> ?_) (ED T hG hm y aD _ a w hn h));exact KL (by simp[written];intro t K;exact .inr K) e N w' j
      · refine wp_cond_true hb (Code.wp_mono (fun e N w' j=> ?_) (ED T hG hm x aE _ a w hn h));exact KL (by simp[written];intro t K;exact .inl K) e N w' j
    · exact h.elim
  | .block id c,hW,Q,a,w,hn,h=>by
    refine wp_block (Code.wp_mono (fun e N w' j=> ?_) (ED T hG hm c hW _ a w hn h));cases e<;>simp only[lift,Exit.inBlock,Post.inBlock]at j⊢ <;>first
      | exact j
      | skip
    rename_i k;obtain⟨h1,h2,h3⟩:=j;split at h3
    · rename_i e;have:=Nat.eq_of_beq_eq_true e;subst this;rw[if_pos rfl];exact⟨h1,h2,h3⟩
    · rename_i e;rw[if_neg (by intro e';subst e';simp at e)];exact⟨h1,h2,h3⟩
  | .loop c,hW,Q,a,w,hn,h=>by
    unfold ev at h;split at h
    · exact h.elim
    · rename_i l hl0;obtain⟨s0,aO,I,μ,h0,aC⟩:=JN h;have key:(Code.loop c).wp P (lift n (written c) a Q) a w:=by
        refine wp_loop (fun N w'=>N.tmps.size=n/\Ee (written c) a N/\ ∃s,Kc l s (DB N)/\I s w')
          (fun N w'=> @dite Nat (∃s,Kc l s (DB N)/\I s w') (Classical.propDecidable _) (fun h=>μ (Classical.choose h) w') (fun _=>0)) ⟨hn,.refl _ _,s0,aO,h0⟩ ?_
        intro a1 w1 hI;obtain⟨aS,aI,s,hs,hi⟩:=hI;have hex: ∃s,Kc l s (DB a1)/\I s w1:=⟨s,hs,hi⟩;have hc:=Classical.choose_spec hex;have hr:ev P C G A c (Post.then (fun f' O=>Fr.get l f' fun s'=>I s' O/\μ s' O<μ (Classical.choose hex) w1) Q) (Fr.set l (Classical.choose hex) ((DB a).RN (written c) (DB a1))) w1:=aC (Classical.choose hex) (DB a1) w1 hc.2;rw[JO hc.1 (fun t K=>aI.out t K)]at hr;refine Code.wp_mono (fun e a2 w2 j=> ?_) (ED T hG hm c hW _ a1 w1 aS hr);cases e<;>simp only[lift,Exit.then,Post.then]at j⊢ <;>first
          | exact j.elim
          | exact⟨j.1,aI.trans j.2.1,j.2.2⟩
          | skip
        obtain⟨aT,aP,h3⟩:=j;obtain⟨s',aL,aR,aU⟩:=JN h3;have aA: ∃s,Kc l s (DB a2)/\I s w2:=⟨s',aL,aR⟩;refine⟨⟨aT,aI.trans aP,aA⟩,?_⟩;rw[dif_pos aA,dif_pos hex];rw[PM (Classical.choose_spec aA).1 aL];exact aU
      exact key
  | .rangeFunc _ _ _ _,_,_,_,_,_,h=>by simp[ev]at h
  | .scope c,hW,Q,a,w,hn,h=>by
    refine wp_scope_straight (Code.wp_mono (fun e N w' j=> ?_) (ED T hG hm c hW _ a w hn h));cases e<;>simp only[lift,Exit.noGoto,Post.noGoto]at j⊢ <;>first
      | exact j
      | exact j.2.2
  | .label _,_,Q,a,w,hn,h=>wp_label ⟨hn,.refl _ _,h⟩
  | .goto _,_,_,_,_,_,h=>by simp[ev]at h
  | .refuse _,_,_,_,_,_,h=>by simp[ev]at h
end Go.Sh
set_option linter.all false
namespace Go.Sh
def evRes(P:Program):List ResultVar->Fr->World->(List Value->Prop)->Prop
  | [],_,_,K=>K []
  | .tmp t::r,f,w,K=>evRes P r f w fun l=>K (f t::l)
  | .cell a ty::r,f,w,K=>match f a with
    | .pointer p=>NC p fun p=>TL P ty p w fun v _=>evRes P r f w fun l=>K (v::l)
    | _=>False
def resV:List Value->Value
  | [v]=>v
  | l=>.tuple ⟨l⟩
def nthV:List Value->Nat->Value
  | [],_=>undef
  | v::_,0=>v
  | _::r,n+1=>nthV r n
def HY(args:List Value):Fr:=fun t=>nthV args t
def finQ(P:Program)(fn:Func)(K Kp:Value->World->Prop):Post:=fun e f w=>match e with
  | .normal=>evRes P fn.results.toList f w fun l=>K (resV l) w
  | .ret=>evRes P fn.results.toList f w fun l=>K (resV l) w
  | .panic [⟨v,false,false⟩]=>Kp v w
  | _=>False
def withinB(n:Nat):List Nat->Bool
  | []=>true
  | t::r=>match Nat.ble (t+1) n with
    | true=>withinB n r
    | false=>false
theorem Is{n:Nat}:{W:List Nat}->withinB n W=true->within n W
  | [],_=>by intro t d;cases d
  | t::r,h=>by
    unfold withinB at h;split at h
    · rename_i hle;intro u hu;rcases List.mem_cons.1 hu with rfl|hu
      · have:=Nat.le_of_ble_eq_true hle;omega
      · exact Is h u hu
    · cases h
theorem QN: ∀(l:List Value) (t:Nat),nthV l t=(l[t]?).getD undef
  | [],t=>by simp[nthV]
  | v::r,0=>by simp[nthV]
  | v::r,n+1=>by simp[nthV,QN r n]
def resOne(tmps:Array Value):ResultVar->Sem Value
  | .tmp t=>pure (tmps.getD t undef)
  | .cell a t=>do loadVar t (<-asAddr (tmps.getD a undef))
theorem Kv{P:Program}{a:Act}{w:World}:{rs:List ResultVar}->{K:List Value->Prop}->evRes P rs (DB a) w K->
    ∃l,K l/\(rs.mapM (resOne a.tmps)).run P w= .ok l w
  | [],K,h=>⟨[],h,by simp⟩
  | .tmp t::r,K,h=>by
    unfold evRes at h;obtain⟨l,d,j⟩:=Kv h;exact⟨_,d,by simp only[List.mapM_cons,Sem.run_bind,resOne,Sem.run_pure,Result.andThen_ok,j];rfl⟩
  | .cell p ty::r,K,h=>by
    unfold evRes at h;split at h
    · rename_i q hq;obtain⟨N,rfl,J⟩:=Fq h;obtain⟨v,S,h1,O,T⟩:=Mi J;obtain⟨l,d,j⟩:=Kv h1;have C:a.tmps.getD p undef= .pointer (some N):=hq;exact⟨_,d,by simp only[List.mapM_cons,Sem.run_bind,resOne,C,asAddr,Sem.run_pure,Result.andThen_ok,T w O,j]⟩
    · exact h.elim
theorem HZ{P:Program}{fn:Func}{a:Act}{w:World}{K:List Value->Prop}(h:evRes P fn.results.toList (DB a) w K):
    ∃l,K l/\(results fn a.tmps).run P w= .ok (resV l) w:=by
  obtain⟨l,d,j⟩:=Kv h;refine⟨l,d,?_⟩;have he:results fn a.tmps=(do let vs <-fn.results.mapM (resOne a.tmps);pure (if h:vs.size=1 then vs[0]else .tuple vs)):=by
    unfold results;congr 2
  rw[he,Array.mapM_eq_mapM_toList];simp only[Sem.run_bind,Sem.run_map,j,Result.andThen_ok,Sem.run_pure];congr 1
  match l with
  | []=>simp[resV]
  | [v]=>simp[resV]
  | v::u::r=>simp[resV]
theorem Rc{P:Program}{C G:Dc}{A:Ed}{fn:Func}{c:Code}{args:List Value}{w:World}{K Kp:Value->World->Prop}
    (hC:Fits P C)(hG:Fits P G)(hm:P.follows .mixedOrders=true)(J:Nat.ble args.length fn.ntmps=true)
    (Y:withinB fn.ntmps (written c)=true)(h:ev P C G A c (finQ P fn K Kp) (HY args) w):
    c.wp P (bodyPost P fn (Ends K Kp)) {tmps:=(⟨args⟩:Array Value)++Array.replicate (fn.ntmps-(⟨args⟩:Array Value).size) undef,defers:=[]} w:=by
  have O:=Nat.le_of_ble_eq_true J;have h0:DB ⟨(⟨args⟩:Array Value)++Array.replicate (fn.ntmps-args.length) undef,[]⟩=HY args:=by
    funext t;simp only[DB,HY,QN,Array.getD_eq_getD_getElem?,Array.getElem?_append];by_cases ht:t<args.length
    · simp[ht]
    · simp only[List.size_toArray,ht,if_false];rw[List.getElem?_eq_none (by omega)];simp only[Array.getElem?_replicate];split<;>rfl
  have hn:((⟨args⟩:Array Value)++Array.replicate (fn.ntmps-args.length) undef).size=fn.ntmps:=by simp;omega
  rw[<-h0]at h;refine Code.wp_mono (fun e a' w' d=> ?_) (ED hC hG hm c (Is Y) _ _ w hn h);cases e<;>simp only[lift,finQ,bodyPost]at d⊢ <;>first
    | exact d.elim
    | exact d.2.2.elim
    | (obtain⟨_,N,j⟩:=d
       obtain⟨l,T,hr⟩:=HZ j;exact⟨N.defers,_,hr,.inl ⟨_,rfl,T⟩⟩)
    | (obtain⟨_,N,j⟩:=d
       split at j
       · rename_i he;cases he
       · rename_i he;cases he
       · rename_i v he;cases he;exact⟨N.defers,.inr ⟨_,rfl,j⟩⟩
       · exact j.elim)
theorem Rd{P:Program}{C G:Dc}{A:Ed}{f:FuncId}{fn:Func}{c:Code}{args:List Value}{w:World}{K Kp:Value->World->Prop}
    (N:Fits P C)(J:Fits P G)(hm:P.follows .mixedOrders=true)(hf:P.funcs[f]? =some fn)(v:fn.body=some c)(d:Nat.ble args.length fn.ntmps=true)
    (j:withinB fn.ntmps (written c)=true)(h:ev P C G A c (finQ P fn K Kp) (HY args) w):
    Calls P f ⟨args⟩ w (Ends K Kp):=calls_of_wp hf v (Rc N J hm d j h)
end Go.Sh
set_option linter.all false
namespace Go.Sh
def Hy:List VT->Type
  | []=>Unit
  | t::r=>Yp t×Hy r
def mkArgs:(l:List VT)->Hy l->List Value
  | [],_=>[]
  | t::r,x=>mkVT t x.1::mkArgs r x.2
def unArgs:(l:List VT)->List Value->(Hy l->Prop)->Prop
  | [],[],K=>K ()
  | t::r,v::vs,K=>unVT t v fun x=>unArgs r vs fun y=>K (x,y)
  | _,_,_=>False
theorem Gp:{l:List VT}->{vs:List Value}->{K:Hy l->Prop}->unArgs l vs K-> ∃x,vs=mkArgs l x/\K x
  | [],[],_,h=>⟨(),rfl,h⟩
  | [],_::_,_,h=>h.elim
  | _::_,[],_,h=>h.elim
  | t::r,v::vs,K,h=>by
    simp only[unArgs]at h;obtain⟨x,rfl,j⟩:=MK h;obtain⟨y,rfl,d⟩:=Gp j;exact⟨(x,y),rfl,d⟩
theorem Gh:{l:List VT}->{x:Hy l}->(mkArgs l x).length=l.length
  | [],_=>rfl
  | t::r,x=>by simp[mkArgs,Gh]
abbrev Entry:=Array Value->World->(Value->World->Prop)->(Value->World->Prop)->Prop
def It(P:Program)(g:FuncId)(c:Entry):Prop:= ∀args w K Kp,c args w K Kp->
  (∀w,(callFunc g args).run P w= .ok (.enter g args) w)/\Calls P g args w (Ends K Kp)
def FC(P:Program)(g:FuncId)(c:Entry):Prop:= ∀args w K Kp,c args w K Kp->
  ((∀w,(callFunc g args).run P w= .ok (.enter g args) w)/\Calls P g args w (Ends K Kp))∨ ∃v w',(callFunc g args).run P w= .ok (.value v) w'/\K v w'
theorem It.any{P:Program}{g:FuncId}{c:Entry}(h:It P g c):FC P g c:=fun args w K Kp d=>.inl (h args w K Kp d)
theorem W9{P:Program}{f:FuncId}{fn:Func}{e:Array Value->Sem Value}(hf:P.funcs[f]? =some fn)(d:(fn.name== "runtime.NumGoroutine")=false)(j:fn.body.isNone=true)(J:Extern.findNext fn=none)(he:Extern.find fn=some e)
    {c:Entry}(N: ∀args w K Kp,c args w K Kp-> ∃v,(e args).run P w= .ok v w/\K v w):FC P f c:=fun args w K Kp h=>by
  obtain⟨v,h1,C⟩:=N args w K Kp h;refine .inr ⟨v,w,?_,C⟩;rw[run_callFunc_extern hf d j J he,h1];rfl
def tabC(l:List (Nat×Entry)):Dc:=fun g args w K Kp=>match look l g with
  | some c=>c args w K Kp
  | none=>False
theorem N2{α:Type}:{l:List (Nat×α)}->{g:Nat}->{c:α}->look l g=some c->(g,c)∈l
  | [],_,_,h=>by simp[look]at h
  | (k,x)::r,g,c,h=>by
    simp only[look,cond_eq_ite]at h;by_cases e:Nat.beq k g=true
    · rw[if_pos e]at h;have:=Nat.eq_of_beq_eq_true e;subst this;cases h;simp
    · rw[if_neg e]at h;exact List.mem_cons_of_mem _ (N2 h)
theorem MN{P:Program}{l:List (Nat×Entry)}(h: ∀p∈l,FC P p.1 p.2):Fits P (tabC l):=by
  intro g args w K Kp d;unfold tabC at d;split at d
  · rename_i c hl;exact h _ (N2 hl) args w K Kp d
  · exact d.elim
theorem AF{P:Program}: ∀p∈([]:List (Nat×Entry)),FC P p.1 p.2:=by simp
theorem Kw{P:Program}{g:Nat}{c:Entry}{l:List (Nat×Entry)}(h:FC P g c)(d: ∀p∈l,FC P p.1 p.2): ∀p∈(g,c)::l,FC P p.1 p.2:=by
  intro p hp;rcases List.mem_cons.1 hp with rfl|hp
  · exact h
  · exact d p hp
theorem AB{P:Program}{g:Nat}{c:Entry}{l:List (Nat×Entry)}(h:It P g c)(d: ∀p∈l,FC P p.1 p.2): ∀p∈(g,c)::l,FC P p.1 p.2:=Kw h.any d
def ground(P:Program):Dc:=fun g args w K Kp=>
  (∀w,(callFunc g args).run P w= .ok (.enter g args) w)/\Calls P g args w (Ends K Kp)
theorem JX(P:Program):Fits P (ground P):=fun _ _ _ _ _ h=>.inl h
theorem Re{P:Program}{T:List (Nat×Entry)}{A:Ed}{f:FuncId}{fn:Func}{c:Code}{l:List VT}{F:Hy l->(Value->World->Prop)->(Value->World->Prop)->World->Prop}
    (hT: ∀p∈T,FC P p.1 p.2)(hm:P.follows .mixedOrders=true)(hf:P.funcs[f]? =some fn)(d: ∀args w,(callFunc f args).run P w= .ok (.enter f args) w)
    (O:fn.body=some c)(v:Nat.ble l.length fn.ntmps=true)(J:withinB fn.ntmps (written c)=true)
    (j: ∀x K Kp w,F x K Kp w=ev P (tabC T) (ground P) A c (finQ P fn K Kp) (HY (mkArgs l x)) w):
    It P f fun args w K Kp=>unArgs l args.toList fun x=>F x K Kp w:=by
  intro args w K Kp h;obtain⟨x,Y,C⟩:=Gp h;have N:args=⟨mkArgs l x⟩:=Array.toList_inj.1 (by simpa using Y);subst N;refine⟨fun w=>d _ w,?_⟩;rw[j]at C;exact Rd (MN hT) (JX P) hm hf O (by rw[Gh];exact v) J C
end Go.Sh
set_option linter.all false
namespace Go.Sh
abbrev LN:=FuncId->Array Value->Option Value->World->(Bool->World->Prop)->Prop
abbrev JY:=Array Value->Option Value->World->(Bool->World->Prop)->Prop
def modeOf:Option Value->FrameMode
  | none=>.returning
  | some v=>.panicking [{v:=v,recovered:=false}]
def XA:Option Value->Bool->FrameMode
  | none,_=>.returning
  | some v,b=>.panicking [{v:=v,recovered:=b}]
def Gq(P:Program)(g:FuncId)(c:JY):Prop:= ∀args d w K,c args d w K->
  (∀w,(callFunc g args).run P w= .ok (.enter g args) w)/\CallsD P g args (modeOf d) w fun e u' w'=> ∃v b,e= .returned v/\K b w'/\u'=XA d b
def aY(P:Program)(C:LN):Prop:= ∀g args d w K,C g args d w K->
  (∀w,(callFunc g args).run P w= .ok (.enter g args) w)/\CallsD P g args (modeOf d) w fun e u' w'=> ∃v b,e= .returned v/\K b w'/\u'=XA d b
def tabD(l:List (Nat×JY)):LN:=fun g args d w K=>match look l g with
  | some c=>c args d w K
  | none=>False
theorem Vh{P:Program}{l:List (Nat×JY)}(h: ∀p∈l,Gq P p.1 p.2):aY P (tabD l):=by
  intro g args j w K d;unfold tabD at d;split at d
  · rename_i c hl;exact h _ (N2 hl) args j w K d
  · exact d.elim
theorem Vi{P:Program}: ∀p∈([]:List (Nat×JY)),Gq P p.1 p.2:=by simp
theorem TO{P:Program}{g:Nat}{c:JY}{l:List (Nat×JY)}(h:Gq P g c)(d: ∀p∈l,Gq P p.1 p.2): ∀p∈(g,c)::l,Gq P p.1 p.2:=by
  intro p hp;rcases List.mem_cons.1 hp with rfl|hp
  · exact h
  · exact d p hp
theorem Rf{P:Program}{T:List (Nat×Entry)}{A:Ed}{f:FuncId}{fn:Func}{c:Code}{l:List VT}{F:Hy l->(World->Prop)->World->Prop}
    (hT: ∀p∈T,FC P p.1 p.2)(hm:P.follows .mixedOrders=true)(hf:P.funcs[f]? =some fn)(d: ∀args w,(callFunc f args).run P w= .ok (.enter f args) w)
    (hb:fn.body=some c)(C:Nat.ble l.length fn.ntmps=true)(Y:withinB fn.ntmps (written c)=true)
    (j: ∀x K w,F x K w=ev P (tabC T) (ground P) A c (finQ P fn (fun _ w'=>K w') Ns) (HY (mkArgs l x)) w):
    Gq P f fun args _ w K=>unArgs l args.toList fun x=>F x (K false) w:=by
  intro args N w K h;obtain⟨x,hx,J⟩:=Gp h;have ha:args=⟨mkArgs l x⟩:=Array.toList_inj.1 (by simpa using hx);subst ha;refine⟨fun w=>d _ w,?_⟩;rw[j]at J;refine(callsD_of_wp hf hb (Rc (MN hT) (JX P) hm (by rw[Gh];exact C) Y J)).mono ?_;rintro e u' w' ⟨rfl,hE⟩;obtain⟨v,rfl,O⟩:=hE.val;refine⟨v,false,rfl,O,?_⟩;cases N<;>rfl
theorem XB{args:List Value}{n:Nat}:DB ⟨(⟨args⟩:Array Value)++Array.replicate (n-args.length) undef,[]⟩=HY args:=by
  funext t;simp only[DB,HY,QN,Array.getD_eq_getD_getElem?,Array.getElem?_append];by_cases ht:t<args.length
  · simp[ht]
  · simp only[List.size_toArray,ht,if_false];rw[List.getElem?_eq_none (by omega)];simp only[Array.getElem?_replicate];split<;>rfl
def deferOf:Code->Option Call
  | .region _ ops false=>match ops.toList with
    | [o]=>match o.op with
      | .defer c=>match o.guard,o.dst with
        | none,none=>some c
        | _,_=>none
      | _=>none
    | _=>none
  | _=>none
theorem QO{x:Code}{c:Call}(h:deferOf x=some c): ∃id o,x= .region id #[o] false/\o.op= .defer c/\o.guard=none/\o.dst=none:=by
  unfold deferOf at h;split at h
  · rename_i id ops;split at h
    · rename_i o ho;split at h
      · rename_i k hk;split at h
        · rename_i hg hd;cases h;have:ops= #[o]:=Array.toList_inj.1 (by simpa using ho);subst this;exact⟨id,o,rfl,hk,hg,hd⟩
        · cases h
      · cases h
    · cases h
  · cases h
def deferOf2:Code->Option (Oper×Call)
  | .region _ ops false=>match ops.toList with
    | [o1,o]=>match o.op with
      | .defer c=>match o.guard,o.dst with
        | none,none=>match o1.guard with
          | none=>some (o1,c)
          | _=>none
        | _,_=>none
      | _=>none
    | _=>none
  | _=>none
theorem O9{x:Code}{d:Oper}{c:Call}(h:deferOf2 x=some (d,c)): ∃id o,x= .region id #[d,o] false/\o.op= .defer c/\o.guard=none/\o.dst=none/\d.guard=none:=by
  unfold deferOf2 at h;split at h
  · rename_i id ops;split at h
    · rename_i p o ho;split at h
      · rename_i k hk;split at h
        · rename_i hg hd;split at h
          · rename_i hg1;cases h;have:ops= #[_,o]:=Array.toList_inj.1 (by simpa using ho);subst this;exact⟨id,o,rfl,hk,hg,hd,hg1⟩
          · cases h
        · cases h
      · cases h
    · cases h
  · cases h
def evD(P:Program)(C G:Dc)(A:Ed)(d:Post)(K:FuncId->Array Value->Post):Code->Fr->World->Prop
  | .seq x y,f,w=>match deferOf x with
    | some c=>match c.callee with
      | .value v=>match f.ev v with
        | .func (.func g) first cap=>ev P C G A y (K g ((first++c.args.map f.ev)++cap)) f w
        | _=>False
      | _=>False
    | none=>match deferOf2 x with
      | some (o1,c)=>W7 P C G o1.op o1.type f.ev w (fun u w'=>match c.callee with
        | .value v=>match(f.Km o1.dst u).ev v with
          | .func (.func g) first cap=>ev P C G A y (K g ((first++c.args.map (f.Km o1.dst u).ev)++cap)) (f.Km o1.dst u) w'
          | _=>False
        | _=>False) fun _ _=>False
      | none=>match(firstR y).bind (look A.Aw)with
        | none=>ev P C G A x (Post.then (evD P C G A d K y) d) f w
        | some l=>Av (St l) (fun J=>ev P C G A x (Post.then (fun f' w'=>Fr.get l f' fun s=>J s w') d) f w)
            fun s j w'=>evD P C G A d K y (Fr.set l s (f.RN (written x) j)) w'
  | c,f,w=>ev P C G A c d f w
def liftD(n:Nat)(j:Post)(d:FuncId->Array Value->Post):Exit->Act->World->Prop
  | .outgrown,_,_=>False
  | e,a,w=>a.tmps.size=n/\((a.defers=[]/\j e (DB a) w)∨ ∃g cap args,a.defers=[⟨.fn (.func g) cap,args⟩]/\d g (args++cap) e (DB a) w)
theorem Vj{P:Program}{C G:Dc}(hC:Fits P C)(hG:Fits P G)(hm:P.follows .mixedOrders=true){A:Ed}{n:Nat}{Q0:Post}{Q1:FuncId->Array Value->Post}:
    ∀(c:Code),within n (written c)-> ∀(a:Act) (w:World),a.tmps.size=n->a.defers=[]->evD P C G A Q0 Q1 c (DB a) w->c.wp P (liftD n Q0 Q1) a w:=by
  have plain: ∀(c:Code),within n (written c)-> ∀(a:Act) (w:World),a.tmps.size=n->a.defers=[]->ev P C G A c Q0 (DB a) w->c.wp P (liftD n Q0 Q1) a w:=by
    intro c hW a w hn O h;refine Code.wp_mono (fun e a' w' d=> ?_) (ED hC hG hm c hW Q0 a w hn h);cases e<;>simp only[lift,liftD]at d⊢ <;>first
      | exact d.elim
      | exact⟨d.1,.inl ⟨by rw[d.2.1.defers,O],d.2.2⟩⟩
  intro c
  induction c with
  | seq x y _ ihy=>
    intro hW a w hn O h;have aE:within n (written x):=fun t ht=>hW t (by simp[written,ht]);have T:within n (written y):=fun t ht=>hW t (by simp[written,ht]);unfold evD at h;split at h
    · rename_i k hk;obtain⟨id,o,rfl,ho,hg,K⟩:=QO hk;split at h
      · rename_i v hv;split at h
        · rename_i g first cap hf
          refine wp_seq (wp_region_list ?_);show wpList P #[o] _ [o] a w;unfold wpList;have j:Region.wanted o (yielded #[o] a.tmps)=true:=by simp[Region.wanted,hg]
          rw[if_pos j];refine .inl ?_;have N:(execOp a.eval o).run P w= .ok (.defer ⟨.fn (.func g) cap,first++k.args.map (DB a).ev⟩) w:=by
            obtain⟨dst,op,type,pos,after,guard⟩:=o;obtain⟨callee,aF,aQ⟩:=k;simp only at ho hv;subst ho;subst hv;rw[KJ]at hf;simp[execOp,resolve,hf,Deferred.ofValue,Ft]
          unfold Oper.wp;rw[N,Oper.upon_defer,K];show(Exit.then _ _ _ _ _:Prop);have h2:=ED hC hG hm y T (Q1 g ((first++k.args.map (DB a).ev)++cap)) {a with defers:=⟨.fn (.func g) cap,first++k.args.map (DB a).ev⟩::a.defers} w hn h;refine Code.wp_mono (fun e a' w' d=> ?_) h2;cases e<;>simp only[lift,liftD]at d⊢ <;>first
            | exact d.elim
            | exact⟨d.1,.inr ⟨g,cap,_,by rw[d.2.1.defers,O],d.2.2⟩⟩
        · exact h.elim
      · exact h.elim
    · split at h
      · rename_i o1 k hk;obtain⟨id,o,rfl,ho,hg,K,aP⟩:=O9 hk;refine wp_seq (wp_region_list ?_);show wpList P #[o1,o] _ [o1,o] a w;unfold wpList;have Y:Region.wanted o1 (yielded #[o1,o] a.tmps)=true:=by simp[Region.wanted,aP]
        rw[if_pos Y];have aN: ∀v,DB (a.put o1.dst v)=(DB a).Km o1.dst v:=fun v=>ML (fun t ht=>by have:=aE t (by simp[written,dsts,ht]);omega) v;refine .inl (Ku (Kp:=fun _ _=>False) (by have:=Kt hC hG (fun _=>rfl) (o:=o1) h;rwa[Ft]at this) (fun u w' hK=> ?_) fun v w' hK=>hK.elim);split at hK
        · rename_i v hv;rw[<-aN]at hK;split at hK
          · rename_i g first cap hf
            unfold wpList;have j:Region.wanted o (yielded #[o1,o] (a.put o1.dst u).tmps)=true:=by simp[Region.wanted,hg]
            rw[if_pos j];refine .inl ?_;have N:(execOp (a.put o1.dst u).eval o).run P w'= .ok (.defer ⟨.fn (.func g) cap,first++k.args.map (DB (a.put o1.dst u)).ev⟩) w':=by
              obtain⟨dst,op,type,pos,after,guard⟩:=o;obtain⟨callee,aF,aQ⟩:=k;simp only at ho hv;subst ho;subst hv;rw[KJ]at hf;simp[execOp,resolve,hf,Deferred.ofValue,Ft]
            unfold Oper.wp;rw[N,Oper.upon_defer,K];show(Exit.then _ _ _ _ _:Prop);have h2:=ED hC hG hm y T (Q1 g ((first++k.args.map (DB (a.put o1.dst u)).ev)++cap)) {(a.put o1.dst u)with defers:=⟨.fn (.func g) cap,first++k.args.map (DB (a.put o1.dst u)).ev⟩::(a.put o1.dst u).defers} w' (by rw[<-hn];exact F7 _ _ _) hK;refine Code.wp_mono (fun e a' w' d=> ?_) h2;cases e<;>simp only[lift,liftD]at d⊢ <;>first
              | exact d.elim
              | exact⟨d.1,.inr ⟨g,cap,_,by rw[d.2.1.defers,Nn,O],d.2.2⟩⟩
          · exact hK.elim
        · exact hK.elim
      split at h
      · refine wp_seq (Code.wp_mono (fun e a' w' d=> ?_) (ED hC hG hm x aE _ a w hn h));cases e<;>simp only[lift,Exit.then,Post.then,liftD]at d⊢ <;>first
          | exact d.elim
          | exact⟨d.1,.inl ⟨by rw[d.2.1.defers,O],d.2.2⟩⟩
          | exact ihy T a' w' d.1 (by rw[d.2.1.defers,O]) d.2.2
      · rename_i l hl0;obtain⟨J,h1,h2⟩:=h;refine wp_seq (Code.wp_mono (fun e a' w' d=> ?_) (ED hC hG hm x aE _ a w hn h1));cases e<;>simp only[lift,Exit.then,Post.then,liftD]at d⊢ <;>first
          | exact d.elim
          | exact⟨d.1,.inl ⟨by rw[d.2.1.defers,O],d.2.2⟩⟩
          | (obtain⟨s,hs,hJ⟩:=JN d.2.2
             have h3:evD P C G A Q0 Q1 y (Fr.set l s ((DB a).RN (written x) (DB a'))) w':=h2 s (DB a') w' hJ;rw[JO hs (fun t ht=>d.2.1.out t ht)]at h3;exact ihy T a' w' d.1 (by rw[d.2.1.defers,O]) h3)
  | _=>intro hW a w hn O h;exact plain _ hW a w hn O (by unfold evD at h;exact h)
def finD(P:Program)(fn:Func)(D:LN)(K Kp:Value->World->Prop)(g:FuncId)(args:Array Value):Post:=fun e f w=>match e with
  | .normal=>D g args none w fun _ w'=>evRes P fn.results.toList f w' fun l=>K (resV l) w'
  | .ret=>D g args none w fun _ w'=>evRes P fn.results.toList f w' fun l=>K (resV l) w'
  | .panic [⟨v,false,false⟩]=>D g args (some v) w fun b w'=>match b with
    | true=>evRes P fn.results.toList f w' fun l=>K (resV l) w'
    | false=>Kp v w'
  | _=>False
theorem QP{P:Program}{C G:Dc}{D:LN}{A:Ed}{f:FuncId}{fn:Func}{c:Code}{args:List Value}{w:World}{K Kp:Value->World->Prop}
    (hC:Fits P C)(hG:Fits P G)(hD:aY P D)(hm:P.follows .mixedOrders=true)(hf:P.funcs[f]? =some fn)(hb:fn.body=some c)(aC:Nat.ble args.length fn.ntmps=true)
    (hW:withinB fn.ntmps (written c)=true)(h:evD P C G A (finQ P fn K Kp) (finD P fn D K Kp) c (HY args) w):
    Calls P f ⟨args⟩ w (Ends K Kp):=by
  have aE:=Nat.le_of_ble_eq_true aC;have hn:((⟨args⟩:Array Value)++Array.replicate (fn.ntmps-args.length) undef).size=fn.ntmps:=by simp;omega
  rw[<-XB (n:=fn.ntmps)]at h;refine calls_of_wp_defers hf hb (Code.wp_mono (fun e a' w' O=> ?_) (Vj hC hG hm c (Is hW) _ w hn rfl h));have leave: ∀(pv:Option Value) (g:FuncId) (cap d:Array Value),D g (d++cap) pv w' (fun b j=>match pv,b with
        | some v,false=>Kp v j
        | _,_=>evRes P fn.results.toList (DB a') j fun l=>K (resV l) j)->
      Leaves P fn a'.tmps (Ends K Kp) [⟨.fn (.func g) cap,d⟩] (modeOf pv) w':=by
    intro pv g cap d N;obtain⟨h1,h2⟩:=hD _ _ _ _ _ N;refine leaves_cons (by cases pv<;>simp[modeOf]) (f:=g) (args:=d++cap) (by simp[invoke,h1]) (h2.mono ?_);rintro e u' j ⟨v,b,rfl,hk,rfl⟩;cases pv with
    | none=>
      obtain⟨r,T,Y⟩:=HZ hk;exact⟨_,Y,.inl ⟨_,rfl,T⟩⟩
    | some p=>
      cases b with
      | true=>
        obtain⟨r,T,Y⟩:=HZ hk;exact⟨_,Y,.inl ⟨_,rfl,T⟩⟩
      | false=>exact .inr ⟨_,rfl,hk⟩
  cases e<;>simp only[liftD,bodyPostD]at O⊢ <;>first
    | exact O.elim
    | skip
  · obtain⟨_,⟨N,J⟩|⟨g,cap,d,N,J⟩⟩:=O
    · rw[N];obtain⟨r,T,Y⟩:=HZ J;exact⟨_,Y,.inl ⟨_,rfl,T⟩⟩
    · rw[N];exact leave none g cap d J
  · obtain⟨_,⟨_,J⟩|⟨_,_,_,_,J⟩⟩:=O<;>exact J.elim
  · obtain⟨_,⟨_,J⟩|⟨_,_,_,_,J⟩⟩:=O<;>exact J.elim
  · obtain⟨_,⟨N,J⟩|⟨g,cap,d,N,J⟩⟩:=O
    · rw[N];obtain⟨r,T,Y⟩:=HZ J;exact⟨_,Y,.inl ⟨_,rfl,T⟩⟩
    · rw[N];exact leave none g cap d J
  · obtain⟨_,⟨N,J⟩|⟨g,cap,d,N,J⟩⟩:=O
    · rw[N];unfold finQ at J;split at J
      · rename_i he;cases he
      · rename_i he;cases he
      · rename_i v he;cases he;exact .inr ⟨_,rfl,J⟩
      · exact J.elim
    · rw[N];unfold finD at J;split at J
      · rename_i he;cases he
      · rename_i he;cases he
      · rename_i v he;cases he;refine leave (some v) g cap d ?_;have:(fun(b:Bool) (j:World)=>match b with
          | true=>evRes P fn.results.toList (DB a') j fun l=>K (resV l) j
          | false=>Kp v j)=fun(b:Bool) (j:World)=>match some v,b with
          | some v,false=>Kp v j
          | _,_=>evRes P fn.results.toList (DB a') j fun l=>K (resV l) j:=by
            funext b j;cases b<;>rfl
        rw[this]at J;exact J
      · exact J.elim
theorem Ends.mono{K Kp d:Value->World->Prop}{e:Ending}{w:World}(h:Ends K Kp e w)(hp: ∀v w,Kp v w->d v w):Ends K d e w:=by
  rcases h with h|⟨v,h1,j⟩
  · exact .inl h
  · exact .inr ⟨v,h1,hp _ _ j⟩
theorem QR{P:Program}{T:List (Nat×Entry)}{TD:List (Nat×JY)}{A:Ed}{f:FuncId}{fn:Func}{c:Code}{l:List VT}{F:Hy l->(Value->World->Prop)->World->Prop}
    (hT: ∀p∈T,FC P p.1 p.2)(C: ∀p∈TD,Gq P p.1 p.2)(hm:P.follows .mixedOrders=true)(hf:P.funcs[f]? =some fn)(d: ∀args w,(callFunc f args).run P w= .ok (.enter f args) w)
    (Y:fn.body=some c)(v:Nat.ble l.length fn.ntmps=true)(N:withinB fn.ntmps (written c)=true)
    (j: ∀x K w,F x K w=evD P (tabC T) (ground P) A (finQ P fn K Ns) (finD P fn (tabD TD) K Ns) c (HY (mkArgs l x)) w):
    It P f fun args w K _=>unArgs l args.toList fun x=>F x K w:=by
  intro args w K Kp h;obtain⟨x,hx,J⟩:=Gp h;have O:args=⟨mkArgs l x⟩:=Array.toList_inj.1 (by simpa using hx);subst O;refine⟨fun w=>d _ w,?_⟩;rw[j]at J;exact(QP (MN hT) (JX P) (Vh C) hm hf Y (by rw[Gh];exact v) N J).mono fun e w' hE=>hE.mono fun _ _ f=>f.elim
end Go.Sh
set_option linter.all false
namespace Go.Sh
def E8(k:IntKind)(op:Nat)(a b:Int):Int:=
 k.wrap (match op with
  | 0=>BitVec.ofInt k.bits a&&&BitVec.ofInt k.bits b
  | 1=>BitVec.ofInt k.bits a|||BitVec.ofInt k.bits b
  | 2=>BitVec.ofInt k.bits a^^^BitVec.ofInt k.bits b
  | _=>BitVec.ofInt k.bits a&&& ~~~BitVec.ofInt k.bits b).toNat
theorem QS{P:Program}{c:Entry}(j:c=fun args w K Kp=>unArgs [.one (.int .u64)] args.toList fun x=>K (.float .f64 (Int.toNat x.1)) w):
  ∀args w K Kp,c args w K Kp-> ∃v,(Extern.MathFloatBits.float64frombits args).run P w= .ok v w/\K v w:=by
 subst j;intro args w K Kp h;obtain⟨x,d,h⟩:=Gp h;obtain rfl:args= #[.int .u64 x.1]:=Array.toList_inj.1 (by rw[d];rfl);exact⟨_,rfl,h⟩
end Go.Sh

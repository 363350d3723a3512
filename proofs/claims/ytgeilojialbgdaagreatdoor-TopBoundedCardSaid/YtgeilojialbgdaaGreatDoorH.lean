/- The heap: what holds of it, and what each function does to it. No further condition. -/
import Derived.Test.YtgeilojialbgdaaGreatDoorB
import Derived.Test.YtgeilojialbgdaaGreatDoorC
import Derived.Test.YtgeilojialbgdaaGreatDoorR
import Derived.Test.YtgeilojialbgdaaGreatDoorY
set_option linter.all false
set_option maxRecDepth 50000
set_option maxHeartbeats 2000000
namespace Go.Sh
def fE{E:Env}{w:World}{Z:List Pr}{c:Nat}{S:CS}(H:Sat (A8 E c S::Z) w){K:Int->Int->Int->World->Prop}
  (j: ∀r0 r1 e w',(S.empty->r0=0/\r1=0/\e=0)->(¬S.empty->r0=S.base/\r1=W S.has/\e=W S.rel)->Sat (A8 E c S::Z) w'->K r0 r1 e w'):F.C2 E (sM c) K w:=
 eL H (λh=>j _ _ _ w (λ_=>⟨rfl,rfl,rfl⟩) (λa=>absurd h a) H) λh w' u=>j _ _ _ w' (λa=>absurd a h) (λ_=>⟨rfl,rfl,rfl⟩) u
structure HS where
 V:VS
 T:TV
 ca:Nat->CS
 ks:Iv
 own:Int->Int
 fx:FX
 sp:Int->Option (Nat×SI)
 hint:Int
 AD:Int
structure HG where
 m:Nat
 t:Nat
 a:Nat
 f:Nat
 sm:Nat
 cb:Nat->Nat
 ids:List Int
def mZ(cb:Nat->Nat):List Value:=(List.range 64).map λi=>.pointer (some ⟨cb i,0,none⟩)
def BV(g:HG)(hint AD:Int):List Value:=.pointer (sM g.m):: .pointer (sM g.t):: .pointer (sM g.a):: .pointer (sM g.f):: .map (some g.sm)::(mZ g.cb++[.int .u64 hint,.int .u64 AD])
def Dl(sp:Int->Option (Nat×SI)):Int->Option Value:=λid=>(sp id).map λx=>.pointer (sM x.1)
def spR(E:Env)(sp:Int->Option (Nat×SI))(id:Int):Pr:=match sp id with
 | some x=>Cm E x.1 x.2
 | none=>dD
def Bf(E:Env)(h:Nat)(S:HS)(g:HG):List Pr:=
 [Cells h E.Ab (BV g S.hint S.AD),B8 E g.m S.V,BG E g.t S.T,BR E g.a S.ks S.own,Gg E g.f S.fx,CM g.sm .i64 (Dl S.sp),Aj (spR E S.sp) g.ids,Aj (λi:Nat=>A8 E (g.cb i) (S.ca i)) (List.range 64)]
structure fF(S:HS)(g:HG):Prop where
 nd:g.ids.Nodup
 mem: ∀id,id∈g.ids↔S.sp id≠none
def Ax(E:Env)(h:Nat)(S:HS):Pr:=Ex λg:HG=>Jt (fF S g) (Kx (Bf E h S g))
def Iu(cb:Nat->Nat):(mZ cb).length=64:=by simp[mZ]
def rV(g:HG)(x y:Int){i:Nat}(hi:i<64):(BV g x y)[5+i]? =some (.pointer (some ⟨g.cb i,0,none⟩)):=by
 unfold BV;rw[show 5+i=i+1+1+1+1+1 by omega];simp only[List.getElem?_cons_succ];rw[List.getElem?_append_left (by rw[Iu];exact hi)];simp[mZ,hi]
def yP(g:HG)(x y:Int):(BV g x y)[69]? =some (.int .u64 x):=by
 unfold BV;rw[show 69=64+1+1+1+1+1 from rfl];simp only[List.getElem?_cons_succ];rw[List.getElem?_append_right (by rw[Iu];omega),Iu];rfl
def rW(g:HG)(x y:Int):(BV g x y)[70]? =some (.int .u64 y):=by
 unfold BV;rw[show 70=65+1+1+1+1+1 from rfl];simp only[List.getElem?_cons_succ];rw[List.getElem?_append_right (by rw[Iu];decide),Iu];rfl
def fG(g:HG)(x y:Int):(BV g x y).length=71:=by simp[BV,Iu]
def fH(g:HG)(x y z:Int):(BV g x y).set 69 (.int .u64 z)=BV g z y:=by
 unfold BV;rw[show 69=64+1+1+1+1+1 from rfl];simp only[List.set_cons_succ];rw[List.set_append_right _ _ (by rw[Iu];omega),Iu];rfl
def S4(g:HG)(x y z:Int):(BV g x y).set 70 (.int .u64 z)=BV g x z:=by
 unfold BV;rw[show 70=65+1+1+1+1+1 from rfl];simp only[List.set_cons_succ];rw[List.set_append_right _ _ (by rw[Iu];decide),Iu];rfl
section
variable{E:Env}{h:Nat}{S:HS}{Z:List Pr}{w:World}{g:HG}
def Sat.heap:Sat (Ax E h S::Z) w↔ ∃g,fF S g/\Sat (Bf E h S g++Z) w:=by
 unfold Ax;rw[Sat.ex];constructor
 .rintro⟨g,h⟩;rw[Sat.where,Sat.star]at h
  grind
 .rintro⟨g,h⟩;refine⟨g,?_⟩;rw[Sat.where,Sat.star];exact h
def CO(H:Sat (Cells h E.Ab (BV g S.hint S.AD)::Z) w):
  w.cell? (Addr.mk h 0 none)=some (.pointer (sM g.m))/\w.cell? ((Addr.mk h 0 none).add 1)=some (.pointer (sM g.t))/\w.cell? ((Addr.mk h 0 none).add 2)=some (.pointer (sM g.a))/\
  w.cell? ((Addr.mk h 0 none).add 3)=some (.pointer (sM g.f))/\w.cell? ((Addr.mk h 0 none).add 4)=some (.map (some g.sm))/\w.cell? ((Addr.mk h 0 none).add 69)=some (.int .u64 S.hint)/\w.cell? ((Addr.mk h 0 none).add 70)=some (.int .u64 S.AD)/\
  ∀i,i<64->w.cell? ((Addr.mk h 0 none).add (i+5))=some (.pointer (some ⟨g.cb i,0,none⟩)):=
 ⟨H.AW rfl,H.cell rfl,H.cell rfl,H.cell rfl,H.cell rfl,H.cell (by rw[Nat.zero_add];exact yP g _ _),H.cell (by rw[Nat.zero_add];exact rW g _ _),λi hi=>H.cell (by rw[Nat.zero_add,Nat.add_comm];exact rV g _ _ hi)⟩
def VB(H:Sat (Ax E h S::Z) w){id:Int}{K:Option Addr->Int->World->Prop}(a:S.sp id=none->K none 35 w)(e: ∀x,S.sp id=some x->K (sM x.1) 0 w):F.Dp E (sM h) id K w:=by
 obtain⟨g,hI,H⟩:=Sat.heap.1 H;unfold F.Dp;simp only[AK];refine⟨_,(CO (S:=S) (g:=g) H).2.2.2.2.1,Rz (H.front 5 rfl) λes _=> ?_⟩;unfold Dl;cases hs:S.sp id with
 | none=>exact⟨none,rfl,Aa rfl (a hs)⟩
 | some x=>exact⟨_,rfl,AR rfl (e x hs)⟩
def Sat.Ke(H:Sat (Ax E h S::Z) w){id:Int}{x:Nat×SI}(j:S.sp id=some x): ∃R:List Pr,Sat (Cm E x.1 x.2::R) w/\ ∀{w'},Sat (Cm E x.1 x.2::R) w'->Sat (Ax E h S::Z) w':=by
 obtain⟨g,hI,H⟩:=Sat.heap.1 H;have hm:id∈g.ids:=(hI.mem id).2 (by grind);obtain⟨i,hi⟩:=List.mem_iff_getElem?.1 hm;have H1:=(H.front 6 rfl).FQ hi;have e:spR E S.sp id=Cm E x.1 x.2:=by unfold spR;rw[j]
 rw[e]at H1;refine⟨_,H1,λ{w'} h'=>Sat.heap.2 ⟨g,hI,?_⟩⟩;rw[<-e]at h';have a:=Sat.Jb h' hi;exact Sat.back (Ps:=Bf E h S g++Z) 6 a (by simp[Bf])
def Z3(H:Sat (Ax E h S::Z) w){x:Int}(h0:0<=x)(j:x<18446744073709551616){K:Int->World->Prop}(e: ∀w',Sat (Ax E h S::Z) w'->K (S.own (x/8192)) w'):F.ED E (sM h) x K w:=by
 obtain⟨g,hI,H⟩:=Sat.heap.1 H;unfold F.ED T0.ED;simp only[AK];refine⟨_,(CO (S:=S) (g:=g) H).2.2.1,yL (H.front 3 rfl) h0 j λw' a=>e w' (Sat.heap.2 ⟨g,hI,?_⟩)⟩;exact Sat.back (Ps:=Bf E h S g++Z) 3 a (by simp[Bf])
def yQ{p:Int}{K:Bool->World->Prop}(a:K (decide (0<=p/\p<64)) w):F.Q5 E p K w:=by
 unfold F.Q5;refine AE (λh=> ?_) λh=> ?_
 .have:decide (p<64)=decide (0<=p/\p<64):=decide_eq_decide.2 (by omega)
  grind
 .rw[decide_eq_false (by omega)]at a;exact a
def Sat.jV(H:Sat (Bf E h S g++Z) w){i:Nat}(hi:i<64): ∃R,Sat (A8 E (g.cb i) (S.ca i)::R) w/\ ∀{w'},Sat (A8 E (g.cb i) (S.ca i)::R) w'->Sat (Bf E h S g++Z) w':=by
 have a:(List.range 64)[i]? =some i:=List.getElem?_range hi;refine⟨_,(H.front 7 rfl).FQ a,λ{w'} h'=> ?_⟩;exact Sat.back (Ps:=Bf E h S g++Z) 7 (Sat.Jb h' a) (by simp[Bf])
def m6(cb:Nat->Nat){i:Nat}(hi:i<64):List.getD ((List.range 64).map λi=>some (Addr.mk (cb i) 0 none)) i none=some ⟨cb i,0,none⟩:=by
 rw[List.getD_eq_getElem?_getD,List.getElem?_map,List.getElem?_range hi];rfl
variable(hE:EnvA E)
include hE
end
def cu_or{u v z:Int->Bool}: ∀n:Nat,(∀k:Int,0<=k->k<n->z k=(u k||v k))->(∀k:Int,0<=k->k<n-> ¬(u k=true/\v k=true))->cu z n=cu u n+cu v n
 | 0,_,_=>rfl
 | n+1,h1,h2=>by
  simp only[cu];rw[cu_or n (λk a b=>h1 k a (by omega)) λk a b=>h2 k a (by omega),h1 n (by omega) (by omega)]
  grind
def Z4{u v:Int->Bool}: ∀n:Nat,(∀k:Int,0<=k->k<n->u k=v k)->cu u n=cu v n
 | 0,_=>rfl
 | n+1,h=>by simp only[cu];rw[Z4 n λk a b=>h k a (by omega),h n (by omega) (by omega)]
def cP(f:Int->Bool):Int:=cr f 0 34359738368
def rX{f g:Int->Bool}(h: ∀p,0<=p->p<34359738368->f p=g p):cP f=cP g:=by
 unfold cP cr;exact Z4 _ λk a b=>h _ (by omega) (by omega)
def VC{f g h:Int->Bool}(a: ∀p,h p=(f p||g p))(hd: ∀p,f p=true->g p=true->False):cP h=cP f+cP g:=by
 unfold cP cr;exact cu_or _ (λk _ _=>a _) λk _ _ e=>hd _ e.1 e.2
def QE(f:Int->Bool):0<=cP f/\cP f<=34359738368:=by
 unfold cP;exact cr_bnd f 0 (by decide)
def jW{f:Int->Bool}{l:Iv}(h:Ok l)(e: ∀p,mem l p↔f p=true)(a: ∀p,f p=true->p<34359738368):cP f=Hm l:=by
 unfold cP;rw[eJ h e (by decide)];exact O5 h.o5 λn j=>⟨iR h j,by have:=a n ((e n).1 j);omega⟩
def cP_NT{f:Int->Bool}{l:Iv}(h:Ok l)(e: ∀p,mem l p↔f p=true)(a: ∀p,f p=true->p<34359738368):NT f=cP f:=by
 rw[rA h e,jW h e a]
def Tv{f:Int->Bool}(h: ∀p,f p=false):cP f=0:=by
 unfold cP;exact yG λm _ _=>h m
def X8{x n:Int}(h0:0<=x)(v:0<=n)(u:x+n<=34359738368):cP (inr x n)=n:=by
 by_cases e:n=0
 .subst e;exact Tv λp=>Ka.2 (by omega)
 .rw[jW (l:=[(x,x+n)]) ⟨h0,by omega,by omega,λq j=>(by cases j),trivial⟩ (λp=> ?_) λp a=>by have:=Au.1 a;omega]
  .show x+n-x+0=n;omega
  .rw[Au,mem_cons];exact⟨λh=>h.elim (λh=>h) λh=>absurd h (Bz p),λh=>.inl h⟩
def jX{f g:Int->Bool}(h: ∀p,f p=true->g p=true):cP f<=cP g:=by
 have e:cP g=cP f+cP (λp=>g p&& !f p):=VC (λp=>by cases hf:f p<;>cases hg:g p<;>simp;grind) λp a b=>by grind
 have:=QE λp=>g p&& !f p;omega
def cP_pos{f:Int->Bool}{p:Int}(e:f p=true)(h0:0<=p)(h1:p<34359738368):1<=cP f:=by
 have:=jX (f:=inr p 1) (g:=f) λq a=>by
  have:=Au.1 a
  grind
 rw[X8 h0 (by decide) (by omega)]at this;exact this
def rY{u:Nat->Bool}{B:Int}(h0:0<=B)(h1:B+64<=34359738368):cP (λp=>inr B 64 p&&u (p-B).toNat)=cN u 64:=by
 have key: ∀n:Nat,n<=64->cP (λp=>inr B n p&&u (p-B).toNat)=cN u n:=by
  intro n
  induction n with
  | zero=>intro _;exact Tv λp=>by rw[Ka.2 (by omega)];rfl
  | succ n ih=>
   intro v;simp only[cN];rw[VC (f:=λp=>inr B n p&&u (p-B).toNat) (g:=λp=>inr (B+n) 1 p&&u n) (λp=> ?_) λp a b=> ?_,ih (by omega)]
   .have e:cP (λp=>inr (B+n) 1 p&&u n)=((u n).toNat:Nat):=by
     cases hu:u n
     .rw[Tv λp=>by simp];rfl
     .rw[show(λp=>inr (B+n) 1 p&&true)=inr (B+n) 1 from funext λp=>by simp,X8 (by omega) (by decide) (by omega)];rfl
    rw[e];simp
   .have e:inr B ((n+1:Nat):Int) p=(inr B n p||inr (B+n) 1 p):=by rw[Bool.eq_iff_iff,Bool.or_eq_true,Au,Au,Au];omega
    rw[e];cases h1:inr B n p
    .cases j:inr (B+n) 1 p
     .rfl
     .have:=Au.1 j;rw[show(p-B).toNat=n by omega];simp
    .have:=Au.1 h1;rw[show inr (B+n) 1 p=false from Ka.2 (by omega)];simp
   .rw[Bool.and_eq_true]at a b;have h1:=Au.1 a.1;have j:=Au.1 b.1;omega
 exact key 64 (Nat.le_refl _)
def QF:Iv->Iv
 | []=>[]
 | p::r=>(p.1*512,p.2*512)::QF r
def VD{q:Int×Int}: ∀{l:Iv},q∈QF l-> ∃p∈l,q=(p.1*512,p.2*512)
 | p::r,h=>by
  rcases List.mem_cons.1 h with h|h
  .exact⟨p,List.mem_cons_self,h⟩
  .obtain⟨e,h1,a⟩:=VD h;exact⟨e,List.mem_cons_of_mem _ h1,a⟩
def XB: ∀{l:Iv},Ok l->(∀q∈l,q.2<=67108864)->Ok (QF l)
 | [],_,_=>trivial
 | p::r,h,hb=>by
  obtain⟨h0,h1,v,j,u⟩:=h;have:=hb p List.mem_cons_self;refine⟨by show 0<=p.1*512;omega,by show p.1*512<p.2*512;omega,by show p.2*512<_;omega,λq a=> ?_,XB u λq a=>hb q (List.mem_cons_of_mem _ a)⟩;obtain⟨e,g1,rfl⟩:=VD a;have:=j e g1;show p.2*512<e.1*512;omega
def fI{l:Iv}{p:Int}:mem (QF l) p↔mem l (p/512):=by
 induction l with
 | nil=>exact⟨λh=>absurd h (Bz _),λh=>absurd h (Bz _)⟩
 | cons q r ih=>
  show mem ((q.1*512,q.2*512)::QF r) p↔_;rw[mem_cons,mem_cons,ih];show(q.1*512<=p/\p<q.2*512)∨_↔_;have:(q.1*512<=p/\p<q.2*512)↔(q.1<=p/512/\p/512<q.2):=by omega
  rw[this]
def fJ(l:Iv):Hm (QF l)=Hm l*512:=by
 induction l with
 | nil=>rfl
 | cons q r ih=>
  show q.2*512-q.1*512+Hm (QF r)=(q.2-q.1+Hm r)*512;rw[ih];omega
def m8{ks:Iv}(h:Ok ks){f:Int->Bool}(e: ∀p,mem ks (p/512)↔f p=true)(a: ∀p,f p=true->p<34359738368):cP f=Hm ks*512:=by
 rw[<-fJ];refine jW (XB h λq j=> ?_) (λp=>fI.trans (e p)) a;have h1:=h.mem j;have:=a ((q.2-1)*512) ((e _).1 ⟨q,j,by omega,by omega⟩);omega
end Go.Sh
namespace Go.Sh
def no:Int->Bool:=λ_=>false
def any64{f:Nat->Bool}:(List.range 64).any f=true↔ ∃i,i<64/\f i=true:=by grind
def HS.NU(S:HS)(p:Int):Bool:=(List.range 64).any λi=>(S.ca i).own p
def HS.gone(S:HS)(p:Int):Bool:=S.T.rl p||(List.range 64).any λi=>(S.ca i).SH p
def Fy{S:HS}{p:Int}:S.NU p=true↔ ∃i,i<64/\(S.ca i).own p=true:=any64
def FN{S:HS}{p:Int}:S.gone p=true↔S.T.rl p=true∨ ∃i,i<64/\(S.ca i).SH p=true:=by
 unfold HS.gone
 grind
structure Pf(S:HS):Prop where
 tv:TVok S.T
 vv:VOk S.V
 ci: ∀i,i<64->Xz (S.ca i)
 ok:Ok S.ks
 fx:FInv S.fx
def Sat.Bl{E:Env}{h:Nat}{S:HS}{Z:List Pr}{w:World}(H:Sat (Ax E h S::Z) w):Pf S:=by
 obtain⟨g,hI,H⟩:=Sat.heap.1 H;refine⟨(H.front 2 rfl).tvok,(H.front 1 rfl).vok,λi hi=> ?_,(H.front 3 rfl).yK,?_⟩
 .obtain⟨R,h1,_⟩:=H.jV hi;exact(Sat.cache.1 h1).1
 .obtain⟨_,_,_,h1,_⟩:=Sat.fix.1 (H.front 4 rfl);exact h1
structure HInv(S:HS)(fl:Int->Bool):Prop where
 cr: ∀i,i<64-> ∀p,(S.ca i).own p=true->S.T.Lt p=true/\S.T.fr p=false/\S.own p=0/\fl p=false
 cd: ∀i j p,i<64->j<64->(S.ca i).own p=true->(S.ca j).own p=true->i=j
 fn: ∀p,S.T.fr p=true->S.own p=0/\fl p=false
 ow: ∀p,0<S.own p->S.T.Lt p=true/\S.T.fr p=false/\fl p=false/\ ∃x,S.sp (S.own p)=some x/\x.2.base/8192<=p/\p<x.2.base/8192+x.2.AD
 o0: ∀p,0<=S.own p
 li: ∀p,fl p=true->S.T.Lt p=true
 cv: ∀p,S.T.Lt p=true->S.T.fr p=true∨S.NU p=true∨0<S.own p∨fl p=true
 ks: ∀p,mem S.ks (p/512)↔S.T.Lt p=true
 la: ∀p,mem S.V.laid p↔S.T.Lt p=true
 rd: ∀p,fl p=false->(mem S.V.ready p↔S.T.Lt p=true/\S.gone p=false)
 sp: ∀id x,S.sp id=some x->0<id/\x.2.base %8192=0/\0<x.2.AD/\x.2.state≠0/\ ∀p,x.2.base/8192<=p->p<x.2.base/8192+x.2.AD->S.own p=id
 sf: ∀id,S.sp id≠none↔ ∃a:Nat,id=(a:Int)+1/\a<S.fx.n/\a∉S.fx.bk
 fb:S.fx.n<=34359738368
 pg:S.AD=cP λp=>decide (0<S.own p)
 h0:0<=S.hint
 h1:S.hint<=34359738368
def RQ{C:CS}{p:Int}:C.own p=true↔(C.base<=p/\p<C.base+64)/\C.has (p-C.base).toNat=true:=by
 unfold CS.own;rw[Bool.and_eq_true,Au]
def RR{C:CS}{p:Int}:C.SH p=true↔(C.base<=p/\p<C.base+64)/\C.rel (p-C.base).toNat=true:=by
 unfold CS.SH;rw[Bool.and_eq_true,Au]
def Lc{C:CS}(h:Xz C){p:Int}(a:C.SH p=true):C.own p=true:=by
 rw[RR]at a;exact RQ.2 ⟨a.1,h.rh _ a.2⟩
def X9{C:CS}(h:C.empty)(p:Int):C.own p=false:=by
 unfold CS.own;rw[h];simp
def YA(p:Int):CS.nil.own p=false:=X9 (λ_=>rfl) p
def E6{b:Bool}(h: ¬b=true):b=false:=by cases b;rfl;grind
def Dm{b:Bool}(h:b=false): ¬b=true:=by grind
def jY{T:TV}{x n p:Int}:(T.take x n).fr p=true↔T.fr p=true/\ ¬(x<=p/\p<x+n):=by
 show(T.fr p&& !inr x n p)=true↔_;rw[Bool.and_eq_true,<-Au];grind
def jZ{T:TV}{x n p:Int}:(T.take x n).rl p=true↔T.rl p=true/\ ¬(x<=p/\p<x+n):=by
 show(T.rl p&& !inr x n p)=true↔_;rw[Bool.and_eq_true,<-Au];grind
def filled(T:TV)(q:Int):CS:=⟨q/64*64,λi=>decide (i<64)&&T.fr (q/64*64+i),λi=>decide (i<64)&&T.rl (q/64*64+i)⟩
def HS.setca(S:HS)(i:Nat)(c:CS):HS:={S with ca:=λj=>if j=i then c else S.ca j}
def HS.fill(S:HS)(i:Nat)(q:Int):HS:={S with T:=S.T.take (q/64*64) 64,ca:=λj=>if j=i then filled S.T q else S.ca j}
def VE{T:TV}{q p:Int}:(filled T q).own p=true↔(q/64*64<=p/\p<q/64*64+64)/\T.fr p=true:=by
 rw[RQ];show(q/64*64<=p/\p<q/64*64+64)/\(decide _&&T.fr _)=true↔_;constructor
 .rintro⟨h1,a⟩;rw[Bool.and_eq_true]at a;have j:=a.2;have e:q/64*64+((p-q/64*64).toNat:Int)=p:=by omega
  refine⟨h1,?_⟩;rw[<-e];exact j
 .rintro⟨h1,a⟩;refine⟨h1,?_⟩;rw[Bool.and_eq_true];have e:q/64*64+((p-q/64*64).toNat:Int)=p:=by omega
  exact⟨decide_eq_true (show(p-q/64*64).toNat<64 by omega),by show T.fr (q/64*64+((p-q/64*64).toNat:Int))=true;grind⟩
def TB{T:TV}{q p:Int}:(filled T q).SH p=true↔(q/64*64<=p/\p<q/64*64+64)/\T.rl p=true:=by
 rw[RR];show(q/64*64<=p/\p<q/64*64+64)/\(decide _&&T.rl _)=true↔_;constructor
 .rintro⟨h1,a⟩;rw[Bool.and_eq_true]at a;have j:=a.2;have e:q/64*64+((p-q/64*64).toNat:Int)=p:=by omega
  refine⟨h1,?_⟩;rw[<-e];exact j
 .rintro⟨h1,a⟩;refine⟨h1,?_⟩;rw[Bool.and_eq_true];have e:q/64*64+((p-q/64*64).toNat:Int)=p:=by omega
  exact⟨decide_eq_true (show(p-q/64*64).toNat<64 by omega),by show T.rl (q/64*64+((p-q/64*64).toNat:Int))=true;grind⟩
variable{S:HS}{fl:Int->Bool}
def HInv.fill(hI:HInv S no)(hk:Pf S){i:Nat}(hi:i<64)(he:(S.ca i).empty)(q:Int):HInv (S.fill i q) no:=by
 have u: ∀p,(S.T.take (q/64*64) 64).fr p=true↔S.T.fr p=true/\ ¬(q/64*64<=p/\p<q/64*64+64):=λp=>jY;have O: ∀p,(S.T.take (q/64*64) 64).rl p=true↔S.T.rl p=true/\ ¬(q/64*64<=p/\p<q/64*64+64):=λp=>jZ;have v: ∀j p,((S.fill i q).ca j).own p=true->(j=i/\(q/64*64<=p/\p<q/64*64+64)/\S.T.fr p=true)∨(j≠i/\(S.ca j).own p=true):=λj p h=>by
  have h:(if j=i then filled S.T q else S.ca j).own p=true:=h;by_cases e:j=i
  .rw[if_pos e]at h;exact .inl ⟨e,VE.1 h⟩
  grind
 have e1:(S.fill i q).ca i=filled S.T q:=if_pos rfl;have e2: ∀j,j≠i->(S.fill i q).ca j=S.ca j:=λj h=>if_neg h;refine⟨λj K p J=> ?_,λa b p ha hb h1 Y=> ?_,λp J=>hI.fn p ((u p).1 J).1,λp J=> ?_,hI.o0,λp J=>(by cases J),λp J=> ?_,hI.ks,hI.la,λp _=> ?_,hI.sp,hI.sf,hI.fb,hI.pg,hI.h0,hI.h1⟩
 .rcases v j p J with ⟨_,h1,Y⟩|⟨e,h1⟩
  .exact⟨hk.tv.fi p Y,E6 λh=>((u p).1 h).2 h1,(hI.fn p Y).1,rfl⟩
  .obtain⟨g1,g2,g3,g4⟩:=hI.cr j K p h1;exact⟨g1,E6 λh=>(Dm g2) ((u p).1 h).1,g3,g4⟩
 .rcases v a p h1 with ⟨ea,g1,g2⟩|⟨ea,g1⟩<;>rcases v b p Y with ⟨eb,k1,k2⟩|⟨eb,k1⟩
  .omega
  .exact absurd g2 (Dm (hI.cr b hb p k1).2.1)
  .exact absurd k2 (Dm (hI.cr a ha p g1).2.1)
  .exact hI.cd a b p ha hb g1 k1
 .obtain⟨g1,g2,g3,g4⟩:=hI.ow p J;exact⟨g1,E6 λh=>(Dm g2) ((u p).1 h).1,g3,g4⟩
 .rcases hI.cv p J with h|h|h|h
  .by_cases g:q/64*64<=p/\p<q/64*64+64
   .refine .inr (.inl (Fy.2 ⟨i,hi,?_⟩));rw[e1];exact VE.2 ⟨g,h⟩
   .exact .inl ((u p).2 ⟨h,g⟩)
  .obtain⟨j,K,h⟩:=Fy.1 h;refine .inr (.inl (Fy.2 ⟨j,K,?_⟩));rw[e2 j λe=>by rw[e,X9 he]at h;cases h];exact h
  .exact .inr (.inr (.inl h))
  grind
 .have e0:=hI.rd p rfl;have:(S.fill i q).gone p=S.gone p:=by
   rw[Bool.eq_iff_iff,FN,FN];constructor
   .rintro(h|⟨j,K,h⟩)
    .exact .inl ((O p).1 h).1
    .by_cases e:j=i
     .rw[e,e1]at h;exact .inl (TB.1 h).2
     grind
   .rintro(h|⟨j,K,h⟩)
    .by_cases g:q/64*64<=p/\p<q/64*64+64
     .refine .inr ⟨i,hi,?_⟩;rw[e1];exact TB.2 ⟨g,h⟩
     .exact .inl ((O p).2 ⟨h,g⟩)
    .refine .inr ⟨j,K,?_⟩;rw[e2 j λe=>by have:=Lc (hk.ci j K) h;rw[e,X9 he]at this;cases this];exact h
  rw[this];exact e0
def HS.Ld(S:HS)(i k n:Nat):HS:=S.setca i ((S.ca i).alloc k n)
def HS.Le(S:HS)(page n:Int):HS:={S with T:=S.T.take page n}
def XC{C:CS}{k n:Nat}{p:Int}(u:k+n<=64):(C.alloc k n).own p=true↔C.own p=true/\ ¬(C.base+k<=p/\p<C.base+k+n):=by
 rw[RQ,RQ];show(C.base<=p/\p<C.base+64)/\(C.has (p-C.base).toNat&& !(decide (k<=(p-C.base).toNat)&&decide ((p-C.base).toNat<k+n)))=true↔_;constructor
 .rintro⟨h1,a⟩;rw[Bool.and_eq_true]at a;refine⟨⟨h1,a.1⟩,λj=> ?_⟩;have e:=a.2;rw[decide_eq_true (show k<=(p-C.base).toNat by omega),decide_eq_true (show(p-C.base).toNat<k+n by omega)]at e;cases e
 grind
def VF{C:CS}{k n:Nat}{p:Int}(u:k+n<=64):(C.alloc k n).SH p=true↔C.SH p=true/\ ¬(C.base+k<=p/\p<C.base+k+n):=by
 rw[RR,RR];show(C.base<=p/\p<C.base+64)/\(C.rel (p-C.base).toNat&& !(decide (k<=(p-C.base).toNat)&&decide ((p-C.base).toNat<k+n)))=true↔_;constructor
 .rintro⟨h1,a⟩;rw[Bool.and_eq_true]at a;refine⟨⟨h1,a.1⟩,λj=> ?_⟩;have e:=a.2;rw[decide_eq_true (show k<=(p-C.base).toNat by omega),decide_eq_true (show(p-C.base).toNat<k+n by omega)]at e;cases e
 grind
def HInv.Ld(hI:HInv S no)(hk:Pf S){i:Nat}(hi:i<64){k n:Nat}(hr:MD (S.ca i).has k n)(K:k+n<=64):HInv (S.Ld i k n) (inr ((S.ca i).base+k) n):=by
 have J: ∀p,(S.ca i).base+k<=p->p<(S.ca i).base+k+n->(S.ca i).own p=true:=λp h1 Y=>by
  refine RQ.2 ⟨by omega,?_⟩;have:=hr ((p-(S.ca i).base).toNat-k) (by omega)
  grind
 have e1:(S.Ld i k n).ca i=(S.ca i).alloc k n:=if_pos rfl;have e2: ∀j,j≠i->(S.Ld i k n).ca j=S.ca j:=λj h=>if_neg h;have v: ∀j p,((S.Ld i k n).ca j).own p=true->(S.ca j).own p=true/\(j=i-> ¬((S.ca i).base+k<=p/\p<(S.ca i).base+k+n)):=λj p h=>by
  by_cases e:j=i
  .subst e;rw[e1,XC K]at h;grind
  grind
 refine⟨λj O p u=> ?_,λa b p ha hb h1 Y=>hI.cd a b p ha hb (v a p h1).1 (v b p Y).1,λp u=> ?_,λp u=> ?_,hI.o0,λp u=> ?_,λp u=> ?_,hI.ks,hI.la,λp u=> ?_,hI.sp,hI.sf,hI.fb,hI.pg,hI.h0,hI.h1⟩
 .obtain⟨h1,Y⟩:=v j p u;obtain⟨g1,g2,g3,g4⟩:=hI.cr j O p h1;refine⟨g1,g2,g3,Ka.2 λh=> ?_⟩;have:=hI.cd j i p O hi h1 (J p h.1 h.2);omega
 .exact⟨(hI.fn p u).1,Ka.2 λh=>by have:=(hI.cr i hi p (J p h.1 h.2)).2.1;rw[show S.T.fr p=true from u]at this;cases this⟩
 .obtain⟨g1,g2,g3,g4⟩:=hI.ow p u;exact⟨g1,g2,Ka.2 λh=>by have:=(hI.cr i hi p (J p h.1 h.2)).2.2.1;have u:0<S.own p:=u;omega,g4⟩
 .have h:=Au.1 u;exact(hI.cr i hi p (J p h.1 h.2)).1
 .rcases hI.cv p u with h|h|h|h
  .exact .inl h
  .obtain⟨j,O,h⟩:=Fy.1 h;by_cases g:(S.ca i).base+k<=p/\p<(S.ca i).base+k+n
   .exact .inr (.inr (.inr (Au.2 g)))
   .refine .inr (.inl (Fy.2 ⟨j,O,?_⟩));by_cases e:j=i
    .subst e;rw[e1,XC K];grind
    grind
  .exact .inr (.inr (.inl h))
  .cases h
 .have u:=Ka.1 u;have e:=hI.rd p rfl;have:(S.Ld i k n).gone p=S.gone p:=by
   rw[Bool.eq_iff_iff,FN,FN];constructor
   .rintro(h|⟨j,O,h⟩)
    .exact .inl h
    .refine .inr ⟨j,O,?_⟩;by_cases e:j=i
     .subst e;rw[e1,VF K]at h;exact h.1
     grind
   .rintro(h|⟨j,O,h⟩)
    .exact .inl h
    .refine .inr ⟨j,O,?_⟩;by_cases e:j=i
     .subst e;rw[e1,VF K];grind
     grind
  rw[this];exact e
def HInv.Le(hI:HInv S no)(Y:Pf S){page n:Int}(J:MZ S.T.fr page n):HInv (S.Le page n) (inr page n):=by
 have u: ∀p,(S.T.take page n).fr p=true↔S.T.fr p=true/\ ¬(page<=p/\p<page+n):=λp=>jY;have v: ∀p,(S.T.take page n).rl p=true↔S.T.rl p=true/\ ¬(page<=p/\p<page+n):=λp=>jZ;refine⟨λj O p a=> ?_,hI.cd,λp a=> ?_,λp a=> ?_,hI.o0,λp a=> ?_,λp a=> ?_,hI.ks,hI.la,λp a=> ?_,hI.sp,hI.sf,hI.fb,hI.pg,hI.h0,hI.h1⟩
 .obtain⟨g1,g2,g3,g4⟩:=hI.cr j O p a;exact⟨g1,E6 λh=>(Dm g2) ((u p).1 h).1,g3,Ka.2 λh=>(Dm g2) (J p h.1 h.2)⟩
 .obtain⟨h1,K⟩:=(u p).1 a;exact⟨(hI.fn p h1).1,Ka.2 K⟩
 .obtain⟨g1,g2,g3,g4⟩:=hI.ow p a;exact⟨g1,E6 λh=>(Dm g2) ((u p).1 h).1,Ka.2 λh=>(Dm g2) (J p h.1 h.2),g4⟩
 .have h:=Au.1 a;exact Y.tv.fi p (J p h.1 h.2)
 .rcases hI.cv p a with h|h|h|h
  .by_cases g:page<=p/\p<page+n
   .exact .inr (.inr (.inr (Au.2 g)))
   .exact .inl ((u p).2 ⟨h,g⟩)
  .exact .inr (.inl h)
  .exact .inr (.inr (.inl h))
  .cases h
 .have a:=Ka.1 a;have e:=hI.rd p rfl;have:(S.Le page n).gone p=S.gone p:=by
   rw[Bool.eq_iff_iff,FN,FN];constructor
   .rintro(h|h)
    .exact .inl ((v p).1 h).1
    .exact .inr h
   .rintro(h|h)
    .exact .inl ((v p).2 ⟨h,a⟩)
    .exact .inr h
  rw[this];exact e
def HInv.memV(hI:HInv S fl){V:VS}(h1:V.laid=S.V.laid)(a:V.ready=S.V.ready):HInv {S with V:=V} fl:=
 ⟨hI.cr,hI.cd,hI.fn,hI.ow,hI.o0,hI.li,hI.cv,hI.ks,λp=>by rw[<-hI.la,<-h1],λp e=>(show _=_ from congrArg (λl=>Go.Sh.mem l p) a)▸hI.rd p e,hI.sp,hI.sf,hI.fb,hI.pg,hI.h0,hI.h1⟩
def HInv.commit(hI:HInv S fl)(e:Pf S){page n:Int}(h0:0<=page)(v:0<n)(u:page+n<=34359738368)(a: ∀p,page<=p->p<page+n->fl p=true):HInv {S with V:=RE S.V page n} fl:=by
 have ma: ∀p,Go.Sh.mem (DZ S.V.ready page (page+n)) p↔Go.Sh.mem S.V.ready p∨(page<=p/\p<page+n):=λp=>Eb e.vv.eO (by omega) h0 (by omega) p;refine⟨hI.cr,hI.cd,hI.fn,hI.ow,hI.o0,hI.li,hI.cv,hI.ks,hI.la,λp j=> ?_,hI.sp,hI.sf,hI.fb,hI.pg,hI.h0,hI.h1⟩;refine Iff.trans (ma p) ?_;refine Iff.trans ⟨λh=>h.elim (λh=>h) λh=> ?_,λh=>.inl h⟩ (hI.rd p j);have:=a p h.1 h.2
 grind
def YB(e:Pf S){page n:Int}(h0:0<=page)(u:0<n)(j:page+n<=34359738368): ∀p,page<=p->p<page+n->mem (RE S.V page n).ready p:=λp h1 a=>
 (Eb e.vv.eO (by omega) h0 (by omega) p).2 (.inr ⟨h1,a⟩)
def HS.grown(S:HS)(V:VS)(at_ N:Int):HS:={S with V:=V,T:=S.T.grow (at_/512) (N/512),ks:=DZ S.ks (at_/512) ((at_+N)/512),hint:=at_+N}
def HInv.grown(hI:HInv S no)(Y:Pf S){V:VS}{at_ N:Int}(h0:0<=at_)(hn:0<N)(hb:at_+N<=34359738368)(m1:at_ %512=0)(m2:N %512=0)(K: ∀p,at_<=p->p<at_+N->S.T.Lt p=false)
  (hl:V.laid=DZ S.V.laid at_ (at_+N))(hr:V.ready=S.V.ready):HInv (S.grown V at_ N) no:=by
 have ma: ∀p,Go.Sh.mem (DZ S.V.laid at_ (at_+N)) p↔Go.Sh.mem S.V.laid p∨(at_<=p/\p<at_+N):=λp=>Eb Y.vv.oH (by omega) h0 (by omega) p;have mk: ∀p,Go.Sh.mem (DZ S.ks (at_/512) ((at_+N)/512)) p↔Go.Sh.mem S.ks p∨(at_/512<=p/\p<(at_+N)/512):=λp=>Eb Y.ok (by omega) (by omega) (by omega) p;have e: ∀p,inr (at_/512*512) (N/512*512) p=true↔at_<=p/\p<at_+N:=λp=>by rw[Au];omega
 have a: ∀p,(S.grown V at_ N).T.Lt p=true↔S.T.Lt p=true∨(at_<=p/\p<at_+N):=λp=>by
  show(S.T.Lt p||inr (at_/512*512) (N/512*512) p)=true↔_
  grind
 have v: ∀p,(S.grown V at_ N).T.fr p=true↔S.T.fr p=true∨(at_<=p/\p<at_+N):=λp=>by
  show(S.T.fr p||inr (at_/512*512) (N/512*512) p)=true↔_
  grind
 have O: ∀p,(S.grown V at_ N).T.rl p=true↔S.T.rl p=true∨(at_<=p/\p<at_+N):=λp=>by
  show(S.T.rl p||inr (at_/512*512) (N/512*512) p)=true↔_
  grind
 have J: ∀p,S.T.Lt p=true-> ¬(at_<=p/\p<at_+N):=λp h g=>by grind
 refine⟨λj hj p u=> ?_,hI.cd,λp u=> ?_,λp u=> ?_,hI.o0,λp u=>(by cases u),λp u=> ?_,λp=> ?_,λp=> ?_,λp u=> ?_,hI.sp,hI.sf,hI.fb,hI.pg,by show 0<=at_+N;omega,hb⟩
 .obtain⟨g1,g2,g3,g4⟩:=hI.cr j hj p u;exact⟨(a p).2 (.inl g1),E6 λh=>((v p).1 h).elim (Dm g2) (J p g1),g3,g4⟩
 .rcases(v p).1 u with h|h
  .exact hI.fn p h
  .refine⟨?_,rfl⟩;have:=hI.o0 p;have: ¬0<S.own p:=λg=>J p (hI.ow p g).1 h;show S.own p=0;omega
 .obtain⟨g1,g2,g3,g4⟩:=hI.ow p u;exact⟨(a p).2 (.inl g1),E6 λh=>((v p).1 h).elim (Dm g2) (J p g1),g3,g4⟩
 .rcases(a p).1 u with h|h
  .rcases hI.cv p h with h|h|h|h
   .grind
   .exact .inr (.inl h)
   .exact .inr (.inr (.inl h))
   grind
  grind
 .rw[a,<-hI.ks p];refine(mk (p/512)).trans ?_
  grind
 .rw[a,<-hI.la p];show Go.Sh.mem V.laid p↔_
  grind
 .show Go.Sh.mem V.ready p↔_;rw[hr,hI.rd p rfl,a];have key:(S.grown V at_ N).gone p=true↔S.gone p=true∨(at_<=p/\p<at_+N):=by
   rw[FN,FN,O];exact⟨λh=>h.elim (λh=>h.elim (λh=>.inl (.inl h)) .inr) λh=>.inl (.inr h),λh=>h.elim (λh=>h.elim (λh=>.inl (.inl h)) .inr) λh=>.inl (.inr h)⟩
  grind
end Go.Sh
namespace Go.Sh
variable{S:HS}{fl:Int->Bool}
def HInv.TC(hI:HInv S fl)(j:Pf S){p:Int}(a:fl p=true):S.T.fr p=false/\S.T.rl p=false/\S.own p=0/\S.gone p=false/\S.NU p=false:=by
 have h1:S.T.fr p=false:=E6 λh=>(Dm (hI.fn p h).2) a;have u:S.T.rl p=false:=E6 λh=>(Dm h1) (j.tv.rf p h);have e:S.NU p=false:=E6 λh=>by
  obtain⟨i,hi,h⟩:=Fy.1 h;exact(Dm (hI.cr i hi p h).2.2.2) a
 refine⟨h1,u,?_,E6 λh=> ?_,e⟩
 .have:=hI.o0 p;have: ¬0<S.own p:=λh=>(Dm (hI.ow p h).2.2.1) a;omega
 .rcases FN.1 h with h|⟨i,hi,h⟩
  .grind
  .exact(Dm e) (Fy.2 ⟨i,hi,Lc (j.ci i hi) h⟩)
def HInv.ownOut(hI:HInv S fl)(j:Pf S){p:Int}(u:0<S.own p):S.T.rl p=false/\S.gone p=false/\S.NU p=false:=by
 obtain⟨g1,g2,g3,_⟩:=hI.ow p u;have a:S.T.rl p=false:=E6 λh=>(Dm g2) (j.tv.rf p h);have e:S.NU p=false:=E6 λh=>by
  obtain⟨i,hi,h⟩:=Fy.1 h;have:=(hI.cr i hi p h).2.2.1;omega
 refine⟨a,E6 λh=> ?_,e⟩;rcases FN.1 h with h|⟨i,hi,h⟩
 .exact(Dm a) h
 .exact(Dm e) (Fy.2 ⟨i,hi,Lc (j.ci i hi) h⟩)
def HInv.ready(hI:HInv S fl)(e:Pf S){p:Int}(a:0<S.own p):mem S.V.ready p:=by
 obtain⟨g1,g2,g3,_⟩:=hI.ow p a;exact(hI.rd p g3).2 ⟨g1,(hI.ownOut e a).2.1⟩
def HS.K4(S:HS)(page n:Int):HS:={S with T:=⟨S.T.Lt,λp=>S.T.fr p||inr page n p,λp=>S.T.rl p||(inr page n p&& !X2 S.V.ready p)⟩}
def HInv.K4{page n:Int}(hI:HInv S (inr page n))(J:Pf S):HInv (S.K4 page n) no:=by
 have u: ∀p,(S.K4 page n).T.fr p=true↔S.T.fr p=true∨inr page n p=true:=λp=>by
  show(S.T.fr p||inr page n p)=true↔_
  grind
 refine⟨λj O p a=> ?_,hI.cd,λp a=> ?_,λp a=> ?_,hI.o0,λp a=>(by cases a),λp a=> ?_,hI.ks,hI.la,λp _=> ?_,hI.sp,hI.sf,hI.fb,hI.pg,hI.h0,hI.h1⟩
 .obtain⟨g1,g2,g3,g4⟩:=hI.cr j O p a;exact⟨g1,E6 λh=>((u p).1 h).elim (Dm g2) (Dm g4),g3,rfl⟩
 .rcases(u p).1 a with h|h
  .exact⟨(hI.fn p h).1,rfl⟩
  .exact⟨(hI.TC J h).2.2.1,rfl⟩
 .obtain⟨g1,g2,g3,g4⟩:=hI.ow p a;exact⟨g1,E6 λh=>((u p).1 h).elim (Dm g2) (Dm g3),rfl,g4⟩
 .rcases hI.cv p a with h|h|h|h
  .grind
  .exact .inr (.inl h)
  .exact .inr (.inr (.inl h))
  grind
 .have v:(S.K4 page n).gone p=true↔S.gone p=true∨(inr page n p=true/\ ¬mem S.V.ready p):=by
   rw[FN,FN];show(S.T.rl p||(inr page n p&& !X2 S.V.ready p))=true∨_↔_;rw[Bool.or_eq_true,Bool.and_eq_true,Bool.not_eq_true',<-Jl];have e:(X2 S.V.ready p=false)↔ ¬(X2 S.V.ready p=true):=by grind
   rw[e];constructor
   .rintro((h|h)|h)
    .grind
    .grind
    .exact .inl (.inr h)
   .rintro((h|h)|h)
    .grind
    .exact .inr h
    grind
  show mem S.V.ready p↔S.T.Lt p=true/\_;cases hf:inr page n p with
  | false=>
   rw[hI.rd p hf]
   grind
  | true=>
   have K:=(hI.TC J hf).2.2.2.1;rw[hf]at v;constructor
   .intro h;exact⟨hI.li p hf,E6 λg=>(v.1 g).elim (Dm K) λg=>g.2 h⟩
   grind
def HS.EB(S:HS)(id:Int)(x:Nat×SI)(page n:Int)(fx:FX):HS:=
 {S with fx:=fx,sp:=λi=>if i=id then some x else S.sp i,own:=λp=>if page<=p/\p<page+n then id else S.own p,AD:=S.AD+n}
def Next(S:HS)(id:Int)(fx:FX):Prop:=(S.fx.bk=[]/\id=(S.fx.n:Int)+1/\fx=⟨S.fx.n+1,[]⟩)∨ ∃a r,S.fx.bk=a::r/\id=(a:Int)+1/\fx=⟨S.fx.n,r⟩
def HInv.many(hI:HInv S fl)(u:Pf S)(J:S.fx.bk=[]): ∀k:Nat,k<=S.fx.n->(k:Int)<=cP λp=>decide (0<S.own p/\S.own p<=k)
 | 0,_=>(QE _).1
 | k+1,hkn=>by
  have ih:=hI.many u J k (by omega);have j:S.sp ((k:Int)+1)≠none:=(hI.sf _).2 ⟨k,rfl,by omega,by grind⟩;obtain⟨x,K⟩: ∃x,S.sp ((k:Int)+1)=some x:=by
   cases h:S.sp ((k:Int)+1)with
   | none=>grind
   | some x=>grind
  obtain⟨h1,O,T,Y,v⟩:=hI.sp _ x K;have ho:=v (x.2.base/8192) (by omega) (by omega);have e:cP (λp=>decide (0<S.own p/\S.own p<=((k+1:Nat):Int)))=cP (λp=>decide (0<S.own p/\S.own p<=(k:Int)))+cP (λp=>decide (S.own p=(k:Int)+1)):=by
   refine VC (λp=> ?_) λp a b=> ?_
   .grind
   grind
  obtain⟨o1,o2,o3,o4⟩:=hI.ow (x.2.base/8192) (by omega);have j:=u.tv.OZ _ o1;have:1<=cP (λp=>decide (S.own p=(k:Int)+1)):=cP_pos (p:=x.2.base/8192) (decide_eq_true ho) j.1 j.2;omega
def Next.live{id:Int}{X:FX}(h:Next S id X)(K:Pf S)(hI:HInv S fl):0<id/\S.sp id=none/\ ∀j:Int,(∃a:Nat,j=(a:Int)+1/\a<X.n/\a∉X.bk)↔j=id∨S.sp j≠none:=by
 rcases h with ⟨h1,rfl,rfl⟩|⟨a,r,h1,rfl,rfl⟩
 .refine⟨by omega,Classical.byContradiction λg=> ?_,λj=> ?_⟩
  .obtain⟨a,e,J,_⟩:=(hI.sf _).1 g;omega
  .rw[hI.sf]
   grind
 .have v:=K.fx.nd;have u:=K.fx.lt;rw[h1]at v u;refine⟨by omega,Classical.byContradiction λg=> ?_,λj=> ?_⟩
  .obtain⟨b,e,J,O⟩:=(hI.sf _).1 g
   grind
  .rw[hI.sf];constructor
   .grind
   .rintro(e|⟨b,e,J,O⟩)
    .exact⟨a,e,u a List.mem_cons_self,(List.nodup_cons.1 v).1⟩
    grind
def XD{S:HS}(f:Int->Int){id page n:Int}(Kv:0<id)(h0:0<=page)(j:0<=n)(e:page+n<=34359738368)(hz: ∀p,page<=p->p<page+n-> ¬0<f p):
  cP (λp=>decide (0<if page<=p/\p<page+n then id else f p))=cP (λp=>decide (0<f p))+n:=by
 rw[show cP (λp=>decide (0<f p))+n=cP (λp=>decide (0<f p))+cP (inr page n) by rw[X8 h0 j e]];refine VC (λp=> ?_) λp a b=> ?_
 .rw[Bool.eq_iff_iff,Bool.or_eq_true,decide_eq_true_eq,decide_eq_true_eq,Au];omega
 .have b:=Au.1 b
  grind
def HInv.EB{page n:Int}(hI:HInv S (inr page n))(K:Pf S)(h0:0<=page)(hn:0<n)(hb:page+n<=34359738368)(hr: ∀p,page<=p->p<page+n->mem S.V.ready p)
  {id:Int}{X:FX}(hX:Next S id X){x:Nat×SI}(x1:x.2.base=page*8192)(x2:x.2.AD=n)(x3:x.2.state≠0):HInv (S.EB id x page n X) no:=by
 obtain⟨Kv,aA,O⟩:=hX.live K hI;have v: ∀p,page<=p->p<page+n->inr page n p=true:=λp a b=>Au.2 ⟨a,b⟩;have aB: ∀p,S.own p=id->False:=λp e=>by
  obtain⟨_,_,_,y,Y,_⟩:=hI.ow p (by omega)
  grind
 have ho: ∀p,(S.EB id x page n X).own p=if page<=p/\p<page+n then id else S.own p:=λp=>rfl
 have hs: ∀i,(S.EB id x page n X).sp i=if i=id then some x else S.sp i:=λp=>rfl
 refine⟨λj hj p u=> ?_,hI.cd,λp u=> ?_,λp u=> ?_,λp=> ?_,λp u=>(by cases u),λp u=> ?_,hI.ks,hI.la,λp _=> ?_,λi y Y=> ?_,λi=> ?_,?_,?_,hI.h0,hI.h1⟩
 .obtain⟨g1,g2,g3,g4⟩:=hI.cr j hj p u;refine⟨g1,g2,?_,rfl⟩
  grind
 .obtain⟨g1,g2⟩:=hI.fn p u;refine⟨?_,rfl⟩
  grind
 .rw[ho]at u⊢;by_cases g:page<=p/\p<page+n
  .rw[if_pos g]at u⊢;have J:=v p g.1 g.2;refine⟨hI.li p J,(hI.TC K J).1,rfl,x,?_,by omega,by omega⟩
   grind
  .rw[if_neg g]at u⊢;obtain⟨g1,g2,g3,y,g4,g5⟩:=hI.ow p u;refine⟨g1,g2,rfl,y,?_,g5⟩
   grind
 .rw[ho];have:=hI.o0 p;omega
 .rcases hI.cv p u with h|h|h|h
  .exact .inl h
  .exact .inr (.inl h)
  .grind
  .refine .inr (.inr (.inl ?_));rw[ho,if_pos (Au.1 h)];exact Kv
 .cases J:inr page n p with
  | false=>exact hI.rd p J
  | true=>
   have T:=Au.1 J;exact⟨λ_=>⟨hI.li p J,(hI.TC K J).2.2.2.1⟩,λ_=>hr p T.1 T.2⟩
 .rw[hs]at Y;by_cases g:i=id
  .grind
  .rw[if_neg g]at Y;obtain⟨k1,k2,k3,k4,k5⟩:=hI.sp i y Y;refine⟨k1,k2,k3,k4,λp a b=> ?_⟩;have h5:=k5 p a b;rw[ho,if_neg λh=> ?_]
   .exact h5
   .have:=(hI.TC K (v p h.1 h.2)).2.2.1;omega
 .rw[hs];rw[show(S.EB id x page n X).fx=X from rfl,O i]
  grind
 .show X.n<=34359738368;rcases hX with ⟨h1,rfl,rfl⟩|⟨a,r,h1,rfl,rfl⟩
  .have h2:=hI.many K h1 S.fx.n (Nat.le_refl _);have h3:cP (λp=>decide (0<S.own p/\S.own p<=(S.fx.n:Int))||inr page n p)=cP (λp=>decide (0<S.own p/\S.own p<=(S.fx.n:Int)))+cP (inr page n):=VC (λp=>rfl) λp a b=>by
    have a:=of_decide_eq_true a;have:=(hI.TC K b).2.2.1;omega
   rw[X8 h0 (by omega) hb]at h3;have:=(QE λp=>decide (0<S.own p/\S.own p<=(S.fx.n:Int))||inr page n p).2
   grind
  .exact hI.fb
 .show S.AD+n=cP λp=>decide (0<if page<=p/\p<page+n then id else S.own p);rw[XD (S:=S) S.own Kv h0 (by omega) hb λp a b=>by have:=(hI.TC K (v p a b)).2.2.1;omega,<-hI.pg]
def HS.free(S:HS)(a:Nat)(page n:Int):HS:=
 {S with T:=S.T.WE page n,fx:=⟨S.fx.n,a::S.fx.bk⟩,sp:=λi=>if i=(a:Int)+1 then none else S.sp i,own:=λp=>if page<=p/\p<page+n then 0 else S.own p,AD:=S.AD-n}
def HInv.free(hI:HInv S no)(hk:Pf S){a:Nat}{x:Nat×SI}(hx:S.sp ((a:Int)+1)=some x):HInv (S.free a (x.2.base/8192) x.2.AD) no:=by
 obtain⟨k1,k2,k3,k4,k5⟩:=hI.sp _ x hx;generalize hpg:x.2.base/8192=page at *
 generalize hn:x.2.AD=n at *
 have J: ∀p,page<=p->p<page+n->0<S.own p:=λp h1 Y=>by grind
 have aA: ∀p,S.own p=(a:Int)+1↔page<=p/\p<page+n:=λp=>by
  refine⟨λe=> ?_,λh=>k5 p h.1 h.2⟩;obtain⟨_,_,_,y,h1,Y,h3⟩:=hI.ow p (by omega)
  grind
 have ho: ∀p,(S.free a page n).own p=if page<=p/\p<page+n then 0 else S.own p:=λp=>rfl
 have hs: ∀i,(S.free a page n).sp i=if i=(a:Int)+1 then none else S.sp i:=λp=>rfl
 have v: ∀p,(S.free a page n).T.fr p=true↔S.T.fr p=true∨(page<=p/\p<page+n):=λp=>by
  show(S.T.fr p||inr page n p)=true↔_;rw[Bool.or_eq_true,Au]
 have K:=hk.tv.OZ _ (hI.ow page (J page (by omega) (by omega))).1;have aE:=hk.tv.OZ _ (hI.ow (page+n-1) (J _ (by omega) (by omega))).1;refine⟨λj hj p u=> ?_,hI.cd,λp u=> ?_,λp u=> ?_,λp=> ?_,λp u=>(by cases u),λp u=> ?_,hI.ks,hI.la,hI.rd,λi y O=> ?_,λi=> ?_,hI.fb,?_,hI.h0,hI.h1⟩
 .obtain⟨g1,g2,g3,g4⟩:=hI.cr j hj p u;refine⟨g1,E6 λh=>((v p).1 h).elim (Dm g2) λh=> ?_,?_,rfl⟩
  .grind
  grind
 .refine⟨?_,rfl⟩;rw[ho];rcases(v p).1 u with h|h
  .split
   .rfl
   .exact(hI.fn p h).1
  omega
 .rw[ho]at u⊢;by_cases g:page<=p/\p<page+n
  .omega
  .rw[if_neg g]at u⊢;obtain⟨g1,g2,g3,y,g4,g5⟩:=hI.ow p u;refine⟨g1,E6 λh=>((v p).1 h).elim (Dm g2) g,rfl,y,?_,g5⟩
   grind
 .rw[ho];split
  .omega
  .exact hI.o0 p
 .by_cases g:page<=p/\p<page+n
  .grind
  .rcases hI.cv p u with h|h|h|h
   .grind
   .exact .inr (.inl h)
   .grind
   grind
 .rw[hs]at O;by_cases g:i=(a:Int)+1
  .grind
  .rw[if_neg g]at O;obtain⟨q1,q2,q3,q4,q5⟩:=hI.sp i y O
   grind
 .rw[hs];have:=hI.sf i;show _↔ ∃b:Nat,i=(b:Int)+1/\b<S.fx.n/\b∉a::S.fx.bk
  grind
 .show S.AD-n=cP λp=>decide (0<if page<=p/\p<page+n then 0 else S.own p);have e:=XD (S:=S) (λp=>if page<=p/\p<page+n then 0 else S.own p) (id:=(a:Int)+1) k1 K.1 (by omega) (by omega) (page:=page) (n:=n) λp h1 Y=>by omega
  have e2:cP (λp=>decide (0<if page<=p/\p<page+n then(a:Int)+1 else if page<=p/\p<page+n then 0 else S.own p))=cP λp=>decide (0<S.own p):=rX λp _ _=>by grind
  rw[e2]at e;have:=hI.pg;omega
def HS.OY(S:HS)(p k:Int):HS:={S with T:=S.T.OY p k,V:=RF S.V p k}
def HInv.idle(hI:HInv S no)(j:Pf S){p:Int}(a:S.T.idle p=true):S.T.fr p=true/\S.T.rl p=false/\mem S.V.ready p/\S.own p=0/\S.NU p=false:=by
 have a:(S.T.fr p&& !S.T.rl p)=true:=a;rw[Bool.and_eq_true,Bool.not_eq_true']at a;have e:S.NU p=false:=E6 λh=>by
  obtain⟨i,hi,h⟩:=Fy.1 h;exact(Dm (hI.cr i hi p h).2.1) a.1
 refine⟨a.1,a.2,(hI.rd p rfl).2 ⟨j.tv.fi p a.1,E6 λh=> ?_⟩,(hI.fn p a.1).1,e⟩;rcases FN.1 h with h|⟨i,hi,h⟩
 .exact(Dm a.2) h
 .exact(Dm e) (Fy.2 ⟨i,hi,Lc (j.ci i hi) h⟩)
def HInv.OY(hI:HInv S no)(v:Pf S){x k:Int}(J:0<k)(K:MZ S.T.idle x k):HInv (S.OY x k) no:=by
 have j: ∀p,(S.OY x k).T.rl p=true↔S.T.rl p=true∨(x<=p/\p<x+k):=λp=>by
  show(S.T.rl p||inr x k p)=true↔_;rw[Bool.or_eq_true,Au]
 refine⟨hI.cr,hI.cd,hI.fn,hI.ow,hI.o0,hI.li,hI.cv,hI.ks,hI.la,λp _=> ?_,hI.sp,hI.sf,hI.fb,hI.pg,hI.h0,hI.h1⟩;have e0:=hI.rd p rfl;have u:(S.OY x k).gone p=true↔S.gone p=true∨(x<=p/\p<x+k):=by
  rw[FN,FN,j];exact⟨λh=>h.elim (λh=>h.elim (λh=>.inl (.inl h)) .inr) λh=>.inl (.inr h),λh=>h.elim (λh=>h.elim (λh=>.inl (.inl h)) .inr) λh=>.inl (.inr h)⟩
 refine(Fs (by omega):mem (DO S.V.ready x (x+k)) p↔_).trans ?_;rw[e0];constructor
 .rintro⟨⟨h1,e⟩,a⟩;exact⟨h1,E6 λh=>(u.1 h).elim (Dm e) a⟩
 .rintro⟨h1,e⟩;have a:=λh=>(Dm e) (u.2 h);exact⟨⟨h1,E6 λh=>a (.inl h)⟩,λh=>a (.inr h)⟩
def HInv.counts(hI:HInv S no)(e:Pf S):cP S.T.Lt=Hm S.ks*512/\cP S.T.Lt=Hm S.V.ready+cP S.gone/\S.AD<=Hm S.V.ready:=by
 have j: ∀p,S.T.Lt p=true->p<34359738368:=λp h=>(e.tv.OZ p h).2;have u: ∀p,S.gone p=true->S.T.Lt p=true:=λp h=>by
  rcases FN.1 h with h|⟨i,hi,h⟩
  .exact e.tv.fi p (e.tv.rf p h)
  .exact(hI.cr i hi p (Lc (e.ci i hi) h)).1
 have v:cP (X2 S.V.ready)=Hm S.V.ready:=jW e.vv.eO (λp=>Jl.symm) λp h=>by
  have:=e.vv.OZ p (e.vv.rl p (Jl.1 h));omega
 refine⟨m8 e.ok hI.ks j,?_,?_⟩
 .rw[<-v];refine VC (λp=> ?_) λp a b=> ?_
  .rw[Bool.eq_iff_iff,Bool.or_eq_true,Jl,hI.rd p rfl];constructor
   .intro h;cases g:S.gone p with
    | false=>exact .inl ⟨h,rfl⟩
    | true=>exact .inr rfl
   .rintro(h|h)
    .exact h.1
    .exact u p h
  .rw[Jl,hI.rd p rfl]at a;exact(Dm a.2) b
 .rw[<-v,hI.pg];exact jX λp h=>Jl.2 (hI.ready e (of_decide_eq_true h))
end Go.Sh
namespace Go.Sh
def Sat.rest{Ps Z:List Pr}{w:World}(H:Sat (Ps++Z) w):Sat Z w:=by
 induction Ps with
 | nil=>exact H
 | cons P Ps ih=>exact ih H.tail
section
variable{E:Env}{h:Nat}{S:HS}{Z:List Pr}{w:World}{g:HG}
def fF.same{S':HS}(hI:fF S g)(e:S'.sp=S.sp):fF S' g:=⟨hI.nd,λid=>by rw[hI.mem,e]⟩
def Sat.XE(H:Sat (Bf E h S g++Z) w){i:Nat}(hi:i<64): ∃R,(∀{w'},Sat R w'->Sat Z w')/\Sat (A8 E (g.cb i) (S.ca i)::BG E g.t S.T::R) w/\
  ∀{w' c' T'},Sat (A8 E (g.cb i) c'::BG E g.t T'::R) w'->Sat (Bf E h {S with T:=T',ca:=λj=>if j=i then c' else S.ca j} g++Z) w':=by
 have v:(List.range 64)[i]? =some i:=List.getElem?_range hi;have h1:=(H.front 7 rfl).FQ v;have J:=h1.BQ 3 rfl;refine⟨_,λ{w'} q=> ?_,J,λ{w' c' T'} h'=> ?_⟩
 .exact Sat.rest (Ps:=[Aj (λi:Nat=>A8 E (g.cb i) (S.ca i)) ((List.range 64).eraseIdx i),Cells h E.Ab (BV g S.hint S.AD),B8 E g.m S.V,BR E g.a S.ks S.own,Gg E g.f S.fx,CM g.sm .i64 (Dl S.sp),Aj (spR E S.sp) g.ids]) q
 have b1:=Sat.OI (P0:=A8 E (g.cb i) c') (Ps:=Aj (λi:Nat=>A8 E (g.cb i) (S.ca i)) ((List.range 64).eraseIdx i)::((Bf E h S g++Z).eraseIdx 7)) 3 h' (by simp[Bf]);have u:Sat (A8 E (g.cb i) c'::Aj (λi:Nat=>A8 E (g.cb i) (S.ca i)) ((List.range 64).eraseIdx i)::((Bf E h {S with T:=T',ca:=λj=>if j=i then c' else S.ca j} g++Z).eraseIdx 7)) w':=b1;have e:Aj (λi:Nat=>A8 E (g.cb i) (S.ca i)) ((List.range 64).eraseIdx i)=Aj (λj:Nat=>A8 E (g.cb j) (if j=i then c' else S.ca j)) ((List.range 64).eraseIdx i):=
  Aj.congr λx K=>by rw[if_neg (U2 hi K)]
 rw[e,show A8 E (g.cb i) c'=(λj:Nat=>A8 E (g.cb j) (if j=i then c' else S.ca j)) i by grind]at u;exact Sat.back (Ps:=Bf E h {S with T:=T',ca:=λj=>if j=i then c' else S.ca j} g++Z) 7 (Sat.Jb u v) (by simp[Bf])
def yR{ca:Nat->CS}{i:Nat}:(λj=>if j=i then ca i else ca j)=ca:=funext λj=>by
 by_cases e:j=i
 .rw[if_pos e,e]
 .rw[if_neg e]
def Sat.Tw(H:Sat (Bf E h S g++Z) w): ∃R,(∀{w'},Sat R w'->Sat Z w')/\Sat (BG E g.t S.T::R) w/\ ∀{w' T'},Sat (BG E g.t T'::R) w'->Sat (Bf E h {S with T:=T'} g++Z) w':=
 ⟨_,λ{w'} q=>Sat.rest (Ps:=[Cells h E.Ab (BV g S.hint S.AD),B8 E g.m S.V,BR E g.a S.ks S.own,Gg E g.f S.fx,CM g.sm .i64 (Dl S.sp),Aj (spR E S.sp) g.ids,Aj (λi:Nat=>A8 E (g.cb i) (S.ca i)) (List.range 64)]) q,
  H.front 2 rfl,λ{w' T'} h'=>Sat.back (Ps:=Bf E h S g++Z) 2 h' (by simp[Bf])⟩
def HS.new(V:VS):HS:=⟨V,TV.nil,λ_=>CS.nil,[],λ_=>0,⟨0,[]⟩,λ_=>none,0,0⟩
def HInv.new{V:VS}(h1:V.laid=[])(v:V.ready=[]):HInv (HS.new V) no:=by
 have u: ∀p,¬mem ([]:Iv) p:=Bz;refine⟨λi hi p e=> ?_,λa b p K O j T=> ?_,λp e=>(by cases e),λp e=>absurd e (by show ¬(0:Int)<0;decide),λ_=>Int.le_refl 0,λp e=>(by cases e),λp e=>(by cases e),λp=>⟨λq=>absurd q (u _),λq=>(by cases q)⟩,λp=> ?_,λp _=> ?_,λid x J=>(by cases J),λid=>⟨λq=>absurd rfl q,λ⟨a,_,q,_⟩=>absurd q (Nat.not_lt_zero a)⟩,Nat.zero_le _,?_,Int.le_refl 0,by show(0:Int)<=_;decide⟩
 .have e:CS.nil.own p=true:=e;rw[YA]at e;cases e
 .have j:CS.nil.own p=true:=j;rw[YA]at j;cases j
 .show mem V.laid p↔_;rw[h1];exact⟨λq=>absurd q (u _),λq=>(by cases q)⟩
 .show mem V.ready p↔_;rw[v];exact⟨λq=>absurd q (u _),λq=>(by cases q.1)⟩
 .exact(Tv λp=>rfl).symm
def VH(n:Nat):List.range (n+1)=List.range n++[n]:=List.range_succ
def fK(cb:Nat->Nat)(k:Nat)(x y:Value)(v0 v1 v2 a v4:Value)(b:Nat)(e:k<64):
  (v0::v1::v2::a::v4::(((List.range 64).map λi=>Value.pointer (if i<k then some ⟨cb i,0,none⟩else none))++[x,y])).set (0+(5+k)) (.pointer (sM b))
   =v0::v1::v2::a::v4::(((List.range 64).map λi=>Value.pointer (if i<k+1 then some ⟨if i=k then b else cb i,0,none⟩else none))++[x,y]):=by
 rw[show 0+(5+k)=k+1+1+1+1+1 by omega];simp only[List.set_cons_succ];rw[List.set_append_left _ _ (by simp;exact e)];have key:((List.range 64).map λi=>Value.pointer (if i<k then some ⟨cb i,0,none⟩else none)).set k (.pointer (sM b))=(List.range 64).map λi=>Value.pointer (if i<k+1 then some ⟨if i=k then b else cb i,0,none⟩else none):=by
  apply List.ext_getElem?
  grind
 rw[key]
def fL{m:Nat}{V:VS}(H:Sat (B8 E m V::Z) w){K:Option Addr->World->Prop}(hK: ∀h w',w'.cell? (Addr.mk h 0 none)=some (.pointer (sM m))->Sat (Ax E h (HS.new V)::Z) w'->K (sM h) w'):F.IQ E (sM m) K w:=by
 unfold F.IQ T0.IQ;refine rD H λw2 t H2=>rM H2 λw4 a H4=>OK H4 .i64 λj w6 H6 _=> ?_;refine AJ (vs:=.pointer (sM m):: .pointer (sM t):: .pointer (sM a):: .pointer none:: .map (some j)::(((List.range 64).map λi=>Value.pointer none)++[.int .u64 0,.int .u64 0])) H6 λO w8 H8 _=> ?_;refine mU H8 λf aR aA=> ?_;refine Af (aA.front 1 rfl) (o:=0) (m:=3) rfl (by simp) λaE T=> ?_;have Y:Sat (Cells O E.Ab (.pointer (sM m):: .pointer (sM t):: .pointer (sM a):: .pointer (sM f):: .map (some j)::(((List.range 64).map λi=>Value.pointer none)++[.int .u64 0,.int .u64 0]))::
   Gg E f ⟨0,[]⟩::CM j .i64 (λ_=>none)::BR E a [] (λ_=>0)::BG E t TV.nil::B8 E m V::Z) aE:=T
 clear T;refine AM (λst w'=> ∃(k:Nat) (cb:Nat->Nat),st.1=(k:Int)/\k<=64/\Sat (Aj (λi:Nat=>A8 E (cb i) CS.nil) (List.range k)::Cells O E.Ab (.pointer (sM m):: .pointer (sM t):: .pointer (sM a):: .pointer (sM f):: .map (some j)::(((List.range 64).map λi=>Value.pointer (if i<k then some ⟨cb i,0,none⟩else none))++[.int .u64 0,.int .u64 0]))::
   Gg E f ⟨0,[]⟩::CM j .i64 (λ_=>none)::BR E a [] (λ_=>0)::BG E t TV.nil::B8 E m V::Z) w') (λst _=>(64-st.1).toNat) ⟨0,λ_=>0,rfl,by decide,?_⟩ ?_
 .exact Y.NI _
 rintro⟨k',v⟩ _ aF ⟨k,cb,hk,aJ,u⟩;dsimp only at hk⊢;subst hk;refine AE (λaQ=> ?_) λaP=> ?_
 .refine mK u.drew λaS c aC=>⟨⟨by omega,by omega⟩,?_⟩;have aD:k<64:=by omega
  rw[Int.toNat_natCast,Nat.mul_one,add_add,AI (n:=(k:Int)+1)];refine Af (aC.front 2 rfl) (o:=0) (m:=5+k) rfl (by simp;omega) λaG J=> ?_;rw[fK cb k _ _ _ _ _ _ _ c aD]at J;refine⟨⟨k+1,λi=>if i=k then c else cb i,by omega,by omega,?_⟩,by omega⟩;have h1:=J.BQ 1 rfl;have h2:Sat (A8 E c CS.nil::Aj (λi:Nat=>A8 E (cb i) CS.nil) (List.range k)::Cells O E.Ab (.pointer (sM m):: .pointer (sM t):: .pointer (sM a):: .pointer (sM f):: .map (some j)::(((List.range 64).map λi=>Value.pointer (if i<k+1 then some ⟨if i=k then c else cb i,0,none⟩else none))++[.int .u64 0,.int .u64 0]))::
    Gg E f ⟨0,[]⟩::CM j .i64 (λ_=>none)::BR E a [] (λ_=>0)::BG E t TV.nil::B8 E m V::Z) aG:=J.perm (List.perm_middle (l₁:=[_,_])|>.symm)
  rw[VH];have e:Aj (λi:Nat=>A8 E (cb i) CS.nil) (List.range k)=Aj (λi:Nat=>A8 E (if i=k then c else cb i) CS.nil) (List.range k):=Aj.congr λx hx=>by grind
  rw[e,show A8 E c CS.nil=(λi:Nat=>A8 E (if i=k then c else cb i) CS.nil) k by grind]at h2;exact h2.UX
 .have e:k=64:=by omega
  subst e;refine hK O aF ((u.front 1 rfl).AW rfl) (Sat.heap.2 ⟨⟨m,t,a,f,j,cb,[]⟩,⟨List.nodup_nil,λid=>⟨λq=>(by cases q),λq=>absurd rfl q⟩⟩,?_⟩);have e:((List.range 64).map λi=>Value.pointer (if i<64 then some ⟨cb i,0,none⟩else none))=mZ cb:=by
   unfold mZ;exact List.map_congr_left λi hi=>by grind
  rw[e]at u;have aB:=u.NI (spR E λ_=>none);refine aB.perm ?_;show List.Perm _ ((Cells O E.Ab (BV ⟨m,t,a,f,j,cb,[]⟩ 0 0)::B8 E m V::BG E t TV.nil::BR E a [] (λ_=>0)::Gg E f ⟨0,[]⟩::CM j .i64 (λ_=>none)::Aj (spR E λ_=>none) []::Aj (λi:Nat=>A8 E (cb i) CS.nil) (List.range 64)::[])++Z);refine List.Perm.append_right (l₁:=[Aj (spR E λ_=>none) [],Aj (λi:Nat=>A8 E (cb i) CS.nil) (List.range 64),Cells O E.Ab (BV ⟨m,t,a,f,j,cb,[]⟩ 0 0),Gg E f ⟨0,[]⟩,CM j .i64 (λ_=>none),BR E a [] (λ_=>0),BG E t TV.nil,B8 E m V]) Z ?_;exact(List.perm_append_comm (l₁:=[Aj (spR E λ_=>none) [],Aj (λi:Nat=>A8 E (cb i) CS.nil) (List.range 64)]) (l₂:=[Cells O E.Ab (BV ⟨m,t,a,f,j,cb,[]⟩ 0 0),Gg E f ⟨0,[]⟩,CM j .i64 (λ_=>none),BR E a [] (λ_=>0),BG E t TV.nil,B8 E m V])).trans (.cons _ ((List.reverse_perm [B8 E m V,BG E t TV.nil,BR E a [] (λ_=>0),CM j .i64 (λ_=>none),Gg E f ⟨0,[]⟩]).append_right _|>.trans (.cons _ (.cons _ (.cons _ (.swap _ _ _))))))
def nA{m:Nat}{V:VS}(H:Sat (B8 E m V::Z) w){K:Option Addr->World->Prop}(a: ∀h w',Sat (Ax E h (HS.new V)::Z) w'->K (sM h) w'):F.IQ E (sM m) K w:=
 fL H λh w' _=>a h w'
end
def yS{x c:Nat}(h1:x.testBit c=true)(j: ∀i,i<c->x.testBit i=false)(i:Nat):(x&&&(x-1)).testBit i=(x.testBit i&& !(i==c)):=by
 have hm:x %2^(c+1)=2^c:=by
  apply Nat.eq_of_testBit_eq
  grind
 have a:x=2^(c+1)*(x/2^(c+1))+2^c:=by
  have:=Nat.div_add_mod x (2^(c+1));omega
 generalize hy:x/2^(c+1)=y at a;have p1:2^c<2^(c+1):=Nat.pow_lt_pow_right (by decide) (by omega);have p0:0<2^c:=Nat.pow_pos (by decide);have e:x-1=2^(c+1)*y+(2^c-1):=by omega
 rw[Nat.testBit_and,e]
 conv=>lhs;lhs;rw[a]
 conv=>rhs;lhs;rw[a]
 rw[Nat.testBit_two_pow_mul_add _ p1,Nat.testBit_two_pow_mul_add _ (by omega:2^c-1<2^(c+1))]
 grind
def fM{u:Nat->Bool}{c:Nat}(J:c<64)(h1:u c=true)(a: ∀i,i<c->u i=false):EA .u64 0 (W u) (u64 (W u-1))=W (λi=>u i&& !(i==c)):=by
 have O:wN u 64<2^64:=Nj u 64;have v:(wN u 64).testBit c=true:=by rw[Dh,h1];simp[J]
 have hz:wN u 64≠0:=λe=>by grind
 have e:u64 (W u-1)=((wN u 64-1:Nat):Int):=by
  unfold W;rw[AP];omega
 rw[e];unfold W;rw[bkN (by omega) (by omega)];congr 1;apply Nat.eq_of_testBit_eq;intro i;rw[yS v (λj K=>by rw[Dh,a j K];simp),Dh,Dh]
 grind
def rZ{u:Nat->Bool}{c:Nat}(h1:u c=true): ∀n,(c<n->cN u n=cN (λi=>u i&& !(i==c)) n+1)/\(n<=c->cN u n=cN (λi=>u i&& !(i==c)) n)
 | 0=>⟨λh=>absurd h (Nat.not_lt_zero c),λ_=>rfl⟩
 | n+1=>by
  obtain⟨i1,i2⟩:=rZ h1 n;simp only[cN];refine⟨λh=> ?_,λh=> ?_⟩
  .by_cases e:n=c
   .subst e;rw[i2 (Nat.le_refl _),h1];simp
   .rw[i1 (by omega)];have:(n==c)=false:=by simp[e]
    rw[this];simp;omega
  .rw[i2 (by omega)];have:(n==c)=false:=by simp;omega
   rw[this];simp
def Z5{u:Nat->Bool}(h:W u≠0): ∃c,c<64/\u c=true/\ ∀i,i<c->u i=false:=by
 have hex: ∃c,c<64/\u c=true:=by
  refine Classical.byContradiction λg=>h (GC.2 λi hi=> ?_);cases hu:u i with
  | false=>rfl
  | true=>grind
 have key: ∀n:Nat,(∃c,c<n/\u c=true)-> ∃c,c<n/\u c=true/\ ∀i,i<c->u i=false:=by
  intro n
  induction n with
  | zero=>omega
  | succ n ih=>
   rintro⟨c,a,hu⟩;by_cases g: ∃c,c<n/\u c=true
   .grind
   grind
 exact key 64 hex
def QG(ca:Nat->CS):Nat->Int
 | 0=>0
 | k+1=>QG ca k+cN (ca k).rel 64
def YC(ca:Nat->CS)(k:Nat): ∀m,QG ca k<=QG ca (k+m)
 | 0=>Int.le_refl _
 | m+1=>by
  show _<=QG ca (k+m)+_;have:=YC ca k m;omega
section
variable{E:Env}{h:Nat}{S:HS}{Z:List Pr}{w:World}{g:HG}
def HInv.QG(hI:HInv S no)(j:Pf S):NT S.T.rl+Go.Sh.QG S.ca 64=cP S.gone:=by
 have key: ∀k:Nat,k<=64->NT S.T.rl+Go.Sh.QG S.ca k=cP (λp=>S.T.rl p||(List.range k).any λi=>(S.ca i).SH p):=by
  intro k
  induction k with
  | zero=>
   intro _;obtain⟨l,h1,v⟩:=j.tv.cr;have e:(λp=>S.T.rl p||(List.range 0).any λi=>(S.ca i).SH p)=S.T.rl:=funext λp=>by simp
   rw[e,cP_NT h1 v λp O=>(j.tv.OZ p (j.tv.fi p (j.tv.rf p O))).2];show cP S.T.rl+0=_;omega
  | succ k ih=>
   intro K;have ci:=j.ci k (by omega);rw[VC (f:=λp=>S.T.rl p||(List.range k).any λi=>(S.ca i).SH p) (g:=(S.ca k).SH) (λp=>by rw[VH,List.any_append];simp[Bool.or_assoc]) λp a b=> ?_,<-ih (by omega)]
   .have e:cP (S.ca k).SH=cN (S.ca k).rel 64:=by
     have u:=ci.b0;have J:=ci.b1;have:=ci.b64;exact rY u (by omega)
    rw[e];show _+(Go.Sh.QG S.ca k+_)=_;omega
   .rw[Bool.or_eq_true]at a;have ho:=Lc ci b;obtain⟨g1,g2,g3,g4⟩:=hI.cr k (by omega) p ho;rcases a with a|a
    .exact(Dm g2) (j.tv.rf p a)
    .rw[List.any_eq_true]at a;obtain⟨i,hi,Y⟩:=a;have hi:=List.mem_range.1 hi;have:=hI.cd i k p (by omega) (by omega) (Lc (j.ci i (by omega)) Y) ho;omega
 exact key 64 (Nat.le_refl _)
def TE(H:Sat (Ax E h S::Z) w)(hI:HInv S no){K:Int->Int->Int->World->Prop}(hK: ∀w',Sat (Ax E h S::Z) w'->K (cP S.T.Lt) S.AD (cP S.gone) w'):F.DR E (sM h) K w:=by
 have Bl:=H.Bl;have aD:=hI.QG Bl;obtain⟨c1,c2,c3⟩:=hI.counts Bl;have aR:=QE S.gone;have aS:=QE S.T.Lt;have aY:0<=NT S.T.rl:=by
  obtain⟨l,h1,h2⟩:=Bl.tv.cr;rw[rA h1 h2];exact Py h1
 obtain⟨g,aG,H⟩:=Sat.heap.1 H;unfold F.DR T0.DR;simp only[AK];refine⟨_,(CO (S:=S) (g:=g) H).2.1,WG (H.front 2 rfl) ?_⟩;have aH:=(CO (S:=S) (g:=g) H).2.2.2.2.2.2.2;simp only[add_add,Nat.reduceAdd]
 repeat (refine⟨_,aH _ (by decide),?_⟩)
 have hL: ∀i:Nat,i<64->List.getD ((List.range 64).map λi=>some (Addr.mk (g.cb i) 0 none)) i none=some ⟨g.cb i,0,none⟩:=λi hi=>m6 g.cb hi;refine AM (λst w'=> ∃i:Nat,st.2.1=(i:Int)/\i<=64/\st.1=NT S.T.rl+Go.Sh.QG S.ca i/\Sat (Bf E h S g++Z) w') (λst _=>(64-st.2.1).toNat) ⟨0,rfl,by decide,(Int.add_zero _).symm,H⟩ ?_;rintro⟨cnt,i',v⟩ _ a3 ⟨i,hi,aQ,hc,O⟩;dsimp only at hi hc⊢;subst hi;refine AE (λaL=>⟨⟨by omega,by omega⟩,?_⟩) λaK=> ?_
 .have hi:i<64:=by omega
  obtain⟨R,aI,hb⟩:=O.jV hi;rw[Int.toNat_natCast];have e:=hL i hi;refine(show _=_ from e)▸ ?_;refine fE aI λr0 r1 r2 a4 g0 g1 aE=> ?_;have ci:=Bl.ci i hi;have aM:r2=W (S.ca i).rel:=by
   by_cases he:(S.ca i).empty
   .rw[(g0 he).2.2];refine(GC.2 λk _=>E6 λq=> ?_).symm;have:=ci.rh k q;rw[he k]at this;cases this
   .exact(g1 he).2.2
  subst aM;have aZ:Go.Sh.QG S.ca (i+1)=Go.Sh.QG S.ca i+cN (S.ca i).rel 64:=rfl;have aN:=YC S.ca (i+1) (64-(i+1));rw[show i+1+(64-(i+1))=64 by omega]at aN;have a0:0<=Go.Sh.QG S.ca i:=by
   have:=YC S.ca 0 i;rw[Nat.zero_add]at this;exact this
  refine AM (λst w'=> ∃u,st.2.1=W u/\NT S.T.rl+Go.Sh.QG S.ca i<=st.1/\st.1+cN u 64=NT S.T.rl+Go.Sh.QG S.ca (i+1)/\Sat (Bf E h S g++Z) w') (λst _=>st.2.1.toNat) ⟨(S.ca i).rel,rfl,by show _<=cnt;omega,by show cnt+_=_;omega,hb aE⟩ ?_;rintro⟨j,r,v⟩ _ a5 ⟨u,hu,hle,aJ,Y⟩;dsimp only at hu hle aJ⊢;subst hu;refine Gm (λaC=> ?_) λhz=> ?_
  .obtain⟨c,a,J,aB⟩:=Z5 aC;rw[fM a J aB];have aW:=(rZ J 64).1 a;refine AZ λa2 aF=> ?_;subst aF;rw[AP (n:=j+1)];refine⟨⟨_,rfl,by show _<=j+1;omega,by show j+1+_=_;omega,Y⟩,?_⟩;show(W λi=>u i&& !(i==c)).toNat<(W u).toNat;rw[<-fM a J aB];have hb:=W_bnd u;have hz:W u≠0:=aC;have e:EA .u64 0 (W u) (u64 (W u-1))=((wN u 64&&&(wN u 64-1):Nat):Int):=by
    have aX:wN u 64<2^64:=Nj u 64;have e:u64 (W u-1)=((wN u 64-1:Nat):Int):=by
     unfold W at hz⊢;rw[AP];omega
    rw[e];unfold W;rw[bkN (by omega) (by omega)]
   rw[e,Int.toNat_natCast];have:wN u 64&&&(wN u 64-1)<=wN u 64-1:=Nat.and_le_right;unfold W at hz⊢;rw[Int.toNat_natCast];omega
  .have h0:cN u 64=0:=by
    have h1:=GC.1 hz;have: ∀n,n<=64->cN u n=0:=by
     intro n
     induction n with
     | zero=>intro _;rfl
     | succ n ih=>intro hn;simp only[cN];rw[ih (by omega),h1 n (by omega)];rfl
    exact this 64 (Nat.le_refl _)
   rw[AI (n:=(i:Int)+1)];exact⟨⟨i+1,by omega,by omega,by show j=_;omega,Y⟩,by show(64-((i:Int)+1)).toNat<(64-(i:Int)).toNat;omega⟩
 .have e:i=64:=by omega
  subst e;have Hd:=O.drew;refine⟨_,(CO (S:=S) (g:=g) Hd).2.2.1,_,(CO (S:=S) (g:=g) Hd).2.2.2.2.2.2.1,eU (Hd.front 3 rfl) ⟨(CO (S:=S) (g:=g) Hd).2.2.2.2.2.2.1,?_⟩⟩;rw[AP (n:=Hm S.ks*512),<-c1,hc,aD];exact hK _ (Sat.heap.2 ⟨g,aG,Hd⟩)
variable(hE:EnvS E)
include hE
end
def Lf(S:HS)(i:Nat)(S1:HS):Prop:=((S.ca i).empty/\ ∃q,P9 S.T 1 q/\S1=S.fill i q)∨((¬(S.ca i).empty∨ ∀q,S.T.fr q=false)/\S1=S)
def MH(S:HS)(p n:Int)(S1:HS):Prop:=(¬(0<=p/\p<64/\n<16)/\S1=S)∨ ∃i:Nat,i<64/\p=i/\n<16/\Lf S i S1/\ ∀k,¬MD (S1.ca i).has k n.toNat
def Got(S:HS)(p n page:Int)(S2:HS):Prop:=
 (∃S1,∃i k:Nat,i<64/\p=i/\n<16/\Lf S i S1/\MD (S1.ca i).has k n.toNat/\(∀j,MD (S1.ca i).has j n.toNat->k<=j)/\k+n.toNat<=64/\page=(S1.ca i).base+k/\S2=S1.Ld i k n.toNat)∨
 ∃S1,MH S p n S1/\P9 S1.T n page/\S2=S1.Le page n
def Lf.inv{S S1:HS}{i:Nat}(h:Lf S i S1)(hI:HInv S no)(a:Pf S)(hi:i<64):HInv S1 no:=by
 rcases h with ⟨h1,q,e,rfl⟩|⟨h1,rfl⟩
 .exact hI.fill a hi h1 q
 .exact hI
def MH.inv{S S1:HS}{p n:Int}(h:MH S p n S1)(hI:HInv S no)(a:Pf S):HInv S1 no:=by
 rcases h with ⟨_,rfl⟩|⟨i,hi,_,_,h,_⟩
 .exact hI
 .exact h.inv hI a hi
section
variable{E:Env}{h:Nat}{S:HS}{Z:List Pr}{w:World}{g:HG}
def VI: ∀{l:Iv},Ok l->(l.length:Int)<=Hm l
 | [],_=>Int.le_refl _
 | p::r,h=>by
  have:=VI h.tail;have:=h.2.1;show((r.length+1:Nat):Int)<=p.2-p.1+Hm r;omega
variable(hE:EnvA E)
include hE
theorem nB(hT: ∀w',Sat Z w'->Ec E.AH w')(H:Sat (Ax E h S::Z) w)(hI:HInv S no){p n:Int}(n0:1<=n)(n1:n<=134217728){K:Int->Bool->World->Prop}
  (aP: ∀page S2,Got S p n page S2->HInv S2 (inr page n)->0<=page->page+n<=34359738368-> ∀w',Sat (Ax E h S2::Z) w'->K page true w')
  (aU: ∀S1,MH S p n S1->HInv S1 no->(∀q,¬MZ S1.T.fr q n)-> ∀w',Sat (Ax E h S1::Z) w'->K 0 false w'):F.DF E (sM h) p n K w:=by
 have Bl:=H.Bl;obtain⟨g,aN,H⟩:=Sat.heap.1 H;unfold F.DF T0.DF;simp only[AK];have v: ∀S1 w3,MH S p n S1->HInv S1 no->S1.sp=S.sp->S1.V=S.V->S1.ks=S.ks->S1.own=S.own->S1.fx=S.fx->S1.hint=S.hint->S1.AD=S.AD->Sat (Bf E h S1 g++Z) w3->
   ∃aB:(Option Addr),w3.cell? ((Addr.mk h 0 none).add 1)=some (.pointer aB)/\F.Az E aB n (λaI aZ aJ aL=>K aI ((aJ:Int)==0) aL) w3:=by
  intro S1 w3 ht O e1 e2 e3 e4 e5 e6 e7 H3;have a:fF S1 g:=aN.same e1;have J:=(Sat.heap.2 ⟨g,a,H3⟩:Sat (Ax E h S1::Z) w3).Bl;obtain⟨R,_,h1,hb⟩:=H3.Tw;refine⟨_,(CO (S:=S1) (g:=g) H3).2.1,Uu hE.toEnvS h1 (by omega) (by omega) (λe=>by omega) (λ_ Y w' H'=> ?_) λ_ page hf w' H'=> ?_⟩
  .exact aU S1 ht O Y w' (Sat.heap.2 ⟨g,⟨a.nd,a.mem⟩,hb H'⟩)
  .exact aP page (S1.Le page n) (.inr ⟨S1,ht,hf,rfl⟩) (O.Le J hf.2.2.1) hf.1 hf.2.1 w' (Sat.heap.2 ⟨g,⟨a.nd,a.mem⟩,hb H'⟩)
 refine Ad (Ad (yQ (AE (λhp j=>AE (λhn=> ?_) λhn j=> ?_) λhp j=>AR rfl λj=> ?_)))
 .obtain⟨i,rfl⟩: ∃i:Nat,p=(i:Int):=⟨p.toNat,by omega⟩;have hi:i<64:=by omega
  rw[Int.toNat_natCast];refine⟨by omega,_,by rw[Nat.mul_one,add_add,Nat.add_comm];exact(CO (S:=S) (g:=g) H).2.2.2.2.2.2.2 i hi,?_⟩;have u: ∀S1 aA,Lf S i S1->HInv S1 no->S1.sp=S.sp->S1.V=S.V->S1.ks=S.ks->S1.own=S.own->S1.fx=S.fx->S1.hint=S.hint->S1.AD=S.AD->Sat (Bf E h S1 g++Z) aA->
    F.Cb E (some ⟨g.cb i,0,none⟩) (i64 n) (λaX bB aY aK=>CND ((aY:Int)==0) (K aX true aK) (∀j:Nat->Value,∃aB:(Option Addr),aK.cell? ((Addr.mk h 0 none).add 1)=some (.pointer aB)/\F.Az E aB n (λaI aZ aJ aL=>K aI ((aJ:Int)==0) aL) aK)) aA:=by
   intro S1 aA aO O e1 e2 e3 e4 e5 e6 e7 aF;have a:fF S1 g:=aN.same e1;have J:=(Sat.heap.2 ⟨g,a,aF⟩:Sat (Ax E h S1::Z) aA).Bl;obtain⟨R,hR,h1,hb⟩:=aF.XE hi;rw[AI (n:=n)];refine Zo (hT _ (hR h1.tail.tail)) h1 (by omega) (by omega) (λa7=>by omega) (λ_ _ Y=>AR rfl λj=> ?_) λ_ _ k aE aQ aM w' H'=>Aa rfl ?_
   .exact v S1 aA (.inr ⟨i,hi,rfl,hn,aO,Y⟩) O e1 e2 e3 e4 e5 e6 e7 aF
   .have aH:=J.ci i hi;have q0:=aH.b0;have q1:=aH.b1;have q2:=aH.b64;have aD:=O.Ld J hi aE aM;rw[show((n.toNat:Nat):Int)=n by omega]at aD;refine aP ((S1.ca i).base+k) (S1.Ld i k n.toNat) (.inl ⟨S1,i,k,hi,rfl,hn,aO,aE,aQ,aM,rfl,rfl⟩) aD (by omega) (by omega) w' (Sat.heap.2 ⟨g,⟨a.nd,a.mem⟩,hb H'⟩)
  obtain⟨R,hR,h1,hb⟩:=H.XE hi;refine Ad (ME h1 (λhe=>Aa rfl ⟨_,(CO (S:=S) (g:=g) H).2.1,?_⟩) λhe=>AR rfl λj=> ?_)
  .refine eM hE.toEnvS h1 (λaW=>absurd he aW) (λ_ Y w' H' j=> ?_) λ_ q hq w' H' j=> ?_
   .have h2:=hb H';rw[yR]at h2;exact u S w' (.inr ⟨.inr Y,rfl⟩) hI rfl rfl rfl rfl rfl rfl rfl h2
   .exact u (S.fill i q) w' (.inl ⟨he,q,hq,rfl⟩) (hI.fill Bl hi he q) rfl rfl rfl rfl rfl rfl rfl (hb H')
  .exact u S w (.inr ⟨.inl he,rfl⟩) hI rfl rfl rfl rfl rfl rfl rfl H
 .exact v S w (.inl ⟨by omega,rfl⟩) hI rfl rfl rfl rfl rfl rfl rfl H
 .exact v S w (.inl ⟨by omega,rfl⟩) hI rfl rfl rfl rfl rfl rfl rfl H
def LF(n:Int):Int:=(n+511)/512*512
def yT(S:HS)(n:Int)(S1:HS):Prop:=(∀r,S.V.rf≠true::r)/\ ∃at_,Ob S.V S.hint (LF n) at_/\S1=S.grown {S.V with rf:=S.V.rf.tail,pl:=S.V.pl.tail,laid:=DZ S.V.laid at_ (at_+LF n)} at_ (LF n)
def sA(S:HS)(n:Int)(S1:HS):Prop:=(∃r,S.V.rf=true::r/\S1={S with V:={S.V with rf:=r}})∨((∀r,S.V.rf≠true::r)/\Uv S.V S.hint (LF n)/\S1={S with V:={S.V with rf:=S.V.rf.tail,pl:=S.V.pl.tail}})
theorem fN(H:Sat (Ax E h S::Z) w)(hI:HInv S no){n:Int}(n0:1<=n)(n1:n<=134217728){K:Int->World->Prop}
  (aP: ∀S1,yT S n S1->HInv S1 no->(∃at_,MZ S1.T.fr at_ n)-> ∀w',Sat (Ax E h S1::Z) w'->K 0 w')(aC: ∀S1,sA S n S1->HInv S1 no-> ∀w',Sat (Ax E h S1::Z) w'->K 13 w'):
  F.Cj E (sM h) n K w:=by
 have Bl:=H.Bl;have aO:=hI.h0;have aY:=hI.h1;obtain⟨g,a,H⟩:=Sat.heap.1 H;unfold F.Cj T0.Cj;refine⟨by decide,AZ λN hN=> ?_⟩;rw[AP (n:=n+512),AP (n:=n+512-1),Int.tdiv_eq_ediv_of_nonneg (by omega),AP (n:=(n+512-1)/512),AP]at hN;have hN:N=LF n:=by unfold LF;omega
 subst hN;have aQ:LF n %512=0/\n<=LF n/\LF n<=134217728:=by omega
 obtain⟨u1,u2,u3⟩:=aQ;have u4:LF n<n+512:=by omega
 simp only[AK];have Hd:=H.drew;refine⟨_,(CO (S:=S) (g:=g) Hd).1,_,(CO (S:=S) (g:=g) Hd).2.2.2.2.2.1,?_⟩;have bk: ∀{V':VS} {w'},Sat (B8 E g.m V'::(Bf E h S g++Z).eraseIdx 1) w'->Sat (Bf E h {S with V:=V'} g++Z) w':=λ{V' w'} h'=>Sat.back (Ps:=Bf E h S g++Z) 1 h' (by simp[Bf]);refine X1 hE.toEnvS (Hd.front 1 rfl) aO (by omega) (by omega) (by omega) (λu=>by omega) (λ_ r hr w' H'=>Aa rfl ?_) (λ_ hr hu w' H'=>Aa rfl ?_) λ_ hr at_ hc w8 H8=>AR rfl ?_
 .exact aC _ (.inl ⟨r,hr,rfl⟩) (hI.memV rfl rfl) w' (Sat.heap.2 ⟨g,⟨a.nd,a.mem⟩,bk H'⟩)
 .exact aC _ (.inr ⟨hr,hu,rfl⟩) (hI.memV rfl rfl) w' (Sat.heap.2 ⟨g,⟨a.nd,a.mem⟩,bk H'⟩)
 obtain⟨f1,f2,f3,f4⟩:=hc.fits Bl.vv.oH (by omega);have a0:0<=at_:=by
  rcases hc with ⟨p,r,h1,h2,rfl⟩|⟨_,⟨_,h1,_⟩|⟨_,_,h1,_⟩⟩
  .obtain⟨g',aM,_⟩:=Sat.RC.1 (Hd.front 1 rfl:Sat (B8 E g.m S.V::_) _);exact(aM.vD at_ (by rw[h1];exact List.mem_cons_self)).1
  .have:=h1.low;omega
  .have:=h1.low;omega
 have O: ∀p,at_<=p->p<at_+LF n->S.T.Lt p=false:=λp h1 h2=>E6 λhp=>(Ht Bl.vv.oH (by omega)).1 f4 p h1 h2 ((hI.la p).2 hp);have H9:=bk H8;rw[AP (n:=at_+LF n)];refine Af H9 (o:=0) (m:=69) rfl (by rw[fG];decide) λaR v=> ?_;rw[Nat.zero_add,fH]at v;have e:Sat (Bf E h {S with V:={S.V with rf:=S.V.rf.tail,pl:=S.V.pl.tail,laid:=DZ S.V.laid at_ (at_+LF n)},hint:=at_+LF n} g++Z) aR:=v;clear v;rw[Int.tdiv_eq_ediv_of_nonneg (by omega),Int.tdiv_eq_ediv_of_nonneg (by omega),AP (n:=at_/512),AP (n:=LF n/512)];refine⟨_,(CO (S:={S with V:={S.V with rf:=S.V.rf.tail,pl:=S.V.pl.tail,laid:=DZ S.V.laid at_ (at_+LF n)},hint:=at_+LF n}) (g:=g) e).2.1,by decide,by decide,?_⟩;obtain⟨R,_,h1,hb⟩:=e.Tw;refine mF hE.toEnvS h1 (by omega) (by omega) (by omega) (by omega) (λu=>by unfold MB at u;omega) (λ_ hex=> ?_) λ_ _ aS aH=> ?_
 .grind
 have Y:=(hb aH).drew;generalize hS3:({S with V:={S.V with rf:=S.V.rf.tail,pl:=S.V.pl.tail,laid:=DZ S.V.laid at_ (at_+LF n)},hint:=at_+LF n,T:=S.T.grow (at_/512) (LF n/512)}:HS)=S3;have e3:S3.hint=at_+LF n:=by grind
 have J:Sat (Bf E h S3 g++Z) aS.drew:=by rw[<-hS3];exact Y
 clear Y;have aB:=(CO (S:=S3) (g:=g) J).2.2.2.2.2.1;rw[e3]at aB;refine⟨_,(CO (S:=S3) (g:=g) J).2.2.1,by decide,_,aB,by decide,?_⟩;rw[Int.tdiv_eq_ediv_of_nonneg (by omega),AP (n:=(at_+LF n)/512)];refine mT hE (J.front 3 rfl) (by omega) (by omega) (by omega) λaE aI=> ?_;have aA:Sat (Bf E h {S3 with ks:=DZ S3.ks (at_/512) ((at_+LF n)/512)} g++Z) aE:=Sat.back (Ps:=Bf E h S3 g++Z) 3 aI (by simp[Bf]);have j:=(CO (S:={S3 with ks:=DZ S3.ks (at_/512) ((at_+LF n)/512)}) (g:=g) aA).2.2.2.2.2.1;have aK:({S3 with ks:=DZ S3.ks (at_/512) ((at_+LF n)/512)}:HS).hint=at_+LF n:=e3;rw[aK]at j;refine⟨j,?_⟩;subst hS3;refine aP _ ⟨hr,at_,hc,rfl⟩ (hI.grown Bl a0 (by omega) (by omega) f1 u1 O rfl rfl) ⟨at_,λm q1 q2=> ?_⟩ aE (Sat.heap.2 ⟨g,⟨a.nd,a.mem⟩,aA⟩);show(S.T.fr m||inr (at_/512*512) (LF n/512*512) m)=true;rw[Bool.or_eq_true,Au];omega
def Jn(S:HS)(page n:Int):TV:=⟨S.T.Lt,λp=>S.T.fr p||inr page n p,λp=>S.T.rl p||(inr page n p&& !X2 S.V.ready p)⟩
omit hE in
theorem nC{S:HS}{page x y:Int}(h1:page<=x)(j:x<=y)(a: ∀p,x<=p->p<y-> ¬mem S.V.ready p):(Jn S page (x-page)).back x (y-x)=Jn S page (y-page):=by
 have e: ∀p,inr page (y-page) p=(inr page (x-page) p||inr x (y-x) p):=λp=>by rw[Bool.eq_iff_iff,Bool.or_eq_true,Au,Au,Au];omega
 unfold Jn TV.back;refine(TV.mk.injEq ..).mpr ⟨rfl,funext λp=> ?_,funext λp=> ?_⟩
 .grind
 .show(S.T.rl p||(inr page (x-page) p&& !X2 S.V.ready p)||inr x (y-x) p)=_;rw[e];cases g:inr x (y-x) p
  .simp
  .have g:=Au.1 g;have:X2 S.V.ready p=false:=E6 λq=>a p (by omega) (by omega) (Jl.1 q)
   grind
omit hE in
theorem nD{S:HS}{page x y:Int}(h1:page<=x)(j:x<=y)(a: ∀p,x<=p->p<y->mem S.V.ready p):(Jn S page (x-page)).WE x (y-x)=Jn S page (y-page):=by
 have e: ∀p,inr page (y-page) p=(inr page (x-page) p||inr x (y-x) p):=λp=>by rw[Bool.eq_iff_iff,Bool.or_eq_true,Au,Au,Au];omega
 unfold Jn TV.WE;refine(TV.mk.injEq ..).mpr ⟨rfl,funext λp=> ?_,funext λp=> ?_⟩
 .grind
 .show(S.T.rl p||(inr page (x-page) p&& !X2 S.V.ready p))=_;rw[e];cases g:inr x (y-x) p
  .simp
  .have g:=Au.1 g;rw[Jl.2 (a p (by omega) (by omega))];simp
theorem fO{page n:Int}(H:Sat (Ax E h S::Z) w)(hI:HInv S (inr page n))(p0:0<=page)(n0:1<=n)(pb:page+n<=34359738368){K:World->Prop}(hK:HInv (S.K4 page n) no-> ∀w',Sat (Ax E h (S.K4 page n)::Z) w'->K w'):
  F.Ck E (sM h) page n K w:=by
 have Bl:=H.Bl;have a1:=hI.K4 Bl;obtain⟨g,a0,H⟩:=Sat.heap.1 H;unfold F.Ck T0.Ck F.Fx T0.Fx;simp only[AK];rw[AP (n:=page+n)];refine⟨_,(CO (S:=S) (g:=g) H).1,?_⟩;simp only[AK];rw[show(Addr.mk g.m 0 none).add 5=⟨g.m,5,none⟩ by rw[add_eq]];obtain⟨gv,bF,HV⟩:=Sat.RC.1 (H.front 1 rfl:Sat (B8 E g.m S.V::_) w);refine Wy hE.toEnvS (HV.BQ 1 rfl) (o:=5) rfl rfl p0 (by omega:page+n<18446744073709551616) λs' w3 H3 _=> ?_;have aY:Sat (Gc E g.m S.V gv++(Row E.AB 2 s' (flat (withinL S.V.ready page (page+n)))::(Bf E h S g++Z).eraseIdx 1)) w3:=
  Sat.SJ (Gc E g.m S.V gv) (H3.perm (.cons _ (.cons _ (EH (i:=1) rfl).symm)))
 have H4:=Sat.RC.2 ⟨gv,bF,aY⟩;have H5:Sat (Row E.AB 2 s' (flat (withinL S.V.ready page (page+n)))::B8 E g.m S.V::(Bf E h S g++Z).eraseIdx 1) w3:=H4.perm (.swap _ _ _);have J:Sat (Bf E h S g++(Row E.AB 2 s' (flat (withinL S.V.ready page (page+n)))::Z)) w3:=by
  have h1:Sat (Row E.AB 2 s' (flat (withinL S.V.ready page (page+n)))::(Bf E h S g++Z)) w3:=H5.perm (.cons _ (EH (i:=1) rfl).symm);exact Sat.SJ (Bf E h S g) h1
 clear H5 H4 aY H3 HV;have u:=Uw Bl.vv.eO (a:=page) (b:=page+n) (by omega);have aA: ∀q,mem (withinL S.V.ready page (page+n)) q↔mem S.V.ready q/\page<=q/\q<page+n:=λq=>Oc;have aP: ∀q∈withinL S.V.ready page (page+n),page<=q.1/\q.1<q.2/\q.2<=page+n:=P6 Bl.vv.eO (by omega);generalize hl:withinL S.V.ready page (page+n)=l at J u aA aP;have hlen:s'.len=l.length:=by
  have:=((J.front 8 rfl:Sat (Row E.AB 2 s' (flat l)::_) _)).own.len;rw[D7]at this;omega
 have bA:(l.length:Int)<=n:=by
  have h1:=VI u;have h2:=O5 u.o5 (a:=page) (b:=page+n) λq hq=>((aA q).1 hq).2;have h3:=Gl u (a:=page) (b:=page+n) (by omega);omega
 have a6: ∀p,page<=p->p<page+n->S.T.Lt p=true:=λp a b=>hI.li p (Au.2 ⟨a,b⟩);have aL: ∀{x y:Int},page<=x->x<y->y<=page+n->Ih (Jn S page (x-page)) x (y-x):=λ{x y} a b c=>⟨by omega,by omega,λm q1 q2=>a6 m (by omega) (by omega)⟩;have aG: ∀{x y:Int},page<=x->y<=page+n-> ∀m,x<=m->m<x+(y-x)->(Jn S page (x-page)).fr m=false:=λ{x y} a c m q1 q2=>by
  show(S.T.fr m||inr page (x-page) m)=false;rw[(hI.TC Bl (Au.2 ⟨by omega,by omega⟩)).1,Ka.2 (by omega)];rfl
 have aH: ∀{x y:Int} {Y:List Pr} {w5:World} {K5:Int->World->Prop},page<=x->x<=y->y<=page+n->(∀p,x<=p->p<y-> ¬mem S.V.ready p)->Sat (Bf E h {S with T:=Jn S page (x-page)} g++Y) w5->
   (∀r w6,Sat (Bf E h {S with T:=Jn S page (y-page)} g++Y) w6->K5 r w6)->F.DM E (sM g.t) x (y-x) K5 w5:=by
  intro x y Y w5 K5 h1 h2 h3 bJ H5 aN;obtain⟨R,_,q1,qb⟩:=H5.Tw;refine mH hE.toEnvS q1 (by omega) (by omega) (by omega) (by omega) (λhb w6 J=> ?_) (λ_ hex w6 J=> ?_) λ_ _ w6 J=> ?_
  .have:x=y:=Classical.byContradiction λe=>hb (aL h1 (by omega) h3)
   grind
  .obtain⟨m,q1,q2,q3⟩:=hex;rw[aG h1 h3 m q1 q2]at q3;cases q3
  .rw[nC h1 h2 bJ]at J;exact aN _ _ (qb J)
 have stepG: ∀{x y:Int} {Y:List Pr} {w5:World} {K5:Int->World->Prop},page<=x->x<y->y<=page+n->(∀p,x<=p->p<y->mem S.V.ready p)->Sat (Bf E h {S with T:=Jn S page (x-page)} g++Y) w5->
   (∀r w6,Sat (Bf E h {S with T:=Jn S page (y-page)} g++Y) w6->K5 r w6)->F.Cf E (sM g.t) x (y-x) K5 w5:=by
  intro x y Y w5 K5 h1 h2 h3 a3 H5 aN;obtain⟨R,_,q1,qb⟩:=H5.Tw;refine Wu hE.toEnvS q1 (by omega) (by omega) (by omega) (by omega) (λhb w6 J=>absurd (aL h1 h2 h3) hb) (λ_ hex w6 J=> ?_) λ_ _ w6 J=> ?_
  .obtain⟨m,q1,q2,q3⟩:=hex;rw[aG h1 h3 m q1 q2]at q3;cases q3
  .rw[nD h1 (by omega) a3]at J;exact aN _ _ (qb J)
 refine AM (λst w'=> ∃i:Nat,st.2.1=(i:Int)/\i<=l.length/\page<=st.1/\st.1<=page+n/\(∀j q,j<i->l[j]? =some q->q.2<=st.1)/\(∀j q,i<=j->l[j]? =some q->st.1<=q.1)/\
   Sat (Bf E h {S with T:=Jn S page (st.1-page)} g++(Row E.AB 2 s' (flat l)::Z)) w') (λst _=>((l.length:Int)-st.2.1).toNat) ⟨0,rfl,Nat.zero_le _,Int.le_refl _,by omega,λj q hj=>absurd hj (Nat.not_lt_zero j),λj q _ hq=>(aP q (List.mem_of_getElem? hq)).1,?_⟩ ?_
 .have e:Jn S page (page-page)=S.T:=by
   unfold Jn;have: ∀p,inr page (page-page) p=false:=λp=>Ka.2 (by omega);simp only[this,Bool.or_false,Bool.false_and]
  show Sat (Bf E h {S with T:=Jn S page (page-page)} g++_) w3;rw[e];exact J
 rintro⟨at_,i',v⟩ _ w6 ⟨i,hi,a5,aO,a2,bI,a4,J⟩;dsimp only at hi aO a2 bI a4 J⊢;subst hi;rw[hlen];refine AE (λbU=> ?_) λbT=> ?_
 .have a5:i<l.length:=by omega
  obtain⟨x,hx⟩: ∃x,l[i]? =some x:=⟨_,List.getElem?_eq_getElem a5⟩;obtain⟨x1,x2,x3⟩:=aP x (List.mem_of_getElem? hx);have x4:=a4 i x (Nat.le_refl _) hx;obtain⟨bb,bH,k1,k2⟩:=(J.front 8 rfl:Sat (Row E.AB 2 s' (flat l)::_) _).own.cells2 hx;rw[bH];simp only[AK,Int.toNat_natCast];refine⟨⟨by omega,by omega⟩,x.1,by rw[aD,add_eq,add_eq,Nat.zero_add,Nat.add_zero];exact k1,x.2,by rw[aD,add_eq,add_eq,Nat.zero_add];exact k2,?_⟩;refine AJ (vs:=[.int .u64 0,.int .u64 0]) J λaB bW bB _=> ?_;refine Bm (news:=[.int .u64 x.1,.int .u64 x.2]) bB rfl (by simp[Value.oneCell']) λbX bC=> ?_;have aK:=bC.drew;have hC: ∀{w'} {Y:List Pr},Sat (Cells aB E.AB [.int .u64 x.1,.int .u64 x.2]::Y) w'->w'.cell? (Addr.mk aB 0 none)=some (.int .u64 x.1)/\w'.cell? ((Addr.mk aB 0 none).add 1)=some (.int .u64 x.2):=λh=>⟨h.AW rfl,h.cell rfl⟩;have aI: ∀{w'} {S':HS},Sat (Bf E h S' g++(Cells aB E.AB [.int .u64 x.1,.int .u64 x.2]::Row E.AB 2 s' (flat l)::Z)) w'->Sat (Cells aB E.AB [.int .u64 x.1,.int .u64 x.2]::(Bf E h S' g++(Row E.AB 2 s' (flat l)::Z))) w':=λ{w' S'} h=>h.perm List.perm_middle;have bL: ∀{w'} {S':HS},Sat (Cells aB E.AB [.int .u64 x.1,.int .u64 x.2]::(Bf E h S' g++(Row E.AB 2 s' (flat l)::Z))) w'->Sat (Bf E h S' g++(Cells aB E.AB [.int .u64 x.1,.int .u64 x.2]::Row E.AB 2 s' (flat l)::Z)) w':=λ{w' S'} q=>Sat.SJ (Bf E h S' g) q;have aW:=bL aK;refine⟨_,(CO (S:={S with T:=Jn S page (at_-page)}) (g:=g) aW).2.1,_,(hC aK).1,?_⟩;rw[AP (n:=x.1-at_)];refine aH aO x4 (by omega) (λp q1 q2 hm=> ?_) aW λr bY aX=> ?_
  .obtain⟨y,hy,y1,y2⟩:=(aA p).2 ⟨hm,by omega,by omega⟩;obtain⟨j,hj⟩:=List.mem_iff_getElem?.1 hy;rcases Nat.lt_trichotomy j i with g1|g1|g1
   .grind
   .grind
   .have:=u.lt g1 hx hj;omega
  have O:=aX.drew;refine⟨(hC (aI aX)).1,_,(CO (S:={S with T:=Jn S page (x.1-page)}) (g:=g) O).2.1,_,(hC (aI O)).1,_,(hC (aI O)).2,_,(hC (aI O)).1,?_⟩;rw[AP (n:=x.2-x.1)];refine stepG (by omega) x2 x3 (λp q1 q2=>((aA p).1 ⟨x,List.mem_of_getElem? hx,q1,q2⟩).1) O λr bZ bD=> ?_;have aC:=aI bD;refine⟨(hC aC).1,(hC aC).2,_,(hC aC).2,?_⟩;rw[AI (n:=(i:Int)+1)];refine⟨⟨i+1,by omega,by omega,by show page<=x.2;omega,x3,λj q hj hq=> ?_,λj q hj hq=> ?_,aC.tail⟩,by omega⟩
  .rcases Nat.lt_or_eq_of_le (Nat.le_of_lt_succ hj)with g1|g1
   .grind
   grind
  .have:=u.lt (show i<j by omega) hx hq;omega
 .have e:i=l.length:=by omega
  subst e;refine⟨_,(CO (S:={S with T:=Jn S page (at_-page)}) (g:=g) J).2.1,?_⟩;rw[AP (n:=page+n-at_)];refine aH aO a2 (Int.le_refl _) (λp q1 q2 hm=> ?_) J λr bN aZ=> ?_
  .obtain⟨y,hy,y1,y2⟩:=(aA p).2 ⟨hm,by omega,by omega⟩;obtain⟨j,hj⟩:=List.mem_iff_getElem?.1 hy
   grind
  .rw[show page+n-page=n by omega]at aZ;exact hK a1 bN (Sat.heap.2 ⟨g,⟨a0.nd,a0.mem⟩,Sat.RG (Bf E h (S.K4 page n) g) aZ⟩)
end
def j9(S:HS)(p n page:Int)(S1:HS):Prop:=
 Got S p n page S1∨ ∃e a,MH S p n e/\(∀q,¬MZ e.T.fr q n)/\yT e n a/\P9 a.T n page/\S1=a.Le page n
def Lg(S:HS)(page n:Int):Prop:= ∀q,page<=q->q<page+n->mem S.V.ready q
def Made(S1:HS)(page n:Int)(S2:HS):Prop:=(Lg S1 page n/\S2=S1)∨(¬Lg S1 page n/\(∀r,S1.V.rf≠true::r)/\S2={S1 with V:=RE S1.V page n})
def Found(S:HS)(p n page:Int)(S2:HS):Prop:= ∃S1,j9 S p n page S1/\Made S1 page n S2
def nE(S:HS)(p n:Int)(S2:HS):Prop:=
 (∃a,MH S p n a/\(∀q,¬MZ a.T.fr q n)/\sA a n S2)∨
 ∃S1 page r,j9 S p n page S1/\ ¬Lg S1 page n/\S1.V.rf=true::r/\S2=({S1 with V:={S1.V with rf:=r}}:HS).K4 page n
section
variable{E:Env}{h:Nat}{S:HS}{Z:List Pr}{w:World}{g:HG}
def HInv.pgs{S:HS}{fl:Int->Bool}(hI:HInv S fl):0<=S.AD/\S.AD<=34359738368:=by
 rw[hI.pg];exact QE _
def Sat.sB(H:Sat (Ax E h S::Z) w): ∃m R,w.cell? (Addr.mk h 0 none)=some (.pointer (sM m))/\Sat (B8 E m S.V::R) w/\
  ∀{a:VS} {w'},Sat (B8 E m a::R) w'->Sat (Ax E h {S with V:=a}::Z) w':=by
 obtain⟨g,hI,H⟩:=Sat.heap.1 H;refine⟨g.m,_,(CO (S:=S) (g:=g) H).1,H.front 1 rfl,λ{a w'} h'=>Sat.heap.2 ⟨g,⟨hI.nd,hI.mem⟩,?_⟩⟩;exact Sat.back (Ps:=Bf E h S g++Z) 1 h' (by simp[Bf])
def Sat.Z6(H:Sat (Ax E h S::Z) w): ∃t R,w.cell? ((Addr.mk h 0 none).add 1)=some (.pointer (sM t))/\Sat (BG E t S.T::R) w/\
  ∀{a:TV} {w'},Sat (BG E t a::R) w'->Sat (Ax E h {S with T:=a}::Z) w':=by
 obtain⟨g,hI,H⟩:=Sat.heap.1 H;refine⟨g.t,_,(CO (S:=S) (g:=g) H).2.1,H.front 2 rfl,λ{V' w'} h'=>Sat.heap.2 ⟨g,⟨hI.nd,hI.mem⟩,?_⟩⟩;exact Sat.back (Ps:=Bf E h S g++Z) 2 h' (by simp[Bf])
variable(hE:EnvA E)
include hE
theorem fP(hT: ∀w',Sat Z w'->Ec E.AH w')(H:Sat (Ax E h S::Z) w)(hI:HInv S no){p n:Int}(n0:1<=n)(n1:n<=134217728){K:Int->Int->World->Prop}
  (bX: ∀page S2,Found S p n page S2->HInv S2 (inr page n)->0<=page->page+n<=34359738368->Lg S2 page n-> ∀w',Sat (Ax E h S2::Z) w'->K page 0 w')
  (bD: ∀S2,nE S p n S2->HInv S2 no-> ∀w',Sat (Ax E h S2::Z) w'->K 0 13 w'):F.DN E (sM h) p n K w:=by
 unfold F.DN T0.DN;refine AJ (vs:=[.pointer (sM h)]) H λb1 w2 H2 _=>AJ (vs:=[.int .u64 n]) H2 λb3 w4 H4 _=>AJ (vs:=[.int .i64 0]) H4 λT w6 H6 _=> ?_;have H7:=H6.front 3 rfl;have u: ∀{w'} {S':HS} {x:Int} {Y:List Pr},Sat (Ax E h S'::Cells T E.Bn [.int .i64 x]::Cells b3 E.AF [.int .u64 n]::Cells b1 E.A9 [.pointer (sM h)]::Y) w'->
   w'.cell? (Addr.mk b1 0 none)=some (.pointer (sM h))/\w'.cell? (Addr.mk b3 0 none)=some (.int .u64 n)/\w'.cell? (Addr.mk T 0 none)=some (.int .i64 x):=λq=>⟨(q.front 3 rfl).AW rfl,(q.front 2 rfl).AW rfl,(q.front 1 rfl).AW rfl⟩
 have aP: ∀{w'} {S':HS} {x y:Int} {Y:List Pr} {K':World->Prop},Sat (Ax E h S'::Cells T E.Bn [.int .i64 x]::Cells b3 E.AF [.int .u64 n]::Cells b1 E.A9 [.pointer (sM h)]::Y) w'->
   (∀aV,Sat (Ax E h S'::Cells T E.Bn [.int .i64 y]::Cells b3 E.AF [.int .u64 n]::Cells b1 E.A9 [.pointer (sM h)]::Y) aV->K' aV)->stCells (Addr.mk T 0 none) 0 [.int .i64 y] w' K':=λ{w' S' x y Y K'} q hq=>by
  refine Bc (q.front 1 rfl) (o:=0) rfl (by simp) λaV q'=>hq aV ?_;exact q'.perm (.swap _ _ _)
 have aY: ∀{w'} {S':HS} {x:Int},Sat (Ax E h S'::Cells T E.Bn [.int .i64 x]::Cells b3 E.AF [.int .u64 n]::Cells b1 E.A9 [.pointer (sM h)]::Z) w'->Sat (Ax E h S'::Z) w':=λ{w' S' x} q=>by
  have q1:=(q.front 1 rfl).tail;have q2:=(q1.front 1 rfl).tail;exact(q2.front 1 rfl).tail
 have bV: ∀w',Sat (Cells T E.Bn [.int .i64 0]::Cells b3 E.AF [.int .u64 n]::Cells b1 E.A9 [.pointer (sM h)]::Z) w'->Ec E.AH w':=λw' q=>hT w' q.tail.tail.tail;refine⟨_,(u H7).1,_,(u H7).2.1,?_⟩;have aO: ∀page S1,j9 S p n page S1->HInv S1 (inr page n)->0<=page->page+n<=34359738368-> ∀x a1,Sat (Ax E h S1::Cells T E.Bn [.int .i64 x]::Cells b3 E.AF [.int .u64 n]::Cells b1 E.A9 [.pointer (sM h)]::Z) a1->
  AL (.cells #[.int .u64 0] E.AF) a1 λO bH=>
  stCells (Addr.mk O 0 none) 0 [.int .u64 page] bH λaH=>
  ∃a3:(Option Addr),aH.drew.cell? (Addr.mk b1 0 none)=some (.pointer a3)/\
  NC a3 λb4=>
  ∃bI:(Option Addr),aH.drew.cell? b4=some (.pointer bI)/\
  ∃bJ:Int,aH.drew.cell? (Addr.mk b3 0 none)=some (.int .u64 bJ)/\
  F.CJ E bI page bJ (λb7 v=>
  v.cell? (Addr.mk b1 0 none)=some (.pointer a3)/\
  CND ((b7:Int) !=0) (
   stCells (Addr.mk T 0 none) 0 [.int .i64 13] v λcC=>
   F.A7 E (some (Addr.mk T 0 none)) (some (Addr.mk b1 0 none)) (some (Addr.mk O 0 none)) (some (Addr.mk b3 0 none)) (λa2=>
    ∃bK:Int,a2.cell? (Addr.mk T 0 none)=some (.int .i64 bK)/\
    K 0 bK a2
   ) cC
  ) (
   stCells (Addr.mk T 0 none) 0 [.int .i64 0] v λaR=>
   F.A7 E (some (Addr.mk T 0 none)) (some (Addr.mk b1 0 none)) (some (Addr.mk O 0 none)) (some (Addr.mk b3 0 none)) (λaS=>
    ∃aT:Int,aS.cell? (Addr.mk T 0 none)=some (.int .i64 aT)/\
    K page aT aS
   ) aR
  )
  ) aH.drew:=by
  intro page S1 hk aB q0 q1 x a1 a5;have aA:=a5.Bl;refine AJ (vs:=[.int .u64 0]) a5 λO bH bO _=>Bc bO (o:=0) rfl (by simp) λaH bP=> ?_;have bQ:Sat (Ax E h S1::Cells T E.Bn [.int .i64 x]::Cells b3 E.AF [.int .u64 n]::Cells b1 E.A9 [.pointer (sM h)]::Cells O E.AF [.int .u64 page]::Z) aH:=bP.perm ((EH (l:=Ax E h S1::Cells T E.Bn [.int .i64 x]::Cells b3 E.AF [.int .u64 n]::Cells b1 E.A9 [.pointer (sM h)]::Cells O E.AF [.int .u64 page]::Z) (i:=4) rfl).symm);have aU:=bQ.drew;obtain⟨m,R,c0,hm,hb⟩:=aU.sB;refine⟨_,(u aU).1,?_⟩;simp only[AK];refine⟨_,c0,_,(u aU).2.1,?_⟩;have bA: ∀{w'} {S':HS} {x:Int},Sat (Ax E h S'::Cells T E.Bn [.int .i64 x]::Cells b3 E.AF [.int .u64 n]::Cells b1 E.A9 [.pointer (sM h)]::Cells O E.AF [.int .u64 page]::Z) w'->w'.cell? (Addr.mk O 0 none)=some (.int .u64 page):=λq=>(q.front 4 rfl).AW rfl;have aG: ∀{w'} {S':HS} {x:Int},Sat (Ax E h S'::Cells T E.Bn [.int .i64 x]::Cells b3 E.AF [.int .u64 n]::Cells b1 E.A9 [.pointer (sM h)]::Cells O E.AF [.int .u64 page]::Z) w'->Sat (Ax E h S'::Z) w':=λ{w' S' x} q=>by
   have q1:=(q.front 1 rfl).tail;have q2:=(q1.front 1 rfl).tail;have q3:=(q2.front 1 rfl).tail;exact(q3.front 1 rfl).tail
  have bC: ∀q,page<=q->q<page+n->inr page n q=true:=λq a b=>Au.2 ⟨a,b⟩;have aZ:cnt S1.V.laid page (page+n)=n:=by
   have:=(Hq aA.vv.oH (a:=page) (b:=page+n) (by omega)).2 λq a b=>(aB.la q).2 (aB.li q (bC q a b));omega
  have aM:=Hq aA.vv.eO (a:=page) (b:=page+n) (by omega);have J:cnt S1.V.ready page (page+n)=n↔Lg S1 page n:=⟨λe=>aM.1 (by omega),λe=>by have:=aM.2 e;omega⟩;have same:({S1 with V:=S1.V}:HS)=S1:=rfl;have aN: ∀S2 v,Made S1 page n S2->HInv S2 (inr page n)->Lg S2 page n->Sat (Ax E h S2::Cells T E.Bn [.int .i64 x]::Cells b3 E.AF [.int .u64 n]::Cells b1 E.A9 [.pointer (sM h)]::Cells O E.AF [.int .u64 page]::Z) v->
    stCells (Addr.mk T 0 none) 0 [.int .i64 0] v λaR=>
    F.A7 E (some (Addr.mk T 0 none)) (some (Addr.mk b1 0 none)) (some (Addr.mk O 0 none)) (some (Addr.mk b3 0 none)) (λaS=>
     ∃aT:Int,aS.cell? (Addr.mk T 0 none)=some (.int .i64 aT)/\
     K page aT aS) aR:=by
   intro S2 v bY aF b0 aC;refine aP aC λaR aX=> ?_;unfold F.A7 T0.A7;simp only[AK];exact⟨_,(u aX).2.2,AR rfl ⟨_,(u aX).2.2,bX page S2 ⟨S1,hk,bY⟩ aF q0 q1 b0 aR (aG aX)⟩⟩
  refine commit_spec hE.toEnvS hm q0 (by omega) (by omega) (by omega) (λbB=>absurd ⟨by omega,q1⟩ bB) (λ_ hl=>absurd aZ hl) (λ_ _ hr v bF=> ?_) (λ_ _ hr r a0 v aC=> ?_) λ_ _ hr a0 v aC=> ?_
  .have aC:=aU.nothing bF;exact⟨(u aC).1,AR rfl (aN S1 v (.inl ⟨J.1 hr,rfl⟩) aB (J.1 hr) aC)⟩
  .have aK:=hb aC;refine⟨(u aK).1,Aa rfl (aP aK λa2 aL=> ?_)⟩;unfold F.A7 T0.A7;simp only[AK];refine⟨_,(u aL).2.2,Aa rfl ⟨_,(u aL).1,_,bA aL,_,(u aL).2.1,?_⟩⟩;have aF:HInv {S1 with V:={S1.V with rf:=r}} (inr page n):=aB.memV rfl rfl;refine fO hE aL aF q0 n0 q1 λbU cD a8=>⟨_,(u a8).2.2,?_⟩;exact bD _ (.inr ⟨S1,page,r,hk,λe=>hr (J.2 e),a0,rfl⟩) bU cD (aG a8)
  .have aK:=hb aC;have aF:HInv {S1 with V:=RE S1.V page n} (inr page n):=aB.commit aA q0 (by omega) q1 bC;exact⟨(u aK).1,AR rfl (aN _ v (.inr ⟨λe=>hr (J.2 e),a0,rfl⟩) aF (YB aA q0 (by omega) q1) aK)⟩
 refine nB hE bV H7 hI n0 n1 (λpage S1 hg aB q0 q1 bG aI=>Ad (AR rfl λj=>aO page S1 (.inl hg) aB q0 q1 0 bG aI)) λS0 ht bT bE bG aI=>Ad (Aa rfl ⟨_,(u aI).1,_,(u aI).2.1,?_⟩);refine fN hE aI bT n0 n1 (λa9 hg aB cH b8 aW=> ?_) λS2 bZ aF b8 aW=> ?_
 .refine aP aW λb9 aJ=>⟨_,(u aJ).2.2,AR rfl ?_⟩;have aE:=aJ.drew;have aA:=aE.Bl;obtain⟨t,R,c1,b2,hb⟩:=aE.Z6;refine⟨_,(u aE).1,?_⟩;simp only[AK];refine⟨_,c1,_,(u aE).2.1,?_⟩;refine Uu hE.toEnvS b2 (by omega) (by omega) (λe=>by omega) (λ_ cG w' H'=> ?_) λ_ page hf cB bN=> ?_
  .grind
  .have a7:=hb bN;exact⟨(u a7).1,λj=>aO page (a9.Le page n) (.inr ⟨S0,a9,ht,bE,hg,hf,rfl⟩) (aB.Le aA hf.2.2.1) hf.1 hf.2.1 0 cB a7⟩
 .refine aP aW λb9 aJ=>⟨_,(u aJ).2.2,Aa rfl ?_⟩;have aE:=aJ.drew;refine⟨_,(u aE).2.2,aP aE λcA a6=>⟨_,(u a6).2.2,?_⟩⟩;exact bD S2 (.inl ⟨S0,ht,bE,bZ⟩) aF cA (aY a6)
theorem fQ{page n:Int}{b:Nat}{I:SI}(H:Sat (Cm E b I::Ax E h S::Z) w)(hI:HInv S (inr page n))(p0:0<=page)(n0:1<=n)(pb:page+n<=34359738368)(hr:Lg S page n)
  (i1:I.base=page*8192)(i2:I.AD=n)(i3:I.state≠0){K:Int->World->Prop}
  (hK: ∀id X,Next S id X->HInv (S.EB id (b,I) page n X) no-> ∀w',Sat (Ax E h (S.EB id (b,I) page n X)::Z) w'->K id w'):F.ET E (sM h) (sM b) K w:=by
 have Bl:=(H.front 1 rfl:Sat (Ax E h S::_) w).Bl;have bN:=hI.fb;obtain⟨g,aG,H0⟩:=Sat.heap.1 (H.front 1 rfl:Sat (Ax E h S::Cm E b I::Z) w);unfold F.ET T0.ET;simp only[AK];refine⟨_,(CO (S:=S) (g:=g) H0).2.2.2.1,?_⟩;have O: ∀id X,Next S id X-> ∀w4,Sat (Bf E h {S with fx:=X} g++(Cm E b I::Z)) w4->
   ∃x6:(Option Nat),w4.cell? ((Addr.mk h 0 none).add 4)=some (.map x6)/\
   KT .i64 id (.pointer (sM b)) x6 w4 λw7=>
   F.Av E (sM b) (λr8 r9 a7 a8 a9 bA bB bC bD bE aR=>
   AL (.cells #[.int .u64 0,.int .i64 0,.int .i64 0,.int .i64 0,.bool false,.int .i64 0,.int .i64 0,.int .i64 0,.bool false,.bool false] E.BD) aR λj aS=>
   stCells (Addr.mk j 0 none) 0 [.int .u64 r8,.int .i64 r9,.int .i64 a7,.int .i64 a8,.bool a9,.int .i64 bA,.int .i64 bB,.int .i64 bC,.bool bD,.bool bE] aS λu=>
   ∃aT:(Option Addr),u.drew.cell? ((Addr.mk h 0 none).add 2)=some (.pointer aT)/\
   ∃aJ:Int,u.drew.cell? (Addr.mk j 0 none)=some (.int .u64 aJ)/\
   8192≠(0:Int)/\
   ∃aK:Int,u.drew.cell? ((Addr.mk j 0 none).add 1)=some (.int .i64 aK)/\
   F.Dj E aT (u64 (Int.tdiv aJ 8192)) (u64 (aK)) id (λbQ v=>
   v.cell? ((Addr.mk j 0 none).add 1)=some (.int .i64 aK)/\
   v.cell? (Addr.mk j 0 none)=some (.int .u64 aJ)/\
   ∃aU:Int,v.drew.cell? ((Addr.mk h 0 none).add 70)=some (.int .u64 aU)/\
   ∃aV:Int,v.drew.cell? ((Addr.mk j 0 none).add 1)=some (.int .i64 aV)/\
   stCells ((Addr.mk h 0 none).add 70) 0 [.int .u64 (u64 (aU+(u64 (aV))))] v.drew λaI=>
   K id aI
   ) u.drew
   ) w7:=by
  intro id X hX w4 H4;obtain⟨Kv,aH,a4⟩:=hX.live Bl hI;refine⟨_,(CO (S:={S with fx:=X}) (g:=g) H4).2.2.2.2.1,FP (H4.front 5 rfl) λw7 H7=> ?_⟩;have e:(λi=>if i=id then some (Value.pointer (sM b))else Dl S.sp i)=Dl λi=>if i=id then some (b,I)else S.sp i:=funext λi=>by
   unfold Dl
   grind
  have aN:Sat (CM g.sm .i64 (λi=>if i=id then some (Value.pointer (sM b))else Dl S.sp i)::(Bf E h {S with fx:=X} g++(Cm E b I::Z)).eraseIdx 5) w7:=H7;rw[e]at aN;have H8:Sat (Cm E b I::CM g.sm .i64 (Dl λi=>if i=id then some (b,I)else S.sp i)::[Cells h E.Ab (BV g S.hint S.AD),B8 E g.m S.V,BG E g.t S.T,BR E g.a S.ks S.own,Gg E g.f X,Aj (spR E S.sp) g.ids,Aj (λi:Nat=>A8 E (g.cb i) (S.ca i)) (List.range 64)]++Z) w7:=
   aN.front 8 rfl
  refine JS H8 λaR aX=> ?_;refine AJ (vs:=[.int .u64 0,.int .i64 0,.int .i64 0,.int .i64 0,.bool false,.int .i64 0,.int .i64 0,.int .i64 0,.bool false,.bool false]) aX λj aS aY _=> ?_;refine Bm (news:=[.int .u64 I.base,.int .i64 I.AD,.int .i64 I.state,.int .i64 I.cls,.bool I.Eh,.int .i64 I.elem,.int .i64 I.AO,.int .i64 I.used,.bool I.f8,.bool I.f9]) aY rfl (by simp[Value.oneCell']) λu aD=> ?_;have aQ:id∉g.ids:=λq=>(aG.mem id).1 q aH;have J:Aj (spR E S.sp) g.ids=Aj (spR E λi=>if i=id then some (b,I)else S.sp i) g.ids:=Aj.congr λi hi=>by
   unfold spR
   grind
  have aB:Cm E b I=spR E (λi=>if i=id then some (b,I)else S.sp i) id:=by unfold spR;grind
  generalize hsp:(λi=>if i=id then some (b,I)else S.sp i)=sp' at aD J aB;have aZ:Sat (Cells j E.BD [.int .u64 I.base,.int .i64 I.AD,.int .i64 I.state,.int .i64 I.cls,.bool I.Eh,.int .i64 I.elem,.int .i64 I.AO,.int .i64 I.used,.bool I.f8,.bool I.f9]::(Bf E h {S with fx:=X,sp:=sp'} {g with ids:=id::g.ids}++Z)) u:=by
   rw[J,aB]at aD;have q1:Sat (spR E sp' id::Aj (spR E sp') g.ids::[Cells j E.BD [.int .u64 I.base,.int .i64 I.AD,.int .i64 I.state,.int .i64 I.cls,.bool I.Eh,.int .i64 I.elem,.int .i64 I.AO,.int .i64 I.used,.bool I.f8,.bool I.f9],CM g.sm .i64 (Dl sp'),Cells h E.Ab (BV g S.hint S.AD),B8 E g.m S.V,BG E g.t S.T,BR E g.a S.ks S.own,Gg E g.f X,Aj (λi:Nat=>A8 E (g.cb i) (S.ca i)) (List.range 64)]++Z) u:=
    (aD.front 1 rfl).BQ 7 rfl
   have q2:=Sat.Iq.2 q1;refine q2.perm ?_;show List.Perm _ (Cells j E.BD [.int .u64 I.base,.int .i64 I.AD,.int .i64 I.state,.int .i64 I.cls,.bool I.Eh,.int .i64 I.elem,.int .i64 I.AO,.int .i64 I.used,.bool I.f8,.bool I.f9]::([Cells h E.Ab (BV g S.hint S.AD),B8 E g.m S.V,BG E g.t S.T,BR E g.a S.ks S.own,Gg E g.f X,CM g.sm .i64 (Dl sp'),Aj (spR E sp') (id::g.ids),Aj (λi:Nat=>A8 E (g.cb i) (S.ca i)) (List.range 64)]++Z));refine List.Perm.trans (.swap _ _ _) (.cons _ ?_);refine List.Perm.append_right (l₁:=[Aj (spR E sp') (id::g.ids),CM g.sm .i64 (Dl sp'),Cells h E.Ab (BV g S.hint S.AD),B8 E g.m S.V,BG E g.t S.T,BR E g.a S.ks S.own,Gg E g.f X,Aj (λi:Nat=>A8 E (g.cb i) (S.ca i)) (List.range 64)]) Z ?_;refine List.Perm.trans (.swap _ _ _) ?_;refine List.Perm.trans (List.perm_middle (a:=CM g.sm .i64 (Dl sp')) (l₁:=[])|>.symm) ?_;have p1:List.Perm (CM g.sm .i64 (Dl sp')::Aj (spR E sp') (id::g.ids)::([Cells h E.Ab (BV g S.hint S.AD),B8 E g.m S.V,BG E g.t S.T,BR E g.a S.ks S.own,Gg E g.f X]++[Aj (λi:Nat=>A8 E (g.cb i) (S.ca i)) (List.range 64)])) ([Cells h E.Ab (BV g S.hint S.AD),B8 E g.m S.V,BG E g.t S.T,BR E g.a S.ks S.own,Gg E g.f X]++(CM g.sm .i64 (Dl sp')::Aj (spR E sp') (id::g.ids)::[Aj (λi:Nat=>A8 E (g.cb i) (S.ca i)) (List.range 64)])):=by
    refine List.Perm.trans (.cons _ List.perm_middle.symm) ?_;exact List.perm_middle.symm
   exact p1
  have aA:=aZ.drew;have hB: ∀{w'} {Y:List Pr},Sat (Cells j E.BD [.int .u64 I.base,.int .i64 I.AD,.int .i64 I.state,.int .i64 I.cls,.bool I.Eh,.int .i64 I.elem,.int .i64 I.AO,.int .i64 I.used,.bool I.f8,.bool I.f9]::Y) w'->w'.cell? (Addr.mk j 0 none)=some (.int .u64 I.base)/\w'.cell? ((Addr.mk j 0 none).add 1)=some (.int .i64 I.AD):=λq=>⟨q.AW rfl,q.cell rfl⟩;have hA:=(CO (S:={S with fx:=X,sp:=sp'}) (g:={g with ids:=id::g.ids}) aA.tail).2.2.1;refine⟨_,hA,_,(hB aA).1,by decide,_,(hB aA).2,?_⟩;have e1:u64 (Int.tdiv I.base 8192)=page:=by rw[i1,Int.tdiv_eq_ediv_of_nonneg (by omega),show page*8192/8192=page by omega,AP]
  have e2:u64 I.AD=n:=by rw[i2,AP]
  rw[e1,e2];have a0:=aA.front 4 rfl;refine Zy hE a0 p0 (by omega) (by omega) (by omega) ⟨by omega,by omega,pb,λq q1 q2=>(hI.ks q).2 (hI.li q (Au.2 ⟨q1,q2⟩))⟩ λv a1=> ?_;have aE:Sat (Cells j E.BD [.int .u64 I.base,.int .i64 I.AD,.int .i64 I.state,.int .i64 I.cls,.bool I.Eh,.int .i64 I.elem,.int .i64 I.AO,.int .i64 I.used,.bool I.f8,.bool I.f9]::(Bf E h {S with fx:=X,sp:=sp',own:=λp=>if page<=p/\p<page+n then id else S.own p} {g with ids:=id::g.ids}++Z)) v:=
   Sat.back (Ps:=Cells j E.BD [.int .u64 I.base,.int .i64 I.AD,.int .i64 I.state,.int .i64 I.cls,.bool I.Eh,.int .i64 I.elem,.int .i64 I.AO,.int .i64 I.used,.bool I.f8,.bool I.f9]::(Bf E h {S with fx:=X,sp:=sp'} {g with ids:=id::g.ids}++Z)) 4 a1 (by simp[Bf])
  have aF:=aE.drew;have hP:=(CO (S:={S with fx:=X,sp:=sp',own:=λp=>if page<=p/\p<page+n then id else S.own p}) (g:={g with ids:=id::g.ids}) aF.tail).2.2.2.2.2.2.1;refine⟨(hB aE).2,(hB aE).1,_,hP,_,(hB aF).2,?_⟩;rw[e2];have bO:=hI.pg;have bM:=QE λp=>decide (0<S.own p);show stCells _ 0 [.int .u64 (u64 (S.AD+n))] _ _;rw[AP (n:=S.AD+n)];refine Af aF.tail (o:=0) (m:=70) rfl (by rw[fG];decide) λaI aM=> ?_;rw[Nat.zero_add,S4]at aM;have aP:=hI.EB Bl p0 (by omega) pb hr hX (x:=(b,I)) i1 i2 i3;refine hK id X hX aP aI (Sat.heap.2 ⟨{g with ids:=id::g.ids},⟨List.nodup_cons.2 ⟨aQ,aG.nd⟩,λi=> ?_⟩,?_⟩)
  .show i∈id::g.ids↔(if i=id then some (b,I)else S.sp i)≠none;rw[List.mem_cons,aG.mem]
   grind
  .subst hsp;exact aM
 have bk: ∀{X:FX} {w'},Sat (Gg E g.f X::(Bf E h S g++(Cm E b I::Z)).eraseIdx 4) w'->Sat (Bf E h {S with fx:=X} g++(Cm E b I::Z)) w':=λ{X w'} q=>Sat.back (Ps:=Bf E h S g++(Cm E b I::Z)) 4 q (by simp[Bf]);refine eX (H0.front 4 rfl) (by omega) (λhb w4 H4=> ?_) λa r hb w4 H4=> ?_
 .exact O _ _ (.inl ⟨hb,rfl,rfl⟩) w4 (bk H4)
 .exact O _ _ (.inr ⟨a,r,hb,rfl,rfl⟩) w4 (bk H4)
theorem Z7(hT: ∀w',Sat Z w'->Ec E.AH w')(H:Sat (Ax E h S::Z) w)(hI:HInv S no){p n c:Int}{np:Bool}(n0:0<=n)(n1:n<18446744073709551616){K:Int->Int->World->Prop}
  (T:Kc 0 n c-> ∀w',Sat (Ax E h S::Z) w'->K 0 1 w')
  (Y: ¬Kc 0 n c-> ∀S2,nE S p n S2->HInv S2 no-> ∀w',Sat (Ax E h S2::Z) w'->K 0 13 w')
  (aA: ¬Kc 0 n c-> ∀page S2 b id X,Found S p n page S2->HInv S2 (inr page n)->0<=page->page+n<=34359738368->Next S2 id X->HInv (S2.EB id (b,Gv page n c np) page n X) no-> ∀w',Sat (Ax E h (S2.EB id (b,Gv page n c np) page n X)::Z) w'->K id 0 w'):
  F.D5 E (sM h) p n c np K w:=by
 unfold F.D5 T0.D5;refine VA H (by decide) n0 n1 (λO w' H'=>Aa rfl (T O w' H')) λa b0 w3 H3=>AR rfl ?_;have hg:=a;unfold Kc at hg;have hn:1<=n/\n<=134217728:=by
  by_cases e:c=0
  .omega
  .have aJ:=RO (c:=c) (by omega) (by omega);omega
 refine fP hE hT H3.tail hI hn.1 hn.2 (λpage S2 hf j q0 q1 hr w6 v=>AR rfl ?_) λS2 hl j w6 v=>Aa rfl (Y a S2 hl j w6 v);refine VA v q0 n0 n1 (λO w' H'=> ?_) λ_ b w9 H9=> ?_
 .exfalso;unfold Kc at O;omega
 .refine fQ hE H9 j q0 hn.1 q1 hr rfl rfl (by show(1:Int)≠0;decide) λid X hX J aC u=>aA a page S2 b id X hf j q0 q1 hX J aC u
theorem fR(H:Sat (Ax E h S::Z) w)(hI:HInv S no){id:Int}{K:Int->World->Prop}(aZ:S.sp id=none->K 35 w)(a0: ∀x,S.sp id=some x->0<x.2.used->K 33 w)
  (a1: ∀x,∀a:Nat,S.sp id=some x-> ¬0<x.2.used->id=(a:Int)+1->HInv (S.free a (x.2.base/8192) x.2.AD) no-> ∀w',Sat (Ax E h (S.free a (x.2.base/8192) x.2.AD)::Z) w'->K 0 w'):
  F.Cg E (sM h) id K w:=by
 have Bl:=H.Bl;obtain⟨g,v,H⟩:=Sat.heap.1 H;unfold F.Cg T0.Cg;simp only[AK];refine⟨_,(CO (S:=S) (g:=g) H).2.2.2.2.1,Rz (H.front 5 rfl) λes _=> ?_⟩;unfold Dl;cases hs:S.sp id with
 | none=>exact⟨none,rfl,Aa rfl (aZ hs)⟩
 | some x=>
  refine⟨some ⟨x.1,0,none⟩,rfl,AR rfl ?_⟩;obtain⟨a,rfl,aX,aY⟩:=(hI.sf id).1 (by grind);obtain⟨k1,k2,k3,k4,k5⟩:=hI.sp _ x hs;have J:=hI.free Bl hs;have hm:(a:Int)+1∈g.ids:=(v.mem _).2 (by grind);obtain⟨i,hi⟩:=List.mem_iff_getElem?.1 hm;have H1:=(H.front 6 rfl).FQ hi;have e:spR E S.sp ((a:Int)+1)=Cm E x.1 x.2:=by unfold spR;rw[hs]
  rw[e]at H1;refine fD H1 (λaJ=> ?_) λaC w8 H8=>AR rfl ?_
  .rcases aJ with q|q
   .exact absurd q k4
   .exact Aa rfl (a0 x hs q)
  refine JS H8 λa4 aP=> ?_;have aE:=aP.tail;have a3: ∀q,x.2.base/8192<=q->q<x.2.base/8192+x.2.AD->S.own q=(a:Int)+1:=k5;have aM:=hI.ow (x.2.base/8192) (by grind);have aD:=hI.ow (x.2.base/8192+x.2.AD-1) (by grind);have l0:=Bl.tv.OZ _ aM.1;have l1:=Bl.tv.OZ _ aD.1;generalize hsp:(λi=>if i=(a:Int)+1 then none else S.sp i)=sp';have a2:(a:Int)+1∉g.ids.eraseIdx i:=λq=>by
   have a2:=(EH hi).nodup_iff.1 v.nd
   grind
  have aB:Aj (spR E S.sp) (g.ids.eraseIdx i)=Aj (spR E sp') (g.ids.eraseIdx i):=Aj.congr λj hj=>by
   rw[<-hsp];unfold spR
   grind
  rw[aB]at aE;have O:Sat ([Cells h E.Ab (BV g S.hint S.AD),B8 E g.m S.V,BG E g.t S.T,BR E g.a S.ks S.own,Gg E g.f S.fx,CM g.sm .i64 (Dl S.sp),Aj (spR E sp') (g.ids.eraseIdx i),Aj (λi:Nat=>A8 E (g.cb i) (S.ca i)) (List.range 64)]++Z) a4:=
   Sat.back (Ps:=[Cells h E.Ab (BV g S.hint S.AD),B8 E g.m S.V,BG E g.t S.T,BR E g.a S.ks S.own,Gg E g.f S.fx,CM g.sm .i64 (Dl S.sp),dD,Aj (λi:Nat=>A8 E (g.cb i) (S.ca i)) (List.range 64)]++Z) 6 aE (by simp)
  refine AJ (vs:=[.int .u64 0,.int .i64 0,.int .i64 0,.int .i64 0,.bool false,.int .i64 0,.int .i64 0,.int .i64 0,.bool false,.bool false]) O λbC bG O _=> ?_;refine Bm (news:=[.int .u64 x.2.base,.int .i64 x.2.AD,.int .i64 0,.int .i64 x.2.cls,.bool x.2.Eh,.int .i64 x.2.elem,.int .i64 x.2.AO,.int .i64 0,.bool x.2.f8,.bool x.2.f9]) O rfl (by simp[Value.oneCell']) λbH aQ=> ?_;have u:=aQ.drew;have hh: ∀{w'} {S':HS} {Y:List Pr},Sat (Cells h E.Ab (BV g S'.hint S'.AD)::Y) w'->w'.cell? ((Addr.mk h 0 none).add 1)=some (.pointer (sM g.t))/\w'.cell? ((Addr.mk h 0 none).add 2)=some (.pointer (sM g.a))/\w'.cell? ((Addr.mk h 0 none).add 3)=some (.pointer (sM g.f))/\w'.cell? ((Addr.mk h 0 none).add 4)=some (.map (some g.sm))/\w'.cell? ((Addr.mk h 0 none).add 70)=some (.int .u64 S'.AD):=λ{w' S' Y} q=>
   ⟨(CO (S:=S') (g:=g) q).2.1,(CO (S:=S') (g:=g) q).2.2.1,(CO (S:=S') (g:=g) q).2.2.2.1,(CO (S:=S') (g:=g) q).2.2.2.2.1,(CO (S:=S') (g:=g) q).2.2.2.2.2.2.1⟩
  refine⟨_,u.AW rfl,by decide,_,u.cell rfl,_,(hh (S':=S) u.tail).2.1,?_⟩;have e1:u64 (Int.tdiv x.2.base 8192)=x.2.base/8192:=by rw[Int.tdiv_eq_ediv_of_nonneg (by omega),AP]
  have e2:u64 x.2.AD=x.2.AD:=AP;simp only[e1,e2];generalize hpg:x.2.base/8192=page at *
  generalize hn:x.2.AD=n at *
  have aR:=u.tail;refine Zy hE (aR.front 3 rfl) l0.1 (by omega) (by omega) (by omega) ⟨by omega,Int.le_refl 0,by omega,λq q1 q2=>(hI.ks q).2 (hI.ow q (by grind)).1⟩ λa5 aS=> ?_;have aF:Sat ([Cells h E.Ab (BV g S.hint S.AD),B8 E g.m S.V,BG E g.t S.T,BR E g.a S.ks (λp=>if page<=p/\p<page+n then 0 else S.own p),Gg E g.f S.fx,CM g.sm .i64 (Dl S.sp),Aj (spR E sp') (g.ids.eraseIdx i),Aj (λi:Nat=>A8 E (g.cb i) (S.ca i)) (List.range 64)]++Z) a5:=
   Sat.back (Ps:=[Cells h E.Ab (BV g S.hint S.AD),B8 E g.m S.V,BG E g.t S.T,BR E g.a S.ks S.own,Gg E g.f S.fx,CM g.sm .i64 (Dl S.sp),Aj (spR E sp') (g.ids.eraseIdx i),Aj (λi:Nat=>A8 E (g.cb i) (S.ca i)) (List.range 64)]++Z) 3 aS (by simp)
  refine⟨_,(hh (S':=S) aF).1,?_⟩;refine Wu hE.toEnvS (aF.front 2 rfl) l0.1 (by omega) (by omega) (by omega) (λhb w' H'=> ?_) (λ_ hex w' H'=> ?_) λ_ _ a6 aT=> ?_
  .exact absurd ⟨by omega,by omega,λm q1 q2=>(hI.ow m (by grind)).1⟩ hb
  .obtain⟨m,q1,q2,q3⟩:=hex;have:=(hI.ow m (by grind)).2.1
   grind
  have aG:Sat ([Cells h E.Ab (BV g S.hint S.AD),B8 E g.m S.V,BG E g.t (S.T.WE page n),BR E g.a S.ks (λp=>if page<=p/\p<page+n then 0 else S.own p),Gg E g.f S.fx,CM g.sm .i64 (Dl S.sp),Aj (spR E sp') (g.ids.eraseIdx i),Aj (λi:Nat=>A8 E (g.cb i) (S.ca i)) (List.range 64)]++Z) a6:=
   Sat.back (Ps:=[Cells h E.Ab (BV g S.hint S.AD),B8 E g.m S.V,BG E g.t S.T,BR E g.a S.ks (λp=>if page<=p/\p<page+n then 0 else S.own p),Gg E g.f S.fx,CM g.sm .i64 (Dl S.sp),Aj (spR E sp') (g.ids.eraseIdx i),Aj (λi:Nat=>A8 E (g.cb i) (S.ca i)) (List.range 64)]++Z) 2 aT (by simp)
  refine⟨_,(hh (S':=S) aG).2.2.1,eY (aG.front 4 rfl) aX aY λa7 aU=> ?_⟩;have aH:Sat ([Cells h E.Ab (BV g S.hint S.AD),B8 E g.m S.V,BG E g.t (S.T.WE page n),BR E g.a S.ks (λp=>if page<=p/\p<page+n then 0 else S.own p),Gg E g.f ⟨S.fx.n,a::S.fx.bk⟩,CM g.sm .i64 (Dl S.sp),Aj (spR E sp') (g.ids.eraseIdx i),Aj (λi:Nat=>A8 E (g.cb i) (S.ca i)) (List.range 64)]++Z) a7:=
   Sat.back (Ps:=[Cells h E.Ab (BV g S.hint S.AD),B8 E g.m S.V,BG E g.t (S.T.WE page n),BR E g.a S.ks (λp=>if page<=p/\p<page+n then 0 else S.own p),Gg E g.f S.fx,CM g.sm .i64 (Dl S.sp),Aj (spR E sp') (g.ids.eraseIdx i),Aj (λi:Nat=>A8 E (g.cb i) (S.ca i)) (List.range 64)]++Z) 4 aU (by simp)
  have aN:0<=S.AD-n/\S.AD-n<18446744073709551616:=by
   have h1:=J.pgs;rw[show(S.free a page n).AD=S.AD-n from rfl]at h1;omega
  refine⟨_,(hh (S':=S) aH).2.2.2.2,?_⟩;rw[AP (n:=S.AD-n) aN.1 aN.2];refine Af aH (o:=0) (m:=70) rfl (by rw[fG];decide) λbI aA=> ?_;rw[Nat.zero_add,S4]at aA;refine⟨_,(hh (S':={S with AD:=S.AD-n}) aA).2.2.2.1,Qw (aA.front 5 rfl) λaO aV=> ?_⟩;have aL:=a1 x a hs (λq=>aC (.inr q)) rfl;rw[hpg,hn]at aL;refine aL J aO (Sat.heap.2 ⟨{g with ids:=g.ids.eraseIdx i},⟨?_,λj=> ?_⟩,?_⟩)
  .exact(List.nodup_cons.1 ((EH hi).nodup_iff.1 v.nd)).2
  .show j∈g.ids.eraseIdx i↔(if j=(a:Int)+1 then none else S.sp j)≠none;by_cases q:j=(a:Int)+1
   .grind
   .rw[if_neg q,<-v.mem];have:=(EH hi).mem_iff (a:=j)
    grind
  .have em:(λi=>if i=(a:Int)+1 then none else Dl S.sp i)=Dl sp':=funext λj=>by
    rw[<-hsp];unfold Dl;by_cases q:j=(a:Int)+1
    .grind
    grind
   have aI:Sat (CM g.sm .i64 (λi=>if i=(a:Int)+1 then none else Dl S.sp i)::([Cells h E.Ab (BV g S.hint (S.AD-n)),B8 E g.m S.V,BG E g.t (S.T.WE page n),BR E g.a S.ks (λp=>if page<=p/\p<page+n then 0 else S.own p),Gg E g.f ⟨S.fx.n,a::S.fx.bk⟩,CM g.sm .i64 (Dl S.sp),Aj (spR E sp') (g.ids.eraseIdx i),Aj (λi:Nat=>A8 E (g.cb i) (S.ca i)) (List.range 64)]++Z).eraseIdx 5) aO:=aV;rw[em]at aI;have aW:=Sat.back (Ps:=[Cells h E.Ab (BV g S.hint (S.AD-n)),B8 E g.m S.V,BG E g.t (S.T.WE page n),BR E g.a S.ks (λp=>if page<=p/\p<page+n then 0 else S.own p),Gg E g.f ⟨S.fx.n,a::S.fx.bk⟩,CM g.sm .i64 (Dl S.sp),Aj (spR E sp') (g.ids.eraseIdx i),Aj (λi:Nat=>A8 E (g.cb i) (S.ca i)) (List.range 64)]++Z) 5 aI (by simp);subst hsp;exact aW
end
end Go.Sh

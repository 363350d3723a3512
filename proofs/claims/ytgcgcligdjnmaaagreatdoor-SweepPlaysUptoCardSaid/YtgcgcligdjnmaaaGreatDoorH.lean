/- The heap: what holds of it, and what each function does to it. No further condition. -/
import Derived.Test.YtgcgcligdjnmaaaGreatDoorB
import Derived.Test.YtgcgcligdjnmaaaGreatDoorC
import Derived.Test.YtgcgcligdjnmaaaGreatDoorR
import Derived.Test.YtgcgcligdjnmaaaGreatDoorY
set_option linter.all false
set_option maxRecDepth 50000
set_option maxHeartbeats 2000000
namespace Go.Sh
def cI{E:Env}{w:World}{Z:List Pr}{c:Nat}{S:CS}(H:Sat (BE E c S::Z) w){K:Int->Int->Int->World->Prop}
  (j: ∀r0 r1 r2 w',(S.empty->r0=0/\r1=0/\r2=0)->(¬S.empty->r0=S.base/\r1=W S.has/\r2=W S.rel)->Sat (BE E c S::Z) w'->K r0 r1 r2 w'):F.DP E (some ⟨c,0,none⟩) K w:=
 bV H (λh=>j _ _ _ w (λ_=>⟨rfl,rfl,rfl⟩) (λd=>absurd h d) H) λh w' v=>j _ _ _ w' (λd=>absurd d h) (λ_=>⟨rfl,rfl,rfl⟩) v
structure HS where
 V:VS
 T:TV
 ca:Nat->CS
 ks:Iv
 own:Int->Int
 fx:FX
 sp:Int->Option (Nat×SI)
 hint:Int
 AA:Int
structure HG where
 m:Nat
 t:Nat
 a:Nat
 f:Nat
 sm:Nat
 cb:Nat->Nat
 ids:List Int
def j9(cb:Nat->Nat):List Value:=(List.range 64).map λi=>.pointer (some ⟨cb i,0,none⟩)
def B4(g:HG)(hint AA:Int):List Value:=.pointer (some ⟨g.m,0,none⟩):: .pointer (some ⟨g.t,0,none⟩):: .pointer (some ⟨g.a,0,none⟩):: .pointer (some ⟨g.f,0,none⟩):: .map (some g.sm)::(j9 g.cb++[.int .u64 hint,.int .u64 AA])
def EA(sp:Int->Option (Nat×SI)):Int->Option Value:=λid=>(sp id).map λx=>.pointer (some ⟨x.1,0,none⟩)
def spR(E:Env)(sp:Int->Option (Nat×SI))(id:Int):Pr:=match sp id with
 | some x=>C9 E x.1 x.2
 | none=>qY
def Ct(E:Env)(h:Nat)(S:HS)(g:HG):List Pr:=
 [Cells h E.Ae (B4 g S.hint S.AA),Cx E g.m S.V,Bi E g.t S.T,CK E g.a S.ks S.own,Gk E g.f S.fx,Dm g.sm .i64 (EA S.sp),Ad (spR E S.sp) g.ids,Ad (λi:Nat=>BE E (g.cb i) (S.ca i)) (List.range 64)]
structure cJ(S:HS)(g:HG):Prop where
 nd:g.ids.Nodup
 mem: ∀id,id∈g.ids↔S.sp id≠none
def BQ(E:Env)(h:Nat)(S:HS):Pr:=Ex λg:HG=>Jx (cJ S g) (NB (Ct E h S g))
def Iw(cb:Nat->Nat):(j9 cb).length=64:=by simp[j9]
def oQ(g:HG)(x y:Int){i:Nat}(d:i<64):(B4 g x y)[5+i]? =some (.pointer (some ⟨g.cb i,0,none⟩)):=by
 unfold B4;rw[show 5+i=i+1+1+1+1+1 by omega];simp only[List.getElem?_cons_succ];rw[List.getElem?_append_left (by rw[Iw];exact d)];simp[j9,d]
def tU(g:HG)(x y:Int):(B4 g x y)[69]? =some (.int .u64 x):=by
 unfold B4;rw[show 69=64+1+1+1+1+1 from rfl];simp only[List.getElem?_cons_succ];rw[List.getElem?_append_right (by rw[Iw];omega),Iw];rfl
def oR(g:HG)(x y:Int):(B4 g x y)[70]? =some (.int .u64 y):=by
 unfold B4;rw[show 70=65+1+1+1+1+1 from rfl];simp only[List.getElem?_cons_succ];rw[List.getElem?_append_right (by rw[Iw];decide),Iw];rfl
def cK(g:HG)(x y:Int):(B4 g x y).length=71:=by simp[B4,Iw]
def cL(g:HG)(x y z:Int):(B4 g x y).set 69 (.int .u64 z)=B4 g z y:=by
 unfold B4;rw[show 69=64+1+1+1+1+1 from rfl];simp only[List.set_cons_succ];rw[List.set_append_right _ _ (by rw[Iw];omega),Iw];rfl
def Rq(g:HG)(x y z:Int):(B4 g x y).set 70 (.int .u64 z)=B4 g x z:=by
 unfold B4;rw[show 70=65+1+1+1+1+1 from rfl];simp only[List.set_cons_succ];rw[List.set_append_right _ _ (by rw[Iw];decide),Iw];rfl
section
variable{E:Env}{h:Nat}{S:HS}{Z:List Pr}{w:World}{g:HG}
def Sat.heap:Sat (BQ E h S::Z) w↔ ∃g,cJ S g/\Sat (Ct E h S g++Z) w:=by
 unfold BQ;rw[Sat.ex];constructor
 .rintro⟨g,h⟩;rw[Sat.where,Sat.star]at h
  grind
 .rintro⟨g,h⟩;refine⟨g,?_⟩;rw[Sat.where,Sat.star];exact h
def Ca(H:Sat (Cells h E.Ae (B4 g S.hint S.AA)::Z) w):
  w.cell? (Addr.mk h 0 none)=some (.pointer (some ⟨g.m,0,none⟩))/\w.cell? ((Addr.mk h 0 none).add 1)=some (.pointer (some ⟨g.t,0,none⟩))/\w.cell? ((Addr.mk h 0 none).add 2)=some (.pointer (some ⟨g.a,0,none⟩))/\
  w.cell? ((Addr.mk h 0 none).add 3)=some (.pointer (some ⟨g.f,0,none⟩))/\w.cell? ((Addr.mk h 0 none).add 4)=some (.map (some g.sm))/\w.cell? ((Addr.mk h 0 none).add 69)=some (.int .u64 S.hint)/\w.cell? ((Addr.mk h 0 none).add 70)=some (.int .u64 S.AA)/\
  ∀i,i<64->w.cell? ((Addr.mk h 0 none).add (i+5))=some (.pointer (some ⟨g.cb i,0,none⟩)):=
 ⟨H.Ah rfl,H.cell rfl,H.cell rfl,H.cell rfl,H.cell rfl,H.cell (by rw[Nat.zero_add];exact tU g _ _),H.cell (by rw[Nat.zero_add];exact oR g _ _),λi d=>H.cell (by rw[Nat.zero_add,Nat.add_comm];exact oQ g _ _ d)⟩
def PE(H:Sat (BQ E h S::Z) w){id:Int}{K:Option Addr->Int->World->Prop}(d:S.sp id=none->K none 35 w)(j: ∀x,S.sp id=some x->K (some ⟨x.1,0,none⟩) 0 w):F.EC E (some ⟨h,0,none⟩) id K w:=by
 obtain⟨g,hI,H⟩:=Sat.heap.1 H;unfold F.EC;simp only[AG];refine⟨_,(Ca (S:=S) (g:=g) H).2.2.2.2.1,Ti (H.front 5 rfl) λes _=> ?_⟩;unfold EA;cases hs:S.sp id with
 | none=>exact⟨none,rfl,AU rfl (d hs)⟩
 | some x=>exact⟨_,rfl,AO rfl (j x hs)⟩
def Sat.Nu(H:Sat (BQ E h S::Z) w){id:Int}{x:Nat×SI}(j:S.sp id=some x): ∃R:List Pr,Sat (C9 E x.1 x.2::R) w/\ ∀{w'},Sat (C9 E x.1 x.2::R) w'->Sat (BQ E h S::Z) w':=by
 obtain⟨g,hI,H⟩:=Sat.heap.1 H;have hm:id∈g.ids:=(hI.mem id).2 (by grind);obtain⟨i,d⟩:=List.mem_iff_getElem?.1 hm;have H1:=(H.front 6 rfl).GG d;have e:spR E S.sp id=C9 E x.1 x.2:=by unfold spR;rw[j]
 rw[e]at H1;refine⟨_,H1,λ{w'} h'=>Sat.heap.2 ⟨g,hI,?_⟩⟩;rw[<-e]at h';have h2:=Sat.HW h' d;exact Sat.back (Ps:=Ct E h S g++Z) 6 h2 (by simp[Ct])
def oS(H:Sat (BQ E h S::Z) w){x:Int}(h0:0<=x)(v:x<18446744073709551616){K:Int->World->Prop}(j: ∀w',Sat (BQ E h S::Z) w'->K (S.own (x/8192)) w'):F.Ft E (some ⟨h,0,none⟩) x K w:=by
 obtain⟨g,hI,H⟩:=Sat.heap.1 H;unfold F.Ft T0.Ft;simp only[AG];refine⟨_,(Ca (S:=S) (g:=g) H).2.2.1,tR (H.front 3 rfl) h0 v λw' d=>j w' (Sat.heap.2 ⟨g,hI,?_⟩)⟩;exact Sat.back (Ps:=Ct E h S g++Z) 3 d (by simp[Ct])
def tV{p:Int}{K:Bool->World->Prop}(d:K (decide (0<=p/\p<64)) w):F.Py E p K w:=by
 unfold F.Py;refine AB (λh=> ?_) λh=> ?_
 .have:decide (p<64)=decide (0<=p/\p<64):=decide_eq_decide.2 (by omega)
  grind
 .rw[decide_eq_false (by omega)]at d;exact d
def Sat.gJ(H:Sat (Ct E h S g++Z) w){i:Nat}(j:i<64): ∃R,Sat (BE E (g.cb i) (S.ca i)::R) w/\ ∀{w'},Sat (BE E (g.cb i) (S.ca i)::R) w'->Sat (Ct E h S g++Z) w':=by
 have d:(List.range 64)[i]? =some i:=List.getElem?_range j;refine⟨_,(H.front 7 rfl).GG d,λ{w'} h'=> ?_⟩;exact Sat.back (Ps:=Ct E h S g++Z) 7 (Sat.HW h' d) (by simp[Ct])
def kA(cb:Nat->Nat){i:Nat}(d:i<64):List.getD ((List.range 64).map λi=>some (Addr.mk (cb i) 0 none)) i none=some ⟨cb i,0,none⟩:=by
 rw[List.getD_eq_getElem?_getD,List.getElem?_map,List.getElem?_range d];rfl
variable(hE:EnvA E)
include hE
end
def vO{u v z:Int->Bool}: ∀n:Nat,(∀k:Int,0<=k->k<n->z k=(u k||v k))->(∀k:Int,0<=k->k<n-> ¬(u k=true/\v k=true))->cu z n=cu u n+cu v n
 | 0,_,_=>rfl
 | n+1,h1,h2=>by
  simp only[cu];rw[vO n (λk a b=>h1 k a (by omega)) λk a b=>h2 k a (by omega),h1 n (by omega) (by omega)]
  grind
def Ys{u v:Int->Bool}: ∀n:Nat,(∀k:Int,0<=k->k<n->u k=v k)->cu u n=cu v n
 | 0,_=>rfl
 | n+1,h=>by simp only[cu];rw[Ys n λk a b=>h k a (by omega),h n (by omega) (by omega)]
def cP(f:Int->Bool):Int:=cr f 0 34359738368
def Yt{f g:Int->Bool}(h: ∀p,0<=p->p<34359738368->f p=g p):cP f=cP g:=by
 unfold cP cr;exact Ys _ λk a b=>h _ (by omega) (by omega)
def QK{f g h:Int->Bool}(d: ∀p,h p=(f p||g p))(hd: ∀p,f p=true->g p=true->False):cP h=cP f+cP g:=by
 unfold cP cr;exact vO _ (λk _ _=>d _) λk _ _ e=>hd _ e.1 e.2
def Lr(f:Int->Bool):0<=cP f/\cP f<=34359738368:=by
 unfold cP;exact xU f 0 (by decide)
def UI{f:Int->Bool}{l:Iv}(h:Ok l)(j: ∀p,mem l p↔f p=true)(d: ∀p,f p=true->p<34359738368):cP f=Gn l:=by
 unfold cP;rw[bT h j (by decide)];exact LX h.aZ λn v=>⟨Pl h v,by have:=d n ((j n).1 v);omega⟩
def cP_NT{f:Int->Bool}{l:Iv}(h:Ok l)(j: ∀p,mem l p↔f p=true)(d: ∀p,f p=true->p<34359738368):NT f=cP f:=by
 rw[YT h j,UI h j d]
def QL{f:Int->Bool}(h: ∀p,f p=false):cP f=0:=by
 unfold cP;exact tL λm _ _=>h m
def UJ{x n:Int}(h0:0<=x)(v:0<=n)(j:x+n<=34359738368):cP (inr x n)=n:=by
 by_cases e:n=0
 .subst e;exact QL λp=>IJ.2 (by omega)
 .rw[UI (l:=[(x,x+n)]) ⟨h0,by omega,by omega,λq d=>(by cases d),trivial⟩ (λp=> ?_) λp hp=>by have:=Ai.1 hp;omega]
  .show x+n-x+0=n;omega
  .rw[Ai,mem_cons];exact⟨λh=>h.elim (λh=>h) λh=>absurd h (Bt p),λh=>.inl h⟩
def Wy{f g:Int->Bool}(h: ∀p,f p=true->g p=true):cP f<=cP g:=by
 have e:cP g=cP f+cP (λp=>g p&& !f p):=QK (λp=>by cases hf:f p<;>cases hg:g p<;>simp;grind) λp a b=>by grind
 have:=Lr λp=>g p&& !f p;omega
def yA{f:Int->Bool}{p:Int}(hp:f p=true)(h0:0<=p)(h1:p<34359738368):1<=cP f:=by
 have:=Wy (f:=inr p 1) (g:=f) λq d=>by
  have:=Ai.1 d
  grind
 rw[UJ h0 (by decide) (by omega)]at this;exact this
def oT{u:Nat->Bool}{B:Int}(h0:0<=B)(h1:B+64<=34359738368):cP (λp=>inr B 64 p&&u (p-B).toNat)=cN u 64:=by
 have key: ∀n:Nat,n<=64->cP (λp=>inr B n p&&u (p-B).toNat)=cN u n:=by
  intro n
  induction n with
  | zero=>intro _;exact QL λp=>by rw[IJ.2 (by omega)];rfl
  | succ n ih=>
   intro d;simp only[cN];rw[QK (f:=λp=>inr B n p&&u (p-B).toNat) (g:=λp=>inr (B+n) 1 p&&u n) (λp=> ?_) λp a b=> ?_,ih (by omega)]
   .have e:cP (λp=>inr (B+n) 1 p&&u n)=((u n).toNat:Nat):=by
     cases hu:u n
     .rw[QL λp=>by simp];rfl
     .rw[show(λp=>inr (B+n) 1 p&&true)=inr (B+n) 1 from funext λp=>by simp,UJ (by omega) (by decide) (by omega)];rfl
    rw[e];simp
   .have e:inr B ((n+1:Nat):Int) p=(inr B n p||inr (B+n) 1 p):=by rw[Bool.eq_iff_iff,Bool.or_eq_true,Ai,Ai,Ai];omega
    rw[e];cases h1:inr B n p
    .cases h2:inr (B+n) 1 p
     .rfl
     .have:=Ai.1 h2;rw[show(p-B).toNat=n by omega];simp
    .have:=Ai.1 h1;rw[show inr (B+n) 1 p=false from IJ.2 (by omega)];simp
   .rw[Bool.and_eq_true]at a b;have h1:=Ai.1 a.1;have h2:=Ai.1 b.1;omega
 exact key 64 (Nat.le_refl _)
def PF:Iv->Iv
 | []=>[]
 | p::r=>(p.1*512,p.2*512)::PF r
def UK{q:Int×Int}: ∀{l:Iv},q∈PF l-> ∃p∈l,q=(p.1*512,p.2*512)
 | p::r,h=>by
  rcases List.mem_cons.1 h with h|h
  .exact⟨p,List.mem_cons_self,h⟩
  .obtain⟨d,h1,h2⟩:=UK h;exact⟨d,List.mem_cons_of_mem _ h1,h2⟩
def Vz: ∀{l:Iv},Ok l->(∀q∈l,q.2<=67108864)->Ok (PF l)
 | [],_,_=>trivial
 | p::r,h,hb=>by
  obtain⟨h0,h1,h2,v,y⟩:=h;have:=hb p List.mem_cons_self;refine⟨by show 0<=p.1*512;omega,by show p.1*512<p.2*512;omega,by show p.2*512<_;omega,λq d=> ?_,Vz y λq d=>hb q (List.mem_cons_of_mem _ d)⟩;obtain⟨j,g1,rfl⟩:=UK d;have:=v j g1;show p.2*512<j.1*512;omega
def cM{l:Iv}{p:Int}:mem (PF l) p↔mem l (p/512):=by
 induction l with
 | nil=>exact⟨λh=>absurd h (Bt _),λh=>absurd h (Bt _)⟩
 | cons q r ih=>
  show mem ((q.1*512,q.2*512)::PF r) p↔_;rw[mem_cons,mem_cons,ih];show(q.1*512<=p/\p<q.2*512)∨_↔_;have:(q.1*512<=p/\p<q.2*512)↔(q.1<=p/512/\p/512<q.2):=by omega
  rw[this]
def cO(l:Iv):Gn (PF l)=Gn l*512:=by
 induction l with
 | nil=>rfl
 | cons q r ih=>
  show q.2*512-q.1*512+Gn (PF r)=(q.2-q.1+Gn r)*512;rw[ih];omega
def kB{ks:Iv}(h:Ok ks){f:Int->Bool}(hf: ∀p,mem ks (p/512)↔f p=true)(d: ∀p,f p=true->p<34359738368):cP f=Gn ks*512:=by
 rw[<-cO];refine UI (Vz h λq j=> ?_) (λp=>cM.trans (hf p)) d;have h1:=h.mem j;have:=d ((q.2-1)*512) ((hf _).1 ⟨q,j,by omega,by omega⟩);omega
end Go.Sh
namespace Go.Sh
def no:Int->Bool:=λ_=>false
def any64{f:Nat->Bool}:(List.range 64).any f=true↔ ∃i,i<64/\f i=true:=by grind
def HS.RC(S:HS)(p:Int):Bool:=(List.range 64).any λi=>(S.ca i).own p
def HS.gone(S:HS)(p:Int):Bool:=S.T.rl p||(List.range 64).any λi=>(S.ca i).QA p
def HM{S:HS}{p:Int}:S.RC p=true↔ ∃i,i<64/\(S.ca i).own p=true:=any64
def Gw{S:HS}{p:Int}:S.gone p=true↔S.T.rl p=true∨ ∃i,i<64/\(S.ca i).QA p=true:=by
 unfold HS.gone
 grind
structure Jw(S:HS):Prop where
 tv:T6 S.T
 vv:VH S.V
 ci: ∀i,i<64->P9 (S.ca i)
 ok:Ok S.ks
 fx:Yl S.fx
def Sat.A2{E:Env}{h:Nat}{S:HS}{Z:List Pr}{w:World}(H:Sat (BQ E h S::Z) w):Jw S:=by
 obtain⟨g,hI,H⟩:=Sat.heap.1 H;refine⟨(H.front 2 rfl).tvok,(H.front 1 rfl).vok,λi d=> ?_,(H.front 3 rfl).tQ,?_⟩
 .obtain⟨R,h1,_⟩:=H.gJ d;exact(Sat.cache.1 h1).1
 .obtain⟨_,_,_,h1,_⟩:=Sat.fix.1 (H.front 4 rfl);exact h1
structure BN(S:HS)(fl:Int->Bool):Prop where
 cr: ∀i,i<64-> ∀p,(S.ca i).own p=true->S.T.KW p=true/\S.T.fr p=false/\S.own p=0/\fl p=false
 cd: ∀i j p,i<64->j<64->(S.ca i).own p=true->(S.ca j).own p=true->i=j
 fn: ∀p,S.T.fr p=true->S.own p=0/\fl p=false
 ow: ∀p,0<S.own p->S.T.KW p=true/\S.T.fr p=false/\fl p=false/\ ∃x,S.sp (S.own p)=some x/\x.2.base/8192<=p/\p<x.2.base/8192+x.2.AA
 o0: ∀p,0<=S.own p
 li: ∀p,fl p=true->S.T.KW p=true
 cv: ∀p,S.T.KW p=true->S.T.fr p=true∨S.RC p=true∨0<S.own p∨fl p=true
 ks: ∀p,mem S.ks (p/512)↔S.T.KW p=true
 la: ∀p,mem S.V.laid p↔S.T.KW p=true
 rd: ∀p,fl p=false->(mem S.V.ready p↔S.T.KW p=true/\S.gone p=false)
 sp: ∀id x,S.sp id=some x->0<id/\x.2.base %8192=0/\0<x.2.AA/\x.2.state≠0/\ ∀p,x.2.base/8192<=p->p<x.2.base/8192+x.2.AA->S.own p=id
 sf: ∀id,S.sp id≠none↔ ∃a:Nat,id=(a:Int)+1/\a<S.fx.n/\a∉S.fx.bk
 fb:S.fx.n<=34359738368
 pg:S.AA=cP λp=>decide (0<S.own p)
 h0:0<=S.hint
 h1:S.hint<=34359738368
def QM{C:CS}{p:Int}:C.own p=true↔(C.base<=p/\p<C.base+64)/\C.has (p-C.base).toNat=true:=by
 unfold CS.own;rw[Bool.and_eq_true,Ai]
def QN{C:CS}{p:Int}:C.QA p=true↔(C.base<=p/\p<C.base+64)/\C.rel (p-C.base).toNat=true:=by
 unfold CS.QA;rw[Bool.and_eq_true,Ai]
def MC{C:CS}(h:P9 C){p:Int}(hp:C.QA p=true):C.own p=true:=by
 rw[QN]at hp;exact QM.2 ⟨hp.1,h.rh _ hp.2⟩
def Wz{C:CS}(h:C.empty)(p:Int):C.own p=false:=by
 unfold CS.own;rw[h];simp
def gK(p:Int):CS.nil.own p=false:=Wz (λ_=>rfl) p
def GC{b:Bool}(h: ¬b=true):b=false:=by cases b;rfl;grind
def E4{b:Bool}(h:b=false): ¬b=true:=by grind
def ON{T:TV}{x n p:Int}:(T.take x n).fr p=true↔T.fr p=true/\ ¬(x<=p/\p<x+n):=by
 show(T.fr p&& !inr x n p)=true↔_;rw[Bool.and_eq_true,<-Ai];grind
def QO{T:TV}{x n p:Int}:(T.take x n).rl p=true↔T.rl p=true/\ ¬(x<=p/\p<x+n):=by
 show(T.rl p&& !inr x n p)=true↔_;rw[Bool.and_eq_true,<-Ai];grind
def filled(T:TV)(q:Int):CS:=⟨q/64*64,λi=>decide (i<64)&&T.fr (q/64*64+i),λi=>decide (i<64)&&T.rl (q/64*64+i)⟩
def HS.setca(S:HS)(i:Nat)(c:CS):HS:={S with ca:=λj=>if j=i then c else S.ca j}
def HS.fill(S:HS)(i:Nat)(q:Int):HS:={S with T:=S.T.take (q/64*64) 64,ca:=λj=>if j=i then filled S.T q else S.ca j}
def UL{T:TV}{q p:Int}:(filled T q).own p=true↔(q/64*64<=p/\p<q/64*64+64)/\T.fr p=true:=by
 rw[QM];show(q/64*64<=p/\p<q/64*64+64)/\(decide _&&T.fr _)=true↔_;constructor
 .rintro⟨h1,h2⟩;rw[Bool.and_eq_true]at h2;have d:=h2.2;have e:q/64*64+((p-q/64*64).toNat:Int)=p:=by omega
  refine⟨h1,?_⟩;rw[<-e];exact d
 .rintro⟨h1,h2⟩;refine⟨h1,?_⟩;rw[Bool.and_eq_true];have e:q/64*64+((p-q/64*64).toNat:Int)=p:=by omega
  exact⟨decide_eq_true (show(p-q/64*64).toNat<64 by omega),by show T.fr (q/64*64+((p-q/64*64).toNat:Int))=true;grind⟩
def Rr{T:TV}{q p:Int}:(filled T q).QA p=true↔(q/64*64<=p/\p<q/64*64+64)/\T.rl p=true:=by
 rw[QN];show(q/64*64<=p/\p<q/64*64+64)/\(decide _&&T.rl _)=true↔_;constructor
 .rintro⟨h1,h2⟩;rw[Bool.and_eq_true]at h2;have d:=h2.2;have e:q/64*64+((p-q/64*64).toNat:Int)=p:=by omega
  refine⟨h1,?_⟩;rw[<-e];exact d
 .rintro⟨h1,h2⟩;refine⟨h1,?_⟩;rw[Bool.and_eq_true];have e:q/64*64+((p-q/64*64).toNat:Int)=p:=by omega
  exact⟨decide_eq_true (show(p-q/64*64).toNat<64 by omega),by show T.rl (q/64*64+((p-q/64*64).toNat:Int))=true;grind⟩
variable{S:HS}{fl:Int->Bool}
def BN.fill(hI:BN S no)(hk:Jw S){i:Nat}(hi:i<64)(he:(S.ca i).empty)(q:Int):BN (S.fill i q) no:=by
 have d: ∀p,(S.T.take (q/64*64) 64).fr p=true↔S.T.fr p=true/\ ¬(q/64*64<=p/\p<q/64*64+64):=λp=>ON;have J: ∀p,(S.T.take (q/64*64) 64).rl p=true↔S.T.rl p=true/\ ¬(q/64*64<=p/\p<q/64*64+64):=λp=>QO;have v: ∀j p,((S.fill i q).ca j).own p=true->(j=i/\(q/64*64<=p/\p<q/64*64+64)/\S.T.fr p=true)∨(j≠i/\(S.ca j).own p=true):=λj p h=>by
  have h:(if j=i then filled S.T q else S.ca j).own p=true:=h;by_cases e:j=i
  .rw[if_pos e]at h;exact .inl ⟨e,UL.1 h⟩
  grind
 have K:(S.fill i q).ca i=filled S.T q:=if_pos rfl;have Y: ∀j,j≠i->(S.fill i q).ca j=S.ca j:=λj h=>if_neg h;refine⟨λj y p hp=> ?_,λa b p ha hb h1 h2=> ?_,λp hp=>hI.fn p ((d p).1 hp).1,λp hp=> ?_,hI.o0,λp hp=>(by cases hp),λp hp=> ?_,hI.ks,hI.la,λp _=> ?_,hI.sp,hI.sf,hI.fb,hI.pg,hI.h0,hI.h1⟩
 .rcases v j p hp with ⟨_,h1,h2⟩|⟨e,h1⟩
  .exact⟨hk.tv.fi p h2,GC λh=>((d p).1 h).2 h1,(hI.fn p h2).1,rfl⟩
  .obtain⟨g1,g2,g3,g4⟩:=hI.cr j y p h1;exact⟨g1,GC λh=>(E4 g2) ((d p).1 h).1,g3,g4⟩
 .rcases v a p h1 with ⟨ea,g1,g2⟩|⟨ea,g1⟩<;>rcases v b p h2 with ⟨eb,O,k2⟩|⟨eb,O⟩
  .omega
  .exact absurd g2 (E4 (hI.cr b hb p O).2.1)
  .exact absurd k2 (E4 (hI.cr a ha p g1).2.1)
  .exact hI.cd a b p ha hb g1 O
 .obtain⟨g1,g2,g3,g4⟩:=hI.ow p hp;exact⟨g1,GC λh=>(E4 g2) ((d p).1 h).1,g3,g4⟩
 .rcases hI.cv p hp with h|h|h|h
  .by_cases g:q/64*64<=p/\p<q/64*64+64
   .refine .inr (.inl (HM.2 ⟨i,hi,?_⟩));rw[K];exact UL.2 ⟨g,h⟩
   .exact .inl ((d p).2 ⟨h,g⟩)
  .obtain⟨j,y,h⟩:=HM.1 h;refine .inr (.inl (HM.2 ⟨j,y,?_⟩));rw[Y j λe=>by rw[e,Wz he]at h;cases h];exact h
  .exact .inr (.inr (.inl h))
  grind
 .have e0:=hI.rd p rfl;have:(S.fill i q).gone p=S.gone p:=by
   rw[Bool.eq_iff_iff,Gw,Gw];constructor
   .rintro(h|⟨j,y,h⟩)
    .exact .inl ((J p).1 h).1
    .by_cases e:j=i
     .rw[e,K]at h;exact .inl (Rr.1 h).2
     grind
   .rintro(h|⟨j,y,h⟩)
    .by_cases g:q/64*64<=p/\p<q/64*64+64
     .refine .inr ⟨i,hi,?_⟩;rw[K];exact Rr.2 ⟨g,h⟩
     .exact .inl ((J p).2 ⟨h,g⟩)
    .refine .inr ⟨j,y,?_⟩;rw[Y j λe=>by have:=MC (hk.ci j y) h;rw[e,Wz he]at this;cases this];exact h
  rw[this];exact e0
def HS.JJ(S:HS)(i k n:Nat):HS:=S.setca i ((S.ca i).alloc k n)
def HS.Fp(S:HS)(page n:Int):HS:={S with T:=S.T.take page n}
def V0{C:CS}{k n:Nat}{p:Int}(hk:k+n<=64):(C.alloc k n).own p=true↔C.own p=true/\ ¬(C.base+k<=p/\p<C.base+k+n):=by
 rw[QM,QM];show(C.base<=p/\p<C.base+64)/\(C.has (p-C.base).toNat&& !(decide (k<=(p-C.base).toNat)&&decide ((p-C.base).toNat<k+n)))=true↔_;constructor
 .rintro⟨h1,h2⟩;rw[Bool.and_eq_true]at h2;refine⟨⟨h1,h2.1⟩,λj=> ?_⟩;have d:=h2.2;rw[decide_eq_true (show k<=(p-C.base).toNat by omega),decide_eq_true (show(p-C.base).toNat<k+n by omega)]at d;cases d
 grind
def UM{C:CS}{k n:Nat}{p:Int}(hk:k+n<=64):(C.alloc k n).QA p=true↔C.QA p=true/\ ¬(C.base+k<=p/\p<C.base+k+n):=by
 rw[QN,QN];show(C.base<=p/\p<C.base+64)/\(C.rel (p-C.base).toNat&& !(decide (k<=(p-C.base).toNat)&&decide ((p-C.base).toNat<k+n)))=true↔_;constructor
 .rintro⟨h1,h2⟩;rw[Bool.and_eq_true]at h2;refine⟨⟨h1,h2.1⟩,λj=> ?_⟩;have d:=h2.2;rw[decide_eq_true (show k<=(p-C.base).toNat by omega),decide_eq_true (show(p-C.base).toNat<k+n by omega)]at d;cases d
 grind
def BN.JJ(hI:BN S no)(hk:Jw S){i:Nat}(O:i<64){k n:Nat}(hr:Jp (S.ca i).has k n)(y:k+n<=64):BN (S.JJ i k n) (inr ((S.ca i).base+k) n):=by
 have v: ∀p,(S.ca i).base+k<=p->p<(S.ca i).base+k+n->(S.ca i).own p=true:=λp h1 h2=>by
  refine QM.2 ⟨by omega,?_⟩;have:=hr ((p-(S.ca i).base).toNat-k) (by omega)
  grind
 have K:(S.JJ i k n).ca i=(S.ca i).alloc k n:=if_pos rfl;have e2: ∀j,j≠i->(S.JJ i k n).ca j=S.ca j:=λj h=>if_neg h;have d: ∀j p,((S.JJ i k n).ca j).own p=true->(S.ca j).own p=true/\(j=i-> ¬((S.ca i).base+k<=p/\p<(S.ca i).base+k+n)):=λj p h=>by
  by_cases e:j=i
  .subst e;rw[K,V0 y]at h;grind
  grind
 refine⟨λj J p hp=> ?_,λa b p Y hb h1 h2=>hI.cd a b p Y hb (d a p h1).1 (d b p h2).1,λp hp=> ?_,λp hp=> ?_,hI.o0,λp hp=> ?_,λp hp=> ?_,hI.ks,hI.la,λp hp=> ?_,hI.sp,hI.sf,hI.fb,hI.pg,hI.h0,hI.h1⟩
 .obtain⟨h1,h2⟩:=d j p hp;obtain⟨g1,g2,g3,g4⟩:=hI.cr j J p h1;refine⟨g1,g2,g3,IJ.2 λh=> ?_⟩;have:=hI.cd j i p J O h1 (v p h.1 h.2);omega
 .exact⟨(hI.fn p hp).1,IJ.2 λh=>by have:=(hI.cr i O p (v p h.1 h.2)).2.1;rw[show S.T.fr p=true from hp]at this;cases this⟩
 .obtain⟨g1,g2,g3,g4⟩:=hI.ow p hp;exact⟨g1,g2,IJ.2 λh=>by have:=(hI.cr i O p (v p h.1 h.2)).2.2.1;have hp:0<S.own p:=hp;omega,g4⟩
 .have h:=Ai.1 hp;exact(hI.cr i O p (v p h.1 h.2)).1
 .rcases hI.cv p hp with h|h|h|h
  .exact .inl h
  .obtain⟨j,J,h⟩:=HM.1 h;by_cases g:(S.ca i).base+k<=p/\p<(S.ca i).base+k+n
   .exact .inr (.inr (.inr (Ai.2 g)))
   .refine .inr (.inl (HM.2 ⟨j,J,?_⟩));by_cases e:j=i
    .subst e;rw[K,V0 y];grind
    grind
  .exact .inr (.inr (.inl h))
  .cases h
 .have hp:=IJ.1 hp;have e:=hI.rd p rfl;have:(S.JJ i k n).gone p=S.gone p:=by
   rw[Bool.eq_iff_iff,Gw,Gw];constructor
   .rintro(h|⟨j,J,h⟩)
    .exact .inl h
    .refine .inr ⟨j,J,?_⟩;by_cases e:j=i
     .subst e;rw[K,UM y]at h;exact h.1
     grind
   .rintro(h|⟨j,J,h⟩)
    .exact .inl h
    .refine .inr ⟨j,J,?_⟩;by_cases e:j=i
     .subst e;rw[K,UM y];grind
     grind
  rw[this];exact e
def BN.Fp(hI:BN S no)(hk:Jw S){page n:Int}(y:LO S.T.fr page n):BN (S.Fp page n) (inr page n):=by
 have d: ∀p,(S.T.take page n).fr p=true↔S.T.fr p=true/\ ¬(page<=p/\p<page+n):=λp=>ON;have v: ∀p,(S.T.take page n).rl p=true↔S.T.rl p=true/\ ¬(page<=p/\p<page+n):=λp=>QO;refine⟨λj J p hp=> ?_,hI.cd,λp hp=> ?_,λp hp=> ?_,hI.o0,λp hp=> ?_,λp hp=> ?_,hI.ks,hI.la,λp hp=> ?_,hI.sp,hI.sf,hI.fb,hI.pg,hI.h0,hI.h1⟩
 .obtain⟨g1,g2,g3,g4⟩:=hI.cr j J p hp;exact⟨g1,GC λh=>(E4 g2) ((d p).1 h).1,g3,IJ.2 λh=>(E4 g2) (y p h.1 h.2)⟩
 .obtain⟨h1,h2⟩:=(d p).1 hp;exact⟨(hI.fn p h1).1,IJ.2 h2⟩
 .obtain⟨g1,g2,g3,g4⟩:=hI.ow p hp;exact⟨g1,GC λh=>(E4 g2) ((d p).1 h).1,IJ.2 λh=>(E4 g2) (y p h.1 h.2),g4⟩
 .have h:=Ai.1 hp;exact hk.tv.fi p (y p h.1 h.2)
 .rcases hI.cv p hp with h|h|h|h
  .by_cases g:page<=p/\p<page+n
   .exact .inr (.inr (.inr (Ai.2 g)))
   .exact .inl ((d p).2 ⟨h,g⟩)
  .exact .inr (.inl h)
  .exact .inr (.inr (.inl h))
  .cases h
 .have hp:=IJ.1 hp;have e:=hI.rd p rfl;have:(S.Fp page n).gone p=S.gone p:=by
   rw[Bool.eq_iff_iff,Gw,Gw];constructor
   .rintro(h|h)
    .exact .inl ((v p).1 h).1
    .exact .inr h
   .rintro(h|h)
    .exact .inl ((v p).2 ⟨h,hp⟩)
    .exact .inr h
  rw[this];exact e
def BN.tW(hI:BN S fl){V:VS}(h1:V.laid=S.V.laid)(h2:V.ready=S.V.ready):BN {S with V:=V} fl:=
 ⟨hI.cr,hI.cd,hI.fn,hI.ow,hI.o0,hI.li,hI.cv,hI.ks,λp=>by rw[<-hI.la,<-h1],λp hp=>(show _=_ from congrArg (λl=>Go.Sh.mem l p) h2)▸hI.rd p hp,hI.sp,hI.sf,hI.fb,hI.pg,hI.h0,hI.h1⟩
def BN.PG(hI:BN S fl)(hk:Jw S){page n:Int}(h0:0<=page)(y:0<n)(v:page+n<=34359738368)(d: ∀p,page<=p->p<page+n->fl p=true):BN {S with V:=IY S.V page n} fl:=by
 have j: ∀p,Go.Sh.mem (Dt S.V.ready page (page+n)) p↔Go.Sh.mem S.V.ready p∨(page<=p/\p<page+n):=λp=>EW hk.vv.Ol (by omega) h0 (by omega) p;refine⟨hI.cr,hI.cd,hI.fn,hI.ow,hI.o0,hI.li,hI.cv,hI.ks,hI.la,λp hp=> ?_,hI.sp,hI.sf,hI.fb,hI.pg,hI.h0,hI.h1⟩;refine Iff.trans (j p) ?_;refine Iff.trans ⟨λh=>h.elim (λh=>h) λh=> ?_,λh=>.inl h⟩ (hI.rd p hp);have:=d p h.1 h.2
 grind
def W4(hk:Jw S){page n:Int}(h0:0<=page)(j:0<n)(d:page+n<=34359738368): ∀p,page<=p->p<page+n->mem (IY S.V page n).ready p:=λp h1 h2=>
 (EW hk.vv.Ol (by omega) h0 (by omega) p).2 (.inr ⟨h1,h2⟩)
def HS.grown(S:HS)(V:VS)(at_ N:Int):HS:={S with V:=V,T:=S.T.grow (at_/512) (N/512),ks:=Dt S.ks (at_/512) ((at_+N)/512),hint:=at_+N}
def BN.grown(hI:BN S no)(hk:Jw S){V:VS}{at_ N:Int}(h0:0<=at_)(hn:0<N)(O:at_+N<=34359738368)(m1:at_ %512=0)(m2:N %512=0)(J: ∀p,at_<=p->p<at_+N->S.T.KW p=false)
  (hl:V.laid=Dt S.V.laid at_ (at_+N))(hr:V.ready=S.V.ready):BN (S.grown V at_ N) no:=by
 have ma: ∀p,Go.Sh.mem (Dt S.V.laid at_ (at_+N)) p↔Go.Sh.mem S.V.laid p∨(at_<=p/\p<at_+N):=λp=>EW hk.vv.Le (by omega) h0 (by omega) p;have mk: ∀p,Go.Sh.mem (Dt S.ks (at_/512) ((at_+N)/512)) p↔Go.Sh.mem S.ks p∨(at_/512<=p/\p<(at_+N)/512):=λp=>EW hk.ok (by omega) (by omega) (by omega) p;have e: ∀p,inr (at_/512*512) (N/512*512) p=true↔at_<=p/\p<at_+N:=λp=>by rw[Ai];omega
 have d: ∀p,(S.grown V at_ N).T.KW p=true↔S.T.KW p=true∨(at_<=p/\p<at_+N):=λp=>by
  show(S.T.KW p||inr (at_/512*512) (N/512*512) p)=true↔_
  grind
 have v: ∀p,(S.grown V at_ N).T.fr p=true↔S.T.fr p=true∨(at_<=p/\p<at_+N):=λp=>by
  show(S.T.fr p||inr (at_/512*512) (N/512*512) p)=true↔_
  grind
 have K: ∀p,(S.grown V at_ N).T.rl p=true↔S.T.rl p=true∨(at_<=p/\p<at_+N):=λp=>by
  show(S.T.rl p||inr (at_/512*512) (N/512*512) p)=true↔_
  grind
 have y: ∀p,S.T.KW p=true-> ¬(at_<=p/\p<at_+N):=λp h g=>by grind
 refine⟨λj Y p hp=> ?_,hI.cd,λp hp=> ?_,λp hp=> ?_,hI.o0,λp hp=>(by cases hp),λp hp=> ?_,λp=> ?_,λp=> ?_,λp hp=> ?_,hI.sp,hI.sf,hI.fb,hI.pg,by show 0<=at_+N;omega,O⟩
 .obtain⟨g1,g2,g3,g4⟩:=hI.cr j Y p hp;exact⟨(d p).2 (.inl g1),GC λh=>((v p).1 h).elim (E4 g2) (y p g1),g3,g4⟩
 .rcases(v p).1 hp with h|h
  .exact hI.fn p h
  .refine⟨?_,rfl⟩;have:=hI.o0 p;have: ¬0<S.own p:=λg=>y p (hI.ow p g).1 h;show S.own p=0;omega
 .obtain⟨g1,g2,g3,g4⟩:=hI.ow p hp;exact⟨(d p).2 (.inl g1),GC λh=>((v p).1 h).elim (E4 g2) (y p g1),g3,g4⟩
 .rcases(d p).1 hp with h|h
  .rcases hI.cv p h with h|h|h|h
   .grind
   .exact .inr (.inl h)
   .exact .inr (.inr (.inl h))
   grind
  grind
 .rw[d,<-hI.ks p];refine(mk (p/512)).trans ?_
  grind
 .rw[d,<-hI.la p];show Go.Sh.mem V.laid p↔_
  grind
 .show Go.Sh.mem V.ready p↔_;rw[hr,hI.rd p rfl,d];have key:(S.grown V at_ N).gone p=true↔S.gone p=true∨(at_<=p/\p<at_+N):=by
   rw[Gw,Gw,K];exact⟨λh=>h.elim (λh=>h.elim (λh=>.inl (.inl h)) .inr) λh=>.inl (.inr h),λh=>h.elim (λh=>h.elim (λh=>.inl (.inl h)) .inr) λh=>.inl (.inr h)⟩
  grind
end Go.Sh
namespace Go.Sh
variable{S:HS}{fl:Int->Bool}
def BN.On(hI:BN S fl)(hk:Jw S){p:Int}(hp:fl p=true):S.T.fr p=false/\S.T.rl p=false/\S.own p=0/\S.gone p=false/\S.RC p=false:=by
 have h1:S.T.fr p=false:=GC λh=>(E4 (hI.fn p h).2) hp;have h2:S.T.rl p=false:=GC λh=>(E4 h1) (hk.tv.rf p h);have j:S.RC p=false:=GC λh=>by
  obtain⟨i,d,h⟩:=HM.1 h;exact(E4 (hI.cr i d p h).2.2.2) hp
 refine⟨h1,h2,?_,GC λh=> ?_,j⟩
 .have:=hI.o0 p;have: ¬0<S.own p:=λh=>(E4 (hI.ow p h).2.2.1) hp;omega
 .rcases Gw.1 h with h|⟨i,d,h⟩
  .grind
  .exact(E4 j) (HM.2 ⟨i,d,MC (hk.ci i d) h⟩)
def BN.yB(hI:BN S fl)(hk:Jw S){p:Int}(hp:0<S.own p):S.T.rl p=false/\S.gone p=false/\S.RC p=false:=by
 obtain⟨g1,g2,g3,_⟩:=hI.ow p hp;have h2:S.T.rl p=false:=GC λh=>(E4 g2) (hk.tv.rf p h);have j:S.RC p=false:=GC λh=>by
  obtain⟨i,d,h⟩:=HM.1 h;have:=(hI.cr i d p h).2.2.1;omega
 refine⟨h2,GC λh=> ?_,j⟩;rcases Gw.1 h with h|⟨i,d,h⟩
 .exact(E4 h2) h
 .exact(E4 j) (HM.2 ⟨i,d,MC (hk.ci i d) h⟩)
def BN.ready(hI:BN S fl)(hk:Jw S){p:Int}(hp:0<S.own p):mem S.V.ready p:=by
 obtain⟨g1,g2,g3,_⟩:=hI.ow p hp;exact(hI.rd p g3).2 ⟨g1,(hI.yB hk hp).2.1⟩
def HS.E9(S:HS)(page n:Int):HS:={S with T:=⟨S.T.KW,λp=>S.T.fr p||inr page n p,λp=>S.T.rl p||(inr page n p&& !M5 S.V.ready p)⟩}
def BN.E9{page n:Int}(hI:BN S (inr page n))(hk:Jw S):BN (S.E9 page n) no:=by
 have d: ∀p,(S.E9 page n).T.fr p=true↔S.T.fr p=true∨inr page n p=true:=λp=>by
  show(S.T.fr p||inr page n p)=true↔_
  grind
 refine⟨λj y p hp=> ?_,hI.cd,λp hp=> ?_,λp hp=> ?_,hI.o0,λp hp=>(by cases hp),λp hp=> ?_,hI.ks,hI.la,λp _=> ?_,hI.sp,hI.sf,hI.fb,hI.pg,hI.h0,hI.h1⟩
 .obtain⟨g1,g2,g3,g4⟩:=hI.cr j y p hp;exact⟨g1,GC λh=>((d p).1 h).elim (E4 g2) (E4 g4),g3,rfl⟩
 .rcases(d p).1 hp with h|h
  .exact⟨(hI.fn p h).1,rfl⟩
  .exact⟨(hI.On hk h).2.2.1,rfl⟩
 .obtain⟨g1,g2,g3,g4⟩:=hI.ow p hp;exact⟨g1,GC λh=>((d p).1 h).elim (E4 g2) (E4 g3),rfl,g4⟩
 .rcases hI.cv p hp with h|h|h|h
  .grind
  .exact .inr (.inl h)
  .exact .inr (.inr (.inl h))
  grind
 .have v:(S.E9 page n).gone p=true↔S.gone p=true∨(inr page n p=true/\ ¬mem S.V.ready p):=by
   rw[Gw,Gw];show(S.T.rl p||(inr page n p&& !M5 S.V.ready p))=true∨_↔_;rw[Bool.or_eq_true,Bool.and_eq_true,Bool.not_eq_true',<-Bl];have e:(M5 S.V.ready p=false)↔ ¬(M5 S.V.ready p=true):=by grind
   rw[e];constructor
   .rintro((h|h)|h)
    .grind
    .grind
    .exact .inl (.inr h)
   .rintro((h|h)|h)
    .grind
    .exact .inr h
    grind
  show mem S.V.ready p↔S.T.KW p=true/\_;cases hf:inr page n p with
  | false=>
   rw[hI.rd p hf]
   grind
  | true=>
   have h2:=(hI.On hk hf).2.2.2.1;rw[hf]at v;constructor
   .intro h;exact⟨hI.li p hf,GC λg=>(v.1 g).elim (E4 h2) λg=>g.2 h⟩
   grind
def HS.Cv(S:HS)(id:Int)(x:Nat×SI)(page n:Int)(fx:FX):HS:=
 {S with fx:=fx,sp:=λi=>if i=id then some x else S.sp i,own:=λp=>if page<=p/\p<page+n then id else S.own p,AA:=S.AA+n}
def Next(S:HS)(id:Int)(fx:FX):Prop:=(S.fx.bk=[]/\id=(S.fx.n:Int)+1/\fx=⟨S.fx.n+1,[]⟩)∨ ∃a r,S.fx.bk=a::r/\id=(a:Int)+1/\fx=⟨S.fx.n,r⟩
def BN.many(hI:BN S fl)(hk:Jw S)(v:S.fx.bk=[]): ∀k:Nat,k<=S.fx.n->(k:Int)<=cP λp=>decide (0<S.own p/\S.own p<=k)
 | 0,_=>(Lr _).1
 | k+1,hkn=>by
  have Y:=hI.many hk v k (by omega);have d:S.sp ((k:Int)+1)≠none:=(hI.sf _).2 ⟨k,rfl,by omega,by grind⟩;obtain⟨x,J⟩: ∃x,S.sp ((k:Int)+1)=some x:=by
   cases h:S.sp ((k:Int)+1)with
   | none=>grind
   | some x=>grind
  obtain⟨h1,h2,O,T,j⟩:=hI.sp _ x J;have y:=j (x.2.base/8192) (by omega) (by omega);have e:cP (λp=>decide (0<S.own p/\S.own p<=((k+1:Nat):Int)))=cP (λp=>decide (0<S.own p/\S.own p<=(k:Int)))+cP (λp=>decide (S.own p=(k:Int)+1)):=by
   refine QK (λp=> ?_) λp a b=> ?_
   .grind
   grind
  obtain⟨K,o2,o3,o4⟩:=hI.ow (x.2.base/8192) (by omega);have d:=hk.tv.Ja _ K;have:1<=cP (λp=>decide (S.own p=(k:Int)+1)):=yA (p:=x.2.base/8192) (decide_eq_true y) d.1 d.2;omega
def Next.live{id:Int}{X:FX}(h:Next S id X)(hk:Jw S)(hI:BN S fl):0<id/\S.sp id=none/\ ∀j:Int,(∃a:Nat,j=(a:Int)+1/\a<X.n/\a∉X.bk)↔j=id∨S.sp j≠none:=by
 rcases h with ⟨h1,rfl,rfl⟩|⟨a,r,h1,rfl,rfl⟩
 .refine⟨by omega,Classical.byContradiction λg=> ?_,λj=> ?_⟩
  .obtain⟨a,e,h2,_⟩:=(hI.sf _).1 g;omega
  .rw[hI.sf]
   grind
 .have v:=hk.fx.nd;have d:=hk.fx.lt;rw[h1]at v d;refine⟨by omega,Classical.byContradiction λg=> ?_,λj=> ?_⟩
  .obtain⟨b,e,h2,y⟩:=(hI.sf _).1 g
   grind
  .rw[hI.sf];constructor
   .grind
   .rintro(e|⟨b,e,h2,y⟩)
    .exact⟨a,e,d a List.mem_cons_self,(List.nodup_cons.1 v).1⟩
    grind
def V1{S:HS}(f:Int->Int){id page n:Int}(O1:0<id)(h0:0<=page)(j:0<=n)(d:page+n<=34359738368)(hz: ∀p,page<=p->p<page+n-> ¬0<f p):
  cP (λp=>decide (0<if page<=p/\p<page+n then id else f p))=cP (λp=>decide (0<f p))+n:=by
 rw[show cP (λp=>decide (0<f p))+n=cP (λp=>decide (0<f p))+cP (inr page n) by rw[UJ h0 j d]];refine QK (λp=> ?_) λp a b=> ?_
 .rw[Bool.eq_iff_iff,Bool.or_eq_true,decide_eq_true_eq,decide_eq_true_eq,Ai];omega
 .have b:=Ai.1 b
  grind
def BN.Cv{page n:Int}(hI:BN S (inr page n))(hk:Jw S)(h0:0<=page)(hn:0<n)(hb:page+n<=34359738368)(hr: ∀p,page<=p->p<page+n->mem S.V.ready p)
  {id:Int}{X:FX}(hX:Next S id X){x:Nat×SI}(x1:x.2.base=page*8192)(x2:x.2.AA=n)(x3:x.2.state≠0):BN (S.Cv id x page n X) no:=by
 obtain⟨O1,T,v⟩:=hX.live hk hI;have d: ∀p,page<=p->p<page+n->inr page n p=true:=λp a b=>Ai.2 ⟨a,b⟩;have Y: ∀p,S.own p=id->False:=λp e=>by
  obtain⟨_,_,_,y,O,_⟩:=hI.ow p (by omega)
  grind
 have K: ∀p,(S.Cv id x page n X).own p=if page<=p/\p<page+n then id else S.own p:=λp=>rfl
 have hs: ∀i,(S.Cv id x page n X).sp i=if i=id then some x else S.sp i:=λp=>rfl
 refine⟨λj hj p hp=> ?_,hI.cd,λp hp=> ?_,λp hp=> ?_,λp=> ?_,λp hp=>(by cases hp),λp hp=> ?_,hI.ks,hI.la,λp _=> ?_,λi y O=> ?_,λi=> ?_,?_,?_,hI.h0,hI.h1⟩
 .obtain⟨g1,g2,g3,g4⟩:=hI.cr j hj p hp;refine⟨g1,g2,?_,rfl⟩
  grind
 .obtain⟨g1,g2⟩:=hI.fn p hp;refine⟨?_,rfl⟩
  grind
 .rw[K]at hp⊢;by_cases g:page<=p/\p<page+n
  .rw[if_pos g]at hp⊢;have hf:=d p g.1 g.2;refine⟨hI.li p hf,(hI.On hk hf).1,rfl,x,?_,by omega,by omega⟩
   grind
  .rw[if_neg g]at hp⊢;obtain⟨g1,g2,g3,y,g4,g5⟩:=hI.ow p hp;refine⟨g1,g2,rfl,y,?_,g5⟩
   grind
 .rw[K];have:=hI.o0 p;omega
 .rcases hI.cv p hp with h|h|h|h
  .exact .inl h
  .exact .inr (.inl h)
  .grind
  .refine .inr (.inr (.inl ?_));rw[K,if_pos (Ai.1 h)];exact O1
 .cases hf:inr page n p with
  | false=>exact hI.rd p hf
  | true=>
   have J:=Ai.1 hf;exact⟨λ_=>⟨hI.li p hf,(hI.On hk hf).2.2.2.1⟩,λ_=>hr p J.1 J.2⟩
 .rw[hs]at O;by_cases g:i=id
  .grind
  .rw[if_neg g]at O;obtain⟨k1,k2,k3,k4,k5⟩:=hI.sp i y O;refine⟨k1,k2,k3,k4,λp a b=> ?_⟩;have h5:=k5 p a b;rw[K,if_neg λh=> ?_]
   .exact h5
   .have:=(hI.On hk (d p h.1 h.2)).2.2.1;omega
 .rw[hs];rw[show(S.Cv id x page n X).fx=X from rfl,v i]
  grind
 .show X.n<=34359738368;rcases hX with ⟨h1,rfl,rfl⟩|⟨a,r,h1,rfl,rfl⟩
  .have h2:=hI.many hk h1 S.fx.n (Nat.le_refl _);have h3:cP (λp=>decide (0<S.own p/\S.own p<=(S.fx.n:Int))||inr page n p)=cP (λp=>decide (0<S.own p/\S.own p<=(S.fx.n:Int)))+cP (inr page n):=QK (λp=>rfl) λp a b=>by
    have a:=of_decide_eq_true a;have:=(hI.On hk b).2.2.1;omega
   rw[UJ h0 (by omega) hb]at h3;have:=(Lr λp=>decide (0<S.own p/\S.own p<=(S.fx.n:Int))||inr page n p).2
   grind
  .exact hI.fb
 .show S.AA+n=cP λp=>decide (0<if page<=p/\p<page+n then id else S.own p);rw[V1 (S:=S) S.own O1 h0 (by omega) hb λp a b=>by have:=(hI.On hk (d p a b)).2.2.1;omega,<-hI.pg]
def HS.free(S:HS)(a:Nat)(page n:Int):HS:=
 {S with T:=S.T.OY page n,fx:=⟨S.fx.n,a::S.fx.bk⟩,sp:=λi=>if i=(a:Int)+1 then none else S.sp i,own:=λp=>if page<=p/\p<page+n then 0 else S.own p,AA:=S.AA-n}
def BN.free(hI:BN S no)(hk:Jw S){a:Nat}{x:Nat×SI}(hx:S.sp ((a:Int)+1)=some x):BN (S.free a (x.2.base/8192) x.2.AA) no:=by
 obtain⟨k1,k2,k3,k4,k5⟩:=hI.sp _ x hx;generalize hpg:x.2.base/8192=page at *
 generalize hn:x.2.AA=n at *
 have v: ∀p,page<=p->p<page+n->0<S.own p:=λp h1 h2=>by grind
 have Y: ∀p,S.own p=(a:Int)+1↔page<=p/\p<page+n:=λp=>by
  refine⟨λe=> ?_,λh=>k5 p h.1 h.2⟩;obtain⟨_,_,_,y,h1,h2,h3⟩:=hI.ow p (by omega)
  grind
 have K: ∀p,(S.free a page n).own p=if page<=p/\p<page+n then 0 else S.own p:=λp=>rfl
 have hs: ∀i,(S.free a page n).sp i=if i=(a:Int)+1 then none else S.sp i:=λp=>rfl
 have d: ∀p,(S.free a page n).T.fr p=true↔S.T.fr p=true∨(page<=p/\p<page+n):=λp=>by
  show(S.T.fr p||inr page n p)=true↔_;rw[Bool.or_eq_true,Ai]
 have J:=hk.tv.Ja _ (hI.ow page (v page (by omega) (by omega))).1;have aC:=hk.tv.Ja _ (hI.ow (page+n-1) (v _ (by omega) (by omega))).1;refine⟨λj hj p hp=> ?_,hI.cd,λp hp=> ?_,λp hp=> ?_,λp=> ?_,λp hp=>(by cases hp),λp hp=> ?_,hI.ks,hI.la,hI.rd,λi y O=> ?_,λi=> ?_,hI.fb,?_,hI.h0,hI.h1⟩
 .obtain⟨g1,g2,g3,g4⟩:=hI.cr j hj p hp;refine⟨g1,GC λh=>((d p).1 h).elim (E4 g2) λh=> ?_,?_,rfl⟩
  .grind
  grind
 .refine⟨?_,rfl⟩;rw[K];rcases(d p).1 hp with h|h
  .split
   .rfl
   .exact(hI.fn p h).1
  omega
 .rw[K]at hp⊢;by_cases g:page<=p/\p<page+n
  .omega
  .rw[if_neg g]at hp⊢;obtain⟨g1,g2,g3,y,g4,g5⟩:=hI.ow p hp;refine⟨g1,GC λh=>((d p).1 h).elim (E4 g2) g,rfl,y,?_,g5⟩
   grind
 .rw[K];split
  .omega
  .exact hI.o0 p
 .by_cases g:page<=p/\p<page+n
  .grind
  .rcases hI.cv p hp with h|h|h|h
   .grind
   .exact .inr (.inl h)
   .grind
   grind
 .rw[hs]at O;by_cases g:i=(a:Int)+1
  .grind
  .rw[if_neg g]at O;obtain⟨q1,q2,q3,q4,q5⟩:=hI.sp i y O
   grind
 .rw[hs];have:=hI.sf i;show _↔ ∃b:Nat,i=(b:Int)+1/\b<S.fx.n/\b∉a::S.fx.bk
  grind
 .show S.AA-n=cP λp=>decide (0<if page<=p/\p<page+n then 0 else S.own p);have e:=V1 (S:=S) (λp=>if page<=p/\p<page+n then 0 else S.own p) (id:=(a:Int)+1) k1 J.1 (by omega) (by omega) (page:=page) (n:=n) λp h1 h2=>by omega
  have e2:cP (λp=>decide (0<if page<=p/\p<page+n then(a:Int)+1 else if page<=p/\p<page+n then 0 else S.own p))=cP λp=>decide (0<S.own p):=Yt λp _ _=>by grind
  rw[e2]at e;have:=hI.pg;omega
def HS.flush(S:HS)(i:Nat):HS:={S with T:=S.T.flush (S.ca i),ca:=λj=>if j=i then CS.nil else S.ca j}
def BN.counts(hI:BN S no)(hk:Jw S):cP S.T.KW=Gn S.ks*512/\cP S.T.KW=Gn S.V.ready+cP S.gone/\S.AA<=Gn S.V.ready:=by
 have d: ∀p,S.T.KW p=true->p<34359738368:=λp h=>(hk.tv.Ja p h).2;have j: ∀p,S.gone p=true->S.T.KW p=true:=λp h=>by
  rcases Gw.1 h with h|⟨i,y,h⟩
  .exact hk.tv.fi p (hk.tv.rf p h)
  .exact(hI.cr i y p (MC (hk.ci i y) h)).1
 have v:cP (M5 S.V.ready)=Gn S.V.ready:=UI hk.vv.Ol (λp=>Bl.symm) λp h=>by
  have:=hk.vv.Ja p (hk.vv.rl p (Bl.1 h));omega
 refine⟨kB hk.ok hI.ks d,?_,?_⟩
 .rw[<-v];refine QK (λp=> ?_) λp a b=> ?_
  .rw[Bool.eq_iff_iff,Bool.or_eq_true,Bl,hI.rd p rfl];constructor
   .intro h;cases g:S.gone p with
    | false=>exact .inl ⟨h,rfl⟩
    | true=>exact .inr rfl
   .rintro(h|h)
    .exact h.1
    .exact j p h
  .rw[Bl,hI.rd p rfl]at a;exact(E4 a.2) b
 .rw[<-v,hI.pg];exact Wy λp h=>Bl.2 (hI.ready hk (of_decide_eq_true h))
end Go.Sh
namespace Go.Sh
def Sat.rest{Ps Z:List Pr}{w:World}(H:Sat (Ps++Z) w):Sat Z w:=by
 induction Ps with
 | nil=>exact H
 | cons P Ps ih=>exact ih H.tail
section
variable{E:Env}{h:Nat}{S:HS}{Z:List Pr}{w:World}{g:HG}
def cJ.same{S':HS}(hI:cJ S g)(e:S'.sp=S.sp):cJ S' g:=⟨hI.nd,λid=>by rw[hI.mem,e]⟩
def Sat.V2(H:Sat (Ct E h S g++Z) w){i:Nat}(v:i<64): ∃R,(∀{w'},Sat R w'->Sat Z w')/\Sat (BE E (g.cb i) (S.ca i)::Bi E g.t S.T::R) w/\
  ∀{w' c' T'},Sat (BE E (g.cb i) c'::Bi E g.t T'::R) w'->Sat (Ct E h {S with T:=T',ca:=λj=>if j=i then c' else S.ca j} g++Z) w':=by
 have d:(List.range 64)[i]? =some i:=List.getElem?_range v;have h1:=(H.front 7 rfl).GG d;have h2:=h1.DR 3 rfl;refine⟨_,λ{w'} q=> ?_,h2,λ{w' c' T'} h'=> ?_⟩
 .exact Sat.rest (Ps:=[Ad (λi:Nat=>BE E (g.cb i) (S.ca i)) ((List.range 64).eraseIdx i),Cells h E.Ae (B4 g S.hint S.AA),Cx E g.m S.V,CK E g.a S.ks S.own,Gk E g.f S.fx,Dm g.sm .i64 (EA S.sp),Ad (spR E S.sp) g.ids]) q
 have b1:=Sat.Th (P0:=BE E (g.cb i) c') (Ps:=Ad (λi:Nat=>BE E (g.cb i) (S.ca i)) ((List.range 64).eraseIdx i)::((Ct E h S g++Z).eraseIdx 7)) 3 h' (by simp[Ct]);have b2:Sat (BE E (g.cb i) c'::Ad (λi:Nat=>BE E (g.cb i) (S.ca i)) ((List.range 64).eraseIdx i)::((Ct E h {S with T:=T',ca:=λj=>if j=i then c' else S.ca j} g++Z).eraseIdx 7)) w':=b1;have e:Ad (λi:Nat=>BE E (g.cb i) (S.ca i)) ((List.range 64).eraseIdx i)=Ad (λj:Nat=>BE E (g.cb j) (if j=i then c' else S.ca j)) ((List.range 64).eraseIdx i):=
  Ad.congr λx y=>by rw[if_neg (UF v y)]
 rw[e,show BE E (g.cb i) c'=(λj:Nat=>BE E (g.cb j) (if j=i then c' else S.ca j)) i by grind]at b2;exact Sat.back (Ps:=Ct E h {S with T:=T',ca:=λj=>if j=i then c' else S.ca j} g++Z) 7 (Sat.HW b2 d) (by simp[Ct])
def gL{ca:Nat->CS}{i:Nat}:(λj=>if j=i then ca i else ca j)=ca:=funext λj=>by
 by_cases e:j=i
 .rw[if_pos e,e]
 .rw[if_neg e]
def Sat.S7(H:Sat (Ct E h S g++Z) w): ∃R,(∀{w'},Sat R w'->Sat Z w')/\Sat (Bi E g.t S.T::R) w/\ ∀{w' T'},Sat (Bi E g.t T'::R) w'->Sat (Ct E h {S with T:=T'} g++Z) w':=
 ⟨_,λ{w'} q=>Sat.rest (Ps:=[Cells h E.Ae (B4 g S.hint S.AA),Cx E g.m S.V,CK E g.a S.ks S.own,Gk E g.f S.fx,Dm g.sm .i64 (EA S.sp),Ad (spR E S.sp) g.ids,Ad (λi:Nat=>BE E (g.cb i) (S.ca i)) (List.range 64)]) q,
  H.front 2 rfl,λ{w' T'} h'=>Sat.back (Ps:=Ct E h S g++Z) 2 h' (by simp[Ct])⟩
def HS.new(V:VS):HS:=⟨V,TV.nil,λ_=>CS.nil,[],λ_=>0,⟨0,[]⟩,λ_=>none,0,0⟩
def BN.new{V:VS}(h1:V.laid=[])(h2:V.ready=[]):BN (HS.new V) no:=by
 have j: ∀p,¬mem ([]:Iv) p:=Bt;refine⟨λi K p hp=> ?_,λa b p y J d O=> ?_,λp hp=>(by cases hp),λp hp=>absurd hp (by show ¬(0:Int)<0;decide),λ_=>Int.le_refl 0,λp hp=>(by cases hp),λp hp=>(by cases hp),λp=>⟨λq=>absurd q (j _),λq=>(by cases q)⟩,λp=> ?_,λp _=> ?_,λid x v=>(by cases v),λid=>⟨λq=>absurd rfl q,λ⟨a,_,q,_⟩=>absurd q (Nat.not_lt_zero a)⟩,Nat.zero_le _,?_,Int.le_refl 0,by show(0:Int)<=_;decide⟩
 .have hp:CS.nil.own p=true:=hp;rw[gK]at hp;cases hp
 .have d:CS.nil.own p=true:=d;rw[gK]at d;cases d
 .show mem V.laid p↔_;rw[h1];exact⟨λq=>absurd q (j _),λq=>(by cases q)⟩
 .show mem V.ready p↔_;rw[h2];exact⟨λq=>absurd q (j _),λq=>(by cases q.1)⟩
 .exact(QL λp=>rfl).symm
def UN(n:Nat):List.range (n+1)=List.range n++[n]:=List.range_succ
def cQ(cb:Nat->Nat)(k:Nat)(x y:Value)(v0 v1 v2 d v4:Value)(b:Nat)(hk:k<64):
  (v0::v1::v2::d::v4::(((List.range 64).map λi=>Value.pointer (if i<k then some ⟨cb i,0,none⟩else none))++[x,y])).set (0+(5+k)) (.pointer (some ⟨b,0,none⟩))
   =v0::v1::v2::d::v4::(((List.range 64).map λi=>Value.pointer (if i<k+1 then some ⟨if i=k then b else cb i,0,none⟩else none))++[x,y]):=by
 rw[show 0+(5+k)=k+1+1+1+1+1 by omega];simp only[List.set_cons_succ];rw[List.set_append_left _ _ (by simp;exact hk)];have key:((List.range 64).map λi=>Value.pointer (if i<k then some ⟨cb i,0,none⟩else none)).set k (.pointer (some ⟨b,0,none⟩))=(List.range 64).map λi=>Value.pointer (if i<k+1 then some ⟨if i=k then b else cb i,0,none⟩else none):=by
  apply List.ext_getElem?
  grind
 rw[key]
def cR{m:Nat}{V:VS}(H:Sat (Cx E m V::Z) w){K:Option Addr->World->Prop}(hK: ∀h w',w'.cell? (Addr.mk h 0 none)=some (.pointer (some ⟨m,0,none⟩))->Sat (BQ E h (HS.new V)::Z) w'->K (some ⟨h,0,none⟩) w'):F.IT E (some ⟨m,0,none⟩) K w:=by
 unfold F.IT T0.IT;refine oD H λw2 t H2=>oL H2 λw4 a H4=>Wf H4 .i64 λd w6 H6 _=> ?_;refine AR (vs:=.pointer (some ⟨m,0,none⟩):: .pointer (some ⟨t,0,none⟩):: .pointer (some ⟨a,0,none⟩):: .pointer none:: .map (some d)::(((List.range 64).map λi=>Value.pointer none)++[.int .u64 0,.int .u64 0])) H6 λJ w8 H8 _=> ?_;refine jZ H8 λf aO Y=> ?_;refine AZ (Y.front 1 rfl) (o:=0) (m:=3) rfl (by simp) λaD O=> ?_;have T:Sat (Cells J E.Ae (.pointer (some ⟨m,0,none⟩):: .pointer (some ⟨t,0,none⟩):: .pointer (some ⟨a,0,none⟩):: .pointer (some ⟨f,0,none⟩):: .map (some d)::(((List.range 64).map λi=>Value.pointer none)++[.int .u64 0,.int .u64 0]))::
   Gk E f ⟨0,[]⟩::Dm d .i64 (λ_=>none)::CK E a [] (λ_=>0)::Bi E t TV.nil::Cx E m V::Z) aD:=O
 clear O;refine AH (λst w'=> ∃(k:Nat) (cb:Nat->Nat),st.1=(k:Int)/\k<=64/\Sat (Ad (λi:Nat=>BE E (cb i) CS.nil) (List.range k)::Cells J E.Ae (.pointer (some ⟨m,0,none⟩):: .pointer (some ⟨t,0,none⟩):: .pointer (some ⟨a,0,none⟩):: .pointer (some ⟨f,0,none⟩):: .map (some d)::(((List.range 64).map λi=>Value.pointer (if i<k then some ⟨cb i,0,none⟩else none))++[.int .u64 0,.int .u64 0]))::
   Gk E f ⟨0,[]⟩::Dm d .i64 (λ_=>none)::CK E a [] (λ_=>0)::Bi E t TV.nil::Cx E m V::Z) w') (λst _=>(64-st.1).toNat) ⟨0,λ_=>0,rfl,by decide,?_⟩ ?_
 .exact T.LY _
 rintro⟨k',v⟩ _ aE ⟨k,cb,hk,aG,j⟩;dsimp only at hk⊢;subst hk;refine AB (λaN=> ?_) λaM=> ?_
 .refine jM j.drew λaP c aB=>⟨⟨by omega,by omega⟩,?_⟩;have aC:k<64:=by omega
  rw[Int.toNat_natCast,Nat.mul_one,add_add,AE (n:=(k:Int)+1)];refine AZ (aB.front 2 rfl) (o:=0) (m:=5+k) rfl (by simp;omega) λaF y=> ?_;rw[cQ cb k _ _ _ _ _ _ _ c aC]at y;refine⟨⟨k+1,λi=>if i=k then c else cb i,by omega,by omega,?_⟩,by omega⟩;have h1:=y.DR 1 rfl;have h2:Sat (BE E c CS.nil::Ad (λi:Nat=>BE E (cb i) CS.nil) (List.range k)::Cells J E.Ae (.pointer (some ⟨m,0,none⟩):: .pointer (some ⟨t,0,none⟩):: .pointer (some ⟨a,0,none⟩):: .pointer (some ⟨f,0,none⟩):: .map (some d)::(((List.range 64).map λi=>Value.pointer (if i<k+1 then some ⟨if i=k then c else cb i,0,none⟩else none))++[.int .u64 0,.int .u64 0]))::
    Gk E f ⟨0,[]⟩::Dm d .i64 (λ_=>none)::CK E a [] (λ_=>0)::Bi E t TV.nil::Cx E m V::Z) aF:=y.perm (List.perm_middle (l₁:=[_,_])|>.symm)
  rw[UN];have e:Ad (λi:Nat=>BE E (cb i) CS.nil) (List.range k)=Ad (λi:Nat=>BE E (if i=k then c else cb i) CS.nil) (List.range k):=Ad.congr λx hx=>by grind
  rw[e,show BE E c CS.nil=(λi:Nat=>BE E (if i=k then c else cb i) CS.nil) k by grind]at h2;exact h2.Tj
 .have e:k=64:=by omega
  subst e;refine hK J aE ((j.front 1 rfl).Ah rfl) (Sat.heap.2 ⟨⟨m,t,a,f,d,cb,[]⟩,⟨List.nodup_nil,λid=>⟨λq=>(by cases q),λq=>absurd rfl q⟩⟩,?_⟩);have e:((List.range 64).map λi=>Value.pointer (if i<64 then some ⟨cb i,0,none⟩else none))=j9 cb:=by
   unfold j9;exact List.map_congr_left λi hi=>by grind
  rw[e]at j;have aA:=j.LY (spR E λ_=>none);refine aA.perm ?_;show List.Perm _ ((Cells J E.Ae (B4 ⟨m,t,a,f,d,cb,[]⟩ 0 0)::Cx E m V::Bi E t TV.nil::CK E a [] (λ_=>0)::Gk E f ⟨0,[]⟩::Dm d .i64 (λ_=>none)::Ad (spR E λ_=>none) []::Ad (λi:Nat=>BE E (cb i) CS.nil) (List.range 64)::[])++Z);refine List.Perm.append_right (l₁:=[Ad (spR E λ_=>none) [],Ad (λi:Nat=>BE E (cb i) CS.nil) (List.range 64),Cells J E.Ae (B4 ⟨m,t,a,f,d,cb,[]⟩ 0 0),Gk E f ⟨0,[]⟩,Dm d .i64 (λ_=>none),CK E a [] (λ_=>0),Bi E t TV.nil,Cx E m V]) Z ?_;exact(List.perm_append_comm (l₁:=[Ad (spR E λ_=>none) [],Ad (λi:Nat=>BE E (cb i) CS.nil) (List.range 64)]) (l₂:=[Cells J E.Ae (B4 ⟨m,t,a,f,d,cb,[]⟩ 0 0),Gk E f ⟨0,[]⟩,Dm d .i64 (λ_=>none),CK E a [] (λ_=>0),Bi E t TV.nil,Cx E m V])).trans (.cons _ ((List.reverse_perm [Cx E m V,Bi E t TV.nil,CK E a [] (λ_=>0),Dm d .i64 (λ_=>none),Gk E f ⟨0,[]⟩]).append_right _|>.trans (.cons _ (.cons _ (.cons _ (.swap _ _ _))))))
def kC{m:Nat}{V:VS}(H:Sat (Cx E m V::Z) w){K:Option Addr->World->Prop}(d: ∀h w',Sat (BQ E h (HS.new V)::Z) w'->K (some ⟨h,0,none⟩) w'):F.IT E (some ⟨m,0,none⟩) K w:=
 cR H λh w' _=>d h w'
end
def tX{x c:Nat}(h1:x.testBit c=true)(h2: ∀i,i<c->x.testBit i=false)(i:Nat):(x&&&(x-1)).testBit i=(x.testBit i&& !(i==c)):=by
 have hm:x %2^(c+1)=2^c:=by
  apply Nat.eq_of_testBit_eq
  grind
 have d:x=2^(c+1)*(x/2^(c+1))+2^c:=by
  have:=Nat.div_add_mod x (2^(c+1));omega
 generalize hy:x/2^(c+1)=y at d;have v:2^c<2^(c+1):=Nat.pow_lt_pow_right (by decide) (by omega);have J:0<2^c:=Nat.pow_pos (by decide);have j:x-1=2^(c+1)*y+(2^c-1):=by omega
 rw[Nat.testBit_and,j]
 conv=>lhs;lhs;rw[d]
 conv=>rhs;lhs;rw[d]
 rw[Nat.testBit_two_pow_mul_add _ v,Nat.testBit_two_pow_mul_add _ (by omega:2^c-1<2^(c+1))]
 grind
def cS{u:Nat->Bool}{c:Nat}(v:c<64)(h1:u c=true)(h2: ∀i,i<c->u i=false):D5 .u64 0 (W u) (u64 (W u-1))=W (λi=>u i&& !(i==c)):=by
 have J:wN u 64<2^64:=M0 u 64;have d:(wN u 64).testBit c=true:=by rw[D6,h1];simp[v]
 have hz:wN u 64≠0:=λe=>by grind
 have e:u64 (W u-1)=((wN u 64-1:Nat):Int):=by
  unfold W;rw[AK];omega
 rw[e];unfold W;rw[xV (by omega) (by omega)];congr 1;apply Nat.eq_of_testBit_eq;intro i;rw[tX d (λj y=>by rw[D6,h2 j y];simp),D6,D6]
 grind
def oU{u:Nat->Bool}{c:Nat}(h1:u c=true): ∀n,(c<n->cN u n=cN (λi=>u i&& !(i==c)) n+1)/\(n<=c->cN u n=cN (λi=>u i&& !(i==c)) n)
 | 0=>⟨λh=>absurd h (Nat.not_lt_zero c),λ_=>rfl⟩
 | n+1=>by
  obtain⟨i1,i2⟩:=oU h1 n;simp only[cN];refine⟨λh=> ?_,λh=> ?_⟩
  .by_cases e:n=c
   .subst e;rw[i2 (Nat.le_refl _),h1];simp
   .rw[i1 (by omega)];have:(n==c)=false:=by simp[e]
    rw[this];simp;omega
  .rw[i2 (by omega)];have:(n==c)=false:=by simp;omega
   rw[this];simp
def Yu{u:Nat->Bool}(h:W u≠0): ∃c,c<64/\u c=true/\ ∀i,i<c->u i=false:=by
 have hex: ∃c,c<64/\u c=true:=by
  refine Classical.byContradiction λg=>h (GN.2 λi j=> ?_);cases hu:u i with
  | false=>rfl
  | true=>grind
 have key: ∀n:Nat,(∃c,c<n/\u c=true)-> ∃c,c<n/\u c=true/\ ∀i,i<c->u i=false:=by
  intro n
  induction n with
  | zero=>omega
  | succ n ih=>
   rintro⟨c,d,hu⟩;by_cases g: ∃c,c<n/\u c=true
   .grind
   grind
 exact key 64 hex
def Ls(ca:Nat->CS):Nat->Int
 | 0=>0
 | k+1=>Ls ca k+cN (ca k).rel 64
def OO(ca:Nat->CS)(k:Nat): ∀m,Ls ca k<=Ls ca (k+m)
 | 0=>Int.le_refl _
 | m+1=>by
  show _<=Ls ca (k+m)+_;have:=OO ca k m;omega
section
variable{E:Env}{h:Nat}{S:HS}{Z:List Pr}{w:World}{g:HG}
def BN.Ls(hI:BN S no)(hk:Jw S):NT S.T.rl+Go.Sh.Ls S.ca 64=cP S.gone:=by
 have key: ∀k:Nat,k<=64->NT S.T.rl+Go.Sh.Ls S.ca k=cP (λp=>S.T.rl p||(List.range k).any λi=>(S.ca i).QA p):=by
  intro k
  induction k with
  | zero=>
   intro _;obtain⟨l,h1,h2⟩:=hk.tv.cr;have e:(λp=>S.T.rl p||(List.range 0).any λi=>(S.ca i).QA p)=S.T.rl:=funext λp=>by simp
   rw[e,cP_NT h1 h2 λp hp=>(hk.tv.Ja p (hk.tv.fi p (hk.tv.rf p hp))).2];show cP S.T.rl+0=_;omega
  | succ k ih=>
   intro J;have ci:=hk.ci k (by omega);rw[QK (f:=λp=>S.T.rl p||(List.range k).any λi=>(S.ca i).QA p) (g:=(S.ca k).QA) (λp=>by rw[UN,List.any_append];simp[Bool.or_assoc]) λp a b=> ?_,<-ih (by omega)]
   .have e:cP (S.ca k).QA=cN (S.ca k).rel 64:=by
     have d:=ci.b0;have y:=ci.b1;have:=ci.b64;exact oT d (by omega)
    rw[e];show _+(Go.Sh.Ls S.ca k+_)=_;omega
   .rw[Bool.or_eq_true]at a;have v:=MC ci b;obtain⟨g1,g2,g3,g4⟩:=hI.cr k (by omega) p v;rcases a with a|a
    .exact(E4 g2) (hk.tv.rf p a)
    .rw[List.any_eq_true]at a;obtain⟨i,j,K⟩:=a;have j:=List.mem_range.1 j;have:=hI.cd i k p (by omega) (by omega) (MC (hk.ci i (by omega)) K) v;omega
 exact key 64 (Nat.le_refl _)
def Yv(H:Sat (BQ E h S::Z) w)(hI:BN S no){K:Int->Int->Int->World->Prop}(hK: ∀w',Sat (BQ E h S::Z) w'->K (cP S.T.KW) S.AA (cP S.gone) w'):F.EN E (some ⟨h,0,none⟩) K w:=by
 have A2:=H.A2;have aD:=hI.Ls A2;obtain⟨c1,c2,c3⟩:=hI.counts A2;have aR:=Lr S.gone;have aS:=Lr S.T.KW;have aX:0<=NT S.T.rl:=by
  obtain⟨l,h1,h2⟩:=A2.tv.cr;rw[YT h1 h2];exact MS h1
 obtain⟨g,aG,H⟩:=Sat.heap.1 H;unfold F.EN T0.EN;simp only[AG];refine⟨_,(Ca (S:=S) (g:=g) H).2.1,VF (H.front 2 rfl) ?_⟩;have aH:=(Ca (S:=S) (g:=g) H).2.2.2.2.2.2.2;simp only[add_add,Nat.reduceAdd]
 repeat (refine⟨_,aH _ (by decide),?_⟩)
 have hL: ∀i:Nat,i<64->List.getD ((List.range 64).map λi=>some (Addr.mk (g.cb i) 0 none)) i none=some ⟨g.cb i,0,none⟩:=λi y=>kA g.cb y;refine AH (λst w'=> ∃i:Nat,st.2.1=(i:Int)/\i<=64/\st.1=NT S.T.rl+Go.Sh.Ls S.ca i/\Sat (Ct E h S g++Z) w') (λst _=>(64-st.2.1).toNat) ⟨0,rfl,by decide,(Int.add_zero _).symm,H⟩ ?_;rintro⟨cnt,i',v⟩ _ a1 ⟨i,y,aQ,hc,O⟩;dsimp only at y hc⊢;subst y;refine AB (λaL=>⟨⟨by omega,by omega⟩,?_⟩) λaK=> ?_
 .have y:i<64:=by omega
  obtain⟨R,aI,hb⟩:=O.gJ y;rw[Int.toNat_natCast];have e:=hL i y;refine(show _=_ from e)▸ ?_;refine cI aI λr0 r1 r2 a2 g0 g1 aE=> ?_;have ci:=A2.ci i y;have aM:r2=W (S.ca i).rel:=by
   by_cases he:(S.ca i).empty
   .rw[(g0 he).2.2];refine(GN.2 λk _=>GC λq=> ?_).symm;have:=ci.rh k q;rw[he k]at this;cases this
   .exact(g1 he).2.2
  subst aM;have aY:Go.Sh.Ls S.ca (i+1)=Go.Sh.Ls S.ca i+cN (S.ca i).rel 64:=rfl;have aN:=OO S.ca (i+1) (64-(i+1));rw[show i+1+(64-(i+1))=64 by omega]at aN;have aZ:0<=Go.Sh.Ls S.ca i:=by
   have:=OO S.ca 0 i;rw[Nat.zero_add]at this;exact this
  refine AH (λst w'=> ∃u,st.2.1=W u/\NT S.T.rl+Go.Sh.Ls S.ca i<=st.1/\st.1+cN u 64=NT S.T.rl+Go.Sh.Ls S.ca (i+1)/\Sat (Ct E h S g++Z) w') (λst _=>st.2.1.toNat) ⟨(S.ca i).rel,rfl,by show _<=cnt;omega,by show cnt+_=_;omega,hb aE⟩ ?_;rintro⟨j,r,v⟩ _ a3 ⟨u,hu,hle,aJ,Y⟩;dsimp only at hu hle aJ⊢;subst hu;refine DM (λaC=> ?_) λhz=> ?_
  .obtain⟨c,d,J,aB⟩:=Yu aC;rw[cS d J aB];have aV:=(oU J 64).1 d;refine AY λa0 aF=> ?_;subst aF;rw[AK (n:=j+1)];refine⟨⟨_,rfl,by show _<=j+1;omega,by show j+1+_=_;omega,Y⟩,?_⟩;show(W λi=>u i&& !(i==c)).toNat<(W u).toNat;rw[<-cS d J aB];have hb:=zP u;have hz:W u≠0:=aC;have e:D5 .u64 0 (W u) (u64 (W u-1))=((wN u 64&&&(wN u 64-1):Nat):Int):=by
    have aW:wN u 64<2^64:=M0 u 64;have e:u64 (W u-1)=((wN u 64-1:Nat):Int):=by
     unfold W at hz⊢;rw[AK];omega
    rw[e];unfold W;rw[xV (by omega) (by omega)]
   rw[e,Int.toNat_natCast];have:wN u 64&&&(wN u 64-1)<=wN u 64-1:=Nat.and_le_right;unfold W at hz⊢;rw[Int.toNat_natCast];omega
  .have h0:cN u 64=0:=by
    have h1:=GN.1 hz;have: ∀n,n<=64->cN u n=0:=by
     intro n
     induction n with
     | zero=>intro _;rfl
     | succ n ih=>intro hn;simp only[cN];rw[ih (by omega),h1 n (by omega)];rfl
    exact this 64 (Nat.le_refl _)
   rw[AE (n:=(i:Int)+1)];exact⟨⟨i+1,by omega,by omega,by show j=_;omega,Y⟩,by show(64-((i:Int)+1)).toNat<(64-(i:Int)).toNat;omega⟩
 .have e:i=64:=by omega
  subst e;have Hd:=O.drew;refine⟨_,(Ca (S:=S) (g:=g) Hd).2.2.1,_,(Ca (S:=S) (g:=g) Hd).2.2.2.2.2.2.1,cA (Hd.front 3 rfl) ⟨(Ca (S:=S) (g:=g) Hd).2.2.2.2.2.2.1,?_⟩⟩;rw[AK (n:=Gn S.ks*512),<-c1,hc,aD];exact hK _ (Sat.heap.2 ⟨g,aG,Hd⟩)
variable(hE:EnvS E)
include hE
end
def Jr(S:HS)(i:Nat)(S1:HS):Prop:=((S.ca i).empty/\ ∃q,Gt S.T 1 q/\S1=S.fill i q)∨((¬(S.ca i).empty∨ ∀q,S.T.fr q=false)/\S1=S)
def Ih(S:HS)(p n:Int)(S1:HS):Prop:=(¬(0<=p/\p<64/\n<16)/\S1=S)∨ ∃i:Nat,i<64/\p=i/\n<16/\Jr S i S1/\ ∀k,¬Jp (S1.ca i).has k n.toNat
def aI(S:HS)(p n page:Int)(S2:HS):Prop:=
 (∃S1,∃i k:Nat,i<64/\p=i/\n<16/\Jr S i S1/\Jp (S1.ca i).has k n.toNat/\(∀j,Jp (S1.ca i).has j n.toNat->k<=j)/\k+n.toNat<=64/\page=(S1.ca i).base+k/\S2=S1.JJ i k n.toNat)∨
 ∃S1,Ih S p n S1/\Gt S1.T n page/\S2=S1.Fp page n
def Jr.inv{S S1:HS}{i:Nat}(h:Jr S i S1)(hI:BN S no)(hk:Jw S)(d:i<64):BN S1 no:=by
 rcases h with ⟨h1,q,h2,rfl⟩|⟨h1,rfl⟩
 .exact hI.fill hk d h1 q
 .exact hI
def Ih.inv{S S1:HS}{p n:Int}(h:Ih S p n S1)(hI:BN S no)(hk:Jw S):BN S1 no:=by
 rcases h with ⟨_,rfl⟩|⟨i,d,_,_,h,_⟩
 .exact hI
 .exact h.inv hI hk d
section
variable{E:Env}{h:Nat}{S:HS}{Z:List Pr}{w:World}{g:HG}
def UO: ∀{l:Iv},Ok l->(l.length:Int)<=Gn l
 | [],_=>Int.le_refl _
 | p::r,h=>by
  have:=UO h.tail;have:=h.2.1;show((r.length+1:Nat):Int)<=p.2-p.1+Gn r;omega
variable(hE:EnvA E)
include hE
theorem kD(hT: ∀w',Sat Z w'->GL E.AN w')(H:Sat (BQ E h S::Z) w)(hI:BN S no){p n:Int}(n0:1<=n)(n1:n<=134217728){K:Int->Bool->World->Prop}
  (aR: ∀page S2,aI S p n page S2->BN S2 (inr page n)->0<=page->page+n<=34359738368-> ∀w',Sat (BQ E h S2::Z) w'->K page true w')
  (aW: ∀S1,Ih S p n S1->BN S1 no->(∀q,¬LO S1.T.fr q n)-> ∀w',Sat (BQ E h S1::Z) w'->K 0 false w'):F.Dd E (some ⟨h,0,none⟩) p n K w:=by
 have A2:=H.A2;obtain⟨g,aP,H⟩:=Sat.heap.1 H;unfold F.Dd T0.Dd;simp only[AG];have y: ∀S1 w3,Ih S p n S1->BN S1 no->S1.sp=S.sp->S1.V=S.V->S1.ks=S.ks->S1.own=S.own->S1.fx=S.fx->S1.hint=S.hint->S1.AA=S.AA->Sat (Ct E h S1 g++Z) w3->
   ∃aB:(Option Addr),w3.cell? ((Addr.mk h 0 none).add 1)=some (.pointer aB)/\F.A3 E aB n (λaK a1 aL aN=>K aK ((aL:Int)==0) aN) w3:=by
  intro S1 w3 ht O e1 e2 e3 e4 e5 e6 e7 H3;have d:cJ S1 g:=aP.same e1;have J:=(Sat.heap.2 ⟨g,d,H3⟩:Sat (BQ E h S1::Z) w3).A2;obtain⟨R,_,h1,hb⟩:=H3.S7;refine⟨_,(Ca (S:=S1) (g:=g) H3).2.1,T8 hE.toEnvS h1 (by omega) (by omega) (λe=>by omega) (λ_ Y w' H'=> ?_) λ_ page hf w' H'=> ?_⟩
  .exact aW S1 ht O Y w' (Sat.heap.2 ⟨g,⟨d.nd,d.mem⟩,hb H'⟩)
  .exact aR page (S1.Fp page n) (.inr ⟨S1,ht,hf,rfl⟩) (O.Fp J hf.2.2.1) hf.1 hf.2.1 w' (Sat.heap.2 ⟨g,⟨d.nd,d.mem⟩,hb H'⟩)
 refine AV (AV (tV (AB (λhp j=>AB (λhn=> ?_) λhn j=> ?_) λhp j=>AO rfl λj=> ?_)))
 .obtain⟨i,rfl⟩: ∃i:Nat,p=(i:Int):=⟨p.toNat,by omega⟩;have hi:i<64:=by omega
  rw[Int.toNat_natCast];refine⟨by omega,_,by rw[Nat.mul_one,add_add,Nat.add_comm];exact(Ca (S:=S) (g:=g) H).2.2.2.2.2.2.2 i hi,?_⟩;have v: ∀S1 aA,Jr S i S1->BN S1 no->S1.sp=S.sp->S1.V=S.V->S1.ks=S.ks->S1.own=S.own->S1.fx=S.fx->S1.hint=S.hint->S1.AA=S.AA->Sat (Ct E h S1 g++Z) aA->
    F.C5 E (some ⟨g.cb i,0,none⟩) (i64 n) (λaZ bD a0 aM=>CND ((a0:Int)==0) (K aZ true aM) (∀j:Nat->Value,∃aB:(Option Addr),aM.cell? ((Addr.mk h 0 none).add 1)=some (.pointer aB)/\F.A3 E aB n (λaK a1 aL aN=>K aK ((aL:Int)==0) aN) aM)) aA:=by
   intro S1 aA aQ O e1 e2 e3 e4 e5 e6 e7 aG;have d:cJ S1 g:=aP.same e1;have J:=(Sat.heap.2 ⟨g,d,aG⟩:Sat (BQ E h S1::Z) aA).A2;obtain⟨R,hR,h1,hb⟩:=aG.V2 hi;rw[AE (n:=n)];refine YV (hT _ (hR h1.tail.tail)) h1 (by omega) (by omega) (λa9=>by omega) (λ_ _ Y=>AO rfl λj=> ?_) λ_ _ k aF aS aO w' H'=>AU rfl ?_
   .exact y S1 aA (.inr ⟨i,hi,rfl,hn,aQ,Y⟩) O e1 e2 e3 e4 e5 e6 e7 aG
   .have aJ:=J.ci i hi;have q0:=aJ.b0;have q1:=aJ.b1;have q2:=aJ.b64;have aD:=O.JJ J hi aF aO;rw[show((n.toNat:Nat):Int)=n by omega]at aD;refine aR ((S1.ca i).base+k) (S1.JJ i k n.toNat) (.inl ⟨S1,i,k,hi,rfl,hn,aQ,aF,aS,aO,rfl,rfl⟩) aD (by omega) (by omega) w' (Sat.heap.2 ⟨g,⟨d.nd,d.mem⟩,hb H'⟩)
  obtain⟨R,hR,h1,hb⟩:=H.V2 hi;refine AV (Ld h1 (λhe=>AU rfl ⟨_,(Ca (S:=S) (g:=g) H).2.1,?_⟩) λhe=>AO rfl λj=> ?_)
  .refine bW hE.toEnvS h1 (λaY=>absurd he aY) (λ_ Y w' H' j=> ?_) λ_ q hq w' H' j=> ?_
   .have h2:=hb H';rw[gL]at h2;exact v S w' (.inr ⟨.inr Y,rfl⟩) hI rfl rfl rfl rfl rfl rfl rfl h2
   .exact v (S.fill i q) w' (.inl ⟨he,q,hq,rfl⟩) (hI.fill A2 hi he q) rfl rfl rfl rfl rfl rfl rfl (hb H')
  .exact v S w (.inr ⟨.inl he,rfl⟩) hI rfl rfl rfl rfl rfl rfl rfl H
 .exact y S w (.inl ⟨by omega,rfl⟩) hI rfl rfl rfl rfl rfl rfl rfl H
 .exact y S w (.inl ⟨by omega,rfl⟩) hI rfl rfl rfl rfl rfl rfl rfl H
def ID(n:Int):Int:=(n+511)/512*512
def Yw(S:HS)(n:Int)(S1:HS):Prop:=(∀r,S.V.rf≠true::r)/\ ∃at_,IK S.V S.hint (ID n) at_/\S1=S.grown {S.V with rf:=S.V.rf.tail,pl:=S.V.pl.tail,laid:=Dt S.V.laid at_ (at_+ID n)} at_ (ID n)
def RD(S:HS)(n:Int)(S1:HS):Prop:=(∃r,S.V.rf=true::r/\S1={S with V:={S.V with rf:=r}})∨((∀r,S.V.rf≠true::r)/\MA S.V S.hint (ID n)/\S1={S with V:={S.V with rf:=S.V.rf.tail,pl:=S.V.pl.tail}})
theorem cT(H:Sat (BQ E h S::Z) w)(hI:BN S no){n:Int}(n0:1<=n)(n1:n<=134217728){K:Int->World->Prop}
  (aP: ∀S1,Yw S n S1->BN S1 no->(∃at_,LO S1.T.fr at_ n)-> ∀w',Sat (BQ E h S1::Z) w'->K 0 w')(aD: ∀S1,RD S n S1->BN S1 no-> ∀w',Sat (BQ E h S1::Z) w'->K 13 w'):
  F.DD E (some ⟨h,0,none⟩) n K w:=by
 have A2:=H.A2;have aO:=hI.h0;have aX:=hI.h1;obtain⟨g,d,H⟩:=Sat.heap.1 H;unfold F.DD T0.DD;refine⟨by decide,AY λN hN=> ?_⟩;rw[AK (n:=n+512),AK (n:=n+512-1),Int.tdiv_eq_ediv_of_nonneg (by omega),AK (n:=(n+512-1)/512),AK]at hN;have hN:N=ID n:=by unfold ID;omega
 subst hN;have aQ:ID n %512=0/\n<=ID n/\ID n<=134217728:=by omega
 obtain⟨u1,u2,u3⟩:=aQ;have u4:ID n<n+512:=by omega
 simp only[AG];have Hd:=H.drew;refine⟨_,(Ca (S:=S) (g:=g) Hd).1,_,(Ca (S:=S) (g:=g) Hd).2.2.2.2.2.1,?_⟩;have bk: ∀{V':VS} {w'},Sat (Cx E g.m V'::(Ct E h S g++Z).eraseIdx 1) w'->Sat (Ct E h {S with V:=V'} g++Z) w':=λ{V' w'} h'=>Sat.back (Ps:=Ct E h S g++Z) 1 h' (by simp[Ct]);refine Wv hE.toEnvS (Hd.front 1 rfl) aO (by omega) (by omega) (by omega) (λy=>by omega) (λ_ r hr w' H'=>AU rfl ?_) (λ_ hr hu w' H'=>AU rfl ?_) λ_ hr at_ hc w8 H8=>AO rfl ?_
 .exact aD _ (.inl ⟨r,hr,rfl⟩) (hI.tW rfl rfl) w' (Sat.heap.2 ⟨g,⟨d.nd,d.mem⟩,bk H'⟩)
 .exact aD _ (.inr ⟨hr,hu,rfl⟩) (hI.tW rfl rfl) w' (Sat.heap.2 ⟨g,⟨d.nd,d.mem⟩,bk H'⟩)
 obtain⟨f1,f2,f3,f4⟩:=hc.fits A2.vv.Le (by omega);have a0:0<=at_:=by
  rcases hc with ⟨p,r,h1,h2,rfl⟩|⟨_,⟨_,h1,_⟩|⟨_,_,h1,_⟩⟩
  .obtain⟨g',aM,_⟩:=Sat.Se.1 (Hd.front 1 rfl:Sat (Cx E g.m S.V::_) _);exact(aM.fZ at_ (by rw[h1];exact List.mem_cons_self)).1
  .have:=h1.low;omega
  .have:=h1.low;omega
 have Y: ∀p,at_<=p->p<at_+ID n->S.T.KW p=false:=λp h1 h2=>GC λhp=>(DW A2.vv.Le (by omega)).1 f4 p h1 h2 ((hI.la p).2 hp);have H9:=bk H8;rw[AK (n:=at_+ID n)];refine AZ H9 (o:=0) (m:=69) rfl (by rw[cK];decide) λaR J=> ?_;rw[Nat.zero_add,cL]at J;have j:Sat (Ct E h {S with V:={S.V with rf:=S.V.rf.tail,pl:=S.V.pl.tail,laid:=Dt S.V.laid at_ (at_+ID n)},hint:=at_+ID n} g++Z) aR:=J;clear J;rw[Int.tdiv_eq_ediv_of_nonneg (by omega),Int.tdiv_eq_ediv_of_nonneg (by omega),AK (n:=at_/512),AK (n:=ID n/512)];refine⟨_,(Ca (S:={S with V:={S.V with rf:=S.V.rf.tail,pl:=S.V.pl.tail,laid:=Dt S.V.laid at_ (at_+ID n)},hint:=at_+ID n}) (g:=g) j).2.1,by decide,by decide,?_⟩;obtain⟨R,_,h1,hb⟩:=j.S7;refine jJ hE.toEnvS h1 (by omega) (by omega) (by omega) (by omega) (λy=>by unfold Lc at y;omega) (λ_ hex=> ?_) λ_ _ aS aI=> ?_
 .grind
 have aA:=(hb aI).drew;generalize hS3:({S with V:={S.V with rf:=S.V.rf.tail,pl:=S.V.pl.tail,laid:=Dt S.V.laid at_ (at_+ID n)},hint:=at_+ID n,T:=S.T.grow (at_/512) (ID n/512)}:HS)=S3;have e3:S3.hint=at_+ID n:=by grind
 have O:Sat (Ct E h S3 g++Z) aS.drew:=by rw[<-hS3];exact aA
 clear aA;have aC:=(Ca (S:=S3) (g:=g) O).2.2.2.2.2.1;rw[e3]at aC;refine⟨_,(Ca (S:=S3) (g:=g) O).2.2.1,by decide,_,aC,by decide,?_⟩;rw[Int.tdiv_eq_ediv_of_nonneg (by omega),AK (n:=(at_+ID n)/512)];refine jV hE (O.front 3 rfl) (by omega) (by omega) (by omega) λaF aJ=> ?_;have aB:Sat (Ct E h {S3 with ks:=Dt S3.ks (at_/512) ((at_+ID n)/512)} g++Z) aF:=Sat.back (Ps:=Ct E h S3 g++Z) 3 aJ (by simp[Ct]);have v:=(Ca (S:={S3 with ks:=Dt S3.ks (at_/512) ((at_+ID n)/512)}) (g:=g) aB).2.2.2.2.2.1;have aK:({S3 with ks:=Dt S3.ks (at_/512) ((at_+ID n)/512)}:HS).hint=at_+ID n:=e3;rw[aK]at v;refine⟨v,?_⟩;subst hS3;refine aP _ ⟨hr,at_,hc,rfl⟩ (hI.grown A2 a0 (by omega) (by omega) f1 u1 Y rfl rfl) ⟨at_,λm q1 q2=> ?_⟩ aF (Sat.heap.2 ⟨g,⟨d.nd,d.mem⟩,aB⟩);show(S.T.fr m||inr (at_/512*512) (ID n/512*512) m)=true;rw[Bool.or_eq_true,Ai];omega
def Js(S:HS)(page n:Int):TV:=⟨S.T.KW,λp=>S.T.fr p||inr page n p,λp=>S.T.rl p||(inr page n p&& !M5 S.V.ready p)⟩
omit hE in
theorem kE{S:HS}{page x y:Int}(h1:page<=x)(h2:x<=y)(d: ∀p,x<=p->p<y-> ¬mem S.V.ready p):(Js S page (x-page)).back x (y-x)=Js S page (y-page):=by
 have e: ∀p,inr page (y-page) p=(inr page (x-page) p||inr x (y-x) p):=λp=>by rw[Bool.eq_iff_iff,Bool.or_eq_true,Ai,Ai,Ai];omega
 unfold Js TV.back;refine(TV.mk.injEq ..).mpr ⟨rfl,funext λp=> ?_,funext λp=> ?_⟩
 .grind
 .show(S.T.rl p||(inr page (x-page) p&& !M5 S.V.ready p)||inr x (y-x) p)=_;rw[e];cases g:inr x (y-x) p
  .simp
  .have g:=Ai.1 g;have:M5 S.V.ready p=false:=GC λq=>d p (by omega) (by omega) (Bl.1 q)
   grind
omit hE in
theorem kF{S:HS}{page x y:Int}(h1:page<=x)(h2:x<=y)(d: ∀p,x<=p->p<y->mem S.V.ready p):(Js S page (x-page)).OY x (y-x)=Js S page (y-page):=by
 have e: ∀p,inr page (y-page) p=(inr page (x-page) p||inr x (y-x) p):=λp=>by rw[Bool.eq_iff_iff,Bool.or_eq_true,Ai,Ai,Ai];omega
 unfold Js TV.OY;refine(TV.mk.injEq ..).mpr ⟨rfl,funext λp=> ?_,funext λp=> ?_⟩
 .grind
 .show(S.T.rl p||(inr page (x-page) p&& !M5 S.V.ready p))=_;rw[e];cases g:inr x (y-x) p
  .simp
  .have g:=Ai.1 g;rw[Bl.2 (d p (by omega) (by omega))];simp
theorem cU{page n:Int}(H:Sat (BQ E h S::Z) w)(hI:BN S (inr page n))(p0:0<=page)(n0:1<=n)(pb:page+n<=34359738368){K:World->Prop}(hK:BN (S.E9 page n) no-> ∀w',Sat (BQ E h (S.E9 page n)::Z) w'->K w'):
  F.Cq E (some ⟨h,0,none⟩) page n K w:=by
 have A2:=H.A2;have a1:=hI.E9 A2;obtain⟨g,a0,H⟩:=Sat.heap.1 H;unfold F.Cq T0.Cq F.F7 T0.F7;simp only[AG];rw[AK (n:=page+n)];refine⟨_,(Ca (S:=S) (g:=g) H).1,?_⟩;simp only[AG];rw[show(Addr.mk g.m 0 none).add 5=⟨g.m,5,none⟩ by rw[add_eq]];obtain⟨gv,bE,HV⟩:=Sat.Se.1 (H.front 1 rfl:Sat (Cx E g.m S.V::_) w);refine Vq hE.toEnvS (HV.DR 1 rfl) (o:=5) rfl rfl p0 (by omega:page+n<18446744073709551616) λs' w3 H3 _=> ?_;have aX:Sat (IX E g.m S.V gv++(Row E.AD 2 s' (flat (withinL S.V.ready page (page+n)))::(Ct E h S g++Z).eraseIdx 1)) w3:=
  Sat.PC (IX E g.m S.V gv) (H3.perm (.cons _ (.cons _ (DX (i:=1) rfl).symm)))
 have H4:=Sat.Se.2 ⟨gv,bE,aX⟩;have H5:Sat (Row E.AD 2 s' (flat (withinL S.V.ready page (page+n)))::Cx E g.m S.V::(Ct E h S g++Z).eraseIdx 1) w3:=H4.perm (.swap _ _ _);have J:Sat (Ct E h S g++(Row E.AD 2 s' (flat (withinL S.V.ready page (page+n)))::Z)) w3:=by
  have h1:Sat (Row E.AD 2 s' (flat (withinL S.V.ready page (page+n)))::(Ct E h S g++Z)) w3:=H5.perm (.cons _ (DX (i:=1) rfl).symm);exact Sat.PC (Ct E h S g) h1
 clear H5 H4 aX H3 HV;have d:=UA A2.vv.Ol (a:=page) (b:=page+n) (by omega);have aA: ∀q,mem (withinL S.V.ready page (page+n)) q↔mem S.V.ready q/\page<=q/\q<page+n:=λq=>Ns;have aO: ∀q∈withinL S.V.ready page (page+n),page<=q.1/\q.1<q.2/\q.2<=page+n:=O8 A2.vv.Ol (by omega);generalize hl:withinL S.V.ready page (page+n)=l at J d aA aO;have hlen:s'.len=l.length:=by
  have:=((J.front 8 rfl:Sat (Row E.AD 2 s' (flat l)::_) _)).own.len;rw[FM]at this;omega
 have a9:(l.length:Int)<=n:=by
  have h1:=UO d;have h2:=LX d.aZ (a:=page) (b:=page+n) λq hq=>((aA q).1 hq).2;have h3:=E0 d (a:=page) (b:=page+n) (by omega);omega
 have a6: ∀p,page<=p->p<page+n->S.T.KW p=true:=λp a b=>hI.li p (Ai.2 ⟨a,b⟩);have aK: ∀{x y:Int},page<=x->x<y->y<=page+n->Hh (Js S page (x-page)) x (y-x):=λ{x y} a b c=>⟨by omega,by omega,λm q1 q2=>a6 m (by omega) (by omega)⟩;have aF: ∀{x y:Int},page<=x->y<=page+n-> ∀m,x<=m->m<x+(y-x)->(Js S page (x-page)).fr m=false:=λ{x y} a c m q1 q2=>by
  show(S.T.fr m||inr page (x-page) m)=false;rw[(hI.On A2 (Ai.2 ⟨by omega,by omega⟩)).1,IJ.2 (by omega)];rfl
 have aG: ∀{x y:Int} {Y:List Pr} {w5:World} {K5:Int->World->Prop},page<=x->x<=y->y<=page+n->(∀p,x<=p->p<y-> ¬mem S.V.ready p)->Sat (Ct E h {S with T:=Js S page (x-page)} g++Y) w5->
   (∀r w6,Sat (Ct E h {S with T:=Js S page (y-page)} g++Y) w6->K5 r w6)->F.Dk E (some ⟨g.t,0,none⟩) x (y-x) K5 w5:=by
  intro x y Y w5 K5 h1 h2 h3 bI H5 aM;obtain⟨R,_,q1,qb⟩:=H5.S7;refine jL hE.toEnvS q1 (by omega) (by omega) (by omega) (by omega) (λhb w6 J=> ?_) (λ_ hex w6 J=> ?_) λ_ _ w6 J=> ?_
  .have:x=y:=Classical.byContradiction λe=>hb (aK h1 (by omega) h3)
   grind
  .obtain⟨m,q1,q2,q3⟩:=hex;rw[aF h1 h3 m q1 q2]at q3;cases q3
  .rw[kE h1 h2 bI]at J;exact aM _ _ (qb J)
 have stepG: ∀{x y:Int} {Y:List Pr} {w5:World} {K5:Int->World->Prop},page<=x->x<y->y<=page+n->(∀p,x<=p->p<y->mem S.V.ready p)->Sat (Ct E h {S with T:=Js S page (x-page)} g++Y) w5->
   (∀r w6,Sat (Ct E h {S with T:=Js S page (y-page)} g++Y) w6->K5 r w6)->F.DE E (some ⟨g.t,0,none⟩) x (y-x) K5 w5:=by
  intro x y Y w5 K5 h1 h2 h3 a3 H5 aM;obtain⟨R,_,q1,qb⟩:=H5.S7;refine Vn hE.toEnvS q1 (by omega) (by omega) (by omega) (by omega) (λhb w6 J=>absurd (aK h1 h2 h3) hb) (λ_ hex w6 J=> ?_) λ_ _ w6 J=> ?_
  .obtain⟨m,q1,q2,q3⟩:=hex;rw[aF h1 h3 m q1 q2]at q3;cases q3
  .rw[kF h1 (by omega) a3]at J;exact aM _ _ (qb J)
 refine AH (λst w'=> ∃i:Nat,st.2.1=(i:Int)/\i<=l.length/\page<=st.1/\st.1<=page+n/\(∀j q,j<i->l[j]? =some q->q.2<=st.1)/\(∀j q,i<=j->l[j]? =some q->st.1<=q.1)/\
   Sat (Ct E h {S with T:=Js S page (st.1-page)} g++(Row E.AD 2 s' (flat l)::Z)) w') (λst _=>((l.length:Int)-st.2.1).toNat) ⟨0,rfl,Nat.zero_le _,Int.le_refl _,by omega,λj q hj=>absurd hj (Nat.not_lt_zero j),λj q _ hq=>(aO q (List.mem_of_getElem? hq)).1,?_⟩ ?_
 .have e:Js S page (page-page)=S.T:=by
   unfold Js;have: ∀p,inr page (page-page) p=false:=λp=>IJ.2 (by omega);simp only[this,Bool.or_false,Bool.false_and]
  show Sat (Ct E h {S with T:=Js S page (page-page)} g++_) w3;rw[e];exact J
 rintro⟨at_,i',v⟩ _ w6 ⟨i,hi,a5,aN,a2,bH,a4,J⟩;dsimp only at hi aN a2 bH a4 J⊢;subst hi;rw[hlen];refine AB (λbU=> ?_) λbT=> ?_
 .have a5:i<l.length:=by omega
  obtain⟨x,hx⟩: ∃x,l[i]? =some x:=⟨_,List.getElem?_eq_getElem a5⟩;obtain⟨x1,x2,x3⟩:=aO x (List.mem_of_getElem? hx);have x4:=a4 i x (Nat.le_refl _) hx;obtain⟨bb,bG,k1,k2⟩:=(J.front 8 rfl:Sat (Row E.AD 2 s' (flat l)::_) _).own.cells2 hx;rw[bG];simp only[AG,Int.toNat_natCast];refine⟨⟨by omega,by omega⟩,x.1,by rw[add_eq,add_eq,Nat.zero_add,Nat.add_zero];exact k1,x.2,by rw[add_eq,add_eq,Nat.zero_add];exact k2,?_⟩;refine AR (vs:=[.int .u64 0,.int .u64 0]) J λaB bY bA _=> ?_;refine GM (news:=[.int .u64 x.1,.int .u64 x.2]) bA rfl (by simp[Value.oneCell']) λbZ bB=> ?_;have aJ:=bB.drew;have hC: ∀{w'} {Y:List Pr},Sat (Cells aB E.AD [.int .u64 x.1,.int .u64 x.2]::Y) w'->w'.cell? (Addr.mk aB 0 none)=some (.int .u64 x.1)/\w'.cell? ((Addr.mk aB 0 none).add 1)=some (.int .u64 x.2):=λh=>⟨h.Ah rfl,h.cell rfl⟩;have aH: ∀{w'} {S':HS},Sat (Ct E h S' g++(Cells aB E.AD [.int .u64 x.1,.int .u64 x.2]::Row E.AD 2 s' (flat l)::Z)) w'->Sat (Cells aB E.AD [.int .u64 x.1,.int .u64 x.2]::(Ct E h S' g++(Row E.AD 2 s' (flat l)::Z))) w':=λ{w' S'} h=>h.perm List.perm_middle;have bK: ∀{w'} {S':HS},Sat (Cells aB E.AD [.int .u64 x.1,.int .u64 x.2]::(Ct E h S' g++(Row E.AD 2 s' (flat l)::Z))) w'->Sat (Ct E h S' g++(Cells aB E.AD [.int .u64 x.1,.int .u64 x.2]::Row E.AD 2 s' (flat l)::Z)) w':=λ{w' S'} q=>Sat.PC (Ct E h S' g) q;have aV:=bK aJ;refine⟨_,(Ca (S:={S with T:=Js S page (at_-page)}) (g:=g) aV).2.1,_,(hC aJ).1,?_⟩;rw[AK (n:=x.1-at_)];refine aG aN x4 (by omega) (λp q1 q2 hm=> ?_) aV λr b0 aW=> ?_
  .obtain⟨y,hy,y1,y2⟩:=(aA p).2 ⟨hm,by omega,by omega⟩;obtain⟨j,hj⟩:=List.mem_iff_getElem?.1 hy;rcases Nat.lt_trichotomy j i with g1|g1|g1
   .grind
   .grind
   .have:=d.lt g1 hx hj;omega
  have O:=aW.drew;refine⟨(hC (aH aW)).1,_,(Ca (S:={S with T:=Js S page (x.1-page)}) (g:=g) O).2.1,_,(hC (aH O)).1,_,(hC (aH O)).2,_,(hC (aH O)).1,?_⟩;rw[AK (n:=x.2-x.1)];refine stepG (by omega) x2 x3 (λp q1 q2=>((aA p).1 ⟨x,List.mem_of_getElem? hx,q1,q2⟩).1) O λr b1 bC=> ?_;have aC:=aH bC;refine⟨(hC aC).1,(hC aC).2,_,(hC aC).2,?_⟩;rw[AE (n:=(i:Int)+1)];refine⟨⟨i+1,by omega,by omega,by show page<=x.2;omega,x3,λj q hj hq=> ?_,λj q hj hq=> ?_,aC.tail⟩,by omega⟩
  .rcases Nat.lt_or_eq_of_le (Nat.le_of_lt_succ hj)with g1|g1
   .grind
   grind
  .have:=d.lt (show i<j by omega) hx hq;omega
 .have e:i=l.length:=by omega
  subst e;refine⟨_,(Ca (S:={S with T:=Js S page (at_-page)}) (g:=g) J).2.1,?_⟩;rw[AK (n:=page+n-at_)];refine aG aN a2 (Int.le_refl _) (λp q1 q2 hm=> ?_) J λr bM aY=> ?_
  .obtain⟨y,hy,y1,y2⟩:=(aA p).2 ⟨hm,by omega,by omega⟩;obtain⟨j,hj⟩:=List.mem_iff_getElem?.1 hy
   grind
  .rw[show page+n-page=n by omega]at aY;exact hK a1 bM (Sat.heap.2 ⟨g,⟨a0.nd,a0.mem⟩,Sat.QB (Ct E h (S.E9 page n) g) aY⟩)
end
def UP(S:HS)(p n page:Int)(S1:HS):Prop:=
 aI S p n page S1∨ ∃j d,Ih S p n j/\(∀q,¬LO j.T.fr q n)/\Yw j n d/\Gt d.T n page/\S1=d.Fp page n
def Jt(S:HS)(page n:Int):Prop:= ∀q,page<=q->q<page+n->mem S.V.ready q
def Made(S1:HS)(page n:Int)(S2:HS):Prop:=(Jt S1 page n/\S2=S1)∨(¬Jt S1 page n/\(∀r,S1.V.rf≠true::r)/\S2={S1 with V:=IY S1.V page n})
def Found(S:HS)(p n page:Int)(S2:HS):Prop:= ∃S1,UP S p n page S1/\Made S1 page n S2
def Sg(S:HS)(p n:Int)(S2:HS):Prop:=
 (∃d,Ih S p n d/\(∀q,¬LO d.T.fr q n)/\RD d n S2)∨
 ∃S1 page r,UP S p n page S1/\ ¬Jt S1 page n/\S1.V.rf=true::r/\S2=({S1 with V:={S1.V with rf:=r}}:HS).E9 page n
section
variable{E:Env}{h:Nat}{S:HS}{Z:List Pr}{w:World}{g:HG}
def BN.pgs{S:HS}{fl:Int->Bool}(hI:BN S fl):0<=S.AA/\S.AA<=34359738368:=by
 rw[hI.pg];exact Lr _
def Sat.yC(H:Sat (BQ E h S::Z) w): ∃m R,w.cell? (Addr.mk h 0 none)=some (.pointer (some ⟨m,0,none⟩))/\Sat (Cx E m S.V::R) w/\
  ∀{V':VS} {w'},Sat (Cx E m V'::R) w'->Sat (BQ E h {S with V:=V'}::Z) w':=by
 obtain⟨g,hI,H⟩:=Sat.heap.1 H;refine⟨g.m,_,(Ca (S:=S) (g:=g) H).1,H.front 1 rfl,λ{V' w'} h'=>Sat.heap.2 ⟨g,⟨hI.nd,hI.mem⟩,?_⟩⟩;exact Sat.back (Ps:=Ct E h S g++Z) 1 h' (by simp[Ct])
def Sat.oV(H:Sat (BQ E h S::Z) w): ∃t R,w.cell? ((Addr.mk h 0 none).add 1)=some (.pointer (some ⟨t,0,none⟩))/\Sat (Bi E t S.T::R) w/\
  ∀{d:TV} {w'},Sat (Bi E t d::R) w'->Sat (BQ E h {S with T:=d}::Z) w':=by
 obtain⟨g,hI,H⟩:=Sat.heap.1 H;refine⟨g.t,_,(Ca (S:=S) (g:=g) H).2.1,H.front 2 rfl,λ{V' w'} h'=>Sat.heap.2 ⟨g,⟨hI.nd,hI.mem⟩,?_⟩⟩;exact Sat.back (Ps:=Ct E h S g++Z) 2 h' (by simp[Ct])
variable(hE:EnvA E)
include hE
theorem cV(hT: ∀w',Sat Z w'->GL E.AN w')(H:Sat (BQ E h S::Z) w)(hI:BN S no){p n:Int}(n0:1<=n)(n1:n<=134217728){K:Int->Int->World->Prop}
  (bX: ∀page S2,Found S p n page S2->BN S2 (inr page n)->0<=page->page+n<=34359738368->Jt S2 page n-> ∀w',Sat (BQ E h S2::Z) w'->K page 0 w')
  (bE: ∀S2,Sg S p n S2->BN S2 no-> ∀w',Sat (BQ E h S2::Z) w'->K 0 13 w'):F.Dl E (some ⟨h,0,none⟩) p n K w:=by
 unfold F.Dl T0.Dl;refine AR (vs:=[.pointer (some ⟨h,0,none⟩)]) H λb1 w2 H2 _=>AR (vs:=[.int .u64 n]) H2 λb3 w4 H4 _=>AR (vs:=[.int .i64 0]) H4 λT w6 H6 _=> ?_;have H7:=H6.front 3 rfl;have d: ∀{w'} {S':HS} {x:Int} {Y:List Pr},Sat (BQ E h S'::Cells T E.CP [.int .i64 x]::Cells b3 E.AJ [.int .u64 n]::Cells b1 E.BH [.pointer (some ⟨h,0,none⟩)]::Y) w'->
   w'.cell? (Addr.mk b1 0 none)=some (.pointer (some ⟨h,0,none⟩))/\w'.cell? (Addr.mk b3 0 none)=some (.int .u64 n)/\w'.cell? (Addr.mk T 0 none)=some (.int .i64 x):=λq=>⟨(q.front 3 rfl).Ah rfl,(q.front 2 rfl).Ah rfl,(q.front 1 rfl).Ah rfl⟩
 have aP: ∀{w'} {S':HS} {x y:Int} {Y:List Pr} {K':World->Prop},Sat (BQ E h S'::Cells T E.CP [.int .i64 x]::Cells b3 E.AJ [.int .u64 n]::Cells b1 E.BH [.pointer (some ⟨h,0,none⟩)]::Y) w'->
   (∀aV,Sat (BQ E h S'::Cells T E.CP [.int .i64 y]::Cells b3 E.AJ [.int .u64 n]::Cells b1 E.BH [.pointer (some ⟨h,0,none⟩)]::Y) aV->K' aV)->stCells (Addr.mk T 0 none) 0 [.int .i64 y] w' K':=λ{w' S' x y Y K'} q hq=>by
  refine CO (q.front 1 rfl) (o:=0) rfl (by simp) λaV q'=>hq aV ?_;exact q'.perm (.swap _ _ _)
 have aY: ∀{w'} {S':HS} {x:Int},Sat (BQ E h S'::Cells T E.CP [.int .i64 x]::Cells b3 E.AJ [.int .u64 n]::Cells b1 E.BH [.pointer (some ⟨h,0,none⟩)]::Z) w'->Sat (BQ E h S'::Z) w':=λ{w' S' x} q=>by
  have q1:=(q.front 1 rfl).tail;have q2:=(q1.front 1 rfl).tail;exact(q2.front 1 rfl).tail
 have bV: ∀w',Sat (Cells T E.CP [.int .i64 0]::Cells b3 E.AJ [.int .u64 n]::Cells b1 E.BH [.pointer (some ⟨h,0,none⟩)]::Z) w'->GL E.AN w':=λw' q=>hT w' q.tail.tail.tail;refine⟨_,(d H7).1,_,(d H7).2.1,?_⟩;have aO: ∀page S1,UP S p n page S1->BN S1 (inr page n)->0<=page->page+n<=34359738368-> ∀x a2,Sat (BQ E h S1::Cells T E.CP [.int .i64 x]::Cells b3 E.AJ [.int .u64 n]::Cells b1 E.BH [.pointer (some ⟨h,0,none⟩)]::Z) a2->
  AL (.cells #[.int .u64 0] E.AJ) a2 λO bI=>
  stCells (Addr.mk O 0 none) 0 [.int .u64 page] bI λaH=>
  ∃a4:(Option Addr),aH.drew.cell? (Addr.mk b1 0 none)=some (.pointer a4)/\
  NC a4 λb7=>
  ∃bJ:(Option Addr),aH.drew.cell? b7=some (.pointer bJ)/\
  ∃bK:Int,aH.drew.cell? (Addr.mk b3 0 none)=some (.int .u64 bK)/\
  F.Cp E bJ page bK (λb9 v=>
  v.cell? (Addr.mk b1 0 none)=some (.pointer a4)/\
  CND ((b9:Int) !=0) (
   stCells (Addr.mk T 0 none) 0 [.int .i64 13] v λcE=>
   F.BB E (some (Addr.mk T 0 none)) (some (Addr.mk b1 0 none)) (some (Addr.mk O 0 none)) (some (Addr.mk b3 0 none)) (λa3=>
    ∃bL:Int,a3.cell? (Addr.mk T 0 none)=some (.int .i64 bL)/\
    K 0 bL a3
   ) cE
  ) (
   stCells (Addr.mk T 0 none) 0 [.int .i64 0] v λaR=>
   F.BB E (some (Addr.mk T 0 none)) (some (Addr.mk b1 0 none)) (some (Addr.mk O 0 none)) (some (Addr.mk b3 0 none)) (λaS=>
    ∃aT:Int,aS.cell? (Addr.mk T 0 none)=some (.int .i64 aT)/\
    K page aT aS
   ) aR
  )
  ) aH.drew:=by
  intro page S1 hk aB q0 q1 x a2 a6;have aA:=a6.A2;refine AR (vs:=[.int .u64 0]) a6 λO bI bO _=>CO bO (o:=0) rfl (by simp) λaH bP=> ?_;have bQ:Sat (BQ E h S1::Cells T E.CP [.int .i64 x]::Cells b3 E.AJ [.int .u64 n]::Cells b1 E.BH [.pointer (some ⟨h,0,none⟩)]::Cells O E.AJ [.int .u64 page]::Z) aH:=bP.perm ((DX (l:=BQ E h S1::Cells T E.CP [.int .i64 x]::Cells b3 E.AJ [.int .u64 n]::Cells b1 E.BH [.pointer (some ⟨h,0,none⟩)]::Cells O E.AJ [.int .u64 page]::Z) (i:=4) rfl).symm);have aU:=bQ.drew;obtain⟨m,R,c0,hm,hb⟩:=aU.yC;refine⟨_,(d aU).1,?_⟩;simp only[AG];refine⟨_,c0,_,(d aU).2.1,?_⟩;have bB: ∀{w'} {S':HS} {x:Int},Sat (BQ E h S'::Cells T E.CP [.int .i64 x]::Cells b3 E.AJ [.int .u64 n]::Cells b1 E.BH [.pointer (some ⟨h,0,none⟩)]::Cells O E.AJ [.int .u64 page]::Z) w'->w'.cell? (Addr.mk O 0 none)=some (.int .u64 page):=λq=>(q.front 4 rfl).Ah rfl;have aG: ∀{w'} {S':HS} {x:Int},Sat (BQ E h S'::Cells T E.CP [.int .i64 x]::Cells b3 E.AJ [.int .u64 n]::Cells b1 E.BH [.pointer (some ⟨h,0,none⟩)]::Cells O E.AJ [.int .u64 page]::Z) w'->Sat (BQ E h S'::Z) w':=λ{w' S' x} q=>by
   have q1:=(q.front 1 rfl).tail;have q2:=(q1.front 1 rfl).tail;have q3:=(q2.front 1 rfl).tail;exact(q3.front 1 rfl).tail
  have bD: ∀q,page<=q->q<page+n->inr page n q=true:=λq a b=>Ai.2 ⟨a,b⟩;have aZ:cnt S1.V.laid page (page+n)=n:=by
   have:=(Eu aA.vv.Le (a:=page) (b:=page+n) (by omega)).2 λq a b=>(aB.la q).2 (aB.li q (bD q a b));omega
  have aM:=Eu aA.vv.Ol (a:=page) (b:=page+n) (by omega);have J:cnt S1.V.ready page (page+n)=n↔Jt S1 page n:=⟨λe=>aM.1 (by omega),λe=>by have:=aM.2 e;omega⟩;have same:({S1 with V:=S1.V}:HS)=S1:=rfl;have aN: ∀S2 v,Made S1 page n S2->BN S2 (inr page n)->Jt S2 page n->Sat (BQ E h S2::Cells T E.CP [.int .i64 x]::Cells b3 E.AJ [.int .u64 n]::Cells b1 E.BH [.pointer (some ⟨h,0,none⟩)]::Cells O E.AJ [.int .u64 page]::Z) v->
    stCells (Addr.mk T 0 none) 0 [.int .i64 0] v λaR=>
    F.BB E (some (Addr.mk T 0 none)) (some (Addr.mk b1 0 none)) (some (Addr.mk O 0 none)) (some (Addr.mk b3 0 none)) (λaS=>
     ∃aT:Int,aS.cell? (Addr.mk T 0 none)=some (.int .i64 aT)/\
     K page aT aS) aR:=by
   intro S2 v bY aF b0 aC;refine aP aC λaR aX=> ?_;unfold F.BB T0.BB;simp only[AG];exact⟨_,(d aX).2.2,AO rfl ⟨_,(d aX).2.2,bX page S2 ⟨S1,hk,bY⟩ aF q0 q1 b0 aR (aG aX)⟩⟩
  refine commit_spec hE.toEnvS hm q0 (by omega) (by omega) (by omega) (λbC=>absurd ⟨by omega,q1⟩ bC) (λ_ hl=>absurd aZ hl) (λ_ _ hr v bG=> ?_) (λ_ _ hr r a0 v aC=> ?_) λ_ _ hr a0 v aC=> ?_
  .have aC:=aU.nothing bG;exact⟨(d aC).1,AO rfl (aN S1 v (.inl ⟨J.1 hr,rfl⟩) aB (J.1 hr) aC)⟩
  .have aK:=hb aC;refine⟨(d aK).1,AU rfl (aP aK λa3 aL=> ?_)⟩;unfold F.BB T0.BB;simp only[AG];refine⟨_,(d aL).2.2,AU rfl ⟨_,(d aL).1,_,bB aL,_,(d aL).2.1,?_⟩⟩;have aF:BN {S1 with V:={S1.V with rf:=r}} (inr page n):=aB.tW rfl rfl;refine cU hE aL aF q0 n0 q1 λbU cF a9=>⟨_,(d a9).2.2,?_⟩;exact bE _ (.inr ⟨S1,page,r,hk,λe=>hr (J.2 e),a0,rfl⟩) bU cF (aG a9)
  .have aK:=hb aC;have aF:BN {S1 with V:=IY S1.V page n} (inr page n):=aB.PG aA q0 (by omega) q1 bD;exact⟨(d aK).1,AO rfl (aN _ v (.inr ⟨λe=>hr (J.2 e),a0,rfl⟩) aF (W4 aA q0 (by omega) q1) aK)⟩
 refine kD hE bV H7 hI n0 n1 (λpage S1 hg aB q0 q1 bH aI=>AV (AO rfl λj=>aO page S1 (.inl hg) aB q0 q1 0 bH aI)) λS0 ht bT bF bH aI=>AV (AU rfl ⟨_,(d aI).1,_,(d aI).2.1,?_⟩);refine cT hE aI bT n0 n1 (λbA hg aB cI cA aW=> ?_) λS2 bZ aF cA aW=> ?_
 .refine aP aW λcB aJ=>⟨_,(d aJ).2.2,AO rfl ?_⟩;have aE:=aJ.drew;have aA:=aE.A2;obtain⟨t,R,c1,b4,hb⟩:=aE.oV;refine⟨_,(d aE).1,?_⟩;simp only[AG];refine⟨_,c1,_,(d aE).2.1,?_⟩;refine T8 hE.toEnvS b4 (by omega) (by omega) (λe=>by omega) (λ_ cH w' H'=> ?_) λ_ page hf cD bN=> ?_
  .grind
  .have a8:=hb bN;exact⟨(d a8).1,λj=>aO page (bA.Fp page n) (.inr ⟨S0,bA,ht,bF,hg,hf,rfl⟩) (aB.Fp aA hf.2.2.1) hf.1 hf.2.1 0 cD a8⟩
 .refine aP aW λcB aJ=>⟨_,(d aJ).2.2,AU rfl ?_⟩;have aE:=aJ.drew;refine⟨_,(d aE).2.2,aP aE λcC a7=>⟨_,(d a7).2.2,?_⟩⟩;exact bE S2 (.inl ⟨S0,ht,bF,bZ⟩) aF cC (aY a7)
theorem cW{page n:Int}{b:Nat}{I:SI}(H:Sat (C9 E b I::BQ E h S::Z) w)(hI:BN S (inr page n))(p0:0<=page)(n0:1<=n)(pb:page+n<=34359738368)(hr:Jt S page n)
  (i1:I.base=page*8192)(i2:I.AA=n)(i3:I.state≠0){K:Int->World->Prop}
  (hK: ∀id X,Next S id X->BN (S.Cv id (b,I) page n X) no-> ∀w',Sat (BQ E h (S.Cv id (b,I) page n X)::Z) w'->K id w'):F.Eh E (some ⟨h,0,none⟩) (some ⟨b,0,none⟩) K w:=by
 have A2:=(H.front 1 rfl:Sat (BQ E h S::_) w).A2;have bP:=hI.fb;obtain⟨g,aF,H0⟩:=Sat.heap.1 (H.front 1 rfl:Sat (BQ E h S::C9 E b I::Z) w);unfold F.Eh T0.Eh;simp only[AG];refine⟨_,(Ca (S:=S) (g:=g) H0).2.2.2.1,?_⟩;have J: ∀id X,Next S id X-> ∀w4,Sat (Ct E h {S with fx:=X} g++(C9 E b I::Z)) w4->
   ∃x6:(Option Nat),w4.cell? ((Addr.mk h 0 none).add 4)=some (.map x6)/\
   WQ .i64 id (.pointer (some ⟨b,0,none⟩)) x6 w4 λw7=>
   F.Be E (some ⟨b,0,none⟩) (λr8 r9 a6 a7 a8 a9 bA bB bC bD aQ=>
   AL (.cells #[.int .u64 0,.int .i64 0,.int .i64 0,.int .i64 0,.bool false,.int .i64 0,.int .i64 0,.int .i64 0,.bool false,.bool false] E.Bd) aQ λd aR=>
   stCells (Addr.mk d 0 none) 0 [.int .u64 r8,.int .i64 r9,.int .i64 a6,.int .i64 a7,.bool a8,.int .i64 a9,.int .i64 bA,.int .i64 bB,.bool bC,.bool bD] aR λj=>
   ∃aS:(Option Addr),j.drew.cell? ((Addr.mk h 0 none).add 2)=some (.pointer aS)/\
   ∃aI:Int,j.drew.cell? (Addr.mk d 0 none)=some (.int .u64 aI)/\
   8192≠(0:Int)/\
   ∃aJ:Int,j.drew.cell? ((Addr.mk d 0 none).add 1)=some (.int .i64 aJ)/\
   F.D8 E aS (u64 (Int.tdiv aI 8192)) (u64 (aJ)) id (λbT v=>
   v.cell? ((Addr.mk d 0 none).add 1)=some (.int .i64 aJ)/\
   v.cell? (Addr.mk d 0 none)=some (.int .u64 aI)/\
   ∃aT:Int,v.drew.cell? ((Addr.mk h 0 none).add 70)=some (.int .u64 aT)/\
   ∃aU:Int,v.drew.cell? ((Addr.mk d 0 none).add 1)=some (.int .i64 aU)/\
   stCells ((Addr.mk h 0 none).add 70) 0 [.int .u64 (u64 (aT+(u64 (aU))))] v.drew λaH=>
   K id aH
   ) j.drew
   ) w7:=by
  intro id X hX w4 H4;obtain⟨O1,aG,a3⟩:=hX.live A2 hI;refine⟨_,(Ca (S:={S with fx:=X}) (g:=g) H4).2.2.2.2.1,fD (H4.front 5 rfl) λw7 H7=> ?_⟩;have e:(λi=>if i=id then some (Value.pointer (some ⟨b,0,none⟩))else EA S.sp i)=EA λi=>if i=id then some (b,I)else S.sp i:=funext λi=>by
   unfold EA
   grind
  have aM:Sat (Dm g.sm .i64 (λi=>if i=id then some (Value.pointer (some ⟨b,0,none⟩))else EA S.sp i)::(Ct E h {S with fx:=X} g++(C9 E b I::Z)).eraseIdx 5) w7:=H7;rw[e]at aM;have H8:Sat (C9 E b I::Dm g.sm .i64 (EA λi=>if i=id then some (b,I)else S.sp i)::[Cells h E.Ae (B4 g S.hint S.AA),Cx E g.m S.V,Bi E g.t S.T,CK E g.a S.ks S.own,Gk E g.f X,Ad (spR E S.sp) g.ids,Ad (λi:Nat=>BE E (g.cb i) (S.ca i)) (List.range 64)]++Z) w7:=
   aM.front 8 rfl
  refine IL H8 λaQ aW=> ?_;refine AR (vs:=[.int .u64 0,.int .i64 0,.int .i64 0,.int .i64 0,.bool false,.int .i64 0,.int .i64 0,.int .i64 0,.bool false,.bool false]) aW λd aR aX _=> ?_;refine GM (news:=[.int .u64 I.base,.int .i64 I.AA,.int .i64 I.state,.int .i64 I.cls,.bool I.FY,.int .i64 I.elem,.int .i64 I.AM,.int .i64 I.used,.bool I.f8,.bool I.f9]) aX rfl (by simp[Value.oneCell']) λj aC=> ?_;have aP:id∉g.ids:=λq=>(aF.mem id).1 q aG;have y:Ad (spR E S.sp) g.ids=Ad (spR E λi=>if i=id then some (b,I)else S.sp i) g.ids:=Ad.congr λi hi=>by
   unfold spR
   grind
  have aA:C9 E b I=spR E (λi=>if i=id then some (b,I)else S.sp i) id:=by unfold spR;grind
  generalize hsp:(λi=>if i=id then some (b,I)else S.sp i)=sp' at aC y aA;have aY:Sat (Cells d E.Bd [.int .u64 I.base,.int .i64 I.AA,.int .i64 I.state,.int .i64 I.cls,.bool I.FY,.int .i64 I.elem,.int .i64 I.AM,.int .i64 I.used,.bool I.f8,.bool I.f9]::(Ct E h {S with fx:=X,sp:=sp'} {g with ids:=id::g.ids}++Z)) j:=by
   rw[y,aA]at aC;have q1:Sat (spR E sp' id::Ad (spR E sp') g.ids::[Cells d E.Bd [.int .u64 I.base,.int .i64 I.AA,.int .i64 I.state,.int .i64 I.cls,.bool I.FY,.int .i64 I.elem,.int .i64 I.AM,.int .i64 I.used,.bool I.f8,.bool I.f9],Dm g.sm .i64 (EA sp'),Cells h E.Ae (B4 g S.hint S.AA),Cx E g.m S.V,Bi E g.t S.T,CK E g.a S.ks S.own,Gk E g.f X,Ad (λi:Nat=>BE E (g.cb i) (S.ca i)) (List.range 64)]++Z) j:=
    (aC.front 1 rfl).DR 7 rfl
   have q2:=Sat.Jf.2 q1;refine q2.perm ?_;show List.Perm _ (Cells d E.Bd [.int .u64 I.base,.int .i64 I.AA,.int .i64 I.state,.int .i64 I.cls,.bool I.FY,.int .i64 I.elem,.int .i64 I.AM,.int .i64 I.used,.bool I.f8,.bool I.f9]::([Cells h E.Ae (B4 g S.hint S.AA),Cx E g.m S.V,Bi E g.t S.T,CK E g.a S.ks S.own,Gk E g.f X,Dm g.sm .i64 (EA sp'),Ad (spR E sp') (id::g.ids),Ad (λi:Nat=>BE E (g.cb i) (S.ca i)) (List.range 64)]++Z));refine List.Perm.trans (.swap _ _ _) (.cons _ ?_);refine List.Perm.append_right (l₁:=[Ad (spR E sp') (id::g.ids),Dm g.sm .i64 (EA sp'),Cells h E.Ae (B4 g S.hint S.AA),Cx E g.m S.V,Bi E g.t S.T,CK E g.a S.ks S.own,Gk E g.f X,Ad (λi:Nat=>BE E (g.cb i) (S.ca i)) (List.range 64)]) Z ?_;refine List.Perm.trans (.swap _ _ _) ?_;refine List.Perm.trans (List.perm_middle (a:=Dm g.sm .i64 (EA sp')) (l₁:=[])|>.symm) ?_;have p1:List.Perm (Dm g.sm .i64 (EA sp')::Ad (spR E sp') (id::g.ids)::([Cells h E.Ae (B4 g S.hint S.AA),Cx E g.m S.V,Bi E g.t S.T,CK E g.a S.ks S.own,Gk E g.f X]++[Ad (λi:Nat=>BE E (g.cb i) (S.ca i)) (List.range 64)])) ([Cells h E.Ae (B4 g S.hint S.AA),Cx E g.m S.V,Bi E g.t S.T,CK E g.a S.ks S.own,Gk E g.f X]++(Dm g.sm .i64 (EA sp')::Ad (spR E sp') (id::g.ids)::[Ad (λi:Nat=>BE E (g.cb i) (S.ca i)) (List.range 64)])):=by
    refine List.Perm.trans (.cons _ List.perm_middle.symm) ?_;exact List.perm_middle.symm
   exact p1
  have O:=aY.drew;have hB: ∀{w'} {Y:List Pr},Sat (Cells d E.Bd [.int .u64 I.base,.int .i64 I.AA,.int .i64 I.state,.int .i64 I.cls,.bool I.FY,.int .i64 I.elem,.int .i64 I.AM,.int .i64 I.used,.bool I.f8,.bool I.f9]::Y) w'->w'.cell? (Addr.mk d 0 none)=some (.int .u64 I.base)/\w'.cell? ((Addr.mk d 0 none).add 1)=some (.int .i64 I.AA):=λq=>⟨q.Ah rfl,q.cell rfl⟩;have hA:=(Ca (S:={S with fx:=X,sp:=sp'}) (g:={g with ids:=id::g.ids}) O.tail).2.2.1;refine⟨_,hA,_,(hB O).1,by decide,_,(hB O).2,?_⟩;have e1:u64 (Int.tdiv I.base 8192)=page:=by rw[i1,Int.tdiv_eq_ediv_of_nonneg (by omega),show page*8192/8192=page by omega,AK]
  have e2:u64 I.AA=n:=by rw[i2,AK]
  rw[e1,e2];have aZ:=O.front 4 rfl;refine Yh hE aZ p0 (by omega) (by omega) (by omega) ⟨by omega,by omega,pb,λq q1 q2=>(hI.ks q).2 (hI.li q (Ai.2 ⟨q1,q2⟩))⟩ λv a0=> ?_;have aD:Sat (Cells d E.Bd [.int .u64 I.base,.int .i64 I.AA,.int .i64 I.state,.int .i64 I.cls,.bool I.FY,.int .i64 I.elem,.int .i64 I.AM,.int .i64 I.used,.bool I.f8,.bool I.f9]::(Ct E h {S with fx:=X,sp:=sp',own:=λp=>if page<=p/\p<page+n then id else S.own p} {g with ids:=id::g.ids}++Z)) v:=
   Sat.back (Ps:=Cells d E.Bd [.int .u64 I.base,.int .i64 I.AA,.int .i64 I.state,.int .i64 I.cls,.bool I.FY,.int .i64 I.elem,.int .i64 I.AM,.int .i64 I.used,.bool I.f8,.bool I.f9]::(Ct E h {S with fx:=X,sp:=sp'} {g with ids:=id::g.ids}++Z)) 4 a0 (by simp[Ct])
  have aE:=aD.drew;have hP:=(Ca (S:={S with fx:=X,sp:=sp',own:=λp=>if page<=p/\p<page+n then id else S.own p}) (g:={g with ids:=id::g.ids}) aE.tail).2.2.2.2.2.2.1;refine⟨(hB aD).2,(hB aD).1,_,hP,_,(hB aE).2,?_⟩;rw[e2];have bQ:=hI.pg;have bO:=Lr λp=>decide (0<S.own p);show stCells _ 0 [.int .u64 (u64 (S.AA+n))] _ _;rw[AK (n:=S.AA+n)];refine AZ aE.tail (o:=0) (m:=70) rfl (by rw[cK];decide) λaH aL=> ?_;rw[Nat.zero_add,Rq]at aL;have aO:=hI.Cv A2 p0 (by omega) pb hr hX (x:=(b,I)) i1 i2 i3;refine hK id X hX aO aH (Sat.heap.2 ⟨{g with ids:=id::g.ids},⟨List.nodup_cons.2 ⟨aP,aF.nd⟩,λi=> ?_⟩,?_⟩)
  .show i∈id::g.ids↔(if i=id then some (b,I)else S.sp i)≠none;rw[List.mem_cons,aF.mem]
   grind
  .subst hsp;exact aL
 have bk: ∀{X:FX} {w'},Sat (Gk E g.f X::(Ct E h S g++(C9 E b I::Z)).eraseIdx 4) w'->Sat (Ct E h {S with fx:=X} g++(C9 E b I::Z)) w':=λ{X w'} q=>Sat.back (Ps:=Ct E h S g++(C9 E b I::Z)) 4 q (by simp[Ct]);refine cB (H0.front 4 rfl) (by omega) (λhb w4 H4=> ?_) λa r hb w4 H4=> ?_
 .exact J _ _ (.inl ⟨hb,rfl,rfl⟩) w4 (bk H4)
 .exact J _ _ (.inr ⟨a,r,hb,rfl,rfl⟩) w4 (bk H4)
theorem Rt(hT: ∀w',Sat Z w'->GL E.AN w')(H:Sat (BQ E h S::Z) w)(hI:BN S no){p n c:Int}{np:Bool}(n0:0<=n)(n1:n<18446744073709551616){K:Int->Int->World->Prop}
  (T:GB 0 n c-> ∀w',Sat (BQ E h S::Z) w'->K 0 1 w')
  (Y: ¬GB 0 n c-> ∀S2,Sg S p n S2->BN S2 no-> ∀w',Sat (BQ E h S2::Z) w'->K 0 13 w')
  (aA: ¬GB 0 n c-> ∀page S2 b id X,Found S p n page S2->BN S2 (inr page n)->0<=page->page+n<=34359738368->Next S2 id X->BN (S2.Cv id (b,IZ page n c np) page n X) no-> ∀w',Sat (BQ E h (S2.Cv id (b,IZ page n c np) page n X)::Z) w'->K id 0 w'):
  F.CM E (some ⟨h,0,none⟩) p n c np K w:=by
 unfold F.CM T0.CM;refine UH H (by decide) n0 n1 (λO w' H'=>AU rfl (T O w' H')) λd b0 w3 H3=>AO rfl ?_;have hg:=d;unfold GB at hg;have hn:1<=n/\n<=134217728:=by
  by_cases e:c=0
  .omega
  .have aN:=Li (c:=c) (by omega) (by omega);omega
 refine cV hE hT H3.tail hI hn.1 hn.2 (λpage S2 hf j q0 q1 hr w6 y=>AO rfl ?_) λS2 hl j w6 y=>AU rfl (Y d S2 hl j w6 y);refine UH y q0 n0 n1 (λO w' H'=> ?_) λ_ b w9 H9=> ?_
 .exfalso;unfold GB at O;omega
 .refine cW hE H9 j q0 hn.1 q1 hr rfl rfl (by show(1:Int)≠0;decide) λid X hX J aD v=>aA d page S2 b id X hf j q0 q1 hX J aD v
theorem cX(H:Sat (BQ E h S::Z) w)(hI:BN S no){id:Int}{K:Int->World->Prop}(aZ:S.sp id=none->K 35 w)(a0: ∀x,S.sp id=some x->0<x.2.used->K 33 w)
  (a1: ∀x,∀a:Nat,S.sp id=some x-> ¬0<x.2.used->id=(a:Int)+1->BN (S.free a (x.2.base/8192) x.2.AA) no-> ∀w',Sat (BQ E h (S.free a (x.2.base/8192) x.2.AA)::Z) w'->K 0 w'):
  F.DF E (some ⟨h,0,none⟩) id K w:=by
 have A2:=H.A2;obtain⟨g,v,H⟩:=Sat.heap.1 H;unfold F.DF T0.DF;simp only[AG];refine⟨_,(Ca (S:=S) (g:=g) H).2.2.2.2.1,Ti (H.front 5 rfl) λes _=> ?_⟩;unfold EA;cases hs:S.sp id with
 | none=>exact⟨none,rfl,AU rfl (aZ hs)⟩
 | some x=>
  refine⟨some ⟨x.1,0,none⟩,rfl,AO rfl ?_⟩;obtain⟨a,rfl,aX,aY⟩:=(hI.sf id).1 (by grind);obtain⟨k1,k2,k3,k4,k5⟩:=hI.sp _ x hs;have y:=hI.free A2 hs;have hm:(a:Int)+1∈g.ids:=(v.mem _).2 (by grind);obtain⟨i,hi⟩:=List.mem_iff_getElem?.1 hm;have H1:=(H.front 6 rfl).GG hi;have e:spR E S.sp ((a:Int)+1)=C9 E x.1 x.2:=by unfold spR;rw[hs]
  rw[e]at H1;refine cH H1 (λaI=> ?_) λaB w8 H8=>AO rfl ?_
  .rcases aI with q|q
   .exact absurd q k4
   .exact AU rfl (a0 x hs q)
  refine IL H8 λa4 aP=> ?_;have aD:=aP.tail;have a3: ∀q,x.2.base/8192<=q->q<x.2.base/8192+x.2.AA->S.own q=(a:Int)+1:=k5;have aL:=hI.ow (x.2.base/8192) (by grind);have aC:=hI.ow (x.2.base/8192+x.2.AA-1) (by grind);have l0:=A2.tv.Ja _ aL.1;have l1:=A2.tv.Ja _ aC.1;generalize hsp:(λi=>if i=(a:Int)+1 then none else S.sp i)=sp';have a2:(a:Int)+1∉g.ids.eraseIdx i:=λq=>by
   have a2:=(DX hi).nodup_iff.1 v.nd
   grind
  have aA:Ad (spR E S.sp) (g.ids.eraseIdx i)=Ad (spR E sp') (g.ids.eraseIdx i):=Ad.congr λj hj=>by
   rw[<-hsp];unfold spR
   grind
  rw[aA]at aD;have J:Sat ([Cells h E.Ae (B4 g S.hint S.AA),Cx E g.m S.V,Bi E g.t S.T,CK E g.a S.ks S.own,Gk E g.f S.fx,Dm g.sm .i64 (EA S.sp),Ad (spR E sp') (g.ids.eraseIdx i),Ad (λi:Nat=>BE E (g.cb i) (S.ca i)) (List.range 64)]++Z) a4:=
   Sat.back (Ps:=[Cells h E.Ae (B4 g S.hint S.AA),Cx E g.m S.V,Bi E g.t S.T,CK E g.a S.ks S.own,Gk E g.f S.fx,Dm g.sm .i64 (EA S.sp),qY,Ad (λi:Nat=>BE E (g.cb i) (S.ca i)) (List.range 64)]++Z) 6 aD (by simp)
  refine AR (vs:=[.int .u64 0,.int .i64 0,.int .i64 0,.int .i64 0,.bool false,.int .i64 0,.int .i64 0,.int .i64 0,.bool false,.bool false]) J λbC bI J _=> ?_;refine GM (news:=[.int .u64 x.2.base,.int .i64 x.2.AA,.int .i64 0,.int .i64 x.2.cls,.bool x.2.FY,.int .i64 x.2.elem,.int .i64 x.2.AM,.int .i64 0,.bool x.2.f8,.bool x.2.f9]) J rfl (by simp[Value.oneCell']) λbJ aQ=> ?_;have d:=aQ.drew;have hh: ∀{w'} {S':HS} {Y:List Pr},Sat (Cells h E.Ae (B4 g S'.hint S'.AA)::Y) w'->w'.cell? ((Addr.mk h 0 none).add 1)=some (.pointer (some ⟨g.t,0,none⟩))/\w'.cell? ((Addr.mk h 0 none).add 2)=some (.pointer (some ⟨g.a,0,none⟩))/\w'.cell? ((Addr.mk h 0 none).add 3)=some (.pointer (some ⟨g.f,0,none⟩))/\w'.cell? ((Addr.mk h 0 none).add 4)=some (.map (some g.sm))/\w'.cell? ((Addr.mk h 0 none).add 70)=some (.int .u64 S'.AA):=λ{w' S' Y} q=>
   ⟨(Ca (S:=S') (g:=g) q).2.1,(Ca (S:=S') (g:=g) q).2.2.1,(Ca (S:=S') (g:=g) q).2.2.2.1,(Ca (S:=S') (g:=g) q).2.2.2.2.1,(Ca (S:=S') (g:=g) q).2.2.2.2.2.2.1⟩
  refine⟨_,d.Ah rfl,by decide,_,d.cell rfl,_,(hh (S':=S) d.tail).2.1,?_⟩;have e1:u64 (Int.tdiv x.2.base 8192)=x.2.base/8192:=by rw[Int.tdiv_eq_ediv_of_nonneg (by omega),AK]
  have e2:u64 x.2.AA=x.2.AA:=AK;simp only[e1,e2];generalize hpg:x.2.base/8192=page at *
  generalize hn:x.2.AA=n at *
  have aR:=d.tail;refine Yh hE (aR.front 3 rfl) l0.1 (by omega) (by omega) (by omega) ⟨by omega,Int.le_refl 0,by omega,λq q1 q2=>(hI.ks q).2 (hI.ow q (by grind)).1⟩ λa5 aS=> ?_;have aE:Sat ([Cells h E.Ae (B4 g S.hint S.AA),Cx E g.m S.V,Bi E g.t S.T,CK E g.a S.ks (λp=>if page<=p/\p<page+n then 0 else S.own p),Gk E g.f S.fx,Dm g.sm .i64 (EA S.sp),Ad (spR E sp') (g.ids.eraseIdx i),Ad (λi:Nat=>BE E (g.cb i) (S.ca i)) (List.range 64)]++Z) a5:=
   Sat.back (Ps:=[Cells h E.Ae (B4 g S.hint S.AA),Cx E g.m S.V,Bi E g.t S.T,CK E g.a S.ks S.own,Gk E g.f S.fx,Dm g.sm .i64 (EA S.sp),Ad (spR E sp') (g.ids.eraseIdx i),Ad (λi:Nat=>BE E (g.cb i) (S.ca i)) (List.range 64)]++Z) 3 aS (by simp)
  refine⟨_,(hh (S':=S) aE).1,?_⟩;refine Vn hE.toEnvS (aE.front 2 rfl) l0.1 (by omega) (by omega) (by omega) (λhb w' H'=> ?_) (λ_ hex w' H'=> ?_) λ_ _ a6 aT=> ?_
  .exact absurd ⟨by omega,by omega,λm q1 q2=>(hI.ow m (by grind)).1⟩ hb
  .obtain⟨m,q1,q2,q3⟩:=hex;have:=(hI.ow m (by grind)).2.1
   grind
  have aF:Sat ([Cells h E.Ae (B4 g S.hint S.AA),Cx E g.m S.V,Bi E g.t (S.T.OY page n),CK E g.a S.ks (λp=>if page<=p/\p<page+n then 0 else S.own p),Gk E g.f S.fx,Dm g.sm .i64 (EA S.sp),Ad (spR E sp') (g.ids.eraseIdx i),Ad (λi:Nat=>BE E (g.cb i) (S.ca i)) (List.range 64)]++Z) a6:=
   Sat.back (Ps:=[Cells h E.Ae (B4 g S.hint S.AA),Cx E g.m S.V,Bi E g.t S.T,CK E g.a S.ks (λp=>if page<=p/\p<page+n then 0 else S.own p),Gk E g.f S.fx,Dm g.sm .i64 (EA S.sp),Ad (spR E sp') (g.ids.eraseIdx i),Ad (λi:Nat=>BE E (g.cb i) (S.ca i)) (List.range 64)]++Z) 2 aT (by simp)
  refine⟨_,(hh (S':=S) aF).2.2.1,cC (aF.front 4 rfl) aX aY λa7 aU=> ?_⟩;have aG:Sat ([Cells h E.Ae (B4 g S.hint S.AA),Cx E g.m S.V,Bi E g.t (S.T.OY page n),CK E g.a S.ks (λp=>if page<=p/\p<page+n then 0 else S.own p),Gk E g.f ⟨S.fx.n,a::S.fx.bk⟩,Dm g.sm .i64 (EA S.sp),Ad (spR E sp') (g.ids.eraseIdx i),Ad (λi:Nat=>BE E (g.cb i) (S.ca i)) (List.range 64)]++Z) a7:=
   Sat.back (Ps:=[Cells h E.Ae (B4 g S.hint S.AA),Cx E g.m S.V,Bi E g.t (S.T.OY page n),CK E g.a S.ks (λp=>if page<=p/\p<page+n then 0 else S.own p),Gk E g.f S.fx,Dm g.sm .i64 (EA S.sp),Ad (spR E sp') (g.ids.eraseIdx i),Ad (λi:Nat=>BE E (g.cb i) (S.ca i)) (List.range 64)]++Z) 4 aU (by simp)
  have aM:0<=S.AA-n/\S.AA-n<18446744073709551616:=by
   have h1:=y.pgs;rw[show(S.free a page n).AA=S.AA-n from rfl]at h1;omega
  refine⟨_,(hh (S':=S) aG).2.2.2.2,?_⟩;rw[AK (n:=S.AA-n) aM.1 aM.2];refine AZ aG (o:=0) (m:=70) rfl (by rw[cK];decide) λbK O=> ?_;rw[Nat.zero_add,Rq]at O;refine⟨_,(hh (S':={S with AA:=S.AA-n}) O).2.2.2.1,Wg (O.front 5 rfl) λaN aV=> ?_⟩;have aK:=a1 x a hs (λq=>aB (.inr q)) rfl;rw[hpg,hn]at aK;refine aK y aN (Sat.heap.2 ⟨{g with ids:=g.ids.eraseIdx i},⟨?_,λj=> ?_⟩,?_⟩)
  .exact(List.nodup_cons.1 ((DX hi).nodup_iff.1 v.nd)).2
  .show j∈g.ids.eraseIdx i↔(if j=(a:Int)+1 then none else S.sp j)≠none;by_cases q:j=(a:Int)+1
   .grind
   .rw[if_neg q,<-v.mem];have:=(DX hi).mem_iff (a:=j)
    grind
  .have em:(λi=>if i=(a:Int)+1 then none else EA S.sp i)=EA sp':=funext λj=>by
    rw[<-hsp];unfold EA;by_cases q:j=(a:Int)+1
    .grind
    grind
   have aH:Sat (Dm g.sm .i64 (λi=>if i=(a:Int)+1 then none else EA S.sp i)::([Cells h E.Ae (B4 g S.hint (S.AA-n)),Cx E g.m S.V,Bi E g.t (S.T.OY page n),CK E g.a S.ks (λp=>if page<=p/\p<page+n then 0 else S.own p),Gk E g.f ⟨S.fx.n,a::S.fx.bk⟩,Dm g.sm .i64 (EA S.sp),Ad (spR E sp') (g.ids.eraseIdx i),Ad (λi:Nat=>BE E (g.cb i) (S.ca i)) (List.range 64)]++Z).eraseIdx 5) aN:=aV;rw[em]at aH;have aW:=Sat.back (Ps:=[Cells h E.Ae (B4 g S.hint (S.AA-n)),Cx E g.m S.V,Bi E g.t (S.T.OY page n),CK E g.a S.ks (λp=>if page<=p/\p<page+n then 0 else S.own p),Gk E g.f ⟨S.fx.n,a::S.fx.bk⟩,Dm g.sm .i64 (EA S.sp),Ad (spR E sp') (g.ids.eraseIdx i),Ad (λi:Nat=>BE E (g.cb i) (S.ca i)) (List.range 64)]++Z) 5 aH (by simp);subst hsp;exact aW
end
end Go.Sh

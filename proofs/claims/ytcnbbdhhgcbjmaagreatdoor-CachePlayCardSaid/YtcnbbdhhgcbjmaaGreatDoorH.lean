/- The heap: what holds of it, and what each function does to it. No further condition. -/
import Derived.Test.YtcnbbdhhgcbjmaaGreatDoorB
import Derived.Test.YtcnbbdhhgcbjmaaGreatDoorC
import Derived.Test.YtcnbbdhhgcbjmaaGreatDoorR
import Derived.Test.YtcnbbdhhgcbjmaaGreatDoorY
set_option linter.all false
set_option maxRecDepth 50000
set_option maxHeartbeats 2000000
namespace Go.Sh
def fD{E:Env}{w:World}{Z:List Pr}{c:Nat}{S:CS}(H:Sat (BY E c S::Z) w){K:Int->Int->Int->World->Prop}
  (J: ∀v y r2 w',(S.empty->v=0/\y=0/\r2=0)->(¬S.empty->v=S.base/\y=W S.has/\r2=W S.rel)->Sat (BY E c S::Z) w'->K v y r2 w'):F.Dc E (some ⟨c,0,none⟩) K w:=
 eU H (λh=>J _ _ _ w (λ_=>⟨rfl,rfl,rfl⟩) (λj=>absurd h j) H) λh w' O=>J _ _ _ w' (λj=>absurd j h) (λ_=>⟨rfl,rfl,rfl⟩) O
structure HS where
 V:VS
 T:TV
 ca:Nat->CS
 ks:Iv
 own:Int->Int
 fx:FX
 sp:Int->Option (Nat×SI)
 hint:Int
 AA:Int
structure HG where
 m:Nat
 t:Nat
 a:Nat
 f:Nat
 sm:Nat
 cb:Nat->Nat
 ids:List Int
def mM(cb:Nat->Nat):List Value:=(List.range 64).map λi=>.pointer (some ⟨cb i,0,none⟩)
def Cd(g:HG)(hint AA:Int):List Value:=.pointer (some ⟨g.m,0,none⟩):: .pointer (some ⟨g.t,0,none⟩):: .pointer (some ⟨g.a,0,none⟩):: .pointer (some ⟨g.f,0,none⟩):: .map (some g.sm)::(mM g.cb++[.int .u64 hint,.int .u64 AA])
def FC(sp:Int->Option (Nat×SI)):Int->Option Value:=λid=>(sp id).map λx=>.pointer (some ⟨x.1,0,none⟩)
def spR(E:Env)(sp:Int->Option (Nat×SI))(id:Int):Pr:=match sp id with
 | some x=>DF E x.1 x.2
 | none=>iN
def Dd(E:Env)(h:Nat)(S:HS)(g:HG):List Pr:=
 [Cells h E.Al (Cd g S.hint S.AA),DT E g.m S.V,By E g.t S.T,C5 E g.a S.ks S.own,IP E g.f S.fx,EJ g.sm .i64 (FC S.sp),Ad (spR E S.sp) g.ids,Ad (λi:Nat=>BY E (g.cb i) (S.ca i)) (List.range 64)]
structure fE(S:HS)(g:HG):Prop where
 nd:g.ids.Nodup
 mem: ∀id,id∈g.ids↔S.sp id≠none
def B2(E:Env)(h:Nat)(S:HS):Pr:=Ex λg:HG=>Kk (fE S g) (NR (Dd E h S g))
def JT(cb:Nat->Nat):(mM cb).length=64:=by simp[mM]
def qK(g:HG)(x y:Int){i:Nat}(j:i<64):(Cd g x y)[5+i]? =some (.pointer (some ⟨g.cb i,0,none⟩)):=by
 unfold Cd;rw[show 5+i=i+1+1+1+1+1 by omega];simp only[List.getElem?_cons_succ];rw[List.getElem?_append_left (by rw[JT];exact j)];simp[mM,j]
def vX(g:HG)(x y:Int):(Cd g x y)[69]? =some (.int .u64 x):=by
 unfold Cd;rw[show 69=64+1+1+1+1+1 from rfl];simp only[List.getElem?_cons_succ];rw[List.getElem?_append_right (by rw[JT];omega),JT];rfl
def qL(g:HG)(x y:Int):(Cd g x y)[70]? =some (.int .u64 y):=by
 unfold Cd;rw[show 70=65+1+1+1+1+1 from rfl];simp only[List.getElem?_cons_succ];rw[List.getElem?_append_right (by rw[JT];decide),JT];rfl
def fF(g:HG)(x y:Int):(Cd g x y).length=71:=by simp[Cd,JT]
def fG(g:HG)(x y z:Int):(Cd g x y).set 69 (.int .u64 z)=Cd g z y:=by
 unfold Cd;rw[show 69=64+1+1+1+1+1 from rfl];simp only[List.set_cons_succ];rw[List.set_append_right _ _ (by rw[JT];omega),JT];rfl
def Sv(g:HG)(x y z:Int):(Cd g x y).set 70 (.int .u64 z)=Cd g x z:=by
 unfold Cd;rw[show 70=65+1+1+1+1+1 from rfl];simp only[List.set_cons_succ];rw[List.set_append_right _ _ (by rw[JT];decide),JT];rfl
section
variable{E:Env}{h:Nat}{S:HS}{Z:List Pr}{w:World}{g:HG}
def Sat.heap:Sat (B2 E h S::Z) w↔ ∃g,fE S g/\Sat (Dd E h S g++Z) w:=by
 unfold B2;rw[Sat.ex];constructor
 .rintro⟨g,h⟩;rw[Sat.where,Sat.star]at h
  grind
 .rintro⟨g,h⟩;refine⟨g,?_⟩;rw[Sat.where,Sat.star];exact h
def Ch(H:Sat (Cells h E.Al (Cd g S.hint S.AA)::Z) w):
  w.cell? (Addr.mk h 0 none)=some (.pointer (some ⟨g.m,0,none⟩))/\w.cell? ((Addr.mk h 0 none).add 1)=some (.pointer (some ⟨g.t,0,none⟩))/\w.cell? ((Addr.mk h 0 none).add 2)=some (.pointer (some ⟨g.a,0,none⟩))/\
  w.cell? ((Addr.mk h 0 none).add 3)=some (.pointer (some ⟨g.f,0,none⟩))/\w.cell? ((Addr.mk h 0 none).add 4)=some (.map (some g.sm))/\w.cell? ((Addr.mk h 0 none).add 69)=some (.int .u64 S.hint)/\w.cell? ((Addr.mk h 0 none).add 70)=some (.int .u64 S.AA)/\
  ∀i,i<64->w.cell? ((Addr.mk h 0 none).add (i+5))=some (.pointer (some ⟨g.cb i,0,none⟩)):=
 ⟨H.Aa rfl,H.cell rfl,H.cell rfl,H.cell rfl,H.cell rfl,H.cell (by rw[Nat.zero_add];exact vX g _ _),H.cell (by rw[Nat.zero_add];exact qL g _ _),λi j=>H.cell (by rw[Nat.zero_add,Nat.add_comm];exact qK g _ _ j)⟩
def U9(H:Sat (B2 E h S::Z) w){id:Int}{K:Option Addr->Int->World->Prop}(j:S.sp id=none->K none 35 w)(v: ∀x,S.sp id=some x->K (some ⟨x.1,0,none⟩) 0 w):F.F3 E (some ⟨h,0,none⟩) id K w:=by
 obtain⟨g,hI,H⟩:=Sat.heap.1 H;unfold F.F3;simp only[AH];refine⟨_,(Ch (S:=S) (g:=g) H).2.2.2.2.1,UZ (H.front 5 rfl) λes _=> ?_⟩;unfold FC;cases hs:S.sp id with
 | none=>exact⟨none,rfl,AS rfl (j hs)⟩
 | some x=>exact⟨_,rfl,AO rfl (v x hs)⟩
def Sat.M7(H:Sat (B2 E h S::Z) w){id:Int}{x:Nat×SI}(v:S.sp id=some x): ∃R:List Pr,Sat (DF E x.1 x.2::R) w/\ ∀{w'},Sat (DF E x.1 x.2::R) w'->Sat (B2 E h S::Z) w':=by
 obtain⟨g,hI,H⟩:=Sat.heap.1 H;have hm:id∈g.ids:=(hI.mem id).2 (by grind);obtain⟨i,j⟩:=List.mem_iff_getElem?.1 hm;have H1:=(H.front 6 rfl).HA j;have e:spR E S.sp id=DF E x.1 x.2:=by unfold spR;rw[v]
 rw[e]at H1;refine⟨_,H1,λ{w'} h'=>Sat.heap.2 ⟨g,hI,?_⟩⟩;rw[<-e]at h';have h2:=Sat.JN h' j;exact Sat.back (Ps:=Dd E h S g++Z) 6 h2 (by simp[Dd])
def qM(H:Sat (B2 E h S::Z) w){x:Int}(h0:0<=x)(y:x<18446744073709551616){K:Int->World->Prop}(v: ∀w',Sat (B2 E h S::Z) w'->K (S.own (x/8192)) w'):F.GO E (some ⟨h,0,none⟩) x K w:=by
 obtain⟨g,hI,H⟩:=Sat.heap.1 H;unfold F.GO T0.GO;simp only[AH];refine⟨_,(Ch (S:=S) (g:=g) H).2.2.1,vU (H.front 3 rfl) h0 y λw' j=>v w' (Sat.heap.2 ⟨g,hI,?_⟩)⟩;exact Sat.back (Ps:=Dd E h S g++Z) 3 j (by simp[Dd])
def vY{p:Int}{K:Bool->World->Prop}(j:K (decide (0<=p/\p<64)) w):F.Qx E p K w:=by
 unfold F.Qx;refine AB (λh=> ?_) λh=> ?_
 .have:decide (p<64)=decide (0<=p/\p<64):=decide_eq_decide.2 (by omega)
  grind
 .rw[decide_eq_false (by omega)]at j;exact j
def Sat.jN(H:Sat (Dd E h S g++Z) w){i:Nat}(v:i<64): ∃R,Sat (BY E (g.cb i) (S.ca i)::R) w/\ ∀{w'},Sat (BY E (g.cb i) (S.ca i)::R) w'->Sat (Dd E h S g++Z) w':=by
 have j:(List.range 64)[i]? =some i:=List.getElem?_range v;refine⟨_,(H.front 7 rfl).HA j,λ{w'} h'=> ?_⟩;exact Sat.back (Ps:=Dd E h S g++Z) 7 (Sat.JN h' j) (by simp[Dd])
def mN(cb:Nat->Nat){i:Nat}(j:i<64):List.getD ((List.range 64).map λi=>some (Addr.mk (cb i) 0 none)) i none=some ⟨cb i,0,none⟩:=by
 rw[List.getD_eq_getElem?_getD,List.getElem?_map,List.getElem?_range j];rfl
variable(hE:EnvA E)
include hE
end
def yC{u v z:Int->Bool}: ∀n:Nat,(∀k:Int,0<=k->k<n->z k=(u k||v k))->(∀k:Int,0<=k->k<n-> ¬(u k=true/\v k=true))->cu z n=cu u n+cu v n
 | 0,_,_=>rfl
 | n+1,h1,h2=>by
  simp only[cu];rw[yC n (λk a b=>h1 k a (by omega)) λk a b=>h2 k a (by omega),h1 n (by omega) (by omega)]
  grind
def aG{u v:Int->Bool}: ∀n:Nat,(∀k:Int,0<=k->k<n->u k=v k)->cu u n=cu v n
 | 0,_=>rfl
 | n+1,h=>by simp only[cu];rw[aG n λk a b=>h k a (by omega),h n (by omega) (by omega)]
def cP(f:Int->Bool):Int:=cr f 0 34359738368
def aH{f g:Int->Bool}(h: ∀p,0<=p->p<34359738368->f p=g p):cP f=cP g:=by
 unfold cP cr;exact aG _ λk a b=>h _ (by omega) (by omega)
def RH{f g h:Int->Bool}(j: ∀p,h p=(f p||g p))(hd: ∀p,f p=true->g p=true->False):cP h=cP f+cP g:=by
 unfold cP cr;exact yC _ (λk _ _=>j _) λk _ _ e=>hd _ e.1 e.2
def Ml(f:Int->Bool):0<=cP f/\cP f<=34359738368:=by
 unfold cP;exact AA7 f 0 (by decide)
def VA{f:Int->Bool}{l:Iv}(h:Ok l)(v: ∀p,mem l p↔f p=true)(j: ∀p,f p=true->p<34359738368):cP f=HE l:=by
 unfold cP;rw[eS h v (by decide)];exact MP h.dY λn y=>⟨Qk h y,by have:=j n ((v n).1 y);omega⟩
def cP_NT{f:Int->Bool}{l:Iv}(h:Ok l)(v: ∀p,mem l p↔f p=true)(j: ∀p,f p=true->p<34359738368):NT f=cP f:=by
 rw[Zq h v,VA h v j]
def RI{f:Int->Bool}(h: ∀p,f p=false):cP f=0:=by
 unfold cP;exact vO λm _ _=>h m
def VB{x n:Int}(h0:0<=x)(y:0<=n)(v:x+n<=34359738368):cP (inr x n)=n:=by
 by_cases e:n=0
 .subst e;exact RI λp=>Is.2 (by omega)
 .rw[VA (l:=[(x,x+n)]) ⟨h0,by omega,by omega,λq j=>(by cases j),trivial⟩ (λp=> ?_) λp hp=>by have:=Ai.1 hp;omega]
  .show x+n-x+0=n;omega
  .rw[Ai,mem_cons];exact⟨λh=>h.elim (λh=>h) λh=>absurd h (Bq p),λh=>.inl h⟩
def X7{f g:Int->Bool}(h: ∀p,f p=true->g p=true):cP f<=cP g:=by
 have e:cP g=cP f+cP (λp=>g p&& !f p):=RH (λp=>by cases hf:f p<;>cases hg:g p<;>simp;grind) λp a b=>by grind
 have:=Ml λp=>g p&& !f p;omega
def cP_pos{f:Int->Bool}{p:Int}(hp:f p=true)(h0:0<=p)(h1:p<34359738368):1<=cP f:=by
 have:=X7 (f:=inr p 1) (g:=f) λq j=>by
  have:=Ai.1 j
  grind
 rw[VB h0 (by decide) (by omega)]at this;exact this
def qN{u:Nat->Bool}{B:Int}(h0:0<=B)(h1:B+64<=34359738368):cP (λp=>inr B 64 p&&u (p-B).toNat)=cN u 64:=by
 have key: ∀n:Nat,n<=64->cP (λp=>inr B n p&&u (p-B).toNat)=cN u n:=by
  intro n
  induction n with
  | zero=>intro _;exact RI λp=>by rw[Is.2 (by omega)];rfl
  | succ n ih=>
   intro j;simp only[cN];rw[RH (f:=λp=>inr B n p&&u (p-B).toNat) (g:=λp=>inr (B+n) 1 p&&u n) (λp=> ?_) λp a b=> ?_,ih (by omega)]
   .have e:cP (λp=>inr (B+n) 1 p&&u n)=((u n).toNat:Nat):=by
     cases hu:u n
     .rw[RI λp=>by simp];rfl
     .rw[show(λp=>inr (B+n) 1 p&&true)=inr (B+n) 1 from funext λp=>by simp,VB (by omega) (by decide) (by omega)];rfl
    rw[e];simp
   .have e:inr B ((n+1:Nat):Int) p=(inr B n p||inr (B+n) 1 p):=by rw[Bool.eq_iff_iff,Bool.or_eq_true,Ai,Ai,Ai];omega
    rw[e];cases h1:inr B n p
    .cases h2:inr (B+n) 1 p
     .rfl
     .have:=Ai.1 h2;rw[show(p-B).toNat=n by omega];simp
    .have:=Ai.1 h1;rw[show inr (B+n) 1 p=false from Is.2 (by omega)];simp
   .rw[Bool.and_eq_true]at a b;have h1:=Ai.1 a.1;have h2:=Ai.1 b.1;omega
 exact key 64 (Nat.le_refl _)
def QJ:Iv->Iv
 | []=>[]
 | p::r=>(p.1*512,p.2*512)::QJ r
def VC{q:Int×Int}: ∀{l:Iv},q∈QJ l-> ∃p∈l,q=(p.1*512,p.2*512)
 | p::r,h=>by
  rcases List.mem_cons.1 h with h|h
  .exact⟨p,List.mem_cons_self,h⟩
  .obtain⟨j,h1,h2⟩:=VC h;exact⟨j,List.mem_cons_of_mem _ h1,h2⟩
def W8: ∀{l:Iv},Ok l->(∀q∈l,q.2<=67108864)->Ok (QJ l)
 | [],_,_=>trivial
 | p::r,h,hb=>by
  obtain⟨h0,h1,h2,y,J⟩:=h;have:=hb p List.mem_cons_self;refine⟨by show 0<=p.1*512;omega,by show p.1*512<p.2*512;omega,by show p.2*512<_;omega,λq j=> ?_,W8 J λq j=>hb q (List.mem_cons_of_mem _ j)⟩;obtain⟨v,g1,rfl⟩:=VC j;have:=y v g1;show p.2*512<v.1*512;omega
def fH{l:Iv}{p:Int}:mem (QJ l) p↔mem l (p/512):=by
 induction l with
 | nil=>exact⟨λh=>absurd h (Bq _),λh=>absurd h (Bq _)⟩
 | cons q r ih=>
  show mem ((q.1*512,q.2*512)::QJ r) p↔_;rw[mem_cons,mem_cons,ih];show(q.1*512<=p/\p<q.2*512)∨_↔_;have:(q.1*512<=p/\p<q.2*512)↔(q.1<=p/512/\p/512<q.2):=by omega
  rw[this]
def fI(l:Iv):HE (QJ l)=HE l*512:=by
 induction l with
 | nil=>rfl
 | cons q r ih=>
  show q.2*512-q.1*512+HE (QJ r)=(q.2-q.1+HE r)*512;rw[ih];omega
def mO{ks:Iv}(h:Ok ks){f:Int->Bool}(hf: ∀p,mem ks (p/512)↔f p=true)(j: ∀p,f p=true->p<34359738368):cP f=HE ks*512:=by
 rw[<-fI];refine VA (W8 h λq v=> ?_) (λp=>fH.trans (hf p)) j;have h1:=h.mem v;have:=j ((q.2-1)*512) ((hf _).1 ⟨q,v,by omega,by omega⟩);omega
end Go.Sh
namespace Go.Sh
def no:Int->Bool:=λ_=>false
def any64{f:Nat->Bool}:(List.range 64).any f=true↔ ∃i,i<64/\f i=true:=by grind
def HS.SH(S:HS)(p:Int):Bool:=(List.range 64).any λi=>(S.ca i).own p
def HS.gone(S:HS)(p:Int):Bool:=S.T.rl p||(List.range 64).any λi=>(S.ca i).Q4 p
def Hl{S:HS}{p:Int}:S.SH p=true↔ ∃i,i<64/\(S.ca i).own p=true:=any64
def HM{S:HS}{p:Int}:S.gone p=true↔S.T.rl p=true∨ ∃i,i<64/\(S.ca i).Q4 p=true:=by
 unfold HS.gone
 grind
structure KG(S:HS):Prop where
 tv:Ut S.T
 vv:WH S.V
 ci: ∀i,i<64->Q3 (S.ca i)
 ok:Ok S.ks
 fx:Z9 S.fx
def Sat.Au{E:Env}{h:Nat}{S:HS}{Z:List Pr}{w:World}(H:Sat (B2 E h S::Z) w):KG S:=by
 obtain⟨g,hI,H⟩:=Sat.heap.1 H;refine⟨(H.front 2 rfl).tvok,(H.front 1 rfl).vok,λi j=> ?_,(H.front 3 rfl).vT,?_⟩
 .obtain⟨R,h1,_⟩:=H.jN j;exact(Sat.cache.1 h1).1
 .obtain⟨_,_,_,h1,_⟩:=Sat.fix.1 (H.front 4 rfl);exact h1
structure BS(S:HS)(fl:Int->Bool):Prop where
 cr: ∀i,i<64-> ∀p,(S.ca i).own p=true->S.T.LM p=true/\S.T.fr p=false/\S.own p=0/\fl p=false
 cd: ∀i j p,i<64->j<64->(S.ca i).own p=true->(S.ca j).own p=true->i=j
 fn: ∀p,S.T.fr p=true->S.own p=0/\fl p=false
 ow: ∀p,0<S.own p->S.T.LM p=true/\S.T.fr p=false/\fl p=false/\ ∃x,S.sp (S.own p)=some x/\x.2.base/8192<=p/\p<x.2.base/8192+x.2.AA
 o0: ∀p,0<=S.own p
 li: ∀p,fl p=true->S.T.LM p=true
 cv: ∀p,S.T.LM p=true->S.T.fr p=true∨S.SH p=true∨0<S.own p∨fl p=true
 ks: ∀p,mem S.ks (p/512)↔S.T.LM p=true
 la: ∀p,mem S.V.laid p↔S.T.LM p=true
 rd: ∀p,fl p=false->(mem S.V.ready p↔S.T.LM p=true/\S.gone p=false)
 sp: ∀id x,S.sp id=some x->0<id/\x.2.base %8192=0/\0<x.2.AA/\x.2.state≠0/\ ∀p,x.2.base/8192<=p->p<x.2.base/8192+x.2.AA->S.own p=id
 sf: ∀id,S.sp id≠none↔ ∃a:Nat,id=(a:Int)+1/\a<S.fx.n/\a∉S.fx.bk
 fb:S.fx.n<=34359738368
 pg:S.AA=cP λp=>decide (0<S.own p)
 h0:0<=S.hint
 h1:S.hint<=34359738368
def RJ{C:CS}{p:Int}:C.own p=true↔(C.base<=p/\p<C.base+64)/\C.has (p-C.base).toNat=true:=by
 unfold CS.own;rw[Bool.and_eq_true,Ai]
def RK{C:CS}{p:Int}:C.Q4 p=true↔(C.base<=p/\p<C.base+64)/\C.rel (p-C.base).toNat=true:=by
 unfold CS.Q4;rw[Bool.and_eq_true,Ai]
def M8{C:CS}(h:Q3 C){p:Int}(hp:C.Q4 p=true):C.own p=true:=by
 rw[RK]at hp;exact RJ.2 ⟨hp.1,h.rh _ hp.2⟩
def X8{C:CS}(h:C.empty)(p:Int):C.own p=false:=by
 unfold CS.own;rw[h];simp
def jO(p:Int):CS.nil.own p=false:=X8 (λ_=>rfl) p
def Gc{b:Bool}(h: ¬b=true):b=false:=by cases b;rfl;grind
def FR{b:Bool}(h:b=false): ¬b=true:=by grind
def PR{T:TV}{x n p:Int}:(T.take x n).fr p=true↔T.fr p=true/\ ¬(x<=p/\p<x+n):=by
 show(T.fr p&& !inr x n p)=true↔_;rw[Bool.and_eq_true,<-Ai];grind
def RL{T:TV}{x n p:Int}:(T.take x n).rl p=true↔T.rl p=true/\ ¬(x<=p/\p<x+n):=by
 show(T.rl p&& !inr x n p)=true↔_;rw[Bool.and_eq_true,<-Ai];grind
def filled(T:TV)(q:Int):CS:=⟨q/64*64,λi=>decide (i<64)&&T.fr (q/64*64+i),λi=>decide (i<64)&&T.rl (q/64*64+i)⟩
def HS.setca(S:HS)(i:Nat)(c:CS):HS:={S with ca:=λj=>if j=i then c else S.ca j}
def HS.fill(S:HS)(i:Nat)(q:Int):HS:={S with T:=S.T.take (q/64*64) 64,ca:=λj=>if j=i then filled S.T q else S.ca j}
def VD{T:TV}{q p:Int}:(filled T q).own p=true↔(q/64*64<=p/\p<q/64*64+64)/\T.fr p=true:=by
 rw[RJ];show(q/64*64<=p/\p<q/64*64+64)/\(decide _&&T.fr _)=true↔_;constructor
 .rintro⟨h1,h2⟩;rw[Bool.and_eq_true]at h2;have j:=h2.2;have e:q/64*64+((p-q/64*64).toNat:Int)=p:=by omega
  refine⟨h1,?_⟩;rw[<-e];exact j
 .rintro⟨h1,h2⟩;refine⟨h1,?_⟩;rw[Bool.and_eq_true];have e:q/64*64+((p-q/64*64).toNat:Int)=p:=by omega
  exact⟨decide_eq_true (show(p-q/64*64).toNat<64 by omega),by show T.fr (q/64*64+((p-q/64*64).toNat:Int))=true;grind⟩
def Sw{T:TV}{q p:Int}:(filled T q).Q4 p=true↔(q/64*64<=p/\p<q/64*64+64)/\T.rl p=true:=by
 rw[RK];show(q/64*64<=p/\p<q/64*64+64)/\(decide _&&T.rl _)=true↔_;constructor
 .rintro⟨h1,h2⟩;rw[Bool.and_eq_true]at h2;have j:=h2.2;have e:q/64*64+((p-q/64*64).toNat:Int)=p:=by omega
  refine⟨h1,?_⟩;rw[<-e];exact j
 .rintro⟨h1,h2⟩;refine⟨h1,?_⟩;rw[Bool.and_eq_true];have e:q/64*64+((p-q/64*64).toNat:Int)=p:=by omega
  exact⟨decide_eq_true (show(p-q/64*64).toNat<64 by omega),by show T.rl (q/64*64+((p-q/64*64).toNat:Int))=true;grind⟩
variable{S:HS}{fl:Int->Bool}
def BS.fill(hI:BS S no)(hk:KG S){i:Nat}(hi:i<64)(he:(S.ca i).empty)(q:Int):BS (S.fill i q) no:=by
 have v: ∀p,(S.T.take (q/64*64) 64).fr p=true↔S.T.fr p=true/\ ¬(q/64*64<=p/\p<q/64*64+64):=λp=>PR;have K: ∀p,(S.T.take (q/64*64) 64).rl p=true↔S.T.rl p=true/\ ¬(q/64*64<=p/\p<q/64*64+64):=λp=>RL;have y: ∀j p,((S.fill i q).ca j).own p=true->(j=i/\(q/64*64<=p/\p<q/64*64+64)/\S.T.fr p=true)∨(j≠i/\(S.ca j).own p=true):=λj p h=>by
  have h:(if j=i then filled S.T q else S.ca j).own p=true:=h;by_cases e:j=i
  .rw[if_pos e]at h;exact .inl ⟨e,VD.1 h⟩
  grind
 have O:(S.fill i q).ca i=filled S.T q:=if_pos rfl;have e2: ∀j,j≠i->(S.fill i q).ca j=S.ca j:=λj h=>if_neg h;refine⟨λj J p hp=> ?_,λa b p ha hb h1 h2=> ?_,λp hp=>hI.fn p ((v p).1 hp).1,λp hp=> ?_,hI.o0,λp hp=>(by cases hp),λp hp=> ?_,hI.ks,hI.la,λp _=> ?_,hI.sp,hI.sf,hI.fb,hI.pg,hI.h0,hI.h1⟩
 .rcases y j p hp with ⟨_,h1,h2⟩|⟨e,h1⟩
  .exact⟨hk.tv.fi p h2,Gc λh=>((v p).1 h).2 h1,(hI.fn p h2).1,rfl⟩
  .obtain⟨g1,g2,g3,g4⟩:=hI.cr j J p h1;exact⟨g1,Gc λh=>(FR g2) ((v p).1 h).1,g3,g4⟩
 .rcases y a p h1 with ⟨ea,g1,g2⟩|⟨ea,g1⟩<;>rcases y b p h2 with ⟨eb,Y,k2⟩|⟨eb,Y⟩
  .omega
  .exact absurd g2 (FR (hI.cr b hb p Y).2.1)
  .exact absurd k2 (FR (hI.cr a ha p g1).2.1)
  .exact hI.cd a b p ha hb g1 Y
 .obtain⟨g1,g2,g3,g4⟩:=hI.ow p hp;exact⟨g1,Gc λh=>(FR g2) ((v p).1 h).1,g3,g4⟩
 .rcases hI.cv p hp with h|h|h|h
  .by_cases g:q/64*64<=p/\p<q/64*64+64
   .refine .inr (.inl (Hl.2 ⟨i,hi,?_⟩));rw[O];exact VD.2 ⟨g,h⟩
   .exact .inl ((v p).2 ⟨h,g⟩)
  .obtain⟨j,J,h⟩:=Hl.1 h;refine .inr (.inl (Hl.2 ⟨j,J,?_⟩));rw[e2 j λe=>by rw[e,X8 he]at h;cases h];exact h
  .exact .inr (.inr (.inl h))
  grind
 .have e0:=hI.rd p rfl;have:(S.fill i q).gone p=S.gone p:=by
   rw[Bool.eq_iff_iff,HM,HM];constructor
   .rintro(h|⟨j,J,h⟩)
    .exact .inl ((K p).1 h).1
    .by_cases e:j=i
     .rw[e,O]at h;exact .inl (Sw.1 h).2
     grind
   .rintro(h|⟨j,J,h⟩)
    .by_cases g:q/64*64<=p/\p<q/64*64+64
     .refine .inr ⟨i,hi,?_⟩;rw[O];exact Sw.2 ⟨g,h⟩
     .exact .inl ((K p).2 ⟨h,g⟩)
    .refine .inr ⟨j,J,?_⟩;rw[e2 j λe=>by have:=M8 (hk.ci j J) h;rw[e,X8 he]at this;cases this];exact h
  rw[this];exact e0
def HS.JF(S:HS)(i k n:Nat):HS:=S.setca i ((S.ca i).alloc k n)
def HS.Fp(S:HS)(page n:Int):HS:={S with T:=S.T.take page n}
def W9{C:CS}{k n:Nat}{p:Int}(hk:k+n<=64):(C.alloc k n).own p=true↔C.own p=true/\ ¬(C.base+k<=p/\p<C.base+k+n):=by
 rw[RJ,RJ];show(C.base<=p/\p<C.base+64)/\(C.has (p-C.base).toNat&& !(decide (k<=(p-C.base).toNat)&&decide ((p-C.base).toNat<k+n)))=true↔_;constructor
 .rintro⟨h1,h2⟩;rw[Bool.and_eq_true]at h2;refine⟨⟨h1,h2.1⟩,λv=> ?_⟩;have j:=h2.2;rw[decide_eq_true (show k<=(p-C.base).toNat by omega),decide_eq_true (show(p-C.base).toNat<k+n by omega)]at j;cases j
 grind
def VE{C:CS}{k n:Nat}{p:Int}(hk:k+n<=64):(C.alloc k n).Q4 p=true↔C.Q4 p=true/\ ¬(C.base+k<=p/\p<C.base+k+n):=by
 rw[RK,RK];show(C.base<=p/\p<C.base+64)/\(C.rel (p-C.base).toNat&& !(decide (k<=(p-C.base).toNat)&&decide ((p-C.base).toNat<k+n)))=true↔_;constructor
 .rintro⟨h1,h2⟩;rw[Bool.and_eq_true]at h2;refine⟨⟨h1,h2.1⟩,λv=> ?_⟩;have j:=h2.2;rw[decide_eq_true (show k<=(p-C.base).toNat by omega),decide_eq_true (show(p-C.base).toNat<k+n by omega)]at j;cases j
 grind
def BS.JF(hI:BS S no)(hk:KG S){i:Nat}(Y:i<64){k n:Nat}(hr:KZ (S.ca i).has k n)(J:k+n<=64):BS (S.JF i k n) (inr ((S.ca i).base+k) n):=by
 have y: ∀p,(S.ca i).base+k<=p->p<(S.ca i).base+k+n->(S.ca i).own p=true:=λp h1 h2=>by
  refine RJ.2 ⟨by omega,?_⟩;have:=hr ((p-(S.ca i).base).toNat-k) (by omega)
  grind
 have O:(S.JF i k n).ca i=(S.ca i).alloc k n:=if_pos rfl;have e2: ∀j,j≠i->(S.JF i k n).ca j=S.ca j:=λj h=>if_neg h;have v: ∀j p,((S.JF i k n).ca j).own p=true->(S.ca j).own p=true/\(j=i-> ¬((S.ca i).base+k<=p/\p<(S.ca i).base+k+n)):=λj p h=>by
  by_cases e:j=i
  .subst e;rw[O,W9 J]at h;grind
  grind
 refine⟨λj K p hp=> ?_,λa b p ha hb h1 h2=>hI.cd a b p ha hb (v a p h1).1 (v b p h2).1,λp hp=> ?_,λp hp=> ?_,hI.o0,λp hp=> ?_,λp hp=> ?_,hI.ks,hI.la,λp hp=> ?_,hI.sp,hI.sf,hI.fb,hI.pg,hI.h0,hI.h1⟩
 .obtain⟨h1,h2⟩:=v j p hp;obtain⟨g1,g2,g3,g4⟩:=hI.cr j K p h1;refine⟨g1,g2,g3,Is.2 λh=> ?_⟩;have:=hI.cd j i p K Y h1 (y p h.1 h.2);omega
 .exact⟨(hI.fn p hp).1,Is.2 λh=>by have:=(hI.cr i Y p (y p h.1 h.2)).2.1;rw[show S.T.fr p=true from hp]at this;cases this⟩
 .obtain⟨g1,g2,g3,g4⟩:=hI.ow p hp;exact⟨g1,g2,Is.2 λh=>by have:=(hI.cr i Y p (y p h.1 h.2)).2.2.1;have hp:0<S.own p:=hp;omega,g4⟩
 .have h:=Ai.1 hp;exact(hI.cr i Y p (y p h.1 h.2)).1
 .rcases hI.cv p hp with h|h|h|h
  .exact .inl h
  .obtain⟨j,K,h⟩:=Hl.1 h;by_cases g:(S.ca i).base+k<=p/\p<(S.ca i).base+k+n
   .exact .inr (.inr (.inr (Ai.2 g)))
   .refine .inr (.inl (Hl.2 ⟨j,K,?_⟩));by_cases e:j=i
    .subst e;rw[O,W9 J];grind
    grind
  .exact .inr (.inr (.inl h))
  .cases h
 .have hp:=Is.1 hp;have e:=hI.rd p rfl;have:(S.JF i k n).gone p=S.gone p:=by
   rw[Bool.eq_iff_iff,HM,HM];constructor
   .rintro(h|⟨j,K,h⟩)
    .exact .inl h
    .refine .inr ⟨j,K,?_⟩;by_cases e:j=i
     .subst e;rw[O,VE J]at h;exact h.1
     grind
   .rintro(h|⟨j,K,h⟩)
    .exact .inl h
    .refine .inr ⟨j,K,?_⟩;by_cases e:j=i
     .subst e;rw[O,VE J];grind
     grind
  rw[this];exact e
def BS.Fp(hI:BS S no)(hk:KG S){page n:Int}(J:MD S.T.fr page n):BS (S.Fp page n) (inr page n):=by
 have v: ∀p,(S.T.take page n).fr p=true↔S.T.fr p=true/\ ¬(page<=p/\p<page+n):=λp=>PR;have y: ∀p,(S.T.take page n).rl p=true↔S.T.rl p=true/\ ¬(page<=p/\p<page+n):=λp=>RL;refine⟨λj K p hp=> ?_,hI.cd,λp hp=> ?_,λp hp=> ?_,hI.o0,λp hp=> ?_,λp hp=> ?_,hI.ks,hI.la,λp hp=> ?_,hI.sp,hI.sf,hI.fb,hI.pg,hI.h0,hI.h1⟩
 .obtain⟨g1,g2,g3,g4⟩:=hI.cr j K p hp;exact⟨g1,Gc λh=>(FR g2) ((v p).1 h).1,g3,Is.2 λh=>(FR g2) (J p h.1 h.2)⟩
 .obtain⟨h1,h2⟩:=(v p).1 hp;exact⟨(hI.fn p h1).1,Is.2 h2⟩
 .obtain⟨g1,g2,g3,g4⟩:=hI.ow p hp;exact⟨g1,Gc λh=>(FR g2) ((v p).1 h).1,Is.2 λh=>(FR g2) (J p h.1 h.2),g4⟩
 .have h:=Ai.1 hp;exact hk.tv.fi p (J p h.1 h.2)
 .rcases hI.cv p hp with h|h|h|h
  .by_cases g:page<=p/\p<page+n
   .exact .inr (.inr (.inr (Ai.2 g)))
   .exact .inl ((v p).2 ⟨h,g⟩)
  .exact .inr (.inl h)
  .exact .inr (.inr (.inl h))
  .cases h
 .have hp:=Is.1 hp;have e:=hI.rd p rfl;have:(S.Fp page n).gone p=S.gone p:=by
   rw[Bool.eq_iff_iff,HM,HM];constructor
   .rintro(h|h)
    .exact .inl ((y p).1 h).1
    .exact .inr h
   .rintro(h|h)
    .exact .inl ((y p).2 ⟨h,hp⟩)
    .exact .inr h
  rw[this];exact e
def BS.vZ(hI:BS S fl){V:VS}(h1:V.laid=S.V.laid)(h2:V.ready=S.V.ready):BS {S with V:=V} fl:=
 ⟨hI.cr,hI.cd,hI.fn,hI.ow,hI.o0,hI.li,hI.cv,hI.ks,λp=>by rw[<-hI.la,<-h1],λp hp=>(show _=_ from congrArg (λl=>Go.Sh.mem l p) h2)▸hI.rd p hp,hI.sp,hI.sf,hI.fb,hI.pg,hI.h0,hI.h1⟩
def BS.QK(hI:BS S fl)(hk:KG S){page n:Int}(h0:0<=page)(J:0<n)(y:page+n<=34359738368)(j: ∀p,page<=p->p<page+n->fl p=true):BS {S with V:=JB S.V page n} fl:=by
 have v: ∀p,Go.Sh.mem (D9 S.V.ready page (page+n)) p↔Go.Sh.mem S.V.ready p∨(page<=p/\p<page+n):=λp=>Eo hk.vv.Pm (by omega) h0 (by omega) p;refine⟨hI.cr,hI.cd,hI.fn,hI.ow,hI.o0,hI.li,hI.cv,hI.ks,hI.la,λp hp=> ?_,hI.sp,hI.sf,hI.fb,hI.pg,hI.h0,hI.h1⟩;refine Iff.trans (v p) ?_;refine Iff.trans ⟨λh=>h.elim (λh=>h) λh=> ?_,λh=>.inl h⟩ (hI.rd p hp);have:=j p h.1 h.2
 grind
def X9(hk:KG S){page n:Int}(h0:0<=page)(v:0<n)(j:page+n<=34359738368): ∀p,page<=p->p<page+n->mem (JB S.V page n).ready p:=λp h1 h2=>
 (Eo hk.vv.Pm (by omega) h0 (by omega) p).2 (.inr ⟨h1,h2⟩)
def HS.grown(S:HS)(V:VS)(at_ N:Int):HS:={S with V:=V,T:=S.T.grow (at_/512) (N/512),ks:=D9 S.ks (at_/512) ((at_+N)/512),hint:=at_+N}
def BS.grown(hI:BS S no)(hk:KG S){V:VS}{at_ N:Int}(h0:0<=at_)(hn:0<N)(Y:at_+N<=34359738368)(m1:at_ %512=0)(m2:N %512=0)(K: ∀p,at_<=p->p<at_+N->S.T.LM p=false)
  (hl:V.laid=D9 S.V.laid at_ (at_+N))(hr:V.ready=S.V.ready):BS (S.grown V at_ N) no:=by
 have ma: ∀p,Go.Sh.mem (D9 S.V.laid at_ (at_+N)) p↔Go.Sh.mem S.V.laid p∨(at_<=p/\p<at_+N):=λp=>Eo hk.vv.ME (by omega) h0 (by omega) p;have mk: ∀p,Go.Sh.mem (D9 S.ks (at_/512) ((at_+N)/512)) p↔Go.Sh.mem S.ks p∨(at_/512<=p/\p<(at_+N)/512):=λp=>Eo hk.ok (by omega) (by omega) (by omega) p;have e: ∀p,inr (at_/512*512) (N/512*512) p=true↔at_<=p/\p<at_+N:=λp=>by rw[Ai];omega
 have v: ∀p,(S.grown V at_ N).T.LM p=true↔S.T.LM p=true∨(at_<=p/\p<at_+N):=λp=>by
  show(S.T.LM p||inr (at_/512*512) (N/512*512) p)=true↔_
  grind
 have y: ∀p,(S.grown V at_ N).T.fr p=true↔S.T.fr p=true∨(at_<=p/\p<at_+N):=λp=>by
  show(S.T.fr p||inr (at_/512*512) (N/512*512) p)=true↔_
  grind
 have O: ∀p,(S.grown V at_ N).T.rl p=true↔S.T.rl p=true∨(at_<=p/\p<at_+N):=λp=>by
  show(S.T.rl p||inr (at_/512*512) (N/512*512) p)=true↔_
  grind
 have J: ∀p,S.T.LM p=true-> ¬(at_<=p/\p<at_+N):=λp h g=>by grind
 refine⟨λj hj p hp=> ?_,hI.cd,λp hp=> ?_,λp hp=> ?_,hI.o0,λp hp=>(by cases hp),λp hp=> ?_,λp=> ?_,λp=> ?_,λp hp=> ?_,hI.sp,hI.sf,hI.fb,hI.pg,by show 0<=at_+N;omega,Y⟩
 .obtain⟨g1,g2,g3,g4⟩:=hI.cr j hj p hp;exact⟨(v p).2 (.inl g1),Gc λh=>((y p).1 h).elim (FR g2) (J p g1),g3,g4⟩
 .rcases(y p).1 hp with h|h
  .exact hI.fn p h
  .refine⟨?_,rfl⟩;have:=hI.o0 p;have: ¬0<S.own p:=λg=>J p (hI.ow p g).1 h;show S.own p=0;omega
 .obtain⟨g1,g2,g3,g4⟩:=hI.ow p hp;exact⟨(v p).2 (.inl g1),Gc λh=>((y p).1 h).elim (FR g2) (J p g1),g3,g4⟩
 .rcases(v p).1 hp with h|h
  .rcases hI.cv p h with h|h|h|h
   .grind
   .exact .inr (.inl h)
   .exact .inr (.inr (.inl h))
   grind
  grind
 .rw[v,<-hI.ks p];refine(mk (p/512)).trans ?_
  grind
 .rw[v,<-hI.la p];show Go.Sh.mem V.laid p↔_
  grind
 .show Go.Sh.mem V.ready p↔_;rw[hr,hI.rd p rfl,v];have key:(S.grown V at_ N).gone p=true↔S.gone p=true∨(at_<=p/\p<at_+N):=by
   rw[HM,HM,O];exact⟨λh=>h.elim (λh=>h.elim (λh=>.inl (.inl h)) .inr) λh=>.inl (.inr h),λh=>h.elim (λh=>h.elim (λh=>.inl (.inl h)) .inr) λh=>.inl (.inr h)⟩
  grind
end Go.Sh
namespace Go.Sh
variable{S:HS}{fl:Int->Bool}
def BS.Po(hI:BS S fl)(hk:KG S){p:Int}(hp:fl p=true):S.T.fr p=false/\S.T.rl p=false/\S.own p=0/\S.gone p=false/\S.SH p=false:=by
 have h1:S.T.fr p=false:=Gc λh=>(FR (hI.fn p h).2) hp;have h2:S.T.rl p=false:=Gc λh=>(FR h1) (hk.tv.rf p h);have v:S.SH p=false:=Gc λh=>by
  obtain⟨i,j,h⟩:=Hl.1 h;exact(FR (hI.cr i j p h).2.2.2) hp
 refine⟨h1,h2,?_,Gc λh=> ?_,v⟩
 .have:=hI.o0 p;have: ¬0<S.own p:=λh=>(FR (hI.ow p h).2.2.1) hp;omega
 .rcases HM.1 h with h|⟨i,j,h⟩
  .grind
  .exact(FR v) (Hl.2 ⟨i,j,M8 (hk.ci i j) h⟩)
def BS.ownOut(hI:BS S fl)(hk:KG S){p:Int}(hp:0<S.own p):S.T.rl p=false/\S.gone p=false/\S.SH p=false:=by
 obtain⟨g1,g2,g3,_⟩:=hI.ow p hp;have h2:S.T.rl p=false:=Gc λh=>(FR g2) (hk.tv.rf p h);have v:S.SH p=false:=Gc λh=>by
  obtain⟨i,j,h⟩:=Hl.1 h;have:=(hI.cr i j p h).2.2.1;omega
 refine⟨h2,Gc λh=> ?_,v⟩;rcases HM.1 h with h|⟨i,j,h⟩
 .exact(FR h2) h
 .exact(FR v) (Hl.2 ⟨i,j,M8 (hk.ci i j) h⟩)
def BS.ready(hI:BS S fl)(hk:KG S){p:Int}(hp:0<S.own p):mem S.V.ready p:=by
 obtain⟨g1,g2,g3,_⟩:=hI.ow p hp;exact(hI.rd p g3).2 ⟨g1,(hI.ownOut hk hp).2.1⟩
def HS.FZ(S:HS)(page n:Int):HS:={S with T:=⟨S.T.LM,λp=>S.T.fr p||inr page n p,λp=>S.T.rl p||(inr page n p&& !N8 S.V.ready p)⟩}
def BS.FZ{page n:Int}(hI:BS S (inr page n))(hk:KG S):BS (S.FZ page n) no:=by
 have v: ∀p,(S.FZ page n).T.fr p=true↔S.T.fr p=true∨inr page n p=true:=λp=>by
  show(S.T.fr p||inr page n p)=true↔_
  grind
 refine⟨λj J p hp=> ?_,hI.cd,λp hp=> ?_,λp hp=> ?_,hI.o0,λp hp=>(by cases hp),λp hp=> ?_,hI.ks,hI.la,λp _=> ?_,hI.sp,hI.sf,hI.fb,hI.pg,hI.h0,hI.h1⟩
 .obtain⟨g1,g2,g3,g4⟩:=hI.cr j J p hp;exact⟨g1,Gc λh=>((v p).1 h).elim (FR g2) (FR g4),g3,rfl⟩
 .rcases(v p).1 hp with h|h
  .exact⟨(hI.fn p h).1,rfl⟩
  .exact⟨(hI.Po hk h).2.2.1,rfl⟩
 .obtain⟨g1,g2,g3,g4⟩:=hI.ow p hp;exact⟨g1,Gc λh=>((v p).1 h).elim (FR g2) (FR g3),rfl,g4⟩
 .rcases hI.cv p hp with h|h|h|h
  .grind
  .exact .inr (.inl h)
  .exact .inr (.inr (.inl h))
  grind
 .have y:(S.FZ page n).gone p=true↔S.gone p=true∨(inr page n p=true/\ ¬mem S.V.ready p):=by
   rw[HM,HM];show(S.T.rl p||(inr page n p&& !N8 S.V.ready p))=true∨_↔_;rw[Bool.or_eq_true,Bool.and_eq_true,Bool.not_eq_true',<-Bh];have e:(N8 S.V.ready p=false)↔ ¬(N8 S.V.ready p=true):=by grind
   rw[e];constructor
   .rintro((h|h)|h)
    .grind
    .grind
    .exact .inl (.inr h)
   .rintro((h|h)|h)
    .grind
    .exact .inr h
    grind
  show mem S.V.ready p↔S.T.LM p=true/\_;cases hf:inr page n p with
  | false=>
   rw[hI.rd p hf]
   grind
  | true=>
   have h2:=(hI.Po hk hf).2.2.2.1;rw[hf]at y;constructor
   .intro h;exact⟨hI.li p hf,Gc λg=>(y.1 g).elim (FR h2) λg=>g.2 h⟩
   grind
def HS.Cr(S:HS)(id:Int)(x:Nat×SI)(page n:Int)(fx:FX):HS:=
 {S with fx:=fx,sp:=λi=>if i=id then some x else S.sp i,own:=λp=>if page<=p/\p<page+n then id else S.own p,AA:=S.AA+n}
def Next(S:HS)(id:Int)(fx:FX):Prop:=(S.fx.bk=[]/\id=(S.fx.n:Int)+1/\fx=⟨S.fx.n+1,[]⟩)∨ ∃a r,S.fx.bk=a::r/\id=(a:Int)+1/\fx=⟨S.fx.n,r⟩
def BS.many(hI:BS S fl)(hk:KG S)(y:S.fx.bk=[]): ∀k:Nat,k<=S.fx.n->(k:Int)<=cP λp=>decide (0<S.own p/\S.own p<=k)
 | 0,_=>(Ml _).1
 | k+1,hkn=>by
  have ih:=hI.many hk y k (by omega);have j:S.sp ((k:Int)+1)≠none:=(hI.sf _).2 ⟨k,rfl,by omega,by grind⟩;obtain⟨x,K⟩: ∃x,S.sp ((k:Int)+1)=some x:=by
   cases h:S.sp ((k:Int)+1)with
   | none=>grind
   | some x=>grind
  obtain⟨h1,h2,T,Y,v⟩:=hI.sp _ x K;have J:=v (x.2.base/8192) (by omega) (by omega);have e:cP (λp=>decide (0<S.own p/\S.own p<=((k+1:Nat):Int)))=cP (λp=>decide (0<S.own p/\S.own p<=(k:Int)))+cP (λp=>decide (S.own p=(k:Int)+1)):=by
   refine RH (λp=> ?_) λp a b=> ?_
   .grind
   grind
  obtain⟨O,o2,o3,o4⟩:=hI.ow (x.2.base/8192) (by omega);have j:=hk.tv.Kl _ O;have:1<=cP (λp=>decide (S.own p=(k:Int)+1)):=cP_pos (p:=x.2.base/8192) (decide_eq_true J) j.1 j.2;omega
def Next.live{id:Int}{X:FX}(h:Next S id X)(hk:KG S)(hI:BS S fl):0<id/\S.sp id=none/\ ∀j:Int,(∃a:Nat,j=(a:Int)+1/\a<X.n/\a∉X.bk)↔j=id∨S.sp j≠none:=by
 rcases h with ⟨h1,rfl,rfl⟩|⟨a,r,h1,rfl,rfl⟩
 .refine⟨by omega,Classical.byContradiction λg=> ?_,λj=> ?_⟩
  .obtain⟨a,e,h2,_⟩:=(hI.sf _).1 g;omega
  .rw[hI.sf]
   grind
 .have y:=hk.fx.nd;have v:=hk.fx.lt;rw[h1]at y v;refine⟨by omega,Classical.byContradiction λg=> ?_,λj=> ?_⟩
  .obtain⟨b,e,h2,J⟩:=(hI.sf _).1 g
   grind
  .rw[hI.sf];constructor
   .grind
   .rintro(e|⟨b,e,h2,J⟩)
    .exact⟨a,e,v a List.mem_cons_self,(List.nodup_cons.1 y).1⟩
    grind
def XA{S:HS}(f:Int->Int){id page n:Int}(T7:0<id)(h0:0<=page)(v:0<=n)(j:page+n<=34359738368)(hz: ∀p,page<=p->p<page+n-> ¬0<f p):
  cP (λp=>decide (0<if page<=p/\p<page+n then id else f p))=cP (λp=>decide (0<f p))+n:=by
 rw[show cP (λp=>decide (0<f p))+n=cP (λp=>decide (0<f p))+cP (inr page n) by rw[VB h0 v j]];refine RH (λp=> ?_) λp a b=> ?_
 .rw[Bool.eq_iff_iff,Bool.or_eq_true,decide_eq_true_eq,decide_eq_true_eq,Ai];omega
 .have b:=Ai.1 b
  grind
def BS.Cr{page n:Int}(hI:BS S (inr page n))(hk:KG S)(h0:0<=page)(hn:0<n)(hb:page+n<=34359738368)(hr: ∀p,page<=p->p<page+n->mem S.V.ready p)
  {id:Int}{X:FX}(hX:Next S id X){x:Nat×SI}(x1:x.2.base=page*8192)(x2:x.2.AA=n)(x3:x.2.state≠0):BS (S.Cr id x page n X) no:=by
 obtain⟨T7,Y,J⟩:=hX.live hk hI;have v: ∀p,page<=p->p<page+n->inr page n p=true:=λp a b=>Ai.2 ⟨a,b⟩;have aA: ∀p,S.own p=id->False:=λp e=>by
  obtain⟨_,_,_,y,T,_⟩:=hI.ow p (by omega)
  grind
 have O: ∀p,(S.Cr id x page n X).own p=if page<=p/\p<page+n then id else S.own p:=λp=>rfl
 have hs: ∀i,(S.Cr id x page n X).sp i=if i=id then some x else S.sp i:=λp=>rfl
 refine⟨λj hj p hp=> ?_,hI.cd,λp hp=> ?_,λp hp=> ?_,λp=> ?_,λp hp=>(by cases hp),λp hp=> ?_,hI.ks,hI.la,λp _=> ?_,λi y T=> ?_,λi=> ?_,?_,?_,hI.h0,hI.h1⟩
 .obtain⟨g1,g2,g3,g4⟩:=hI.cr j hj p hp;refine⟨g1,g2,?_,rfl⟩
  grind
 .obtain⟨g1,g2⟩:=hI.fn p hp;refine⟨?_,rfl⟩
  grind
 .rw[O]at hp⊢;by_cases g:page<=p/\p<page+n
  .rw[if_pos g]at hp⊢;have hf:=v p g.1 g.2;refine⟨hI.li p hf,(hI.Po hk hf).1,rfl,x,?_,by omega,by omega⟩
   grind
  .rw[if_neg g]at hp⊢;obtain⟨g1,g2,g3,y,g4,g5⟩:=hI.ow p hp;refine⟨g1,g2,rfl,y,?_,g5⟩
   grind
 .rw[O];have:=hI.o0 p;omega
 .rcases hI.cv p hp with h|h|h|h
  .exact .inl h
  .exact .inr (.inl h)
  .grind
  .refine .inr (.inr (.inl ?_));rw[O,if_pos (Ai.1 h)];exact T7
 .cases hf:inr page n p with
  | false=>exact hI.rd p hf
  | true=>
   have K:=Ai.1 hf;exact⟨λ_=>⟨hI.li p hf,(hI.Po hk hf).2.2.2.1⟩,λ_=>hr p K.1 K.2⟩
 .rw[hs]at T;by_cases g:i=id
  .grind
  .rw[if_neg g]at T;obtain⟨k1,k2,k3,k4,k5⟩:=hI.sp i y T;refine⟨k1,k2,k3,k4,λp a b=> ?_⟩;have h5:=k5 p a b;rw[O,if_neg λh=> ?_]
   .exact h5
   .have:=(hI.Po hk (v p h.1 h.2)).2.2.1;omega
 .rw[hs];rw[show(S.Cr id x page n X).fx=X from rfl,J i]
  grind
 .show X.n<=34359738368;rcases hX with ⟨h1,rfl,rfl⟩|⟨a,r,h1,rfl,rfl⟩
  .have h2:=hI.many hk h1 S.fx.n (Nat.le_refl _);have h3:cP (λp=>decide (0<S.own p/\S.own p<=(S.fx.n:Int))||inr page n p)=cP (λp=>decide (0<S.own p/\S.own p<=(S.fx.n:Int)))+cP (inr page n):=RH (λp=>rfl) λp a b=>by
    have a:=of_decide_eq_true a;have:=(hI.Po hk b).2.2.1;omega
   rw[VB h0 (by omega) hb]at h3;have:=(Ml λp=>decide (0<S.own p/\S.own p<=(S.fx.n:Int))||inr page n p).2
   grind
  .exact hI.fb
 .show S.AA+n=cP λp=>decide (0<if page<=p/\p<page+n then id else S.own p);rw[XA (S:=S) S.own T7 h0 (by omega) hb λp a b=>by have:=(hI.Po hk (v p a b)).2.2.1;omega,<-hI.pg]
def HS.free(S:HS)(a:Nat)(page n:Int):HS:=
 {S with T:=S.T.LN page n,fx:=⟨S.fx.n,a::S.fx.bk⟩,sp:=λi=>if i=(a:Int)+1 then none else S.sp i,own:=λp=>if page<=p/\p<page+n then 0 else S.own p,AA:=S.AA-n}
def BS.free(hI:BS S no)(hk:KG S){a:Nat}{x:Nat×SI}(hx:S.sp ((a:Int)+1)=some x):BS (S.free a (x.2.base/8192) x.2.AA) no:=by
 obtain⟨k1,k2,k3,k4,k5⟩:=hI.sp _ x hx;generalize hpg:x.2.base/8192=page at *
 generalize hn:x.2.AA=n at *
 have J: ∀p,page<=p->p<page+n->0<S.own p:=λp h1 h2=>by grind
 have aA: ∀p,S.own p=(a:Int)+1↔page<=p/\p<page+n:=λp=>by
  refine⟨λe=> ?_,λh=>k5 p h.1 h.2⟩;obtain⟨_,_,_,y,h1,h2,h3⟩:=hI.ow p (by omega)
  grind
 have O: ∀p,(S.free a page n).own p=if page<=p/\p<page+n then 0 else S.own p:=λp=>rfl
 have hs: ∀i,(S.free a page n).sp i=if i=(a:Int)+1 then none else S.sp i:=λp=>rfl
 have v: ∀p,(S.free a page n).T.fr p=true↔S.T.fr p=true∨(page<=p/\p<page+n):=λp=>by
  show(S.T.fr p||inr page n p)=true↔_;rw[Bool.or_eq_true,Ai]
 have K:=hk.tv.Kl _ (hI.ow page (J page (by omega) (by omega))).1;have aD:=hk.tv.Kl _ (hI.ow (page+n-1) (J _ (by omega) (by omega))).1;refine⟨λj hj p hp=> ?_,hI.cd,λp hp=> ?_,λp hp=> ?_,λp=> ?_,λp hp=>(by cases hp),λp hp=> ?_,hI.ks,hI.la,hI.rd,λi y Y=> ?_,λi=> ?_,hI.fb,?_,hI.h0,hI.h1⟩
 .obtain⟨g1,g2,g3,g4⟩:=hI.cr j hj p hp;refine⟨g1,Gc λh=>((v p).1 h).elim (FR g2) λh=> ?_,?_,rfl⟩
  .grind
  grind
 .refine⟨?_,rfl⟩;rw[O];rcases(v p).1 hp with h|h
  .split
   .rfl
   .exact(hI.fn p h).1
  omega
 .rw[O]at hp⊢;by_cases g:page<=p/\p<page+n
  .omega
  .rw[if_neg g]at hp⊢;obtain⟨g1,g2,g3,y,g4,g5⟩:=hI.ow p hp;refine⟨g1,Gc λh=>((v p).1 h).elim (FR g2) g,rfl,y,?_,g5⟩
   grind
 .rw[O];split
  .omega
  .exact hI.o0 p
 .by_cases g:page<=p/\p<page+n
  .grind
  .rcases hI.cv p hp with h|h|h|h
   .grind
   .exact .inr (.inl h)
   .grind
   grind
 .rw[hs]at Y;by_cases g:i=(a:Int)+1
  .grind
  .rw[if_neg g]at Y;obtain⟨q1,q2,q3,q4,q5⟩:=hI.sp i y Y
   grind
 .rw[hs];have:=hI.sf i;show _↔ ∃b:Nat,i=(b:Int)+1/\b<S.fx.n/\b∉a::S.fx.bk
  grind
 .show S.AA-n=cP λp=>decide (0<if page<=p/\p<page+n then 0 else S.own p);have e:=XA (S:=S) (λp=>if page<=p/\p<page+n then 0 else S.own p) (id:=(a:Int)+1) k1 K.1 (by omega) (by omega) (page:=page) (n:=n) λp h1 h2=>by omega
  have e2:cP (λp=>decide (0<if page<=p/\p<page+n then(a:Int)+1 else if page<=p/\p<page+n then 0 else S.own p))=cP λp=>decide (0<S.own p):=aH λp _ _=>by grind
  rw[e2]at e;have:=hI.pg;omega
def HS.flush(S:HS)(i:Nat):HS:={S with T:=S.T.flush (S.ca i),ca:=λj=>if j=i then CS.nil else S.ca j}
def BS.counts(hI:BS S no)(hk:KG S):cP S.T.LM=HE S.ks*512/\cP S.T.LM=HE S.V.ready+cP S.gone/\S.AA<=HE S.V.ready:=by
 have j: ∀p,S.T.LM p=true->p<34359738368:=λp h=>(hk.tv.Kl p h).2;have v: ∀p,S.gone p=true->S.T.LM p=true:=λp h=>by
  rcases HM.1 h with h|⟨i,J,h⟩
  .exact hk.tv.fi p (hk.tv.rf p h)
  .exact(hI.cr i J p (M8 (hk.ci i J) h)).1
 have y:cP (N8 S.V.ready)=HE S.V.ready:=VA hk.vv.Pm (λp=>Bh.symm) λp h=>by
  have:=hk.vv.Kl p (hk.vv.rl p (Bh.1 h));omega
 refine⟨mO hk.ok hI.ks j,?_,?_⟩
 .rw[<-y];refine RH (λp=> ?_) λp a b=> ?_
  .rw[Bool.eq_iff_iff,Bool.or_eq_true,Bh,hI.rd p rfl];constructor
   .intro h;cases g:S.gone p with
    | false=>exact .inl ⟨h,rfl⟩
    | true=>exact .inr rfl
   .rintro(h|h)
    .exact h.1
    .exact v p h
  .rw[Bh,hI.rd p rfl]at a;exact(FR a.2) b
 .rw[<-y,hI.pg];exact X7 λp h=>Bh.2 (hI.ready hk (of_decide_eq_true h))
end Go.Sh
namespace Go.Sh
def Sat.rest{Ps Z:List Pr}{w:World}(H:Sat (Ps++Z) w):Sat Z w:=by
 induction Ps with
 | nil=>exact H
 | cons P Ps ih=>exact ih H.tail
section
variable{E:Env}{h:Nat}{S:HS}{Z:List Pr}{w:World}{g:HG}
def fE.same{S':HS}(hI:fE S g)(e:S'.sp=S.sp):fE S' g:=⟨hI.nd,λid=>by rw[hI.mem,e]⟩
def Sat.XB(H:Sat (Dd E h S g++Z) w){i:Nat}(y:i<64): ∃R,(∀{w'},Sat R w'->Sat Z w')/\Sat (BY E (g.cb i) (S.ca i)::By E g.t S.T::R) w/\
  ∀{w' c' T'},Sat (BY E (g.cb i) c'::By E g.t T'::R) w'->Sat (Dd E h {S with T:=T',ca:=λj=>if j=i then c' else S.ca j} g++Z) w':=by
 have v:(List.range 64)[i]? =some i:=List.getElem?_range y;have h1:=(H.front 7 rfl).HA v;have h2:=h1.FP 3 rfl;refine⟨_,λ{w'} q=> ?_,h2,λ{w' c' T'} h'=> ?_⟩
 .exact Sat.rest (Ps:=[Ad (λi:Nat=>BY E (g.cb i) (S.ca i)) ((List.range 64).eraseIdx i),Cells h E.Al (Cd g S.hint S.AA),DT E g.m S.V,C5 E g.a S.ks S.own,IP E g.f S.fx,EJ g.sm .i64 (FC S.sp),Ad (spR E S.sp) g.ids]) q
 have b1:=Sat.Wm (P0:=BY E (g.cb i) c') (Ps:=Ad (λi:Nat=>BY E (g.cb i) (S.ca i)) ((List.range 64).eraseIdx i)::((Dd E h S g++Z).eraseIdx 7)) 3 h' (by simp[Dd]);have b2:Sat (BY E (g.cb i) c'::Ad (λi:Nat=>BY E (g.cb i) (S.ca i)) ((List.range 64).eraseIdx i)::((Dd E h {S with T:=T',ca:=λj=>if j=i then c' else S.ca j} g++Z).eraseIdx 7)) w':=b1;have e:Ad (λi:Nat=>BY E (g.cb i) (S.ca i)) ((List.range 64).eraseIdx i)=Ad (λj:Nat=>BY E (g.cb j) (if j=i then c' else S.ca j)) ((List.range 64).eraseIdx i):=
  Ad.congr λx J=>by rw[if_neg (U6 y J)]
 rw[e,show BY E (g.cb i) c'=(λj:Nat=>BY E (g.cb j) (if j=i then c' else S.ca j)) i by grind]at b2;exact Sat.back (Ps:=Dd E h {S with T:=T',ca:=λj=>if j=i then c' else S.ca j} g++Z) 7 (Sat.JN b2 v) (by simp[Dd])
def jP{ca:Nat->CS}{i:Nat}:(λj=>if j=i then ca i else ca j)=ca:=funext λj=>by
 by_cases e:j=i
 .rw[if_pos e,e]
 .rw[if_neg e]
def Sat.Tu(H:Sat (Dd E h S g++Z) w): ∃R,(∀{w'},Sat R w'->Sat Z w')/\Sat (By E g.t S.T::R) w/\ ∀{w' T'},Sat (By E g.t T'::R) w'->Sat (Dd E h {S with T:=T'} g++Z) w':=
 ⟨_,λ{w'} q=>Sat.rest (Ps:=[Cells h E.Al (Cd g S.hint S.AA),DT E g.m S.V,C5 E g.a S.ks S.own,IP E g.f S.fx,EJ g.sm .i64 (FC S.sp),Ad (spR E S.sp) g.ids,Ad (λi:Nat=>BY E (g.cb i) (S.ca i)) (List.range 64)]) q,
  H.front 2 rfl,λ{w' T'} h'=>Sat.back (Ps:=Dd E h S g++Z) 2 h' (by simp[Dd])⟩
def HS.new(V:VS):HS:=⟨V,TV.nil,λ_=>CS.nil,[],λ_=>0,⟨0,[]⟩,λ_=>none,0,0⟩
def BS.new{V:VS}(h1:V.laid=[])(h2:V.ready=[]):BS (HS.new V) no:=by
 have j: ∀p,¬mem ([]:Iv) p:=Bq;refine⟨λi K p hp=> ?_,λa b p y J q1 O=> ?_,λp hp=>(by cases hp),λp hp=>absurd hp (by show ¬(0:Int)<0;decide),λ_=>Int.le_refl 0,λp hp=>(by cases hp),λp hp=>(by cases hp),λp=>⟨λq=>absurd q (j _),λq=>(by cases q)⟩,λp=> ?_,λp _=> ?_,λid x v=>(by cases v),λid=>⟨λq=>absurd rfl q,λ⟨a,_,q,_⟩=>absurd q (Nat.not_lt_zero a)⟩,Nat.zero_le _,?_,Int.le_refl 0,by show(0:Int)<=_;decide⟩
 .have hp:CS.nil.own p=true:=hp;rw[jO]at hp;cases hp
 .have q1:CS.nil.own p=true:=q1;rw[jO]at q1;cases q1
 .show mem V.laid p↔_;rw[h1];exact⟨λq=>absurd q (j _),λq=>(by cases q)⟩
 .show mem V.ready p↔_;rw[h2];exact⟨λq=>absurd q (j _),λq=>(by cases q.1)⟩
 .exact(RI λp=>rfl).symm
def VF(n:Nat):List.range (n+1)=List.range n++[n]:=List.range_succ
def fJ(cb:Nat->Nat)(k:Nat)(x y:Value)(v0 v1 v2 j v4:Value)(b:Nat)(hk:k<64):
  (v0::v1::v2::j::v4::(((List.range 64).map λi=>Value.pointer (if i<k then some ⟨cb i,0,none⟩else none))++[x,y])).set (0+(5+k)) (.pointer (some ⟨b,0,none⟩))
   =v0::v1::v2::j::v4::(((List.range 64).map λi=>Value.pointer (if i<k+1 then some ⟨if i=k then b else cb i,0,none⟩else none))++[x,y]):=by
 rw[show 0+(5+k)=k+1+1+1+1+1 by omega];simp only[List.set_cons_succ];rw[List.set_append_left _ _ (by simp;exact hk)];have key:((List.range 64).map λi=>Value.pointer (if i<k then some ⟨cb i,0,none⟩else none)).set k (.pointer (some ⟨b,0,none⟩))=(List.range 64).map λi=>Value.pointer (if i<k+1 then some ⟨if i=k then b else cb i,0,none⟩else none):=by
  apply List.ext_getElem?
  grind
 rw[key]
def fK{m:Nat}{V:VS}(H:Sat (DT E m V::Z) w){K:Option Addr->World->Prop}(hK: ∀h w',w'.cell? (Addr.mk h 0 none)=some (.pointer (some ⟨m,0,none⟩))->Sat (B2 E h (HS.new V)::Z) w'->K (some ⟨h,0,none⟩) w'):F.I6 E (some ⟨m,0,none⟩) K w:=by
 unfold F.I6 T0.I6;refine pZ H λw2 t H2=>qG H2 λw4 a H4=>Xl H4 .i64 λj w6 H6 _=> ?_;refine AQ (vs:=.pointer (some ⟨m,0,none⟩):: .pointer (some ⟨t,0,none⟩):: .pointer (some ⟨a,0,none⟩):: .pointer none:: .map (some j)::(((List.range 64).map λi=>Value.pointer none)++[.int .u64 0,.int .u64 0])) H6 λO w8 H8 _=> ?_;refine mI H8 λf aP aA=> ?_;refine AV (aA.front 1 rfl) (o:=0) (m:=3) rfl (by simp) λaE T=> ?_;have Y:Sat (Cells O E.Al (.pointer (some ⟨m,0,none⟩):: .pointer (some ⟨t,0,none⟩):: .pointer (some ⟨a,0,none⟩):: .pointer (some ⟨f,0,none⟩):: .map (some j)::(((List.range 64).map λi=>Value.pointer none)++[.int .u64 0,.int .u64 0]))::
   IP E f ⟨0,[]⟩::EJ j .i64 (λ_=>none)::C5 E a [] (λ_=>0)::By E t TV.nil::DT E m V::Z) aE:=T
 clear T;refine AJ (λst w'=> ∃(k:Nat) (cb:Nat->Nat),st.1=(k:Int)/\k<=64/\Sat (Ad (λi:Nat=>BY E (cb i) CS.nil) (List.range k)::Cells O E.Al (.pointer (some ⟨m,0,none⟩):: .pointer (some ⟨t,0,none⟩):: .pointer (some ⟨a,0,none⟩):: .pointer (some ⟨f,0,none⟩):: .map (some j)::(((List.range 64).map λi=>Value.pointer (if i<k then some ⟨cb i,0,none⟩else none))++[.int .u64 0,.int .u64 0]))::
   IP E f ⟨0,[]⟩::EJ j .i64 (λ_=>none)::C5 E a [] (λ_=>0)::By E t TV.nil::DT E m V::Z) w') (λst _=>(64-st.1).toNat) ⟨0,λ_=>0,rfl,by decide,?_⟩ ?_
 .exact Y.MQ _
 rintro⟨k',v⟩ _ aF ⟨k,cb,hk,aH,y⟩;dsimp only at hk⊢;subst hk;refine AB (λaO=> ?_) λaN=> ?_
 .refine lZ y.drew λaQ c aC=>⟨⟨by omega,by omega⟩,?_⟩;have aD:k<64:=by omega
  rw[Int.toNat_natCast,Nat.mul_one,add_add,AM (n:=(k:Int)+1)];refine AV (aC.front 2 rfl) (o:=0) (m:=5+k) rfl (by simp;omega) λaG J=> ?_;rw[fJ cb k _ _ _ _ _ _ _ c aD]at J;refine⟨⟨k+1,λi=>if i=k then c else cb i,by omega,by omega,?_⟩,by omega⟩;have h1:=J.FP 1 rfl;have h2:Sat (BY E c CS.nil::Ad (λi:Nat=>BY E (cb i) CS.nil) (List.range k)::Cells O E.Al (.pointer (some ⟨m,0,none⟩):: .pointer (some ⟨t,0,none⟩):: .pointer (some ⟨a,0,none⟩):: .pointer (some ⟨f,0,none⟩):: .map (some j)::(((List.range 64).map λi=>Value.pointer (if i<k+1 then some ⟨if i=k then c else cb i,0,none⟩else none))++[.int .u64 0,.int .u64 0]))::
    IP E f ⟨0,[]⟩::EJ j .i64 (λ_=>none)::C5 E a [] (λ_=>0)::By E t TV.nil::DT E m V::Z) aG:=J.perm (List.perm_middle (l₁:=[_,_])|>.symm)
  rw[VF];have e:Ad (λi:Nat=>BY E (cb i) CS.nil) (List.range k)=Ad (λi:Nat=>BY E (if i=k then c else cb i) CS.nil) (List.range k):=Ad.congr λx hx=>by grind
  rw[e,show BY E c CS.nil=(λi:Nat=>BY E (if i=k then c else cb i) CS.nil) k by grind]at h2;exact h2.Ua
 .have e:k=64:=by omega
  subst e;refine hK O aF ((y.front 1 rfl).Aa rfl) (Sat.heap.2 ⟨⟨m,t,a,f,j,cb,[]⟩,⟨List.nodup_nil,λid=>⟨λq=>(by cases q),λq=>absurd rfl q⟩⟩,?_⟩);have e:((List.range 64).map λi=>Value.pointer (if i<64 then some ⟨cb i,0,none⟩else none))=mM cb:=by
   unfold mM;exact List.map_congr_left λi hi=>by grind
  rw[e]at y;have aB:=y.MQ (spR E λ_=>none);refine aB.perm ?_;show List.Perm _ ((Cells O E.Al (Cd ⟨m,t,a,f,j,cb,[]⟩ 0 0)::DT E m V::By E t TV.nil::C5 E a [] (λ_=>0)::IP E f ⟨0,[]⟩::EJ j .i64 (λ_=>none)::Ad (spR E λ_=>none) []::Ad (λi:Nat=>BY E (cb i) CS.nil) (List.range 64)::[])++Z);refine List.Perm.append_right (l₁:=[Ad (spR E λ_=>none) [],Ad (λi:Nat=>BY E (cb i) CS.nil) (List.range 64),Cells O E.Al (Cd ⟨m,t,a,f,j,cb,[]⟩ 0 0),IP E f ⟨0,[]⟩,EJ j .i64 (λ_=>none),C5 E a [] (λ_=>0),By E t TV.nil,DT E m V]) Z ?_;exact(List.perm_append_comm (l₁:=[Ad (spR E λ_=>none) [],Ad (λi:Nat=>BY E (cb i) CS.nil) (List.range 64)]) (l₂:=[Cells O E.Al (Cd ⟨m,t,a,f,j,cb,[]⟩ 0 0),IP E f ⟨0,[]⟩,EJ j .i64 (λ_=>none),C5 E a [] (λ_=>0),By E t TV.nil,DT E m V])).trans (.cons _ ((List.reverse_perm [DT E m V,By E t TV.nil,C5 E a [] (λ_=>0),EJ j .i64 (λ_=>none),IP E f ⟨0,[]⟩]).append_right _|>.trans (.cons _ (.cons _ (.cons _ (.swap _ _ _))))))
def mP{m:Nat}{V:VS}(H:Sat (DT E m V::Z) w){K:Option Addr->World->Prop}(j: ∀h w',Sat (B2 E h (HS.new V)::Z) w'->K (some ⟨h,0,none⟩) w'):F.I6 E (some ⟨m,0,none⟩) K w:=
 fK H λh w' _=>j h w'
end
def v7{x c:Nat}(h1:x.testBit c=true)(h2: ∀i,i<c->x.testBit i=false)(i:Nat):(x&&&(x-1)).testBit i=(x.testBit i&& !(i==c)):=by
 have hm:x %2^(c+1)=2^c:=by
  apply Nat.eq_of_testBit_eq
  grind
 have j:x=2^(c+1)*(x/2^(c+1))+2^c:=by
  have:=Nat.div_add_mod x (2^(c+1));omega
 generalize hy:x/2^(c+1)=y at j;have J:2^c<2^(c+1):=Nat.pow_lt_pow_right (by decide) (by omega);have K:0<2^c:=Nat.pow_pos (by decide);have v:x-1=2^(c+1)*y+(2^c-1):=by omega
 rw[Nat.testBit_and,v]
 conv=>lhs;lhs;rw[j]
 conv=>rhs;lhs;rw[j]
 rw[Nat.testBit_two_pow_mul_add _ J,Nat.testBit_two_pow_mul_add _ (by omega:2^c-1<2^(c+1))]
 grind
def fL{u:Nat->Bool}{c:Nat}(y:c<64)(h1:u c=true)(h2: ∀i,i<c->u i=false):GC .u64 0 (W u) (u64 (W u-1))=W (λi=>u i&& !(i==c)):=by
 have K:wN u 64<2^64:=N5 u 64;have v:(wN u 64).testBit c=true:=by rw[EK,h1];simp[y]
 have hz:wN u 64≠0:=λe=>by grind
 have e:u64 (W u-1)=((wN u 64-1:Nat):Int):=by
  unfold W;rw[AI];omega
 rw[e];unfold W;rw[bkN (by omega) (by omega)];congr 1;apply Nat.eq_of_testBit_eq;intro i;rw[v7 v (λj J=>by rw[EK,h2 j J];simp),EK,EK]
 grind
def qO{u:Nat->Bool}{c:Nat}(h1:u c=true): ∀n,(c<n->cN u n=cN (λi=>u i&& !(i==c)) n+1)/\(n<=c->cN u n=cN (λi=>u i&& !(i==c)) n)
 | 0=>⟨λh=>absurd h (Nat.not_lt_zero c),λ_=>rfl⟩
 | n+1=>by
  obtain⟨i1,i2⟩:=qO h1 n;simp only[cN];refine⟨λh=> ?_,λh=> ?_⟩
  .by_cases e:n=c
   .subst e;rw[i2 (Nat.le_refl _),h1];simp
   .rw[i1 (by omega)];have:(n==c)=false:=by simp[e]
    rw[this];simp;omega
  .rw[i2 (by omega)];have:(n==c)=false:=by simp;omega
   rw[this];simp
def aI{u:Nat->Bool}(h:W u≠0): ∃c,c<64/\u c=true/\ ∀i,i<c->u i=false:=by
 have hex: ∃c,c<64/\u c=true:=by
  refine Classical.byContradiction λg=>h (Gn.2 λi v=> ?_);cases hu:u i with
  | false=>rfl
  | true=>grind
 have key: ∀n:Nat,(∃c,c<n/\u c=true)-> ∃c,c<n/\u c=true/\ ∀i,i<c->u i=false:=by
  intro n
  induction n with
  | zero=>omega
  | succ n ih=>
   rintro⟨c,j,hu⟩;by_cases g: ∃c,c<n/\u c=true
   .grind
   grind
 exact key 64 hex
def Mm(ca:Nat->CS):Nat->Int
 | 0=>0
 | k+1=>Mm ca k+cN (ca k).rel 64
def PS(ca:Nat->CS)(k:Nat): ∀m,Mm ca k<=Mm ca (k+m)
 | 0=>Int.le_refl _
 | m+1=>by
  show _<=Mm ca (k+m)+_;have:=PS ca k m;omega
section
variable{E:Env}{h:Nat}{S:HS}{Z:List Pr}{w:World}{g:HG}
def BS.Mm(hI:BS S no)(hk:KG S):NT S.T.rl+Go.Sh.Mm S.ca 64=cP S.gone:=by
 have key: ∀k:Nat,k<=64->NT S.T.rl+Go.Sh.Mm S.ca k=cP (λp=>S.T.rl p||(List.range k).any λi=>(S.ca i).Q4 p):=by
  intro k
  induction k with
  | zero=>
   intro _;obtain⟨l,h1,h2⟩:=hk.tv.cr;have e:(λp=>S.T.rl p||(List.range 0).any λi=>(S.ca i).Q4 p)=S.T.rl:=funext λp=>by simp
   rw[e,cP_NT h1 h2 λp hp=>(hk.tv.Kl p (hk.tv.fi p (hk.tv.rf p hp))).2];show cP S.T.rl+0=_;omega
  | succ k ih=>
   intro K;have ci:=hk.ci k (by omega);rw[RH (f:=λp=>S.T.rl p||(List.range k).any λi=>(S.ca i).Q4 p) (g:=(S.ca k).Q4) (λp=>by rw[VF,List.any_append];simp[Bool.or_assoc]) λp a b=> ?_,<-ih (by omega)]
   .have e:cP (S.ca k).Q4=cN (S.ca k).rel 64:=by
     have j:=ci.b0;have J:=ci.b1;have:=ci.b64;exact qN j (by omega)
    rw[e];show _+(Go.Sh.Mm S.ca k+_)=_;omega
   .rw[Bool.or_eq_true]at a;have y:=M8 ci b;obtain⟨g1,g2,g3,g4⟩:=hI.cr k (by omega) p y;rcases a with a|a
    .exact(FR g2) (hk.tv.rf p a)
    .rw[List.any_eq_true]at a;obtain⟨i,v,O⟩:=a;have v:=List.mem_range.1 v;have:=hI.cd i k p (by omega) (by omega) (M8 (hk.ci i (by omega)) O) y;omega
 exact key 64 (Nat.le_refl _)
def aJ(H:Sat (B2 E h S::Z) w)(hI:BS S no){K:Int->Int->Int->World->Prop}(hK: ∀w',Sat (B2 E h S::Z) w'->K (cP S.T.LM) S.AA (cP S.gone) w'):F.Ee E (some ⟨h,0,none⟩) K w:=by
 have Au:=H.Au;have aE:=hI.Mm Au;obtain⟨c1,c2,c3⟩:=hI.counts Au;have aU:=Ml S.gone;have aV:=Ml S.T.LM;have a0:0<=NT S.T.rl:=by
  obtain⟨l,h1,h2⟩:=Au.tv.cr;rw[Zq h1 h2];exact NQ h1
 obtain⟨g,aH,H⟩:=Sat.heap.1 H;unfold F.Ee T0.Ee;simp only[AH];refine⟨_,(Ch (S:=S) (g:=g) H).2.1,WG (H.front 2 rfl) ?_⟩;have aK:=(Ch (S:=S) (g:=g) H).2.2.2.2.2.2.2;simp only[add_add,Nat.reduceAdd]
 repeat (refine⟨_,aK _ (by decide),?_⟩)
 have hL: ∀i:Nat,i<64->List.getD ((List.range 64).map λi=>some (Addr.mk (g.cb i) 0 none)) i none=some ⟨g.cb i,0,none⟩:=λi J=>mN g.cb J;refine AJ (λst w'=> ∃i:Nat,st.2.1=(i:Int)/\i<=64/\st.1=NT S.T.rl+Go.Sh.Mm S.ca i/\Sat (Dd E h S g++Z) w') (λst _=>(64-st.2.1).toNat) ⟨0,rfl,by decide,(Int.add_zero _).symm,H⟩ ?_;rintro⟨cnt,i',v⟩ _ a4 ⟨i,J,aT,hc,Y⟩;dsimp only at J hc⊢;subst J;refine AB (λaO=>⟨⟨by omega,by omega⟩,?_⟩) λaN=> ?_
 .have J:i<64:=by omega
  obtain⟨R,aL,hb⟩:=Y.jN J;rw[Int.toNat_natCast];have e:=hL i J;refine(show _=_ from e)▸ ?_;refine fD aL λr0 r1 r2 a5 g0 g1 aF=> ?_;have ci:=Au.ci i J;have aP:r2=W (S.ca i).rel:=by
   by_cases he:(S.ca i).empty
   .rw[(g0 he).2.2];refine(Gn.2 λk _=>Gc λq=> ?_).symm;have:=ci.rh k q;rw[he k]at this;cases this
   .exact(g1 he).2.2
  subst aP;have a1:Go.Sh.Mm S.ca (i+1)=Go.Sh.Mm S.ca i+cN (S.ca i).rel 64:=rfl;have aQ:=PS S.ca (i+1) (64-(i+1));rw[show i+1+(64-(i+1))=64 by omega]at aQ;have a2:0<=Go.Sh.Mm S.ca i:=by
   have:=PS S.ca 0 i;rw[Nat.zero_add]at this;exact this
  refine AJ (λst w'=> ∃u,st.2.1=W u/\NT S.T.rl+Go.Sh.Mm S.ca i<=st.1/\st.1+cN u 64=NT S.T.rl+Go.Sh.Mm S.ca (i+1)/\Sat (Dd E h S g++Z) w') (λst _=>st.2.1.toNat) ⟨(S.ca i).rel,rfl,by show _<=cnt;omega,by show cnt+_=_;omega,hb aF⟩ ?_;rintro⟨y,r,v⟩ _ a6 ⟨u,hu,hle,aM,aA⟩;dsimp only at hu hle aM⊢;subst hu;refine Ca (λaD=> ?_) λhz=> ?_
  .obtain⟨c,j,O,aC⟩:=aI aD;rw[fL j O aC];have aY:=(qO O 64).1 j;refine Am λa3 aG=> ?_;subst aG;rw[AI (n:=y+1)];refine⟨⟨_,rfl,by show _<=y+1;omega,by show y+1+_=_;omega,aA⟩,?_⟩;show(W λi=>u i&& !(i==c)).toNat<(W u).toNat;rw[<-fL j O aC];have hb:=W_bnd u;have hz:W u≠0:=aD;have e:GC .u64 0 (W u) (u64 (W u-1))=((wN u 64&&&(wN u 64-1):Nat):Int):=by
    have aZ:wN u 64<2^64:=N5 u 64;have e:u64 (W u-1)=((wN u 64-1:Nat):Int):=by
     unfold W at hz⊢;rw[AI];omega
    rw[e];unfold W;rw[bkN (by omega) (by omega)]
   rw[e,Int.toNat_natCast];have:wN u 64&&&(wN u 64-1)<=wN u 64-1:=Nat.and_le_right;unfold W at hz⊢;rw[Int.toNat_natCast];omega
  .have h0:cN u 64=0:=by
    have h1:=Gn.1 hz;have: ∀n,n<=64->cN u n=0:=by
     intro n
     induction n with
     | zero=>intro _;rfl
     | succ n ih=>intro hn;simp only[cN];rw[ih (by omega),h1 n (by omega)];rfl
    exact this 64 (Nat.le_refl _)
   rw[AM (n:=(i:Int)+1)];exact⟨⟨i+1,by omega,by omega,by show y=_;omega,aA⟩,by show(64-((i:Int)+1)).toNat<(64-(i:Int)).toNat;omega⟩
 .have e:i=64:=by omega
  subst e;have Hd:=Y.drew;refine⟨_,(Ch (S:=S) (g:=g) Hd).2.2.1,_,(Ch (S:=S) (g:=g) Hd).2.2.2.2.2.2.1,eZ (Hd.front 3 rfl) ⟨(Ch (S:=S) (g:=g) Hd).2.2.2.2.2.2.1,?_⟩⟩;rw[AI (n:=HE S.ks*512),<-c1,hc,aE];exact hK _ (Sat.heap.2 ⟨g,aH,Hd⟩)
variable(hE:EnvS E)
include hE
end
def Kb(S:HS)(i:Nat)(S1:HS):Prop:=((S.ca i).empty/\ ∃q,HK S.T 1 q/\S1=S.fill i q)∨((¬(S.ca i).empty∨ ∀q,S.T.fr q=false)/\S1=S)
def Iu(S:HS)(p n:Int)(S1:HS):Prop:=(¬(0<=p/\p<64/\n<16)/\S1=S)∨ ∃i:Nat,i<64/\p=i/\n<16/\Kb S i S1/\ ∀k,¬KZ (S1.ca i).has k n.toNat
def dJ(S:HS)(p n page:Int)(S2:HS):Prop:=
 (∃S1,∃i k:Nat,i<64/\p=i/\n<16/\Kb S i S1/\KZ (S1.ca i).has k n.toNat/\(∀j,KZ (S1.ca i).has j n.toNat->k<=j)/\k+n.toNat<=64/\page=(S1.ca i).base+k/\S2=S1.JF i k n.toNat)∨
 ∃S1,Iu S p n S1/\HK S1.T n page/\S2=S1.Fp page n
def Kb.inv{S S1:HS}{i:Nat}(h:Kb S i S1)(hI:BS S no)(hk:KG S)(j:i<64):BS S1 no:=by
 rcases h with ⟨h1,q,h2,rfl⟩|⟨h1,rfl⟩
 .exact hI.fill hk j h1 q
 .exact hI
def Iu.inv{S S1:HS}{p n:Int}(h:Iu S p n S1)(hI:BS S no)(hk:KG S):BS S1 no:=by
 rcases h with ⟨_,rfl⟩|⟨i,j,_,_,h,_⟩
 .exact hI
 .exact h.inv hI hk j
section
variable{E:Env}{h:Nat}{S:HS}{Z:List Pr}{w:World}{g:HG}
def VH: ∀{l:Iv},Ok l->(l.length:Int)<=HE l
 | [],_=>Int.le_refl _
 | p::r,h=>by
  have:=VH h.tail;have:=h.2.1;show((r.length+1:Nat):Int)<=p.2-p.1+HE r;omega
variable(hE:EnvA E)
include hE
theorem mQ(hT: ∀w',Sat Z w'->Em E.AG w')(H:Sat (B2 E h S::Z) w)(hI:BS S no){p n:Int}(n0:1<=n)(n1:n<=134217728){K:Int->Bool->World->Prop}
  (aR: ∀page S2,dJ S p n page S2->BS S2 (inr page n)->0<=page->page+n<=34359738368-> ∀w',Sat (B2 E h S2::Z) w'->K page true w')
  (aW: ∀S1,Iu S p n S1->BS S1 no->(∀q,¬MD S1.T.fr q n)-> ∀w',Sat (B2 E h S1::Z) w'->K 0 false w'):F.Dr E (some ⟨h,0,none⟩) p n K w:=by
 have Au:=H.Au;obtain⟨g,aP,H⟩:=Sat.heap.1 H;unfold F.Dr T0.Dr;simp only[AH];have J: ∀S1 w3,Iu S p n S1->BS S1 no->S1.sp=S.sp->S1.V=S.V->S1.ks=S.ks->S1.own=S.own->S1.fx=S.fx->S1.hint=S.hint->S1.AA=S.AA->Sat (Dd E h S1 g++Z) w3->
   ∃aC:(Option Addr),w3.cell? ((Addr.mk h 0 none).add 1)=some (.pointer aC)/\F.A8 E aC n (λaK a1 aL aN=>K aK ((aL:Int)==0) aN) w3:=by
  intro S1 w3 ht Y e1 e2 e3 e4 e5 e6 e7 H3;have v:fE S1 g:=aP.same e1;have O:=(Sat.heap.2 ⟨g,v,H3⟩:Sat (B2 E h S1::Z) w3).Au;obtain⟨R,_,h1,hb⟩:=H3.Tu;refine⟨_,(Ch (S:=S1) (g:=g) H3).2.1,Uv hE.toEnvS h1 (by omega) (by omega) (λe=>by omega) (λ_ aA w' H'=> ?_) λ_ page hf w' H'=> ?_⟩
  .exact aW S1 ht Y aA w' (Sat.heap.2 ⟨g,⟨v.nd,v.mem⟩,hb H'⟩)
  .exact aR page (S1.Fp page n) (.inr ⟨S1,ht,hf,rfl⟩) (Y.Fp O hf.2.2.1) hf.1 hf.2.1 w' (Sat.heap.2 ⟨g,⟨v.nd,v.mem⟩,hb H'⟩)
 refine AU (AU (vY (AB (λhp j=>AB (λhn=> ?_) λhn j=> ?_) λhp j=>AO rfl λj=> ?_)))
 .obtain⟨i,rfl⟩: ∃i:Nat,p=(i:Int):=⟨p.toNat,by omega⟩;have hi:i<64:=by omega
  rw[Int.toNat_natCast];refine⟨by omega,_,by rw[Nat.mul_one,add_add,Nat.add_comm];exact(Ch (S:=S) (g:=g) H).2.2.2.2.2.2.2 i hi,?_⟩;have y: ∀S1 aB,Kb S i S1->BS S1 no->S1.sp=S.sp->S1.V=S.V->S1.ks=S.ks->S1.own=S.own->S1.fx=S.fx->S1.hint=S.hint->S1.AA=S.AA->Sat (Dd E h S1 g++Z) aB->
    F.DD E (some ⟨g.cb i,0,none⟩) (i64 n) (λaZ bD a0 aM=>CND ((a0:Int)==0) (K aZ true aM) (∀j:Nat->Value,∃aC:(Option Addr),aM.cell? ((Addr.mk h 0 none).add 1)=some (.pointer aC)/\F.A8 E aC n (λaK a1 aL aN=>K aK ((aL:Int)==0) aN) aM)) aB:=by
   intro S1 aB aQ Y e1 e2 e3 e4 e5 e6 e7 aH;have v:fE S1 g:=aP.same e1;have O:=(Sat.heap.2 ⟨g,v,aH⟩:Sat (B2 E h S1::Z) aB).Au;obtain⟨R,hR,h1,hb⟩:=aH.XB hi;rw[AM (n:=n)];refine Zs (hT _ (hR h1.tail.tail)) h1 (by omega) (by omega) (λa9=>by omega) (λ_ _ aA=>AO rfl λj=> ?_) λ_ _ k aG aS aO w' H'=>AS rfl ?_
   .exact J S1 aB (.inr ⟨i,hi,rfl,hn,aQ,aA⟩) Y e1 e2 e3 e4 e5 e6 e7 aH
   .have aJ:=O.ci i hi;have q0:=aJ.b0;have q1:=aJ.b1;have q2:=aJ.b64;have aE:=Y.JF O hi aG aO;rw[show((n.toNat:Nat):Int)=n by omega]at aE;refine aR ((S1.ca i).base+k) (S1.JF i k n.toNat) (.inl ⟨S1,i,k,hi,rfl,hn,aQ,aG,aS,aO,rfl,rfl⟩) aE (by omega) (by omega) w' (Sat.heap.2 ⟨g,⟨v.nd,v.mem⟩,hb H'⟩)
  obtain⟨R,hR,h1,hb⟩:=H.XB hi;refine AU (MX h1 (λhe=>AS rfl ⟨_,(Ch (S:=S) (g:=g) H).2.1,?_⟩) λhe=>AO rfl λj=> ?_)
  .refine eV hE.toEnvS h1 (λaY=>absurd he aY) (λ_ aA w' H' j=> ?_) λ_ q hq w' H' j=> ?_
   .have h2:=hb H';rw[jP]at h2;exact y S w' (.inr ⟨.inr aA,rfl⟩) hI rfl rfl rfl rfl rfl rfl rfl h2
   .exact y (S.fill i q) w' (.inl ⟨he,q,hq,rfl⟩) (hI.fill Au hi he q) rfl rfl rfl rfl rfl rfl rfl (hb H')
  .exact y S w (.inr ⟨.inl he,rfl⟩) hI rfl rfl rfl rfl rfl rfl rfl H
 .exact J S w (.inl ⟨by omega,rfl⟩) hI rfl rfl rfl rfl rfl rfl rfl H
 .exact J S w (.inl ⟨by omega,rfl⟩) hI rfl rfl rfl rfl rfl rfl rfl H
def IF(n:Int):Int:=(n+511)/512*512
def aK(S:HS)(n:Int)(S1:HS):Prop:=(∀r,S.V.rf≠true::r)/\ ∃at_,It S.V S.hint (IF n) at_/\S1=S.grown {S.V with rf:=S.V.rf.tail,pl:=S.V.pl.tail,laid:=D9 S.V.laid at_ (at_+IF n)} at_ (IF n)
def SJ(S:HS)(n:Int)(S1:HS):Prop:=(∃r,S.V.rf=true::r/\S1={S with V:={S.V with rf:=r}})∨((∀r,S.V.rf≠true::r)/\M5 S.V S.hint (IF n)/\S1={S with V:={S.V with rf:=S.V.rf.tail,pl:=S.V.pl.tail}})
theorem fM(H:Sat (B2 E h S::Z) w)(hI:BS S no){n:Int}(n0:1<=n)(n1:n<=134217728){K:Int->World->Prop}
  (aR: ∀S1,aK S n S1->BS S1 no->(∃at_,MD S1.T.fr at_ n)-> ∀w',Sat (B2 E h S1::Z) w'->K 0 w')(aE: ∀S1,SJ S n S1->BS S1 no-> ∀w',Sat (B2 E h S1::Z) w'->K 13 w'):
  F.DL E (some ⟨h,0,none⟩) n K w:=by
 have Au:=H.Au;have aQ:=hI.h0;have aZ:=hI.h1;obtain⟨g,j,H⟩:=Sat.heap.1 H;unfold F.DL T0.DL;refine⟨by decide,Am λN hN=> ?_⟩;rw[AI (n:=n+512),AI (n:=n+512-1),Int.tdiv_eq_ediv_of_nonneg (by omega),AI (n:=(n+512-1)/512),AI]at hN;have hN:N=IF n:=by unfold IF;omega
 subst hN;have aS:IF n %512=0/\n<=IF n/\IF n<=134217728:=by omega
 obtain⟨u1,u2,u3⟩:=aS;have u4:IF n<n+512:=by omega
 simp only[AH];have Hd:=H.drew;refine⟨_,(Ch (S:=S) (g:=g) Hd).1,_,(Ch (S:=S) (g:=g) Hd).2.2.2.2.2.1,?_⟩;have bk: ∀{V':VS} {w'},Sat (DT E g.m V'::(Dd E h S g++Z).eraseIdx 1) w'->Sat (Dd E h {S with V:=V'} g++Z) w':=λ{V' w'} h'=>Sat.back (Ps:=Dd E h S g++Z) 1 h' (by simp[Dd]);refine X4 hE.toEnvS (Hd.front 1 rfl) aQ (by omega) (by omega) (by omega) (λJ=>by omega) (λ_ r hr w' H'=>AS rfl ?_) (λ_ hr hu w' H'=>AS rfl ?_) λ_ hr at_ hc w8 H8=>AO rfl ?_
 .exact aE _ (.inl ⟨r,hr,rfl⟩) (hI.vZ rfl rfl) w' (Sat.heap.2 ⟨g,⟨j.nd,j.mem⟩,bk H'⟩)
 .exact aE _ (.inr ⟨hr,hu,rfl⟩) (hI.vZ rfl rfl) w' (Sat.heap.2 ⟨g,⟨j.nd,j.mem⟩,bk H'⟩)
 obtain⟨f1,f2,f3,f4⟩:=hc.fits Au.vv.ME (by omega);have a0:0<=at_:=by
  rcases hc with ⟨p,r,h1,h2,rfl⟩|⟨_,⟨_,h1,_⟩|⟨_,_,h1,_⟩⟩
  .obtain⟨g',aO,_⟩:=Sat.TX.1 (Hd.front 1 rfl:Sat (DT E g.m S.V::_) _);exact(aO.jE at_ (by rw[h1];exact List.mem_cons_self)).1
  .have:=h1.low;omega
  .have:=h1.low;omega
 have aA: ∀p,at_<=p->p<at_+IF n->S.T.LM p=false:=λp h1 h2=>Gc λhp=>(Di Au.vv.ME (by omega)).1 f4 p h1 h2 ((hI.la p).2 hp);have H9:=bk H8;rw[AI (n:=at_+IF n)];refine AV H9 (o:=0) (m:=69) rfl (by rw[fF];decide) λaT O=> ?_;rw[Nat.zero_add,fG]at O;have v:Sat (Dd E h {S with V:={S.V with rf:=S.V.rf.tail,pl:=S.V.pl.tail,laid:=D9 S.V.laid at_ (at_+IF n)},hint:=at_+IF n} g++Z) aT:=O;clear O;rw[Int.tdiv_eq_ediv_of_nonneg (by omega),Int.tdiv_eq_ediv_of_nonneg (by omega),AI (n:=at_/512),AI (n:=IF n/512)];refine⟨_,(Ch (S:={S with V:={S.V with rf:=S.V.rf.tail,pl:=S.V.pl.tail,laid:=D9 S.V.laid at_ (at_+IF n)},hint:=at_+IF n}) (g:=g) v).2.1,by decide,by decide,?_⟩;obtain⟨R,_,h1,hb⟩:=v.Tu;refine lV hE.toEnvS h1 (by omega) (by omega) (by omega) (by omega) (λJ=>by unfold MW at J;omega) (λ_ hex=> ?_) λ_ _ aU aJ=> ?_
 .grind
 have aB:=(hb aJ).drew;generalize hS3:({S with V:={S.V with rf:=S.V.rf.tail,pl:=S.V.pl.tail,laid:=D9 S.V.laid at_ (at_+IF n)},hint:=at_+IF n,T:=S.T.grow (at_/512) (IF n/512)}:HS)=S3;have e3:S3.hint=at_+IF n:=by grind
 have Y:Sat (Dd E h S3 g++Z) aU.drew:=by rw[<-hS3];exact aB
 clear aB;have aD:=(Ch (S:=S3) (g:=g) Y).2.2.2.2.2.1;rw[e3]at aD;refine⟨_,(Ch (S:=S3) (g:=g) Y).2.2.1,by decide,_,aD,by decide,?_⟩;rw[Int.tdiv_eq_ediv_of_nonneg (by omega),AI (n:=(at_+IF n)/512)];refine mF hE (Y.front 3 rfl) (by omega) (by omega) (by omega) λaG aL=> ?_;have aC:Sat (Dd E h {S3 with ks:=D9 S3.ks (at_/512) ((at_+IF n)/512)} g++Z) aG:=Sat.back (Ps:=Dd E h S3 g++Z) 3 aL (by simp[Dd]);have y:=(Ch (S:={S3 with ks:=D9 S3.ks (at_/512) ((at_+IF n)/512)}) (g:=g) aC).2.2.2.2.2.1;have aM:({S3 with ks:=D9 S3.ks (at_/512) ((at_+IF n)/512)}:HS).hint=at_+IF n:=e3;rw[aM]at y;refine⟨y,?_⟩;subst hS3;refine aR _ ⟨hr,at_,hc,rfl⟩ (hI.grown Au a0 (by omega) (by omega) f1 u1 aA rfl rfl) ⟨at_,λm q1 q2=> ?_⟩ aG (Sat.heap.2 ⟨g,⟨j.nd,j.mem⟩,aC⟩);show(S.T.fr m||inr (at_/512*512) (IF n/512*512) m)=true;rw[Bool.or_eq_true,Ai];omega
def Kc(S:HS)(page n:Int):TV:=⟨S.T.LM,λp=>S.T.fr p||inr page n p,λp=>S.T.rl p||(inr page n p&& !N8 S.V.ready p)⟩
omit hE in
theorem mR{S:HS}{page x y:Int}(h1:page<=x)(h2:x<=y)(j: ∀p,x<=p->p<y-> ¬mem S.V.ready p):(Kc S page (x-page)).back x (y-x)=Kc S page (y-page):=by
 have e: ∀p,inr page (y-page) p=(inr page (x-page) p||inr x (y-x) p):=λp=>by rw[Bool.eq_iff_iff,Bool.or_eq_true,Ai,Ai,Ai];omega
 unfold Kc TV.back;refine(TV.mk.injEq ..).mpr ⟨rfl,funext λp=> ?_,funext λp=> ?_⟩
 .grind
 .show(S.T.rl p||(inr page (x-page) p&& !N8 S.V.ready p)||inr x (y-x) p)=_;rw[e];cases g:inr x (y-x) p
  .simp
  .have g:=Ai.1 g;have:N8 S.V.ready p=false:=Gc λq=>j p (by omega) (by omega) (Bh.1 q)
   grind
omit hE in
theorem mS{S:HS}{page x y:Int}(h1:page<=x)(h2:x<=y)(j: ∀p,x<=p->p<y->mem S.V.ready p):(Kc S page (x-page)).LN x (y-x)=Kc S page (y-page):=by
 have e: ∀p,inr page (y-page) p=(inr page (x-page) p||inr x (y-x) p):=λp=>by rw[Bool.eq_iff_iff,Bool.or_eq_true,Ai,Ai,Ai];omega
 unfold Kc TV.LN;refine(TV.mk.injEq ..).mpr ⟨rfl,funext λp=> ?_,funext λp=> ?_⟩
 .grind
 .show(S.T.rl p||(inr page (x-page) p&& !N8 S.V.ready p))=_;rw[e];cases g:inr x (y-x) p
  .simp
  .have g:=Ai.1 g;rw[Bh.2 (j p (by omega) (by omega))];simp
theorem fN{page n:Int}(H:Sat (B2 E h S::Z) w)(hI:BS S (inr page n))(p0:0<=page)(n0:1<=n)(pb:page+n<=34359738368){K:World->Prop}(hK:BS (S.FZ page n) no-> ∀w',Sat (B2 E h (S.FZ page n)::Z) w'->K w'):
  F.DM E (some ⟨h,0,none⟩) page n K w:=by
 have Au:=H.Au;have a0:=hI.FZ Au;obtain⟨g,aZ,H⟩:=Sat.heap.1 H;unfold F.DM T0.DM F.Ga T0.Ga;simp only[AH];rw[AI (n:=page+n)];refine⟨_,(Ch (S:=S) (g:=g) H).1,?_⟩;simp only[AH];rw[show(Addr.mk g.m 0 none).add 5=⟨g.m,5,none⟩ by rw[add_eq]];obtain⟨gv,bD,HV⟩:=Sat.TX.1 (H.front 1 rfl:Sat (DT E g.m S.V::_) w);refine Wv hE.toEnvS (HV.FP 1 rfl) (o:=5) rfl rfl p0 (by omega:page+n<18446744073709551616) λs' w3 H3 _=> ?_;have aX:Sat (JA E g.m S.V gv++(Row E.AE 2 s' (flat (withinL S.V.ready page (page+n)))::(Dd E h S g++Z).eraseIdx 1)) w3:=
  Sat.QH (JA E g.m S.V gv) (H3.perm (.cons _ (.cons _ (DV (i:=1) rfl).symm)))
 have H4:=Sat.TX.2 ⟨gv,bD,aX⟩;have H5:Sat (Row E.AE 2 s' (flat (withinL S.V.ready page (page+n)))::DT E g.m S.V::(Dd E h S g++Z).eraseIdx 1) w3:=H4.perm (.swap _ _ _);have O:Sat (Dd E h S g++(Row E.AE 2 s' (flat (withinL S.V.ready page (page+n)))::Z)) w3:=by
  have h1:Sat (Row E.AE 2 s' (flat (withinL S.V.ready page (page+n)))::(Dd E h S g++Z)) w3:=H5.perm (.cons _ (DV (i:=1) rfl).symm);exact Sat.QH (Dd E h S g) h1
 clear H5 H4 aX H3 HV;have J:=Ux Au.vv.Pm (a:=page) (b:=page+n) (by omega);have aB: ∀q,mem (withinL S.V.ready page (page+n)) q↔mem S.V.ready q/\page<=q/\q<page+n:=λq=>Ov;have aO: ∀q∈withinL S.V.ready page (page+n),page<=q.1/\q.1<q.2/\q.2<=page+n:=QD Au.vv.Pm (by omega);generalize hl:withinL S.V.ready page (page+n)=l at O J aB aO;have hlen:s'.len=l.length:=by
  have:=((O.front 8 rfl:Sat (Row E.AE 2 s' (flat l)::_) _)).own.len;rw[Fo]at this;omega
 have a8:(l.length:Int)<=n:=by
  have h1:=VH J;have h2:=MP J.dY (a:=page) (b:=page+n) λq hq=>((aB q).1 hq).2;have h3:=FO J (a:=page) (b:=page+n) (by omega);omega
 have a5: ∀p,page<=p->p<page+n->S.T.LM p=true:=λp a b=>hI.li p (Ai.2 ⟨a,b⟩);have aK: ∀{x y:Int},page<=x->x<y->y<=page+n->ID (Kc S page (x-page)) x (y-x):=λ{x y} a b c=>⟨by omega,by omega,λm q1 q2=>a5 m (by omega) (by omega)⟩;have aF: ∀{x y:Int},page<=x->y<=page+n-> ∀m,x<=m->m<x+(y-x)->(Kc S page (x-page)).fr m=false:=λ{x y} a c m q1 q2=>by
  show(S.T.fr m||inr page (x-page) m)=false;rw[(hI.Po Au (Ai.2 ⟨by omega,by omega⟩)).1,Is.2 (by omega)];rfl
 have aG: ∀{x y:Int} {Y:List Pr} {w5:World} {K5:Int->World->Prop},page<=x->x<=y->y<=page+n->(∀p,x<=p->p<y-> ¬mem S.V.ready p)->Sat (Dd E h {S with T:=Kc S page (x-page)} g++Y) w5->
   (∀r w6,Sat (Dd E h {S with T:=Kc S page (y-page)} g++Y) w6->K5 r w6)->F.Dw E (some ⟨g.t,0,none⟩) x (y-x) K5 w5:=by
  intro x y Y w5 K5 h1 h2 h3 bH H5 aM;obtain⟨R,_,q1,qb⟩:=H5.Tu;refine lY hE.toEnvS q1 (by omega) (by omega) (by omega) (by omega) (λhb w6 O=> ?_) (λ_ hex w6 O=> ?_) λ_ _ w6 O=> ?_
  .have:x=y:=Classical.byContradiction λe=>hb (aK h1 (by omega) h3)
   grind
  .obtain⟨m,q1,q2,q3⟩:=hex;rw[aF h1 h3 m q1 q2]at q3;cases q3
  .rw[mR h1 h2 bH]at O;exact aM _ _ (qb O)
 have stepG: ∀{x y:Int} {Y:List Pr} {w5:World} {K5:Int->World->Prop},page<=x->x<y->y<=page+n->(∀p,x<=p->p<y->mem S.V.ready p)->Sat (Dd E h {S with T:=Kc S page (x-page)} g++Y) w5->
   (∀r w6,Sat (Dd E h {S with T:=Kc S page (y-page)} g++Y) w6->K5 r w6)->F.DH E (some ⟨g.t,0,none⟩) x (y-x) K5 w5:=by
  intro x y Y w5 K5 h1 h2 h3 a2 H5 aM;obtain⟨R,_,q1,qb⟩:=H5.Tu;refine Ws hE.toEnvS q1 (by omega) (by omega) (by omega) (by omega) (λhb w6 O=>absurd (aK h1 h2 h3) hb) (λ_ hex w6 O=> ?_) λ_ _ w6 O=> ?_
  .obtain⟨m,q1,q2,q3⟩:=hex;rw[aF h1 h3 m q1 q2]at q3;cases q3
  .rw[mS h1 (by omega) a2]at O;exact aM _ _ (qb O)
 refine AJ (λst w'=> ∃i:Nat,st.2.1=(i:Int)/\i<=l.length/\page<=st.1/\st.1<=page+n/\(∀j q,j<i->l[j]? =some q->q.2<=st.1)/\(∀j q,i<=j->l[j]? =some q->st.1<=q.1)/\
   Sat (Dd E h {S with T:=Kc S page (st.1-page)} g++(Row E.AE 2 s' (flat l)::Z)) w') (λst _=>((l.length:Int)-st.2.1).toNat) ⟨0,rfl,Nat.zero_le _,Int.le_refl _,by omega,λj q hj=>absurd hj (Nat.not_lt_zero j),λj q _ hq=>(aO q (List.mem_of_getElem? hq)).1,?_⟩ ?_
 .have e:Kc S page (page-page)=S.T:=by
   unfold Kc;have: ∀p,inr page (page-page) p=false:=λp=>Is.2 (by omega);simp only[this,Bool.or_false,Bool.false_and]
  show Sat (Dd E h {S with T:=Kc S page (page-page)} g++_) w3;rw[e];exact O
 rintro⟨at_,i',v⟩ _ w6 ⟨i,hi,a4,aN,a1,bG,a3,O⟩;dsimp only at hi aN a1 bG a3 O⊢;subst hi;rw[hlen];refine AB (λbT=> ?_) λbS=> ?_
 .have a4:i<l.length:=by omega
  obtain⟨x,hx⟩: ∃x,l[i]? =some x:=⟨_,List.getElem?_eq_getElem a4⟩;obtain⟨x1,x2,x3⟩:=aO x (List.mem_of_getElem? hx);have x4:=a3 i x (Nat.le_refl _) hx;obtain⟨bb,bF,k1,k2⟩:=(O.front 8 rfl:Sat (Row E.AE 2 s' (flat l)::_) _).own.cells2 hx;rw[bF];simp only[AH,Int.toNat_natCast];refine⟨⟨by omega,by omega⟩,x.1,by rw[add_eq,add_eq,Nat.zero_add,Nat.add_zero];exact k1,x.2,by rw[add_eq,add_eq,Nat.zero_add];exact k2,?_⟩;refine AQ (vs:=[.int .u64 0,.int .u64 0]) O λaC bX a9 _=> ?_;refine Gm (news:=[.int .u64 x.1,.int .u64 x.2]) a9 rfl (by simp[Value.oneCell']) λbY bA=> ?_;have aJ:=bA.drew;have hC: ∀{w'} {Y:List Pr},Sat (Cells aC E.AE [.int .u64 x.1,.int .u64 x.2]::Y) w'->w'.cell? (Addr.mk aC 0 none)=some (.int .u64 x.1)/\w'.cell? ((Addr.mk aC 0 none).add 1)=some (.int .u64 x.2):=λh=>⟨h.Aa rfl,h.cell rfl⟩;have aH: ∀{w'} {S':HS},Sat (Dd E h S' g++(Cells aC E.AE [.int .u64 x.1,.int .u64 x.2]::Row E.AE 2 s' (flat l)::Z)) w'->Sat (Cells aC E.AE [.int .u64 x.1,.int .u64 x.2]::(Dd E h S' g++(Row E.AE 2 s' (flat l)::Z))) w':=λ{w' S'} h=>h.perm List.perm_middle;have bJ: ∀{w'} {S':HS},Sat (Cells aC E.AE [.int .u64 x.1,.int .u64 x.2]::(Dd E h S' g++(Row E.AE 2 s' (flat l)::Z))) w'->Sat (Dd E h S' g++(Cells aC E.AE [.int .u64 x.1,.int .u64 x.2]::Row E.AE 2 s' (flat l)::Z)) w':=λ{w' S'} q=>Sat.QH (Dd E h S' g) q;have aV:=bJ aJ;refine⟨_,(Ch (S:={S with T:=Kc S page (at_-page)}) (g:=g) aV).2.1,_,(hC aJ).1,?_⟩;rw[AI (n:=x.1-at_)];refine aG aN x4 (by omega) (λp q1 q2 hm=> ?_) aV λr bZ aW=> ?_
  .obtain⟨y,hy,y1,y2⟩:=(aB p).2 ⟨hm,by omega,by omega⟩;obtain⟨j,hj⟩:=List.mem_iff_getElem?.1 hy;rcases Nat.lt_trichotomy j i with g1|g1|g1
   .grind
   .grind
   .have:=J.lt g1 hx hj;omega
  have aA:=aW.drew;refine⟨(hC (aH aW)).1,_,(Ch (S:={S with T:=Kc S page (x.1-page)}) (g:=g) aA).2.1,_,(hC (aH aA)).1,_,(hC (aH aA)).2,_,(hC (aH aA)).1,?_⟩;rw[AI (n:=x.2-x.1)];refine stepG (by omega) x2 x3 (λp q1 q2=>((aB p).1 ⟨x,List.mem_of_getElem? hx,q1,q2⟩).1) aA λr b0 bB=> ?_;have aD:=aH bB;refine⟨(hC aD).1,(hC aD).2,_,(hC aD).2,?_⟩;rw[AM (n:=(i:Int)+1)];refine⟨⟨i+1,by omega,by omega,by show page<=x.2;omega,x3,λj q hj hq=> ?_,λj q hj hq=> ?_,aD.tail⟩,by omega⟩
  .rcases Nat.lt_or_eq_of_le (Nat.le_of_lt_succ hj)with g1|g1
   .grind
   grind
  .have:=J.lt (show i<j by omega) hx hq;omega
 .have e:i=l.length:=by omega
  subst e;refine⟨_,(Ch (S:={S with T:=Kc S page (at_-page)}) (g:=g) O).2.1,?_⟩;rw[AI (n:=page+n-at_)];refine aG aN a1 (Int.le_refl _) (λp q1 q2 hm=> ?_) O λr bL aY=> ?_
  .obtain⟨y,hy,y1,y2⟩:=(aB p).2 ⟨hm,by omega,by omega⟩;obtain⟨j,hj⟩:=List.mem_iff_getElem?.1 hy
   grind
  .rw[show page+n-page=n by omega]at aY;exact hK a0 bL (Sat.heap.2 ⟨g,⟨aZ.nd,aZ.mem⟩,Sat.Q5 (Dd E h (S.FZ page n) g) aY⟩)
end
def VI(S:HS)(p n page:Int)(S1:HS):Prop:=
 dJ S p n page S1∨ ∃v j,Iu S p n v/\(∀q,¬MD v.T.fr q n)/\aK v n j/\HK j.T n page/\S1=j.Fp page n
def Ke(S:HS)(page n:Int):Prop:= ∀q,page<=q->q<page+n->mem S.V.ready q
def Made(S1:HS)(page n:Int)(S2:HS):Prop:=(Ke S1 page n/\S2=S1)∨(¬Ke S1 page n/\(∀r,S1.V.rf≠true::r)/\S2={S1 with V:=JB S1.V page n})
def Found(S:HS)(p n page:Int)(S2:HS):Prop:= ∃S1,VI S p n page S1/\Made S1 page n S2
def RM(S:HS)(p n:Int)(S2:HS):Prop:=
 (∃j,Iu S p n j/\(∀q,¬MD j.T.fr q n)/\SJ j n S2)∨
 ∃S1 page r,VI S p n page S1/\ ¬Ke S1 page n/\S1.V.rf=true::r/\S2=({S1 with V:={S1.V with rf:=r}}:HS).FZ page n
section
variable{E:Env}{h:Nat}{S:HS}{Z:List Pr}{w:World}{g:HG}
def BS.pgs{S:HS}{fl:Int->Bool}(hI:BS S fl):0<=S.AA/\S.AA<=34359738368:=by
 rw[hI.pg];exact Ml _
def Sat.theMem(H:Sat (B2 E h S::Z) w): ∃m R,w.cell? (Addr.mk h 0 none)=some (.pointer (some ⟨m,0,none⟩))/\Sat (DT E m S.V::R) w/\
  ∀{V':VS} {w'},Sat (DT E m V'::R) w'->Sat (B2 E h {S with V:=V'}::Z) w':=by
 obtain⟨g,hI,H⟩:=Sat.heap.1 H;refine⟨g.m,_,(Ch (S:=S) (g:=g) H).1,H.front 1 rfl,λ{V' w'} h'=>Sat.heap.2 ⟨g,⟨hI.nd,hI.mem⟩,?_⟩⟩;exact Sat.back (Ps:=Dd E h S g++Z) 1 h' (by simp[Dd])
def Sat.qP(H:Sat (B2 E h S::Z) w): ∃t R,w.cell? ((Addr.mk h 0 none).add 1)=some (.pointer (some ⟨t,0,none⟩))/\Sat (By E t S.T::R) w/\
  ∀{j:TV} {w'},Sat (By E t j::R) w'->Sat (B2 E h {S with T:=j}::Z) w':=by
 obtain⟨g,hI,H⟩:=Sat.heap.1 H;refine⟨g.t,_,(Ch (S:=S) (g:=g) H).2.1,H.front 2 rfl,λ{V' w'} h'=>Sat.heap.2 ⟨g,⟨hI.nd,hI.mem⟩,?_⟩⟩;exact Sat.back (Ps:=Dd E h S g++Z) 2 h' (by simp[Dd])
variable(hE:EnvA E)
include hE
theorem fO(hT: ∀w',Sat Z w'->Em E.AG w')(H:Sat (B2 E h S::Z) w)(hI:BS S no){p n:Int}(n0:1<=n)(n1:n<=134217728){K:Int->Int->World->Prop}
  (bW: ∀page S2,Found S p n page S2->BS S2 (inr page n)->0<=page->page+n<=34359738368->Ke S2 page n-> ∀w',Sat (B2 E h S2::Z) w'->K page 0 w')
  (bD: ∀S2,RM S p n S2->BS S2 no-> ∀w',Sat (B2 E h S2::Z) w'->K 0 13 w'):F.Dx E (some ⟨h,0,none⟩) p n K w:=by
 unfold F.Dx T0.Dx;refine AQ (vs:=[.pointer (some ⟨h,0,none⟩)]) H λb1 w2 H2 _=>AQ (vs:=[.int .u64 n]) H2 λb3 w4 H4 _=>AQ (vs:=[.int .i64 0]) H4 λb5 w6 H6 _=> ?_;have H7:=H6.front 3 rfl;have v: ∀{w'} {S':HS} {x:Int} {Y:List Pr},Sat (B2 E h S'::Cells b5 E.CM [.int .i64 x]::Cells b3 E.AD [.int .u64 n]::Cells b1 E.DN [.pointer (some ⟨h,0,none⟩)]::Y) w'->
   w'.cell? (Addr.mk b1 0 none)=some (.pointer (some ⟨h,0,none⟩))/\w'.cell? (Addr.mk b3 0 none)=some (.int .u64 n)/\w'.cell? (Addr.mk b5 0 none)=some (.int .i64 x):=λq=>⟨(q.front 3 rfl).Aa rfl,(q.front 2 rfl).Aa rfl,(q.front 1 rfl).Aa rfl⟩
 have aQ: ∀{w'} {S':HS} {x y:Int} {Y:List Pr} {K':World->Prop},Sat (B2 E h S'::Cells b5 E.CM [.int .i64 x]::Cells b3 E.AD [.int .u64 n]::Cells b1 E.DN [.pointer (some ⟨h,0,none⟩)]::Y) w'->
   (∀aV,Sat (B2 E h S'::Cells b5 E.CM [.int .i64 y]::Cells b3 E.AD [.int .u64 n]::Cells b1 E.DN [.pointer (some ⟨h,0,none⟩)]::Y) aV->K' aV)->stCells (Addr.mk b5 0 none) 0 [.int .i64 y] w' K':=λ{w' S' x y Y K'} q hq=>by
  refine DZ (q.front 1 rfl) (o:=0) rfl (by simp) λaV q'=>hq aV ?_;exact q'.perm (.swap _ _ _)
 have aY: ∀{w'} {S':HS} {x:Int},Sat (B2 E h S'::Cells b5 E.CM [.int .i64 x]::Cells b3 E.AD [.int .u64 n]::Cells b1 E.DN [.pointer (some ⟨h,0,none⟩)]::Z) w'->Sat (B2 E h S'::Z) w':=λ{w' S' x} q=>by
  have q1:=(q.front 1 rfl).tail;have q2:=(q1.front 1 rfl).tail;exact(q2.front 1 rfl).tail
 have bU: ∀w',Sat (Cells b5 E.CM [.int .i64 0]::Cells b3 E.AD [.int .u64 n]::Cells b1 E.DN [.pointer (some ⟨h,0,none⟩)]::Z) w'->Em E.AG w':=λw' q=>hT w' q.tail.tail.tail;refine⟨_,(v H7).1,_,(v H7).2.1,?_⟩;have aP: ∀page S1,VI S p n page S1->BS S1 (inr page n)->0<=page->page+n<=34359738368-> ∀x a1,Sat (B2 E h S1::Cells b5 E.CM [.int .i64 x]::Cells b3 E.AD [.int .u64 n]::Cells b1 E.DN [.pointer (some ⟨h,0,none⟩)]::Z) a1->
  AL (.cells #[.int .u64 0] E.AD) a1 λT bH=>
  stCells (Addr.mk T 0 none) 0 [.int .u64 page] bH λaI=>
  ∃a3:(Option Addr),aI.drew.cell? (Addr.mk b1 0 none)=some (.pointer a3)/\
  NC a3 λb6=>
  ∃bI:(Option Addr),aI.drew.cell? b6=some (.pointer bI)/\
  ∃bJ:Int,aI.drew.cell? (Addr.mk b3 0 none)=some (.int .u64 bJ)/\
  F.Cv E bI page bJ (λb8 J=>
  J.cell? (Addr.mk b1 0 none)=some (.pointer a3)/\
  CND ((b8:Int) !=0) (
   stCells (Addr.mk b5 0 none) 0 [.int .i64 13] J λcD=>
   F.BF E (some (Addr.mk b5 0 none)) (some (Addr.mk b1 0 none)) (some (Addr.mk T 0 none)) (some (Addr.mk b3 0 none)) (λa2=>
    ∃bK:Int,a2.cell? (Addr.mk b5 0 none)=some (.int .i64 bK)/\
    K 0 bK a2
   ) cD
  ) (
   stCells (Addr.mk b5 0 none) 0 [.int .i64 0] J λaR=>
   F.BF E (some (Addr.mk b5 0 none)) (some (Addr.mk b1 0 none)) (some (Addr.mk T 0 none)) (some (Addr.mk b3 0 none)) (λaS=>
    ∃aT:Int,aS.cell? (Addr.mk b5 0 none)=some (.int .i64 aT)/\
    K page aT aS
   ) aR
  )
  ) aI.drew:=by
  intro page S1 hk aC q0 q1 x a1 a5;have aB:=a5.Au;refine AQ (vs:=[.int .u64 0]) a5 λT bH bN _=>DZ bN (o:=0) rfl (by simp) λaI bO=> ?_;have bP:Sat (B2 E h S1::Cells b5 E.CM [.int .i64 x]::Cells b3 E.AD [.int .u64 n]::Cells b1 E.DN [.pointer (some ⟨h,0,none⟩)]::Cells T E.AD [.int .u64 page]::Z) aI:=bO.perm ((DV (l:=B2 E h S1::Cells b5 E.CM [.int .i64 x]::Cells b3 E.AD [.int .u64 n]::Cells b1 E.DN [.pointer (some ⟨h,0,none⟩)]::Cells T E.AD [.int .u64 page]::Z) (i:=4) rfl).symm);have aU:=bP.drew;obtain⟨m,R,c0,hm,hb⟩:=aU.theMem;refine⟨_,(v aU).1,?_⟩;simp only[AH];refine⟨_,c0,_,(v aU).2.1,?_⟩;have bA: ∀{w'} {S':HS} {x:Int},Sat (B2 E h S'::Cells b5 E.CM [.int .i64 x]::Cells b3 E.AD [.int .u64 n]::Cells b1 E.DN [.pointer (some ⟨h,0,none⟩)]::Cells T E.AD [.int .u64 page]::Z) w'->w'.cell? (Addr.mk T 0 none)=some (.int .u64 page):=λq=>(q.front 4 rfl).Aa rfl;have aH: ∀{w'} {S':HS} {x:Int},Sat (B2 E h S'::Cells b5 E.CM [.int .i64 x]::Cells b3 E.AD [.int .u64 n]::Cells b1 E.DN [.pointer (some ⟨h,0,none⟩)]::Cells T E.AD [.int .u64 page]::Z) w'->Sat (B2 E h S'::Z) w':=λ{w' S' x} q=>by
   have q1:=(q.front 1 rfl).tail;have q2:=(q1.front 1 rfl).tail;have q3:=(q2.front 1 rfl).tail;exact(q3.front 1 rfl).tail
  have bC: ∀q,page<=q->q<page+n->inr page n q=true:=λq a b=>Ai.2 ⟨a,b⟩;have aZ:cnt S1.V.laid page (page+n)=n:=by
   have:=(FI aB.vv.ME (a:=page) (b:=page+n) (by omega)).2 λq a b=>(aC.la q).2 (aC.li q (bC q a b));omega
  have aN:=FI aB.vv.Pm (a:=page) (b:=page+n) (by omega);have O:cnt S1.V.ready page (page+n)=n↔Ke S1 page n:=⟨λe=>aN.1 (by omega),λe=>by have:=aN.2 e;omega⟩;have same:({S1 with V:=S1.V}:HS)=S1:=rfl;have aO: ∀S2 J,Made S1 page n S2->BS S2 (inr page n)->Ke S2 page n->Sat (B2 E h S2::Cells b5 E.CM [.int .i64 x]::Cells b3 E.AD [.int .u64 n]::Cells b1 E.DN [.pointer (some ⟨h,0,none⟩)]::Cells T E.AD [.int .u64 page]::Z) J->
    stCells (Addr.mk b5 0 none) 0 [.int .i64 0] J λaR=>
    F.BF E (some (Addr.mk b5 0 none)) (some (Addr.mk b1 0 none)) (some (Addr.mk T 0 none)) (some (Addr.mk b3 0 none)) (λaS=>
     ∃aT:Int,aS.cell? (Addr.mk b5 0 none)=some (.int .i64 aT)/\
     K page aT aS) aR:=by
   intro S2 J bX aG bZ aD;refine aQ aD λaR aX=> ?_;unfold F.BF T0.BF;simp only[AH];exact⟨_,(v aX).2.2,AO rfl ⟨_,(v aX).2.2,bW page S2 ⟨S1,hk,bX⟩ aG q0 q1 bZ aR (aH aX)⟩⟩
  refine commit_spec hE.toEnvS hm q0 (by omega) (by omega) (by omega) (λbB=>absurd ⟨by omega,q1⟩ bB) (λ_ hl=>absurd aZ hl) (λ_ _ hr J bF=> ?_) (λ_ _ hr r a0 J aD=> ?_) λ_ _ hr a0 J aD=> ?_
  .have aD:=aU.nothing bF;exact⟨(v aD).1,AO rfl (aO S1 J (.inl ⟨O.1 hr,rfl⟩) aC (O.1 hr) aD)⟩
  .have aL:=hb aD;refine⟨(v aL).1,AS rfl (aQ aL λa2 aM=> ?_)⟩;unfold F.BF T0.BF;simp only[AH];refine⟨_,(v aM).2.2,AS rfl ⟨_,(v aM).1,_,bA aM,_,(v aM).2.1,?_⟩⟩;have aG:BS {S1 with V:={S1.V with rf:=r}} (inr page n):=aC.vZ rfl rfl;refine fN hE aM aG q0 n0 q1 λbT cE a8=>⟨_,(v a8).2.2,?_⟩;exact bD _ (.inr ⟨S1,page,r,hk,λe=>hr (O.2 e),a0,rfl⟩) bT cE (aH a8)
  .have aL:=hb aD;have aG:BS {S1 with V:=JB S1.V page n} (inr page n):=aC.QK aB q0 (by omega) q1 bC;exact⟨(v aL).1,AO rfl (aO _ J (.inr ⟨λe=>hr (O.2 e),a0,rfl⟩) aG (X9 aB q0 (by omega) q1) aL)⟩
 refine mQ hE bU H7 hI n0 n1 (λpage S1 hg aC q0 q1 bG aJ=>AU (AO rfl λj=>aP page S1 (.inl hg) aC q0 q1 0 bG aJ)) λS0 ht bS bE bG aJ=>AU (AS rfl ⟨_,(v aJ).1,_,(v aJ).2.1,?_⟩);refine fM hE aJ bS n0 n1 (λa9 hg aC cH b9 aW=> ?_) λS2 bY aG b9 aW=> ?_
 .refine aQ aW λcA aK=>⟨_,(v aK).2.2,AO rfl ?_⟩;have aF:=aK.drew;have aB:=aF.Au;obtain⟨t,R,c1,b0,hb⟩:=aF.qP;refine⟨_,(v aF).1,?_⟩;simp only[AH];refine⟨_,c1,_,(v aF).2.1,?_⟩;refine Uv hE.toEnvS b0 (by omega) (by omega) (λe=>by omega) (λ_ cG w' H'=> ?_) λ_ page hf cC bM=> ?_
  .grind
  .have a7:=hb bM;exact⟨(v a7).1,λj=>aP page (a9.Fp page n) (.inr ⟨S0,a9,ht,bE,hg,hf,rfl⟩) (aC.Fp aB hf.2.2.1) hf.1 hf.2.1 0 cC a7⟩
 .refine aQ aW λcA aK=>⟨_,(v aK).2.2,AS rfl ?_⟩;have aF:=aK.drew;refine⟨_,(v aF).2.2,aQ aF λcB a6=>⟨_,(v a6).2.2,?_⟩⟩;exact bD S2 (.inl ⟨S0,ht,bE,bY⟩) aG cB (aY a6)
theorem fP{page n:Int}{b:Nat}{I:SI}(H:Sat (DF E b I::B2 E h S::Z) w)(hI:BS S (inr page n))(p0:0<=page)(n0:1<=n)(pb:page+n<=34359738368)(hr:Ke S page n)
  (i1:I.base=page*8192)(i2:I.AA=n)(i3:I.state≠0){K:Int->World->Prop}
  (hK: ∀id X,Next S id X->BS (S.Cr id (b,I) page n X) no-> ∀w',Sat (B2 E h (S.Cr id (b,I) page n X)::Z) w'->K id w'):F.FB E (some ⟨h,0,none⟩) (some ⟨b,0,none⟩) K w:=by
 have Au:=(H.front 1 rfl:Sat (B2 E h S::_) w).Au;have bP:=hI.fb;obtain⟨g,aG,H0⟩:=Sat.heap.1 (H.front 1 rfl:Sat (B2 E h S::DF E b I::Z) w);unfold F.FB T0.FB;simp only[AH];refine⟨_,(Ch (S:=S) (g:=g) H0).2.2.2.1,?_⟩;have O: ∀id X,Next S id X-> ∀w4,Sat (Dd E h {S with fx:=X} g++(DF E b I::Z)) w4->
   ∃x6:(Option Nat),w4.cell? ((Addr.mk h 0 none).add 4)=some (.map x6)/\
   XY .i64 id (.pointer (some ⟨b,0,none⟩)) x6 w4 λw7=>
   F.DG E (some ⟨b,0,none⟩) (λr8 r9 a6 a7 a8 a9 bA bB bC bD aR=>
   AL (.cells #[.int .u64 0,.int .i64 0,.int .i64 0,.int .i64 0,.bool false,.int .i64 0,.int .i64 0,.int .i64 0,.bool false,.bool false] E.Bl) aR λj aS=>
   stCells (Addr.mk j 0 none) 0 [.int .u64 r8,.int .i64 r9,.int .i64 a6,.int .i64 a7,.bool a8,.int .i64 a9,.int .i64 bA,.int .i64 bB,.bool bC,.bool bD] aS λv=>
   ∃aT:(Option Addr),v.drew.cell? ((Addr.mk h 0 none).add 2)=some (.pointer aT)/\
   ∃aJ:Int,v.drew.cell? (Addr.mk j 0 none)=some (.int .u64 aJ)/\
   8192≠(0:Int)/\
   ∃aK:Int,v.drew.cell? ((Addr.mk j 0 none).add 1)=some (.int .i64 aK)/\
   F.EM E aT (u64 (Int.tdiv aJ 8192)) (u64 (aK)) id (λbT y=>
   y.cell? ((Addr.mk j 0 none).add 1)=some (.int .i64 aK)/\
   y.cell? (Addr.mk j 0 none)=some (.int .u64 aJ)/\
   ∃aU:Int,y.drew.cell? ((Addr.mk h 0 none).add 70)=some (.int .u64 aU)/\
   ∃aV:Int,y.drew.cell? ((Addr.mk j 0 none).add 1)=some (.int .i64 aV)/\
   stCells ((Addr.mk h 0 none).add 70) 0 [.int .u64 (u64 (aU+(u64 (aV))))] y.drew λaI=>
   K id aI
   ) v.drew
   ) w7:=by
  intro id X hX w4 H4;obtain⟨T7,aH,a4⟩:=hX.live Au hI;refine⟨_,(Ch (S:={S with fx:=X}) (g:=g) H4).2.2.2.2.1,iO (H4.front 5 rfl) λw7 H7=> ?_⟩;have e:(λi=>if i=id then some (Value.pointer (some ⟨b,0,none⟩))else FC S.sp i)=FC λi=>if i=id then some (b,I)else S.sp i:=funext λi=>by
   unfold FC
   grind
  have aN:Sat (EJ g.sm .i64 (λi=>if i=id then some (Value.pointer (some ⟨b,0,none⟩))else FC S.sp i)::(Dd E h {S with fx:=X} g++(DF E b I::Z)).eraseIdx 5) w7:=H7;rw[e]at aN;have H8:Sat (DF E b I::EJ g.sm .i64 (FC λi=>if i=id then some (b,I)else S.sp i)::[Cells h E.Al (Cd g S.hint S.AA),DT E g.m S.V,By E g.t S.T,C5 E g.a S.ks S.own,IP E g.f X,Ad (spR E S.sp) g.ids,Ad (λi:Nat=>BY E (g.cb i) (S.ca i)) (List.range 64)]++Z) w7:=
   aN.front 8 rfl
  refine Ma H8 λaR aX=> ?_;refine AQ (vs:=[.int .u64 0,.int .i64 0,.int .i64 0,.int .i64 0,.bool false,.int .i64 0,.int .i64 0,.int .i64 0,.bool false,.bool false]) aX λj aS aY _=> ?_;refine Gm (news:=[.int .u64 I.base,.int .i64 I.AA,.int .i64 I.state,.int .i64 I.cls,.bool I.G5,.int .i64 I.elem,.int .i64 I.AK,.int .i64 I.used,.bool I.f8,.bool I.f9]) aY rfl (by simp[Value.oneCell']) λv aD=> ?_;have aQ:id∉g.ids:=λq=>(aG.mem id).1 q aH;have J:Ad (spR E S.sp) g.ids=Ad (spR E λi=>if i=id then some (b,I)else S.sp i) g.ids:=Ad.congr λi hi=>by
   unfold spR
   grind
  have aB:DF E b I=spR E (λi=>if i=id then some (b,I)else S.sp i) id:=by unfold spR;grind
  generalize hsp:(λi=>if i=id then some (b,I)else S.sp i)=sp' at aD J aB;have aZ:Sat (Cells j E.Bl [.int .u64 I.base,.int .i64 I.AA,.int .i64 I.state,.int .i64 I.cls,.bool I.G5,.int .i64 I.elem,.int .i64 I.AK,.int .i64 I.used,.bool I.f8,.bool I.f9]::(Dd E h {S with fx:=X,sp:=sp'} {g with ids:=id::g.ids}++Z)) v:=by
   rw[J,aB]at aD;have q1:Sat (spR E sp' id::Ad (spR E sp') g.ids::[Cells j E.Bl [.int .u64 I.base,.int .i64 I.AA,.int .i64 I.state,.int .i64 I.cls,.bool I.G5,.int .i64 I.elem,.int .i64 I.AK,.int .i64 I.used,.bool I.f8,.bool I.f9],EJ g.sm .i64 (FC sp'),Cells h E.Al (Cd g S.hint S.AA),DT E g.m S.V,By E g.t S.T,C5 E g.a S.ks S.own,IP E g.f X,Ad (λi:Nat=>BY E (g.cb i) (S.ca i)) (List.range 64)]++Z) v:=
    (aD.front 1 rfl).FP 7 rfl
   have q2:=Sat.KP.2 q1;refine q2.perm ?_;show List.Perm _ (Cells j E.Bl [.int .u64 I.base,.int .i64 I.AA,.int .i64 I.state,.int .i64 I.cls,.bool I.G5,.int .i64 I.elem,.int .i64 I.AK,.int .i64 I.used,.bool I.f8,.bool I.f9]::([Cells h E.Al (Cd g S.hint S.AA),DT E g.m S.V,By E g.t S.T,C5 E g.a S.ks S.own,IP E g.f X,EJ g.sm .i64 (FC sp'),Ad (spR E sp') (id::g.ids),Ad (λi:Nat=>BY E (g.cb i) (S.ca i)) (List.range 64)]++Z));refine List.Perm.trans (.swap _ _ _) (.cons _ ?_);refine List.Perm.append_right (l₁:=[Ad (spR E sp') (id::g.ids),EJ g.sm .i64 (FC sp'),Cells h E.Al (Cd g S.hint S.AA),DT E g.m S.V,By E g.t S.T,C5 E g.a S.ks S.own,IP E g.f X,Ad (λi:Nat=>BY E (g.cb i) (S.ca i)) (List.range 64)]) Z ?_;refine List.Perm.trans (.swap _ _ _) ?_;refine List.Perm.trans (List.perm_middle (a:=EJ g.sm .i64 (FC sp')) (l₁:=[])|>.symm) ?_;have p1:List.Perm (EJ g.sm .i64 (FC sp')::Ad (spR E sp') (id::g.ids)::([Cells h E.Al (Cd g S.hint S.AA),DT E g.m S.V,By E g.t S.T,C5 E g.a S.ks S.own,IP E g.f X]++[Ad (λi:Nat=>BY E (g.cb i) (S.ca i)) (List.range 64)])) ([Cells h E.Al (Cd g S.hint S.AA),DT E g.m S.V,By E g.t S.T,C5 E g.a S.ks S.own,IP E g.f X]++(EJ g.sm .i64 (FC sp')::Ad (spR E sp') (id::g.ids)::[Ad (λi:Nat=>BY E (g.cb i) (S.ca i)) (List.range 64)])):=by
    refine List.Perm.trans (.cons _ List.perm_middle.symm) ?_;exact List.perm_middle.symm
   exact p1
  have aA:=aZ.drew;have hB: ∀{w'} {Y:List Pr},Sat (Cells j E.Bl [.int .u64 I.base,.int .i64 I.AA,.int .i64 I.state,.int .i64 I.cls,.bool I.G5,.int .i64 I.elem,.int .i64 I.AK,.int .i64 I.used,.bool I.f8,.bool I.f9]::Y) w'->w'.cell? (Addr.mk j 0 none)=some (.int .u64 I.base)/\w'.cell? ((Addr.mk j 0 none).add 1)=some (.int .i64 I.AA):=λq=>⟨q.Aa rfl,q.cell rfl⟩;have hA:=(Ch (S:={S with fx:=X,sp:=sp'}) (g:={g with ids:=id::g.ids}) aA.tail).2.2.1;refine⟨_,hA,_,(hB aA).1,by decide,_,(hB aA).2,?_⟩;have e1:u64 (Int.tdiv I.base 8192)=page:=by rw[i1,Int.tdiv_eq_ediv_of_nonneg (by omega),show page*8192/8192=page by omega,AI]
  have e2:u64 I.AA=n:=by rw[i2,AI]
  rw[e1,e2];have a0:=aA.front 4 rfl;refine Z5 hE a0 p0 (by omega) (by omega) (by omega) ⟨by omega,by omega,pb,λq q1 q2=>(hI.ks q).2 (hI.li q (Ai.2 ⟨q1,q2⟩))⟩ λy a1=> ?_;have aE:Sat (Cells j E.Bl [.int .u64 I.base,.int .i64 I.AA,.int .i64 I.state,.int .i64 I.cls,.bool I.G5,.int .i64 I.elem,.int .i64 I.AK,.int .i64 I.used,.bool I.f8,.bool I.f9]::(Dd E h {S with fx:=X,sp:=sp',own:=λp=>if page<=p/\p<page+n then id else S.own p} {g with ids:=id::g.ids}++Z)) y:=
   Sat.back (Ps:=Cells j E.Bl [.int .u64 I.base,.int .i64 I.AA,.int .i64 I.state,.int .i64 I.cls,.bool I.G5,.int .i64 I.elem,.int .i64 I.AK,.int .i64 I.used,.bool I.f8,.bool I.f9]::(Dd E h {S with fx:=X,sp:=sp'} {g with ids:=id::g.ids}++Z)) 4 a1 (by simp[Dd])
  have aF:=aE.drew;have hP:=(Ch (S:={S with fx:=X,sp:=sp',own:=λp=>if page<=p/\p<page+n then id else S.own p}) (g:={g with ids:=id::g.ids}) aF.tail).2.2.2.2.2.2.1;refine⟨(hB aE).2,(hB aE).1,_,hP,_,(hB aF).2,?_⟩;rw[e2];have bQ:=hI.pg;have bO:=Ml λp=>decide (0<S.own p);show stCells _ 0 [.int .u64 (u64 (S.AA+n))] _ _;rw[AI (n:=S.AA+n)];refine AV aF.tail (o:=0) (m:=70) rfl (by rw[fF];decide) λaI aM=> ?_;rw[Nat.zero_add,Sv]at aM;have aP:=hI.Cr Au p0 (by omega) pb hr hX (x:=(b,I)) i1 i2 i3;refine hK id X hX aP aI (Sat.heap.2 ⟨{g with ids:=id::g.ids},⟨List.nodup_cons.2 ⟨aQ,aG.nd⟩,λi=> ?_⟩,?_⟩)
  .show i∈id::g.ids↔(if i=id then some (b,I)else S.sp i)≠none;rw[List.mem_cons,aG.mem]
   grind
  .subst hsp;exact aM
 have bk: ∀{X:FX} {w'},Sat (IP E g.f X::(Dd E h S g++(DF E b I::Z)).eraseIdx 4) w'->Sat (Dd E h {S with fx:=X} g++(DF E b I::Z)) w':=λ{X w'} q=>Sat.back (Ps:=Dd E h S g++(DF E b I::Z)) 4 q (by simp[Dd]);refine e8 (H0.front 4 rfl) (by omega) (λhb w4 H4=> ?_) λa r hb w4 H4=> ?_
 .exact O _ _ (.inl ⟨hb,rfl,rfl⟩) w4 (bk H4)
 .exact O _ _ (.inr ⟨a,r,hb,rfl,rfl⟩) w4 (bk H4)
theorem aL(hT: ∀w',Sat Z w'->Em E.AG w')(H:Sat (B2 E h S::Z) w)(hI:BS S no){p n c:Int}{np:Bool}(n0:0<=n)(n1:n<18446744073709551616){K:Int->Int->World->Prop}
  (Y:Gl 0 n c-> ∀w',Sat (B2 E h S::Z) w'->K 0 1 w')
  (aA: ¬Gl 0 n c-> ∀S2,RM S p n S2->BS S2 no-> ∀w',Sat (B2 E h S2::Z) w'->K 0 13 w')
  (aB: ¬Gl 0 n c-> ∀page S2 b id X,Found S p n page S2->BS S2 (inr page n)->0<=page->page+n<=34359738368->Next S2 id X->BS (S2.Cr id (b,Gx page n c np) page n X) no-> ∀w',Sat (B2 E h (S2.Cr id (b,Gx page n c np) page n X)::Z) w'->K id 0 w'):
  F.Eg E (some ⟨h,0,none⟩) p n c np K w:=by
 unfold F.Eg T0.Eg;refine U8 H (by decide) n0 n1 (λT w' H'=>AS rfl (Y T w' H')) λj b0 w3 H3=>AO rfl ?_;have hg:=j;unfold Gl at hg;have hn:1<=n/\n<=134217728:=by
  by_cases e:c=0
  .omega
  .have aN:=Ia (c:=c) (by omega) (by omega);omega
 refine fO hE hT H3.tail hI hn.1 hn.2 (λpage S2 hf v q0 q1 hr w6 J=>AO rfl ?_) λS2 hl v w6 J=>AS rfl (aA j S2 hl v w6 J);refine U8 J q0 n0 n1 (λT w' H'=> ?_) λ_ b w9 H9=> ?_
 .exfalso;unfold Gl at T;omega
 .refine fP hE H9 v q0 hn.1 q1 hr rfl rfl (by show(1:Int)≠0;decide) λid X hX O aD y=>aB j page S2 b id X hf v q0 q1 hX O aD y
theorem fQ(H:Sat (B2 E h S::Z) w)(hI:BS S no){id:Int}{K:Int->World->Prop}(a0:S.sp id=none->K 35 w)(a1: ∀x,S.sp id=some x->0<x.2.used->K 33 w)
  (a2: ∀x,∀a:Nat,S.sp id=some x-> ¬0<x.2.used->id=(a:Int)+1->BS (S.free a (x.2.base/8192) x.2.AA) no-> ∀w',Sat (B2 E h (S.free a (x.2.base/8192) x.2.AA)::Z) w'->K 0 w'):
  F.DI E (some ⟨h,0,none⟩) id K w:=by
 have Au:=H.Au;obtain⟨g,y,H⟩:=Sat.heap.1 H;unfold F.DI T0.DI;simp only[AH];refine⟨_,(Ch (S:=S) (g:=g) H).2.2.2.2.1,UZ (H.front 5 rfl) λes _=> ?_⟩;unfold FC;cases hs:S.sp id with
 | none=>exact⟨none,rfl,AS rfl (a0 hs)⟩
 | some x=>
  refine⟨some ⟨x.1,0,none⟩,rfl,AO rfl ?_⟩;obtain⟨a,rfl,aY,aZ⟩:=(hI.sf id).1 (by grind);obtain⟨k1,k2,k3,k4,k5⟩:=hI.sp _ x hs;have J:=hI.free Au hs;have hm:(a:Int)+1∈g.ids:=(y.mem _).2 (by grind);obtain⟨i,hi⟩:=List.mem_iff_getElem?.1 hm;have H1:=(H.front 6 rfl).HA hi;have e:spR E S.sp ((a:Int)+1)=DF E x.1 x.2:=by unfold spR;rw[hs]
  rw[e]at H1;refine fC H1 (λaJ=> ?_) λaC w8 H8=>AO rfl ?_
  .rcases aJ with q|q
   .exact absurd q k4
   .exact AS rfl (a1 x hs q)
  refine Ma H8 λa5 aQ=> ?_;have aE:=aQ.tail;have a4: ∀q,x.2.base/8192<=q->q<x.2.base/8192+x.2.AA->S.own q=(a:Int)+1:=k5;have aM:=hI.ow (x.2.base/8192) (by grind);have aD:=hI.ow (x.2.base/8192+x.2.AA-1) (by grind);have l0:=Au.tv.Kl _ aM.1;have l1:=Au.tv.Kl _ aD.1;generalize hsp:(λi=>if i=(a:Int)+1 then none else S.sp i)=sp';have a3:(a:Int)+1∉g.ids.eraseIdx i:=λq=>by
   have a3:=(DV hi).nodup_iff.1 y.nd
   grind
  have aB:Ad (spR E S.sp) (g.ids.eraseIdx i)=Ad (spR E sp') (g.ids.eraseIdx i):=Ad.congr λj hj=>by
   rw[<-hsp];unfold spR
   grind
  rw[aB]at aE;have O:Sat ([Cells h E.Al (Cd g S.hint S.AA),DT E g.m S.V,By E g.t S.T,C5 E g.a S.ks S.own,IP E g.f S.fx,EJ g.sm .i64 (FC S.sp),Ad (spR E sp') (g.ids.eraseIdx i),Ad (λi:Nat=>BY E (g.cb i) (S.ca i)) (List.range 64)]++Z) a5:=
   Sat.back (Ps:=[Cells h E.Al (Cd g S.hint S.AA),DT E g.m S.V,By E g.t S.T,C5 E g.a S.ks S.own,IP E g.f S.fx,EJ g.sm .i64 (FC S.sp),iN,Ad (λi:Nat=>BY E (g.cb i) (S.ca i)) (List.range 64)]++Z) 6 aE (by simp)
  refine AQ (vs:=[.int .u64 0,.int .i64 0,.int .i64 0,.int .i64 0,.bool false,.int .i64 0,.int .i64 0,.int .i64 0,.bool false,.bool false]) O λbC bI O _=> ?_;refine Gm (news:=[.int .u64 x.2.base,.int .i64 x.2.AA,.int .i64 0,.int .i64 x.2.cls,.bool x.2.G5,.int .i64 x.2.elem,.int .i64 x.2.AK,.int .i64 0,.bool x.2.f8,.bool x.2.f9]) O rfl (by simp[Value.oneCell']) λbJ aR=> ?_;have v:=aR.drew;have hh: ∀{w'} {S':HS} {Y:List Pr},Sat (Cells h E.Al (Cd g S'.hint S'.AA)::Y) w'->w'.cell? ((Addr.mk h 0 none).add 1)=some (.pointer (some ⟨g.t,0,none⟩))/\w'.cell? ((Addr.mk h 0 none).add 2)=some (.pointer (some ⟨g.a,0,none⟩))/\w'.cell? ((Addr.mk h 0 none).add 3)=some (.pointer (some ⟨g.f,0,none⟩))/\w'.cell? ((Addr.mk h 0 none).add 4)=some (.map (some g.sm))/\w'.cell? ((Addr.mk h 0 none).add 70)=some (.int .u64 S'.AA):=λ{w' S' Y} q=>
   ⟨(Ch (S:=S') (g:=g) q).2.1,(Ch (S:=S') (g:=g) q).2.2.1,(Ch (S:=S') (g:=g) q).2.2.2.1,(Ch (S:=S') (g:=g) q).2.2.2.2.1,(Ch (S:=S') (g:=g) q).2.2.2.2.2.2.1⟩
  refine⟨_,v.Aa rfl,by decide,_,v.cell rfl,_,(hh (S':=S) v.tail).2.1,?_⟩;have e1:u64 (Int.tdiv x.2.base 8192)=x.2.base/8192:=by rw[Int.tdiv_eq_ediv_of_nonneg (by omega),AI]
  have e2:u64 x.2.AA=x.2.AA:=AI;simp only[e1,e2];generalize hpg:x.2.base/8192=page at *
  generalize hn:x.2.AA=n at *
  have aS:=v.tail;refine Z5 hE (aS.front 3 rfl) l0.1 (by omega) (by omega) (by omega) ⟨by omega,Int.le_refl 0,by omega,λq q1 q2=>(hI.ks q).2 (hI.ow q (by grind)).1⟩ λa6 aT=> ?_;have aF:Sat ([Cells h E.Al (Cd g S.hint S.AA),DT E g.m S.V,By E g.t S.T,C5 E g.a S.ks (λp=>if page<=p/\p<page+n then 0 else S.own p),IP E g.f S.fx,EJ g.sm .i64 (FC S.sp),Ad (spR E sp') (g.ids.eraseIdx i),Ad (λi:Nat=>BY E (g.cb i) (S.ca i)) (List.range 64)]++Z) a6:=
   Sat.back (Ps:=[Cells h E.Al (Cd g S.hint S.AA),DT E g.m S.V,By E g.t S.T,C5 E g.a S.ks S.own,IP E g.f S.fx,EJ g.sm .i64 (FC S.sp),Ad (spR E sp') (g.ids.eraseIdx i),Ad (λi:Nat=>BY E (g.cb i) (S.ca i)) (List.range 64)]++Z) 3 aT (by simp)
  refine⟨_,(hh (S':=S) aF).1,?_⟩;refine Ws hE.toEnvS (aF.front 2 rfl) l0.1 (by omega) (by omega) (by omega) (λhb w' H'=> ?_) (λ_ hex w' H'=> ?_) λ_ _ a7 aU=> ?_
  .exact absurd ⟨by omega,by omega,λm q1 q2=>(hI.ow m (by grind)).1⟩ hb
  .obtain⟨m,q1,q2,q3⟩:=hex;have:=(hI.ow m (by grind)).2.1
   grind
  have aG:Sat ([Cells h E.Al (Cd g S.hint S.AA),DT E g.m S.V,By E g.t (S.T.LN page n),C5 E g.a S.ks (λp=>if page<=p/\p<page+n then 0 else S.own p),IP E g.f S.fx,EJ g.sm .i64 (FC S.sp),Ad (spR E sp') (g.ids.eraseIdx i),Ad (λi:Nat=>BY E (g.cb i) (S.ca i)) (List.range 64)]++Z) a7:=
   Sat.back (Ps:=[Cells h E.Al (Cd g S.hint S.AA),DT E g.m S.V,By E g.t S.T,C5 E g.a S.ks (λp=>if page<=p/\p<page+n then 0 else S.own p),IP E g.f S.fx,EJ g.sm .i64 (FC S.sp),Ad (spR E sp') (g.ids.eraseIdx i),Ad (λi:Nat=>BY E (g.cb i) (S.ca i)) (List.range 64)]++Z) 2 aU (by simp)
  refine⟨_,(hh (S':=S) aG).2.2.1,e9 (aG.front 4 rfl) aY aZ λa8 aV=> ?_⟩;have aH:Sat ([Cells h E.Al (Cd g S.hint S.AA),DT E g.m S.V,By E g.t (S.T.LN page n),C5 E g.a S.ks (λp=>if page<=p/\p<page+n then 0 else S.own p),IP E g.f ⟨S.fx.n,a::S.fx.bk⟩,EJ g.sm .i64 (FC S.sp),Ad (spR E sp') (g.ids.eraseIdx i),Ad (λi:Nat=>BY E (g.cb i) (S.ca i)) (List.range 64)]++Z) a8:=
   Sat.back (Ps:=[Cells h E.Al (Cd g S.hint S.AA),DT E g.m S.V,By E g.t (S.T.LN page n),C5 E g.a S.ks (λp=>if page<=p/\p<page+n then 0 else S.own p),IP E g.f S.fx,EJ g.sm .i64 (FC S.sp),Ad (spR E sp') (g.ids.eraseIdx i),Ad (λi:Nat=>BY E (g.cb i) (S.ca i)) (List.range 64)]++Z) 4 aV (by simp)
  have aN:0<=S.AA-n/\S.AA-n<18446744073709551616:=by
   have h1:=J.pgs;rw[show(S.free a page n).AA=S.AA-n from rfl]at h1;omega
  refine⟨_,(hh (S':=S) aH).2.2.2.2,?_⟩;rw[AI (n:=S.AA-n) aN.1 aN.2];refine AV aH (o:=0) (m:=70) rfl (by rw[fF];decide) λbK aA=> ?_;rw[Nat.zero_add,Sv]at aA;refine⟨_,(hh (S':={S with AA:=S.AA-n}) aA).2.2.2.1,Xm (aA.front 5 rfl) λaO aW=> ?_⟩;have aL:=a2 x a hs (λq=>aC (.inr q)) rfl;rw[hpg,hn]at aL;refine aL J aO (Sat.heap.2 ⟨{g with ids:=g.ids.eraseIdx i},⟨?_,λj=> ?_⟩,?_⟩)
  .exact(List.nodup_cons.1 ((DV hi).nodup_iff.1 y.nd)).2
  .show j∈g.ids.eraseIdx i↔(if j=(a:Int)+1 then none else S.sp j)≠none;by_cases q:j=(a:Int)+1
   .grind
   .rw[if_neg q,<-y.mem];have:=(DV hi).mem_iff (a:=j)
    grind
  .have em:(λi=>if i=(a:Int)+1 then none else FC S.sp i)=FC sp':=funext λj=>by
    rw[<-hsp];unfold FC;by_cases q:j=(a:Int)+1
    .grind
    grind
   have aI:Sat (EJ g.sm .i64 (λi=>if i=(a:Int)+1 then none else FC S.sp i)::([Cells h E.Al (Cd g S.hint (S.AA-n)),DT E g.m S.V,By E g.t (S.T.LN page n),C5 E g.a S.ks (λp=>if page<=p/\p<page+n then 0 else S.own p),IP E g.f ⟨S.fx.n,a::S.fx.bk⟩,EJ g.sm .i64 (FC S.sp),Ad (spR E sp') (g.ids.eraseIdx i),Ad (λi:Nat=>BY E (g.cb i) (S.ca i)) (List.range 64)]++Z).eraseIdx 5) aO:=aW;rw[em]at aI;have aX:=Sat.back (Ps:=[Cells h E.Al (Cd g S.hint (S.AA-n)),DT E g.m S.V,By E g.t (S.T.LN page n),C5 E g.a S.ks (λp=>if page<=p/\p<page+n then 0 else S.own p),IP E g.f ⟨S.fx.n,a::S.fx.bk⟩,EJ g.sm .i64 (FC S.sp),Ad (spR E sp') (g.ids.eraseIdx i),Ad (λi:Nat=>BY E (g.cb i) (S.ca i)) (List.range 64)]++Z) 5 aI (by simp);subst hsp;exact aX
end
end Go.Sh

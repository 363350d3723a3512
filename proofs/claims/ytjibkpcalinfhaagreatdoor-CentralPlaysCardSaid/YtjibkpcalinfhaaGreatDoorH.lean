/- The heap: what holds of it, and what each function does to it. No further condition. -/
import Derived.Test.YtjibkpcalinfhaaGreatDoorB
import Derived.Test.YtjibkpcalinfhaaGreatDoorC
import Derived.Test.YtjibkpcalinfhaaGreatDoorR
import Derived.Test.YtjibkpcalinfhaaGreatDoorY
set_option linter.all false
set_option maxRecDepth 50000
set_option maxHeartbeats 2000000
namespace Go.Sh
structure HS where
 V:VS
 T:TV
 ca:Nat->CS
 ks:Iv
 own:Int->Int
 fx:FX
 sp:Int->Option (Nat×SI)
 hint:Int
 AA:Int
structure HG where
 m:Nat
 t:Nat
 a:Nat
 f:Nat
 sm:Nat
 cb:Nat->Nat
 ids:List Int
def gG(cb:Nat->Nat):List Value:=(List.range 64).map λi=>.pointer (some ⟨cb i,0,none⟩)
def B3(g:HG)(hint AA:Int):List Value:=.pointer (some ⟨g.m,0,none⟩):: .pointer (some ⟨g.t,0,none⟩):: .pointer (some ⟨g.a,0,none⟩):: .pointer (some ⟨g.f,0,none⟩):: .map (some g.sm)::(gG g.cb++[.int .u64 hint,.int .u64 AA])
def Du(sp:Int->Option (Nat×SI)):Int->Option Value:=λid=>(sp id).map λx=>.pointer (some ⟨x.1,0,none⟩)
def spR(E:Env)(sp:Int->Option (Nat×SI))(id:Int):Pr:=match sp id with
 | some x=>Cz E x.1 x.2
 | none=>cB
def Ct(E:Env)(h:Nat)(S:HS)(g:HG):List Pr:=
 [Cells h E.Ac (B3 g S.hint S.AA),Co E g.m S.V,Bl E g.t S.T,CY E g.a S.ks S.own,GW E g.f S.fx,DY g.sm .i64 (Du S.sp),Aa (spR E S.sp) g.ids,Aa (λi:Nat=>BU E (g.cb i) (S.ca i)) (List.range 64)]
structure Z3(S:HS)(g:HG):Prop where
 nd:g.ids.Nodup
 mem: ∀id,id∈g.ids↔S.sp id≠none
def Bh(E:Env)(h:Nat)(S:HS):Pr:=Ex λg:HG=>Jj (Z3 S g) (Lo (Ct E h S g))
def IX(cb:Nat->Nat):(gG cb).length=64:=by simp[gG]
def lF(g:HG)(x y:Int){i:Nat}(d:i<64):(B3 g x y)[5+i]? =some (.pointer (some ⟨g.cb i,0,none⟩)):=by
 unfold B3;rw[show 5+i=i+1+1+1+1+1 by omega];simp only[List.getElem?_cons_succ];rw[List.getElem?_append_left (by rw[IX];exact d)];simp[gG,d]
def pW(g:HG)(x y:Int):(B3 g x y)[69]? =some (.int .u64 x):=by
 unfold B3;rw[show 69=64+1+1+1+1+1 from rfl];simp only[List.getElem?_cons_succ];rw[List.getElem?_append_right (by rw[IX];omega),IX];rfl
def lG(g:HG)(x y:Int):(B3 g x y)[70]? =some (.int .u64 y):=by
 unfold B3;rw[show 70=65+1+1+1+1+1 from rfl];simp only[List.getElem?_cons_succ];rw[List.getElem?_append_right (by rw[IX];decide),IX];rfl
def Z4(g:HG)(x y:Int):(B3 g x y).length=71:=by simp[B3,IX]
def Z5(g:HG)(x y z:Int):(B3 g x y).set 69 (.int .u64 z)=B3 g z y:=by
 unfold B3;rw[show 69=64+1+1+1+1+1 from rfl];simp only[List.set_cons_succ];rw[List.set_append_right _ _ (by rw[IX];omega),IX];rfl
def RM(g:HG)(x y z:Int):(B3 g x y).set 70 (.int .u64 z)=B3 g x z:=by
 unfold B3;rw[show 70=65+1+1+1+1+1 from rfl];simp only[List.set_cons_succ];rw[List.set_append_right _ _ (by rw[IX];decide),IX];rfl
section
variable{E:Env}{h:Nat}{S:HS}{Z:List Pr}{w:World}{g:HG}
def Sat.heap:Sat (Bh E h S::Z) w↔ ∃g,Z3 S g/\Sat (Ct E h S g++Z) w:=by
 unfold Bh;rw[Sat.ex];constructor
 .rintro⟨g,h⟩;rw[Sat.where,Sat.star]at h
  grind
 .rintro⟨g,h⟩;refine⟨g,?_⟩;rw[Sat.where,Sat.star];exact h
def Cr(H:Sat (Cells h E.Ac (B3 g S.hint S.AA)::Z) w):
  w.cell? (Addr.mk h 0 none)=some (.pointer (some ⟨g.m,0,none⟩))/\w.cell? ((Addr.mk h 0 none).add 1)=some (.pointer (some ⟨g.t,0,none⟩))/\w.cell? ((Addr.mk h 0 none).add 2)=some (.pointer (some ⟨g.a,0,none⟩))/\
  w.cell? ((Addr.mk h 0 none).add 3)=some (.pointer (some ⟨g.f,0,none⟩))/\w.cell? ((Addr.mk h 0 none).add 4)=some (.map (some g.sm))/\w.cell? ((Addr.mk h 0 none).add 69)=some (.int .u64 S.hint)/\w.cell? ((Addr.mk h 0 none).add 70)=some (.int .u64 S.AA)/\
  ∀i,i<64->w.cell? ((Addr.mk h 0 none).add (i+5))=some (.pointer (some ⟨g.cb i,0,none⟩)):=
 ⟨H.Af rfl,H.cell rfl,H.cell rfl,H.cell rfl,H.cell rfl,H.cell (by rw[Nat.zero_add];exact pW g _ _),H.cell (by rw[Nat.zero_add];exact lG g _ _),λi d=>H.cell (by rw[Nat.zero_add,Nat.add_comm];exact lF g _ _ d)⟩
def Tf(H:Sat (Bh E h S::Z) w){id:Int}{K:Option Addr->Int->World->Prop}(d:S.sp id=none->K none 35 w)(j: ∀x,S.sp id=some x->K (some ⟨x.1,0,none⟩) 0 w):F.Dx E (some ⟨h,0,none⟩) id K w:=by
 obtain⟨g,hI,H⟩:=Sat.heap.1 H;unfold F.Dx;simp only[AG];refine⟨_,(Cr (S:=S) (g:=g) H).2.2.2.2.1,S6 (H.front 5 rfl) λes _=> ?_⟩;unfold Du;cases hs:S.sp id with
 | none=>exact⟨none,rfl,AR rfl (d hs)⟩
 | some x=>exact⟨_,rfl,AP rfl (j x hs)⟩
def Sat.Lx(H:Sat (Bh E h S::Z) w){id:Int}{x:Nat×SI}(j:S.sp id=some x): ∃R:List Pr,Sat (Cz E x.1 x.2::R) w/\ ∀{w'},Sat (Cz E x.1 x.2::R) w'->Sat (Bh E h S::Z) w':=by
 obtain⟨g,hI,H⟩:=Sat.heap.1 H;have hm:id∈g.ids:=(hI.mem id).2 (by grind);obtain⟨i,d⟩:=List.mem_iff_getElem?.1 hm;have H1:=(H.front 6 rfl).F0 d;have e:spR E S.sp id=Cz E x.1 x.2:=by unfold spR;rw[j]
 rw[e]at H1;refine⟨_,H1,λ{w'} h'=>Sat.heap.2 ⟨g,hI,?_⟩⟩;rw[<-e]at h';have h2:=Sat.G5 h' d;exact Sat.back (Ps:=Ct E h S g++Z) 6 h2 (by simp[Ct])
def lH(H:Sat (Bh E h S::Z) w){x:Int}(h0:0<=x)(v:x<18446744073709551616){K:Int->World->Prop}(j: ∀w',Sat (Bh E h S::Z) w'->K (S.own (x/8192)) w'):F.Ff E (some ⟨h,0,none⟩) x K w:=by
 obtain⟨g,hI,H⟩:=Sat.heap.1 H;unfold F.Ff T0.Ff;simp only[AG];refine⟨_,(Cr (S:=S) (g:=g) H).2.2.1,pV (H.front 3 rfl) h0 v λw' d=>j w' (Sat.heap.2 ⟨g,hI,?_⟩)⟩;exact Sat.back (Ps:=Ct E h S g++Z) 3 d (by simp[Ct])
def pX{p:Int}{K:Bool->World->Prop}(d:K (decide (0<=p/\p<64)) w):F.Pb E p K w:=by
 unfold F.Pb;refine AB (λh=> ?_) λh=> ?_
 .have:decide (p<64)=decide (0<=p/\p<64):=decide_eq_decide.2 (by omega)
  grind
 .rw[decide_eq_false (by omega)]at d;exact d
def Sat.pY(H:Sat (Ct E h S g++Z) w){i:Nat}(j:i<64): ∃R,Sat (BU E (g.cb i) (S.ca i)::R) w/\ ∀{w'},Sat (BU E (g.cb i) (S.ca i)::R) w'->Sat (Ct E h S g++Z) w':=by
 have d:(List.range 64)[i]? =some i:=List.getElem?_range j;refine⟨_,(H.front 7 rfl).F0 d,λ{w'} h'=> ?_⟩;exact Sat.back (Ps:=Ct E h S g++Z) 7 (Sat.G5 h' d) (by simp[Ct])
variable(hE:EnvA E)
include hE
end
def rY{u v z:Int->Bool}: ∀n:Nat,(∀k:Int,0<=k->k<n->z k=(u k||v k))->(∀k:Int,0<=k->k<n-> ¬(u k=true/\v k=true))->cu z n=cu u n+cu v n
 | 0,_,_=>rfl
 | n+1,h1,h2=>by
  simp only[cu];rw[rY n (λk a b=>h1 k a (by omega)) λk a b=>h2 k a (by omega),h1 n (by omega) (by omega)]
  grind
def Xz{u v:Int->Bool}: ∀n:Nat,(∀k:Int,0<=k->k<n->u k=v k)->cu u n=cu v n
 | 0,_=>rfl
 | n+1,h=>by simp only[cu];rw[Xz n λk a b=>h k a (by omega),h n (by omega) (by omega)]
def cP(f:Int->Bool):Int:=cr f 0 34359738368
def lI{f g:Int->Bool}(h: ∀p,0<=p->p<34359738368->f p=g p):cP f=cP g:=by
 unfold cP cr;exact Xz _ λk a b=>h _ (by omega) (by omega)
def X0{f g h:Int->Bool}(d: ∀p,h p=(f p||g p))(hd: ∀p,f p=true->g p=true->False):cP h=cP f+cP g:=by
 unfold cP cr;exact rY _ (λk _ _=>d _) λk _ _ e=>hd _ e.1 e.2
def Tg(f:Int->Bool):0<=cP f/\cP f<=34359738368:=by
 unfold cP;exact u5 f 0 (by decide)
def dI{f:Int->Bool}{l:Iv}(h:Ok l)(j: ∀p,mem l p↔f p=true)(d: ∀p,f p=true->p<34359738368):cP f=Ig l:=by
 unfold cP;rw[Zq h j (by decide)];exact Nq h.jI λn v=>⟨SE h v,by have:=d n ((j n).1 v);omega⟩
def dJ{f:Int->Bool}(h: ∀p,f p=false):cP f=0:=by
 unfold cP;exact pO λm _ _=>h m
def Z6{x n:Int}(h0:0<=x)(v:0<=n)(j:x+n<=34359738368):cP (inr x n)=n:=by
 by_cases e:n=0
 .subst e;exact dJ λp=>IU.2 (by omega)
 .rw[dI (l:=[(x,x+n)]) ⟨h0,by omega,by omega,λq d=>(by cases d),trivial⟩ (λp=> ?_) λp hp=>by have:=As.1 hp;omega]
  .show x+n-x+0=n;omega
  .rw[As,mem_cons];exact⟨λh=>h.elim (λh=>h) λh=>absurd h (CM p),λh=>.inl h⟩
def dK{f g:Int->Bool}(h: ∀p,f p=true->g p=true):cP f<=cP g:=by
 have e:cP g=cP f+cP (λp=>g p&& !f p):=X0 (λp=>by cases hf:f p<;>cases hg:g p<;>simp;grind) λp a b=>by grind
 have:=Tg λp=>g p&& !f p;omega
def vC{f:Int->Bool}{p:Int}(hp:f p=true)(h0:0<=p)(h1:p<34359738368):1<=cP f:=by
 have:=dK (f:=inr p 1) (g:=f) λq d=>by
  have:=As.1 d
  grind
 rw[Z6 h0 (by decide) (by omega)]at this;exact this
end Go.Sh
namespace Go.Sh
def no:Int->Bool:=λ_=>false
def zS{f:Nat->Bool}:(List.range 64).any f=true↔ ∃i,i<64/\f i=true:=by grind
def HS.WA(S:HS)(p:Int):Bool:=(List.range 64).any λi=>(S.ca i).own p
def HS.gone(S:HS)(p:Int):Bool:=S.T.rl p||(List.range 64).any λi=>(S.ca i).V6 p
def Iw{S:HS}{p:Int}:S.WA p=true↔ ∃i,i<64/\(S.ca i).own p=true:=zS
def Hg{S:HS}{p:Int}:S.gone p=true↔S.T.rl p=true∨ ∃i,i<64/\(S.ca i).V6 p=true:=by
 unfold HS.gone
 grind
structure KQ(S:HS):Prop where
 tv:TS S.T
 vv:UY S.V
 ci: ∀i,i<64->Pf (S.ca i)
 ok:Ok S.ks
 fx:Xs S.fx
def Sat.A6{E:Env}{h:Nat}{S:HS}{Z:List Pr}{w:World}(H:Sat (Bh E h S::Z) w):KQ S:=by
 obtain⟨g,hI,H⟩:=Sat.heap.1 H;refine⟨(H.front 2 rfl).zQ,(H.front 1 rfl).vok,λi d=> ?_,(H.front 3 rfl).pU,?_⟩
 .obtain⟨R,h1,_⟩:=H.pY d;exact(Sat.cache.1 h1).1
 .obtain⟨_,_,_,h1,_⟩:=Sat.fix.1 (H.front 4 rfl);exact h1
structure Bv(S:HS)(fl:Int->Bool):Prop where
 cr: ∀i,i<64-> ∀p,(S.ca i).own p=true->S.T.Li p=true/\S.T.fr p=false/\S.own p=0/\fl p=false
 cd: ∀i j p,i<64->j<64->(S.ca i).own p=true->(S.ca j).own p=true->i=j
 fn: ∀p,S.T.fr p=true->S.own p=0/\fl p=false
 ow: ∀p,0<S.own p->S.T.Li p=true/\S.T.fr p=false/\fl p=false/\ ∃x,S.sp (S.own p)=some x/\x.2.base/8192<=p/\p<x.2.base/8192+x.2.AA
 o0: ∀p,0<=S.own p
 li: ∀p,fl p=true->S.T.Li p=true
 cv: ∀p,S.T.Li p=true->S.T.fr p=true∨S.WA p=true∨0<S.own p∨fl p=true
 ks: ∀p,mem S.ks (p/512)↔S.T.Li p=true
 la: ∀p,mem S.V.laid p↔S.T.Li p=true
 rd: ∀p,fl p=false->(mem S.V.ready p↔S.T.Li p=true/\S.gone p=false)
 sp: ∀id x,S.sp id=some x->0<id/\x.2.base %8192=0/\0<x.2.AA/\x.2.state≠0/\ ∀p,x.2.base/8192<=p->p<x.2.base/8192+x.2.AA->S.own p=id
 sf: ∀id,S.sp id≠none↔ ∃a:Nat,id=(a:Int)+1/\a<S.fx.n/\a∉S.fx.bk
 fb:S.fx.n<=34359738368
 pg:S.AA=cP λp=>decide (0<S.own p)
 h0:0<=S.hint
 h1:S.hint<=34359738368
def Pq{C:CS}{p:Int}:C.own p=true↔(C.base<=p/\p<C.base+64)/\C.has (p-C.base).toNat=true:=by
 unfold CS.own;rw[Bool.and_eq_true,As]
def Pt{C:CS}{p:Int}:C.V6 p=true↔(C.base<=p/\p<C.base+64)/\C.rel (p-C.base).toNat=true:=by
 unfold CS.V6;rw[Bool.and_eq_true,As]
def X1{C:CS}(h:Pf C){p:Int}(hp:C.V6 p=true):C.own p=true:=by
 rw[Pt]at hp;exact Pq.2 ⟨hp.1,h.rh _ hp.2⟩
def WB{C:CS}(h:C.empty)(p:Int):C.own p=false:=by
 unfold CS.own;rw[h];simp
def dL(p:Int):CS.nil.own p=false:=WB (λ_=>rfl) p
def Gx{b:Bool}(h: ¬b=true):b=false:=by cases b;rfl;grind
def GA{b:Bool}(h:b=false): ¬b=true:=by grind
def Pu{T:TV}{x n p:Int}:(T.take x n).fr p=true↔T.fr p=true/\ ¬(x<=p/\p<x+n):=by
 show(T.fr p&& !inr x n p)=true↔_;rw[Bool.and_eq_true,<-As];grind
def Pv{T:TV}{x n p:Int}:(T.take x n).rl p=true↔T.rl p=true/\ ¬(x<=p/\p<x+n):=by
 show(T.rl p&& !inr x n p)=true↔_;rw[Bool.and_eq_true,<-As];grind
def filled(T:TV)(q:Int):CS:=⟨q/64*64,λi=>decide (i<64)&&T.fr (q/64*64+i),λi=>decide (i<64)&&T.rl (q/64*64+i)⟩
def HS.zT(S:HS)(i:Nat)(c:CS):HS:={S with ca:=λj=>if j=i then c else S.ca j}
def HS.fill(S:HS)(i:Nat)(q:Int):HS:={S with T:=S.T.take (q/64*64) 64,ca:=λj=>if j=i then filled S.T q else S.ca j}
def Th{T:TV}{q p:Int}:(filled T q).own p=true↔(q/64*64<=p/\p<q/64*64+64)/\T.fr p=true:=by
 rw[Pq];show(q/64*64<=p/\p<q/64*64+64)/\(decide _&&T.fr _)=true↔_;constructor
 .rintro⟨h1,h2⟩;rw[Bool.and_eq_true]at h2;have d:=h2.2;have e:q/64*64+((p-q/64*64).toNat:Int)=p:=by omega
  refine⟨h1,?_⟩;rw[<-e];exact d
 .rintro⟨h1,h2⟩;refine⟨h1,?_⟩;rw[Bool.and_eq_true];have e:q/64*64+((p-q/64*64).toNat:Int)=p:=by omega
  exact⟨decide_eq_true (show(p-q/64*64).toNat<64 by omega),by show T.fr (q/64*64+((p-q/64*64).toNat:Int))=true;grind⟩
def RN{T:TV}{q p:Int}:(filled T q).V6 p=true↔(q/64*64<=p/\p<q/64*64+64)/\T.rl p=true:=by
 rw[Pt];show(q/64*64<=p/\p<q/64*64+64)/\(decide _&&T.rl _)=true↔_;constructor
 .rintro⟨h1,h2⟩;rw[Bool.and_eq_true]at h2;have d:=h2.2;have e:q/64*64+((p-q/64*64).toNat:Int)=p:=by omega
  refine⟨h1,?_⟩;rw[<-e];exact d
 .rintro⟨h1,h2⟩;refine⟨h1,?_⟩;rw[Bool.and_eq_true];have e:q/64*64+((p-q/64*64).toNat:Int)=p:=by omega
  exact⟨decide_eq_true (show(p-q/64*64).toNat<64 by omega),by show T.rl (q/64*64+((p-q/64*64).toNat:Int))=true;grind⟩
variable{S:HS}{fl:Int->Bool}
def Bv.fill(hI:Bv S no)(hk:KQ S){i:Nat}(hi:i<64)(he:(S.ca i).empty)(q:Int):Bv (S.fill i q) no:=by
 have d: ∀p,(S.T.take (q/64*64) 64).fr p=true↔S.T.fr p=true/\ ¬(q/64*64<=p/\p<q/64*64+64):=λp=>Pu;have C: ∀p,(S.T.take (q/64*64) 64).rl p=true↔S.T.rl p=true/\ ¬(q/64*64<=p/\p<q/64*64+64):=λp=>Pv;have v: ∀j p,((S.fill i q).ca j).own p=true->(j=i/\(q/64*64<=p/\p<q/64*64+64)/\S.T.fr p=true)∨(j≠i/\(S.ca j).own p=true):=λj p h=>by
  have h:(if j=i then filled S.T q else S.ca j).own p=true:=h;by_cases e:j=i
  .rw[if_pos e]at h;exact .inl ⟨e,Th.1 h⟩
  grind
 have J:(S.fill i q).ca i=filled S.T q:=if_pos rfl;have O: ∀j,j≠i->(S.fill i q).ca j=S.ca j:=λj h=>if_neg h;refine⟨λj y p hp=> ?_,λa b p Y hb h1 h2=> ?_,λp hp=>hI.fn p ((d p).1 hp).1,λp hp=> ?_,hI.o0,λp hp=>(by cases hp),λp hp=> ?_,hI.ks,hI.la,λp _=> ?_,hI.sp,hI.sf,hI.fb,hI.pg,hI.h0,hI.h1⟩
 .rcases v j p hp with ⟨_,h1,h2⟩|⟨e,h1⟩
  .exact⟨hk.tv.fi p h2,Gx λh=>((d p).1 h).2 h1,(hI.fn p h2).1,rfl⟩
  .obtain⟨g1,g2,g3,g4⟩:=hI.cr j y p h1;exact⟨g1,Gx λh=>(GA g2) ((d p).1 h).1,g3,g4⟩
 .rcases v a p h1 with ⟨ea,g1,g2⟩|⟨ea,g1⟩<;>rcases v b p h2 with ⟨eb,K,k2⟩|⟨eb,K⟩
  .omega
  .exact absurd g2 (GA (hI.cr b hb p K).2.1)
  .exact absurd k2 (GA (hI.cr a Y p g1).2.1)
  .exact hI.cd a b p Y hb g1 K
 .obtain⟨g1,g2,g3,g4⟩:=hI.ow p hp;exact⟨g1,Gx λh=>(GA g2) ((d p).1 h).1,g3,g4⟩
 .rcases hI.cv p hp with h|h|h|h
  .by_cases g:q/64*64<=p/\p<q/64*64+64
   .refine .inr (.inl (Iw.2 ⟨i,hi,?_⟩));rw[J];exact Th.2 ⟨g,h⟩
   .exact .inl ((d p).2 ⟨h,g⟩)
  .obtain⟨j,y,h⟩:=Iw.1 h;refine .inr (.inl (Iw.2 ⟨j,y,?_⟩));rw[O j λe=>by rw[e,WB he]at h;cases h];exact h
  .exact .inr (.inr (.inl h))
  grind
 .have e0:=hI.rd p rfl;have:(S.fill i q).gone p=S.gone p:=by
   rw[Bool.eq_iff_iff,Hg,Hg];constructor
   .rintro(h|⟨j,y,h⟩)
    .exact .inl ((C p).1 h).1
    .by_cases e:j=i
     .rw[e,J]at h;exact .inl (RN.1 h).2
     grind
   .rintro(h|⟨j,y,h⟩)
    .by_cases g:q/64*64<=p/\p<q/64*64+64
     .refine .inr ⟨i,hi,?_⟩;rw[J];exact RN.2 ⟨g,h⟩
     .exact .inl ((C p).2 ⟨h,g⟩)
    .refine .inr ⟨j,y,?_⟩;rw[O j λe=>by have:=X1 (hk.ci j y) h;rw[e,WB he]at this;cases this];exact h
  rw[this];exact e0
def HS.II(S:HS)(i k n:Nat):HS:=S.zT i ((S.ca i).alloc k n)
def HS.Ge(S:HS)(page n:Int):HS:={S with T:=S.T.take page n}
def VE{C:CS}{k n:Nat}{p:Int}(hk:k+n<=64):(C.alloc k n).own p=true↔C.own p=true/\ ¬(C.base+k<=p/\p<C.base+k+n):=by
 rw[Pq,Pq];show(C.base<=p/\p<C.base+64)/\(C.has (p-C.base).toNat&& !(decide (k<=(p-C.base).toNat)&&decide ((p-C.base).toNat<k+n)))=true↔_;constructor
 .rintro⟨h1,h2⟩;rw[Bool.and_eq_true]at h2;refine⟨⟨h1,h2.1⟩,λj=> ?_⟩;have d:=h2.2;rw[decide_eq_true (show k<=(p-C.base).toNat by omega),decide_eq_true (show(p-C.base).toNat<k+n by omega)]at d;cases d
 grind
def Ti{C:CS}{k n:Nat}{p:Int}(hk:k+n<=64):(C.alloc k n).V6 p=true↔C.V6 p=true/\ ¬(C.base+k<=p/\p<C.base+k+n):=by
 rw[Pt,Pt];show(C.base<=p/\p<C.base+64)/\(C.rel (p-C.base).toNat&& !(decide (k<=(p-C.base).toNat)&&decide ((p-C.base).toNat<k+n)))=true↔_;constructor
 .rintro⟨h1,h2⟩;rw[Bool.and_eq_true]at h2;refine⟨⟨h1,h2.1⟩,λj=> ?_⟩;have d:=h2.2;rw[decide_eq_true (show k<=(p-C.base).toNat by omega),decide_eq_true (show(p-C.base).toNat<k+n by omega)]at d;cases d
 grind
def Bv.II(hI:Bv S no)(hk:KQ S){i:Nat}(K:i<64){k n:Nat}(hr:JZ (S.ca i).has k n)(y:k+n<=64):Bv (S.II i k n) (inr ((S.ca i).base+k) n):=by
 have v: ∀p,(S.ca i).base+k<=p->p<(S.ca i).base+k+n->(S.ca i).own p=true:=λp h1 h2=>by
  refine Pq.2 ⟨by omega,?_⟩;have:=hr ((p-(S.ca i).base).toNat-k) (by omega)
  grind
 have J:(S.II i k n).ca i=(S.ca i).alloc k n:=if_pos rfl;have e2: ∀j,j≠i->(S.II i k n).ca j=S.ca j:=λj h=>if_neg h;have d: ∀j p,((S.II i k n).ca j).own p=true->(S.ca j).own p=true/\(j=i-> ¬((S.ca i).base+k<=p/\p<(S.ca i).base+k+n)):=λj p h=>by
  by_cases e:j=i
  .subst e;rw[J,VE y]at h;grind
  grind
 refine⟨λj C p hp=> ?_,λa b p O Y h1 h2=>hI.cd a b p O Y (d a p h1).1 (d b p h2).1,λp hp=> ?_,λp hp=> ?_,hI.o0,λp hp=> ?_,λp hp=> ?_,hI.ks,hI.la,λp hp=> ?_,hI.sp,hI.sf,hI.fb,hI.pg,hI.h0,hI.h1⟩
 .obtain⟨h1,h2⟩:=d j p hp;obtain⟨g1,g2,g3,g4⟩:=hI.cr j C p h1;refine⟨g1,g2,g3,IU.2 λh=> ?_⟩;have:=hI.cd j i p C K h1 (v p h.1 h.2);omega
 .exact⟨(hI.fn p hp).1,IU.2 λh=>by have:=(hI.cr i K p (v p h.1 h.2)).2.1;rw[show S.T.fr p=true from hp]at this;cases this⟩
 .obtain⟨g1,g2,g3,g4⟩:=hI.ow p hp;exact⟨g1,g2,IU.2 λh=>by have:=(hI.cr i K p (v p h.1 h.2)).2.2.1;have hp:0<S.own p:=hp;omega,g4⟩
 .have h:=As.1 hp;exact(hI.cr i K p (v p h.1 h.2)).1
 .rcases hI.cv p hp with h|h|h|h
  .exact .inl h
  .obtain⟨j,C,h⟩:=Iw.1 h;by_cases g:(S.ca i).base+k<=p/\p<(S.ca i).base+k+n
   .exact .inr (.inr (.inr (As.2 g)))
   .refine .inr (.inl (Iw.2 ⟨j,C,?_⟩));by_cases e:j=i
    .subst e;rw[J,VE y];grind
    grind
  .exact .inr (.inr (.inl h))
  .cases h
 .have hp:=IU.1 hp;have e:=hI.rd p rfl;have:(S.II i k n).gone p=S.gone p:=by
   rw[Bool.eq_iff_iff,Hg,Hg];constructor
   .rintro(h|⟨j,C,h⟩)
    .exact .inl h
    .refine .inr ⟨j,C,?_⟩;by_cases e:j=i
     .subst e;rw[J,Ti y]at h;exact h.1
     grind
   .rintro(h|⟨j,C,h⟩)
    .exact .inl h
    .refine .inr ⟨j,C,?_⟩;by_cases e:j=i
     .subst e;rw[J,Ti y];grind
     grind
  rw[this];exact e
def Bv.Ge(hI:Bv S no)(hk:KQ S){page n:Int}(y:Ld S.T.fr page n):Bv (S.Ge page n) (inr page n):=by
 have d: ∀p,(S.T.take page n).fr p=true↔S.T.fr p=true/\ ¬(page<=p/\p<page+n):=λp=>Pu;have v: ∀p,(S.T.take page n).rl p=true↔S.T.rl p=true/\ ¬(page<=p/\p<page+n):=λp=>Pv;refine⟨λj C p hp=> ?_,hI.cd,λp hp=> ?_,λp hp=> ?_,hI.o0,λp hp=> ?_,λp hp=> ?_,hI.ks,hI.la,λp hp=> ?_,hI.sp,hI.sf,hI.fb,hI.pg,hI.h0,hI.h1⟩
 .obtain⟨g1,g2,g3,g4⟩:=hI.cr j C p hp;exact⟨g1,Gx λh=>(GA g2) ((d p).1 h).1,g3,IU.2 λh=>(GA g2) (y p h.1 h.2)⟩
 .obtain⟨h1,h2⟩:=(d p).1 hp;exact⟨(hI.fn p h1).1,IU.2 h2⟩
 .obtain⟨g1,g2,g3,g4⟩:=hI.ow p hp;exact⟨g1,Gx λh=>(GA g2) ((d p).1 h).1,IU.2 λh=>(GA g2) (y p h.1 h.2),g4⟩
 .have h:=As.1 hp;exact hk.tv.fi p (y p h.1 h.2)
 .rcases hI.cv p hp with h|h|h|h
  .by_cases g:page<=p/\p<page+n
   .exact .inr (.inr (.inr (As.2 g)))
   .exact .inl ((d p).2 ⟨h,g⟩)
  .exact .inr (.inl h)
  .exact .inr (.inr (.inl h))
  .cases h
 .have hp:=IU.1 hp;have e:=hI.rd p rfl;have:(S.Ge page n).gone p=S.gone p:=by
   rw[Bool.eq_iff_iff,Hg,Hg];constructor
   .rintro(h|h)
    .exact .inl ((v p).1 h).1
    .exact .inr h
   .rintro(h|h)
    .exact .inl ((v p).2 ⟨h,hp⟩)
    .exact .inr h
  rw[this];exact e
def Bv.pZ(hI:Bv S fl){V:VS}(h1:V.laid=S.V.laid)(h2:V.ready=S.V.ready):Bv {S with V:=V} fl:=
 ⟨hI.cr,hI.cd,hI.fn,hI.ow,hI.o0,hI.li,hI.cv,hI.ks,λp=>by rw[<-hI.la,<-h1],λp hp=>(show _=_ from congrArg (λl=>Go.Sh.mem l p) h2)▸hI.rd p hp,hI.sp,hI.sf,hI.fb,hI.pg,hI.h0,hI.h1⟩
def Bv.On(hI:Bv S fl)(hk:KQ S){page n:Int}(h0:0<=page)(y:0<n)(v:page+n<=34359738368)(d: ∀p,page<=p->p<page+n->fl p=true):Bv {S with V:=IA S.V page n} fl:=by
 have j: ∀p,Go.Sh.mem (Dl S.V.ready page (page+n)) p↔Go.Sh.mem S.V.ready p∨(page<=p/\p<page+n):=λp=>ER hk.vv.Pj (by omega) h0 (by omega) p;refine⟨hI.cr,hI.cd,hI.fn,hI.ow,hI.o0,hI.li,hI.cv,hI.ks,hI.la,λp hp=> ?_,hI.sp,hI.sf,hI.fb,hI.pg,hI.h0,hI.h1⟩;refine Iff.trans (j p) ?_;refine Iff.trans ⟨λh=>h.elim (λh=>h) λh=> ?_,λh=>.inl h⟩ (hI.rd p hp);have:=d p h.1 h.2
 grind
def WC(hk:KQ S){page n:Int}(h0:0<=page)(j:0<n)(d:page+n<=34359738368): ∀p,page<=p->p<page+n->mem (IA S.V page n).ready p:=λp h1 h2=>
 (ER hk.vv.Pj (by omega) h0 (by omega) p).2 (.inr ⟨h1,h2⟩)
def HS.grown(S:HS)(V:VS)(at_ N:Int):HS:={S with V:=V,T:=S.T.grow (at_/512) (N/512),ks:=Dl S.ks (at_/512) ((at_+N)/512),hint:=at_+N}
def Bv.grown(hI:Bv S no)(hk:KQ S){V:VS}{at_ N:Int}(h0:0<=at_)(hn:0<N)(K:at_+N<=34359738368)(m1:at_ %512=0)(m2:N %512=0)(C: ∀p,at_<=p->p<at_+N->S.T.Li p=false)
  (hl:V.laid=Dl S.V.laid at_ (at_+N))(Y:V.ready=S.V.ready):Bv (S.grown V at_ N) no:=by
 have ma: ∀p,Go.Sh.mem (Dl S.V.laid at_ (at_+N)) p↔Go.Sh.mem S.V.laid p∨(at_<=p/\p<at_+N):=λp=>ER hk.vv.LM (by omega) h0 (by omega) p;have mk: ∀p,Go.Sh.mem (Dl S.ks (at_/512) ((at_+N)/512)) p↔Go.Sh.mem S.ks p∨(at_/512<=p/\p<(at_+N)/512):=λp=>ER hk.ok (by omega) (by omega) (by omega) p;have e: ∀p,inr (at_/512*512) (N/512*512) p=true↔at_<=p/\p<at_+N:=λp=>by rw[As];omega
 have d: ∀p,(S.grown V at_ N).T.Li p=true↔S.T.Li p=true∨(at_<=p/\p<at_+N):=λp=>by
  show(S.T.Li p||inr (at_/512*512) (N/512*512) p)=true↔_
  grind
 have v: ∀p,(S.grown V at_ N).T.fr p=true↔S.T.fr p=true∨(at_<=p/\p<at_+N):=λp=>by
  show(S.T.fr p||inr (at_/512*512) (N/512*512) p)=true↔_
  grind
 have J: ∀p,(S.grown V at_ N).T.rl p=true↔S.T.rl p=true∨(at_<=p/\p<at_+N):=λp=>by
  show(S.T.rl p||inr (at_/512*512) (N/512*512) p)=true↔_
  grind
 have y: ∀p,S.T.Li p=true-> ¬(at_<=p/\p<at_+N):=λp h g=>by grind
 refine⟨λj O p hp=> ?_,hI.cd,λp hp=> ?_,λp hp=> ?_,hI.o0,λp hp=>(by cases hp),λp hp=> ?_,λp=> ?_,λp=> ?_,λp hp=> ?_,hI.sp,hI.sf,hI.fb,hI.pg,by show 0<=at_+N;omega,K⟩
 .obtain⟨g1,g2,g3,g4⟩:=hI.cr j O p hp;exact⟨(d p).2 (.inl g1),Gx λh=>((v p).1 h).elim (GA g2) (y p g1),g3,g4⟩
 .rcases(v p).1 hp with h|h
  .exact hI.fn p h
  .refine⟨?_,rfl⟩;have:=hI.o0 p;have: ¬0<S.own p:=λg=>y p (hI.ow p g).1 h;show S.own p=0;omega
 .obtain⟨g1,g2,g3,g4⟩:=hI.ow p hp;exact⟨(d p).2 (.inl g1),Gx λh=>((v p).1 h).elim (GA g2) (y p g1),g3,g4⟩
 .rcases(d p).1 hp with h|h
  .rcases hI.cv p h with h|h|h|h
   .grind
   .exact .inr (.inl h)
   .exact .inr (.inr (.inl h))
   grind
  grind
 .rw[d,<-hI.ks p];refine(mk (p/512)).trans ?_
  grind
 .rw[d,<-hI.la p];show Go.Sh.mem V.laid p↔_
  grind
 .show Go.Sh.mem V.ready p↔_;rw[Y,hI.rd p rfl,d];have key:(S.grown V at_ N).gone p=true↔S.gone p=true∨(at_<=p/\p<at_+N):=by
   rw[Hg,Hg,J];exact⟨λh=>h.elim (λh=>h.elim (λh=>.inl (.inl h)) .inr) λh=>.inl (.inr h),λh=>h.elim (λh=>h.elim (λh=>.inl (.inl h)) .inr) λh=>.inl (.inr h)⟩
  grind
end Go.Sh
namespace Go.Sh
variable{S:HS}{fl:Int->Bool}
def Bv.ON(hI:Bv S fl)(hk:KQ S){p:Int}(hp:fl p=true):S.T.fr p=false/\S.T.rl p=false/\S.own p=0/\S.gone p=false/\S.WA p=false:=by
 have h1:S.T.fr p=false:=Gx λh=>(GA (hI.fn p h).2) hp;have h2:S.T.rl p=false:=Gx λh=>(GA h1) (hk.tv.rf p h);have j:S.WA p=false:=Gx λh=>by
  obtain⟨i,d,h⟩:=Iw.1 h;exact(GA (hI.cr i d p h).2.2.2) hp
 refine⟨h1,h2,?_,Gx λh=> ?_,j⟩
 .have:=hI.o0 p;have: ¬0<S.own p:=λh=>(GA (hI.ow p h).2.2.1) hp;omega
 .rcases Hg.1 h with h|⟨i,d,h⟩
  .grind
  .exact(GA j) (Iw.2 ⟨i,d,X1 (hk.ci i d) h⟩)
def HS.Eu(S:HS)(page n:Int):HS:={S with T:=⟨S.T.Li,λp=>S.T.fr p||inr page n p,λp=>S.T.rl p||(inr page n p&& !Ms S.V.ready p)⟩}
def Bv.Eu{page n:Int}(hI:Bv S (inr page n))(hk:KQ S):Bv (S.Eu page n) no:=by
 have d: ∀p,(S.Eu page n).T.fr p=true↔S.T.fr p=true∨inr page n p=true:=λp=>by
  show(S.T.fr p||inr page n p)=true↔_
  grind
 refine⟨λj y p hp=> ?_,hI.cd,λp hp=> ?_,λp hp=> ?_,hI.o0,λp hp=>(by cases hp),λp hp=> ?_,hI.ks,hI.la,λp _=> ?_,hI.sp,hI.sf,hI.fb,hI.pg,hI.h0,hI.h1⟩
 .obtain⟨g1,g2,g3,g4⟩:=hI.cr j y p hp;exact⟨g1,Gx λh=>((d p).1 h).elim (GA g2) (GA g4),g3,rfl⟩
 .rcases(d p).1 hp with h|h
  .exact⟨(hI.fn p h).1,rfl⟩
  .exact⟨(hI.ON hk h).2.2.1,rfl⟩
 .obtain⟨g1,g2,g3,g4⟩:=hI.ow p hp;exact⟨g1,Gx λh=>((d p).1 h).elim (GA g2) (GA g3),rfl,g4⟩
 .rcases hI.cv p hp with h|h|h|h
  .grind
  .exact .inr (.inl h)
  .exact .inr (.inr (.inl h))
  grind
 .have v:(S.Eu page n).gone p=true↔S.gone p=true∨(inr page n p=true/\ ¬mem S.V.ready p):=by
   rw[Hg,Hg];show(S.T.rl p||(inr page n p&& !Ms S.V.ready p))=true∨_↔_;rw[Bool.or_eq_true,Bool.and_eq_true,Bool.not_eq_true',<-CJ];have e:(Ms S.V.ready p=false)↔ ¬(Ms S.V.ready p=true):=by grind
   rw[e];constructor
   .rintro((h|h)|h)
    .grind
    .grind
    .exact .inl (.inr h)
   .rintro((h|h)|h)
    .grind
    .exact .inr h
    grind
  show mem S.V.ready p↔S.T.Li p=true/\_;cases hf:inr page n p with
  | false=>
   rw[hI.rd p hf]
   grind
  | true=>
   have h2:=(hI.ON hk hf).2.2.2.1;rw[hf]at v;constructor
   .intro h;exact⟨hI.li p hf,Gx λg=>(v.1 g).elim (GA h2) λg=>g.2 h⟩
   grind
def HS.C5(S:HS)(id:Int)(x:Nat×SI)(page n:Int)(fx:FX):HS:=
 {S with fx:=fx,sp:=λi=>if i=id then some x else S.sp i,own:=λp=>if page<=p/\p<page+n then id else S.own p,AA:=S.AA+n}
def Next(S:HS)(id:Int)(fx:FX):Prop:=(S.fx.bk=[]/\id=(S.fx.n:Int)+1/\fx=⟨S.fx.n+1,[]⟩)∨ ∃a r,S.fx.bk=a::r/\id=(a:Int)+1/\fx=⟨S.fx.n,r⟩
def Bv.many(hI:Bv S fl)(hk:KQ S)(v:S.fx.bk=[]): ∀k:Nat,k<=S.fx.n->(k:Int)<=cP λp=>decide (0<S.own p/\S.own p<=k)
 | 0,_=>(Tg _).1
 | k+1,hkn=>by
  have T:=hI.many hk v k (by omega);have d:S.sp ((k:Int)+1)≠none:=(hI.sf _).2 ⟨k,rfl,by omega,by grind⟩;obtain⟨x,C⟩: ∃x,S.sp ((k:Int)+1)=some x:=by
   cases h:S.sp ((k:Int)+1)with
   | none=>grind
   | some x=>grind
  obtain⟨h1,h2,K,O,j⟩:=hI.sp _ x C;have y:=j (x.2.base/8192) (by omega) (by omega);have e:cP (λp=>decide (0<S.own p/\S.own p<=((k+1:Nat):Int)))=cP (λp=>decide (0<S.own p/\S.own p<=(k:Int)))+cP (λp=>decide (S.own p=(k:Int)+1)):=by
   refine X0 (λp=> ?_) λp a b=> ?_
   .grind
   grind
  obtain⟨J,Y,o3,o4⟩:=hI.ow (x.2.base/8192) (by omega);have d:=hk.tv.Ju _ J;have:1<=cP (λp=>decide (S.own p=(k:Int)+1)):=vC (p:=x.2.base/8192) (decide_eq_true y) d.1 d.2;omega
def Next.live{id:Int}{X:FX}(h:Next S id X)(hk:KQ S)(hI:Bv S fl):0<id/\S.sp id=none/\ ∀j:Int,(∃a:Nat,j=(a:Int)+1/\a<X.n/\a∉X.bk)↔j=id∨S.sp j≠none:=by
 rcases h with ⟨h1,rfl,rfl⟩|⟨a,r,h1,rfl,rfl⟩
 .refine⟨by omega,Classical.byContradiction λg=> ?_,λj=> ?_⟩
  .obtain⟨a,e,h2,_⟩:=(hI.sf _).1 g;omega
  .rw[hI.sf]
   grind
 .have v:=hk.fx.nd;have d:=hk.fx.lt;rw[h1]at v d;refine⟨by omega,Classical.byContradiction λg=> ?_,λj=> ?_⟩
  .obtain⟨b,e,h2,y⟩:=(hI.sf _).1 g
   grind
  .rw[hI.sf];constructor
   .grind
   .rintro(e|⟨b,e,h2,y⟩)
    .exact⟨a,e,d a List.mem_cons_self,(List.nodup_cons.1 v).1⟩
    grind
def VF{S:HS}(f:Int->Int){id page n:Int}(Mf:0<id)(h0:0<=page)(j:0<=n)(d:page+n<=34359738368)(hz: ∀p,page<=p->p<page+n-> ¬0<f p):
  cP (λp=>decide (0<if page<=p/\p<page+n then id else f p))=cP (λp=>decide (0<f p))+n:=by
 rw[show cP (λp=>decide (0<f p))+n=cP (λp=>decide (0<f p))+cP (inr page n) by rw[Z6 h0 j d]];refine X0 (λp=> ?_) λp a b=> ?_
 .rw[Bool.eq_iff_iff,Bool.or_eq_true,decide_eq_true_eq,decide_eq_true_eq,As];omega
 .have b:=As.1 b
  grind
def Bv.C5{page n:Int}(hI:Bv S (inr page n))(hk:KQ S)(h0:0<=page)(hn:0<n)(hb:page+n<=34359738368)(hr: ∀p,page<=p->p<page+n->mem S.V.ready p)
  {id:Int}{X:FX}(Y:Next S id X){x:Nat×SI}(x1:x.2.base=page*8192)(x2:x.2.AA=n)(x3:x.2.state≠0):Bv (S.C5 id x page n X) no:=by
 obtain⟨Mf,O,v⟩:=Y.live hk hI;have d: ∀p,page<=p->p<page+n->inr page n p=true:=λp a b=>As.2 ⟨a,b⟩;have T: ∀p,S.own p=id->False:=λp e=>by
  obtain⟨_,_,_,y,K,_⟩:=hI.ow p (by omega)
  grind
 have J: ∀p,(S.C5 id x page n X).own p=if page<=p/\p<page+n then id else S.own p:=λp=>rfl
 have hs: ∀i,(S.C5 id x page n X).sp i=if i=id then some x else S.sp i:=λp=>rfl
 refine⟨λj hj p hp=> ?_,hI.cd,λp hp=> ?_,λp hp=> ?_,λp=> ?_,λp hp=>(by cases hp),λp hp=> ?_,hI.ks,hI.la,λp _=> ?_,λi y K=> ?_,λi=> ?_,?_,?_,hI.h0,hI.h1⟩
 .obtain⟨g1,g2,g3,g4⟩:=hI.cr j hj p hp;refine⟨g1,g2,?_,rfl⟩
  grind
 .obtain⟨g1,g2⟩:=hI.fn p hp;refine⟨?_,rfl⟩
  grind
 .rw[J]at hp⊢;by_cases g:page<=p/\p<page+n
  .rw[if_pos g]at hp⊢;have hf:=d p g.1 g.2;refine⟨hI.li p hf,(hI.ON hk hf).1,rfl,x,?_,by omega,by omega⟩
   grind
  .rw[if_neg g]at hp⊢;obtain⟨g1,g2,g3,y,g4,g5⟩:=hI.ow p hp;refine⟨g1,g2,rfl,y,?_,g5⟩
   grind
 .rw[J];have:=hI.o0 p;omega
 .rcases hI.cv p hp with h|h|h|h
  .exact .inl h
  .exact .inr (.inl h)
  .grind
  .refine .inr (.inr (.inl ?_));rw[J,if_pos (As.1 h)];exact Mf
 .cases hf:inr page n p with
  | false=>exact hI.rd p hf
  | true=>
   have C:=As.1 hf;exact⟨λ_=>⟨hI.li p hf,(hI.ON hk hf).2.2.2.1⟩,λ_=>hr p C.1 C.2⟩
 .rw[hs]at K;by_cases g:i=id
  .grind
  .rw[if_neg g]at K;obtain⟨k1,k2,k3,k4,k5⟩:=hI.sp i y K;refine⟨k1,k2,k3,k4,λp a b=> ?_⟩;have h5:=k5 p a b;rw[J,if_neg λh=> ?_]
   .exact h5
   .have:=(hI.ON hk (d p h.1 h.2)).2.2.1;omega
 .rw[hs];rw[show(S.C5 id x page n X).fx=X from rfl,v i]
  grind
 .show X.n<=34359738368;rcases Y with ⟨h1,rfl,rfl⟩|⟨a,r,h1,rfl,rfl⟩
  .have h2:=hI.many hk h1 S.fx.n (Nat.le_refl _);have h3:cP (λp=>decide (0<S.own p/\S.own p<=(S.fx.n:Int))||inr page n p)=cP (λp=>decide (0<S.own p/\S.own p<=(S.fx.n:Int)))+cP (inr page n):=X0 (λp=>rfl) λp a b=>by
    have a:=of_decide_eq_true a;have:=(hI.ON hk b).2.2.1;omega
   rw[Z6 h0 (by omega) hb]at h3;have:=(Tg λp=>decide (0<S.own p/\S.own p<=(S.fx.n:Int))||inr page n p).2
   grind
  .exact hI.fb
 .show S.AA+n=cP λp=>decide (0<if page<=p/\p<page+n then id else S.own p);rw[VF (S:=S) S.own Mf h0 (by omega) hb λp a b=>by have:=(hI.ON hk (d p a b)).2.2.1;omega,<-hI.pg]
def HS.free(S:HS)(a:Nat)(page n:Int):HS:=
 {S with T:=S.T.Kx page n,fx:=⟨S.fx.n,a::S.fx.bk⟩,sp:=λi=>if i=(a:Int)+1 then none else S.sp i,own:=λp=>if page<=p/\p<page+n then 0 else S.own p,AA:=S.AA-n}
def Bv.free(hI:Bv S no)(hk:KQ S){a:Nat}{x:Nat×SI}(hx:S.sp ((a:Int)+1)=some x):Bv (S.free a (x.2.base/8192) x.2.AA) no:=by
 obtain⟨k1,k2,k3,k4,k5⟩:=hI.sp _ x hx;generalize hpg:x.2.base/8192=page at *
 generalize hn:x.2.AA=n at *
 have v: ∀p,page<=p->p<page+n->0<S.own p:=λp h1 h2=>by grind
 have O: ∀p,S.own p=(a:Int)+1↔page<=p/\p<page+n:=λp=>by
  refine⟨λe=> ?_,λh=>k5 p h.1 h.2⟩;obtain⟨_,_,_,y,h1,h2,h3⟩:=hI.ow p (by omega)
  grind
 have J: ∀p,(S.free a page n).own p=if page<=p/\p<page+n then 0 else S.own p:=λp=>rfl
 have hs: ∀i,(S.free a page n).sp i=if i=(a:Int)+1 then none else S.sp i:=λp=>rfl
 have d: ∀p,(S.free a page n).T.fr p=true↔S.T.fr p=true∨(page<=p/\p<page+n):=λp=>by
  show(S.T.fr p||inr page n p)=true↔_;rw[Bool.or_eq_true,As]
 have C:=hk.tv.Ju _ (hI.ow page (v page (by omega) (by omega))).1;have aB:=hk.tv.Ju _ (hI.ow (page+n-1) (v _ (by omega) (by omega))).1;refine⟨λj hj p hp=> ?_,hI.cd,λp hp=> ?_,λp hp=> ?_,λp=> ?_,λp hp=>(by cases hp),λp hp=> ?_,hI.ks,hI.la,hI.rd,λi y K=> ?_,λi=> ?_,hI.fb,?_,hI.h0,hI.h1⟩
 .obtain⟨g1,g2,g3,g4⟩:=hI.cr j hj p hp;refine⟨g1,Gx λh=>((d p).1 h).elim (GA g2) λh=> ?_,?_,rfl⟩
  .grind
  grind
 .refine⟨?_,rfl⟩;rw[J];rcases(d p).1 hp with h|h
  .split
   .rfl
   .exact(hI.fn p h).1
  omega
 .rw[J]at hp⊢;by_cases g:page<=p/\p<page+n
  .omega
  .rw[if_neg g]at hp⊢;obtain⟨g1,g2,g3,y,g4,g5⟩:=hI.ow p hp;refine⟨g1,Gx λh=>((d p).1 h).elim (GA g2) g,rfl,y,?_,g5⟩
   grind
 .rw[J];split
  .omega
  .exact hI.o0 p
 .by_cases g:page<=p/\p<page+n
  .grind
  .rcases hI.cv p hp with h|h|h|h
   .grind
   .exact .inr (.inl h)
   .grind
   grind
 .rw[hs]at K;by_cases g:i=(a:Int)+1
  .grind
  .rw[if_neg g]at K;obtain⟨q1,q2,q3,q4,q5⟩:=hI.sp i y K
   grind
 .rw[hs];have:=hI.sf i;show _↔ ∃b:Nat,i=(b:Int)+1/\b<S.fx.n/\b∉a::S.fx.bk
  grind
 .show S.AA-n=cP λp=>decide (0<if page<=p/\p<page+n then 0 else S.own p);have e:=VF (S:=S) (λp=>if page<=p/\p<page+n then 0 else S.own p) (id:=(a:Int)+1) k1 C.1 (by omega) (by omega) (page:=page) (n:=n) λp h1 h2=>by omega
  have Y:cP (λp=>decide (0<if page<=p/\p<page+n then(a:Int)+1 else if page<=p/\p<page+n then 0 else S.own p))=cP λp=>decide (0<S.own p):=lI λp _ _=>by grind
  rw[Y]at e;have:=hI.pg;omega
def HS.flush(S:HS)(i:Nat):HS:={S with T:=S.T.flush (S.ca i),ca:=λj=>if j=i then CS.nil else S.ca j}
end Go.Sh
namespace Go.Sh
def Sat.rest{Ps Z:List Pr}{w:World}(H:Sat (Ps++Z) w):Sat Z w:=by
 induction Ps with
 | nil=>exact H
 | cons P Ps ih=>exact ih H.tail
section
variable{E:Env}{h:Nat}{S:HS}{Z:List Pr}{w:World}{g:HG}
def Z3.same{S':HS}(hI:Z3 S g)(e:S'.sp=S.sp):Z3 S' g:=⟨hI.nd,λid=>by rw[hI.mem,e]⟩
def Sat.VH(H:Sat (Ct E h S g++Z) w){i:Nat}(v:i<64): ∃R,(∀{w'},Sat R w'->Sat Z w')/\Sat (BU E (g.cb i) (S.ca i)::Bl E g.t S.T::R) w/\
  ∀{w' c' T'},Sat (BU E (g.cb i) c'::Bl E g.t T'::R) w'->Sat (Ct E h {S with T:=T',ca:=λj=>if j=i then c' else S.ca j} g++Z) w':=by
 have d:(List.range 64)[i]? =some i:=List.getElem?_range v;have h1:=(H.front 7 rfl).F0 d;have h2:=h1.EM 3 rfl;refine⟨_,λ{w'} q=> ?_,h2,λ{w' c' T'} h'=> ?_⟩
 .exact Sat.rest (Ps:=[Aa (λi:Nat=>BU E (g.cb i) (S.ca i)) ((List.range 64).eraseIdx i),Cells h E.Ac (B3 g S.hint S.AA),Co E g.m S.V,CY E g.a S.ks S.own,GW E g.f S.fx,DY g.sm .i64 (Du S.sp),Aa (spR E S.sp) g.ids]) q
 have b1:=Sat.S5 (P0:=BU E (g.cb i) c') (Ps:=Aa (λi:Nat=>BU E (g.cb i) (S.ca i)) ((List.range 64).eraseIdx i)::((Ct E h S g++Z).eraseIdx 7)) 3 h' (by simp[Ct]);have b2:Sat (BU E (g.cb i) c'::Aa (λi:Nat=>BU E (g.cb i) (S.ca i)) ((List.range 64).eraseIdx i)::((Ct E h {S with T:=T',ca:=λj=>if j=i then c' else S.ca j} g++Z).eraseIdx 7)) w':=b1;have e:Aa (λi:Nat=>BU E (g.cb i) (S.ca i)) ((List.range 64).eraseIdx i)=Aa (λj:Nat=>BU E (g.cb j) (if j=i then c' else S.ca j)) ((List.range 64).eraseIdx i):=
  Aa.congr λx y=>by rw[if_neg (Tc v y)]
 rw[e,show BU E (g.cb i) c'=(λj:Nat=>BU E (g.cb j) (if j=i then c' else S.ca j)) i by grind]at b2;exact Sat.back (Ps:=Ct E h {S with T:=T',ca:=λj=>if j=i then c' else S.ca j} g++Z) 7 (Sat.G5 b2 d) (by simp[Ct])
def dM{ca:Nat->CS}{i:Nat}:(λj=>if j=i then ca i else ca j)=ca:=funext λj=>by
 by_cases e:j=i
 .rw[if_pos e,e]
 .rw[if_neg e]
def Sat.SQ(H:Sat (Ct E h S g++Z) w): ∃R,(∀{w'},Sat R w'->Sat Z w')/\Sat (Bl E g.t S.T::R) w/\ ∀{w' T'},Sat (Bl E g.t T'::R) w'->Sat (Ct E h {S with T:=T'} g++Z) w':=
 ⟨_,λ{w'} q=>Sat.rest (Ps:=[Cells h E.Ac (B3 g S.hint S.AA),Co E g.m S.V,CY E g.a S.ks S.own,GW E g.f S.fx,DY g.sm .i64 (Du S.sp),Aa (spR E S.sp) g.ids,Aa (λi:Nat=>BU E (g.cb i) (S.ca i)) (List.range 64)]) q,
  H.front 2 rfl,λ{w' T'} h'=>Sat.back (Ps:=Ct E h S g++Z) 2 h' (by simp[Ct])⟩
def HS.new(V:VS):HS:=⟨V,TV.nil,λ_=>CS.nil,[],λ_=>0,⟨0,[]⟩,λ_=>none,0,0⟩
def Bv.new{V:VS}(h1:V.laid=[])(h2:V.ready=[]):Bv (HS.new V) no:=by
 have j: ∀p,¬mem ([]:Iv) p:=CM;refine⟨λi J p hp=> ?_,λa b p y C d K=> ?_,λp hp=>(by cases hp),λp hp=>absurd hp (by show ¬(0:Int)<0;decide),λ_=>Int.le_refl 0,λp hp=>(by cases hp),λp hp=>(by cases hp),λp=>⟨λq=>absurd q (j _),λq=>(by cases q)⟩,λp=> ?_,λp _=> ?_,λid x v=>(by cases v),λid=>⟨λq=>absurd rfl q,λ⟨a,_,q,_⟩=>absurd q (Nat.not_lt_zero a)⟩,Nat.zero_le _,?_,Int.le_refl 0,by show(0:Int)<=_;decide⟩
 .have hp:CS.nil.own p=true:=hp;rw[dL]at hp;cases hp
 .have d:CS.nil.own p=true:=d;rw[dL]at d;cases d
 .show mem V.laid p↔_;rw[h1];exact⟨λq=>absurd q (j _),λq=>(by cases q)⟩
 .show mem V.ready p↔_;rw[h2];exact⟨λq=>absurd q (j _),λq=>(by cases q.1)⟩
 .exact(dJ λp=>rfl).symm
def Z7(n:Nat):List.range (n+1)=List.range n++[n]:=List.range_succ
def Z8(cb:Nat->Nat)(k:Nat)(x y:Value)(v0 v1 v2 d v4:Value)(b:Nat)(hk:k<64):
  (v0::v1::v2::d::v4::(((List.range 64).map λi=>Value.pointer (if i<k then some ⟨cb i,0,none⟩else none))++[x,y])).set (0+(5+k)) (.pointer (some ⟨b,0,none⟩))
   =v0::v1::v2::d::v4::(((List.range 64).map λi=>Value.pointer (if i<k+1 then some ⟨if i=k then b else cb i,0,none⟩else none))++[x,y]):=by
 rw[show 0+(5+k)=k+1+1+1+1+1 by omega];simp only[List.set_cons_succ];rw[List.set_append_left _ _ (by simp;exact hk)];have key:((List.range 64).map λi=>Value.pointer (if i<k then some ⟨cb i,0,none⟩else none)).set k (.pointer (some ⟨b,0,none⟩))=(List.range 64).map λi=>Value.pointer (if i<k+1 then some ⟨if i=k then b else cb i,0,none⟩else none):=by
  apply List.ext_getElem?
  grind
 rw[key]
def Z9{m:Nat}{V:VS}(H:Sat (Co E m V::Z) w){K:Option Addr->World->Prop}(hK: ∀h w',w'.cell? (Addr.mk h 0 none)=some (.pointer (some ⟨m,0,none⟩))->Sat (Bh E h (HS.new V)::Z) w'->K (some ⟨h,0,none⟩) w'):F.Ht E (some ⟨m,0,none⟩) K w:=by
 unfold F.Ht T0.Ht;refine kY H λw2 t H2=>lB H2 λw4 a H4=>Vp H4 .i64 λd w6 H6 _=> ?_;refine AO (vs:=.pointer (some ⟨m,0,none⟩):: .pointer (some ⟨t,0,none⟩):: .pointer (some ⟨a,0,none⟩):: .pointer none:: .map (some d)::(((List.range 64).map λi=>Value.pointer none)++[.int .u64 0,.int .u64 0])) H6 λC w8 H8 _=> ?_;refine gB H8 λf aN T=> ?_;refine Ab (T.front 1 rfl) (o:=0) (m:=3) rfl (by simp) λaC J=> ?_;have O:Sat (Cells C E.Ac (.pointer (some ⟨m,0,none⟩):: .pointer (some ⟨t,0,none⟩):: .pointer (some ⟨a,0,none⟩):: .pointer (some ⟨f,0,none⟩):: .map (some d)::(((List.range 64).map λi=>Value.pointer none)++[.int .u64 0,.int .u64 0]))::
   GW E f ⟨0,[]⟩::DY d .i64 (λ_=>none)::CY E a [] (λ_=>0)::Bl E t TV.nil::Co E m V::Z) aC:=J
 clear J;refine AI (λst w'=> ∃(k:Nat) (cb:Nat->Nat),st.1=(k:Int)/\k<=64/\Sat (Aa (λi:Nat=>BU E (cb i) CS.nil) (List.range k)::Cells C E.Ac (.pointer (some ⟨m,0,none⟩):: .pointer (some ⟨t,0,none⟩):: .pointer (some ⟨a,0,none⟩):: .pointer (some ⟨f,0,none⟩):: .map (some d)::(((List.range 64).map λi=>Value.pointer (if i<k then some ⟨cb i,0,none⟩else none))++[.int .u64 0,.int .u64 0]))::
   GW E f ⟨0,[]⟩::DY d .i64 (λ_=>none)::CY E a [] (λ_=>0)::Bl E t TV.nil::Co E m V::Z) w') (λst _=>(64-st.1).toNat) ⟨0,λ_=>0,rfl,by decide,?_⟩ ?_
 .exact O.LH _
 rintro⟨k',v⟩ _ aD ⟨k,cb,hk,aF,j⟩;dsimp only at hk⊢;subst hk;refine AB (λaM=> ?_) λaL=> ?_
 .refine fP j.drew λaO c aA=>⟨⟨by omega,by omega⟩,?_⟩;have aB:k<64:=by omega
  rw[Int.toNat_natCast,Nat.mul_one,add_add,AF (n:=(k:Int)+1)];refine Ab (aA.front 2 rfl) (o:=0) (m:=5+k) rfl (by simp;omega) λaE y=> ?_;rw[Z8 cb k _ _ _ _ _ _ _ c aB]at y;refine⟨⟨k+1,λi=>if i=k then c else cb i,by omega,by omega,?_⟩,by omega⟩;have h1:=y.EM 1 rfl;have h2:Sat (BU E c CS.nil::Aa (λi:Nat=>BU E (cb i) CS.nil) (List.range k)::Cells C E.Ac (.pointer (some ⟨m,0,none⟩):: .pointer (some ⟨t,0,none⟩):: .pointer (some ⟨a,0,none⟩):: .pointer (some ⟨f,0,none⟩):: .map (some d)::(((List.range 64).map λi=>Value.pointer (if i<k+1 then some ⟨if i=k then c else cb i,0,none⟩else none))++[.int .u64 0,.int .u64 0]))::
    GW E f ⟨0,[]⟩::DY d .i64 (λ_=>none)::CY E a [] (λ_=>0)::Bl E t TV.nil::Co E m V::Z) aE:=y.perm (List.perm_middle (l₁:=[_,_])|>.symm)
  rw[Z7];have e:Aa (λi:Nat=>BU E (cb i) CS.nil) (List.range k)=Aa (λi:Nat=>BU E (if i=k then c else cb i) CS.nil) (List.range k):=Aa.congr λx hx=>by grind
  rw[e,show BU E c CS.nil=(λi:Nat=>BU E (if i=k then c else cb i) CS.nil) k by grind]at h2;exact h2.S7
 .have e:k=64:=by omega
  subst e;refine hK C aD ((j.front 1 rfl).Af rfl) (Sat.heap.2 ⟨⟨m,t,a,f,d,cb,[]⟩,⟨List.nodup_nil,λid=>⟨λq=>(by cases q),λq=>absurd rfl q⟩⟩,?_⟩);have e:((List.range 64).map λi=>Value.pointer (if i<64 then some ⟨cb i,0,none⟩else none))=gG cb:=by
   unfold gG;exact List.map_congr_left λi hi=>by grind
  rw[e]at j;have Y:=j.LH (spR E λ_=>none);refine Y.perm ?_;show List.Perm _ ((Cells C E.Ac (B3 ⟨m,t,a,f,d,cb,[]⟩ 0 0)::Co E m V::Bl E t TV.nil::CY E a [] (λ_=>0)::GW E f ⟨0,[]⟩::DY d .i64 (λ_=>none)::Aa (spR E λ_=>none) []::Aa (λi:Nat=>BU E (cb i) CS.nil) (List.range 64)::[])++Z);refine List.Perm.append_right (l₁:=[Aa (spR E λ_=>none) [],Aa (λi:Nat=>BU E (cb i) CS.nil) (List.range 64),Cells C E.Ac (B3 ⟨m,t,a,f,d,cb,[]⟩ 0 0),GW E f ⟨0,[]⟩,DY d .i64 (λ_=>none),CY E a [] (λ_=>0),Bl E t TV.nil,Co E m V]) Z ?_;exact(List.perm_append_comm (l₁:=[Aa (spR E λ_=>none) [],Aa (λi:Nat=>BU E (cb i) CS.nil) (List.range 64)]) (l₂:=[Cells C E.Ac (B3 ⟨m,t,a,f,d,cb,[]⟩ 0 0),GW E f ⟨0,[]⟩,DY d .i64 (λ_=>none),CY E a [] (λ_=>0),Bl E t TV.nil,Co E m V])).trans (.cons _ ((List.reverse_perm [Co E m V,Bl E t TV.nil,CY E a [] (λ_=>0),DY d .i64 (λ_=>none),GW E f ⟨0,[]⟩]).append_right _|>.trans (.cons _ (.cons _ (.cons _ (.swap _ _ _))))))
def gH{m:Nat}{V:VS}(H:Sat (Co E m V::Z) w){K:Option Addr->World->Prop}(d: ∀h w',Sat (Bh E h (HS.new V)::Z) w'->K (some ⟨h,0,none⟩) w'):F.Ht E (some ⟨m,0,none⟩) K w:=
 Z9 H λh w' _=>d h w'
end
def qA{x c:Nat}(h1:x.testBit c=true)(h2: ∀i,i<c->x.testBit i=false)(i:Nat):(x&&&(x-1)).testBit i=(x.testBit i&& !(i==c)):=by
 have hm:x %2^(c+1)=2^c:=by
  apply Nat.eq_of_testBit_eq
  grind
 have d:x=2^(c+1)*(x/2^(c+1))+2^c:=by
  have:=Nat.div_add_mod x (2^(c+1));omega
 generalize hy:x/2^(c+1)=y at d;have v:2^c<2^(c+1):=Nat.pow_lt_pow_right (by decide) (by omega);have C:0<2^c:=Nat.pow_pos (by decide);have j:x-1=2^(c+1)*y+(2^c-1):=by omega
 rw[Nat.testBit_and,j]
 conv=>lhs;lhs;rw[d]
 conv=>rhs;lhs;rw[d]
 rw[Nat.testBit_two_pow_mul_add _ v,Nat.testBit_two_pow_mul_add _ (by omega:2^c-1<2^(c+1))]
 grind
def vD{u:Nat->Bool}{c:Nat}(v:c<64)(h1:u c=true)(h2: ∀i,i<c->u i=false):Dj .u64 0 (W u) (u64 (W u-1))=W (λi=>u i&& !(i==c)):=by
 have C:wN u 64<2^64:=OK u 64;have d:(wN u 64).testBit c=true:=by rw[Dp,h1];simp[v]
 have hz:wN u 64≠0:=λe=>by grind
 have e:u64 (W u-1)=((wN u 64-1:Nat):Int):=by
  unfold W;rw[AM];omega
 rw[e];unfold W;rw[wW (by omega) (by omega)];congr 1;apply Nat.eq_of_testBit_eq;intro i;rw[qA d (λj y=>by rw[Dp,h2 j y];simp),Dp,Dp]
 grind
def lJ{u:Nat->Bool}(h:W u≠0): ∃c,c<64/\u c=true/\ ∀i,i<c->u i=false:=by
 have hex: ∃c,c<64/\u c=true:=by
  refine Classical.byContradiction λg=>h (HF.2 λi j=> ?_);cases hu:u i with
  | false=>rfl
  | true=>grind
 have key: ∀n:Nat,(∃c,c<n/\u c=true)-> ∃c,c<n/\u c=true/\ ∀i,i<c->u i=false:=by
  intro n
  induction n with
  | zero=>omega
  | succ n ih=>
   rintro⟨c,d,hu⟩;by_cases g: ∃c,c<n/\u c=true
   .grind
   grind
 exact key 64 hex
section
variable{E:Env}{h:Nat}{S:HS}{Z:List Pr}{w:World}{g:HG}
variable(hE:EnvS E)
include hE
end
def Jc(S:HS)(i:Nat)(S1:HS):Prop:=((S.ca i).empty/\ ∃q,IH S.T 1 q/\S1=S.fill i q)∨((¬(S.ca i).empty∨ ∀q,S.T.fr q=false)/\S1=S)
def IY(S:HS)(p n:Int)(S1:HS):Prop:=(¬(0<=p/\p<64/\n<16)/\S1=S)∨ ∃i:Nat,i<64/\p=i/\n<16/\Jc S i S1/\ ∀k,¬JZ (S1.ca i).has k n.toNat
def dN(S:HS)(p n page:Int)(S2:HS):Prop:=
 (∃S1,∃i k:Nat,i<64/\p=i/\n<16/\Jc S i S1/\JZ (S1.ca i).has k n.toNat/\(∀j,JZ (S1.ca i).has j n.toNat->k<=j)/\k+n.toNat<=64/\page=(S1.ca i).base+k/\S2=S1.II i k n.toNat)∨
 ∃S1,IY S p n S1/\IH S1.T n page/\S2=S1.Ge page n
def Jc.inv{S S1:HS}{i:Nat}(h:Jc S i S1)(hI:Bv S no)(hk:KQ S)(d:i<64):Bv S1 no:=by
 rcases h with ⟨h1,q,h2,rfl⟩|⟨h1,rfl⟩
 .exact hI.fill hk d h1 q
 .exact hI
def IY.inv{S S1:HS}{p n:Int}(h:IY S p n S1)(hI:Bv S no)(hk:KQ S):Bv S1 no:=by
 rcases h with ⟨_,rfl⟩|⟨i,d,_,_,h,_⟩
 .exact hI
 .exact h.inv hI hk d
section
variable{E:Env}{h:Nat}{S:HS}{Z:List Pr}{w:World}{g:HG}
def Tj: ∀{l:Iv},Ok l->(l.length:Int)<=Ig l
 | [],_=>Int.le_refl _
 | p::r,h=>by
  have:=Tj h.tail;have:=h.2.1;show((r.length+1:Nat):Int)<=p.2-p.1+Ig r;omega
variable(hE:EnvA E)
include hE
theorem gI(hT: ∀w',Sat Z w'->FQ E.AJ w')(H:Sat (Bh E h S::Z) w)(hI:Bv S no){p n:Int}(n0:1<=n)(n1:n<=134217728){K:Int->Bool->World->Prop}
  (aP: ∀page S2,dN S p n page S2->Bv S2 (inr page n)->0<=page->page+n<=34359738368-> ∀w',Sat (Bh E h S2::Z) w'->K page true w')
  (aU: ∀S1,IY S p n S1->Bv S1 no->(∀q,¬Ld S1.T.fr q n)-> ∀w',Sat (Bh E h S1::Z) w'->K 0 false w'):F.DU E (some ⟨h,0,none⟩) p n K w:=by
 have A6:=H.A6;obtain⟨g,aN,H⟩:=Sat.heap.1 H;unfold F.DU T0.DU;simp only[AG];have y: ∀S1 w3,IY S p n S1->Bv S1 no->S1.sp=S.sp->S1.V=S.V->S1.ks=S.ks->S1.own=S.own->S1.fx=S.fx->S1.hint=S.hint->S1.AA=S.AA->Sat (Ct E h S1 g++Z) w3->
   ∃aA:(Option Addr),w3.cell? ((Addr.mk h 0 none).add 1)=some (.pointer aA)/\F.BK E aA n (λaI aZ aJ aL=>K aI ((aJ:Int)==0) aL) w3:=by
  intro S1 w3 ht J e1 e2 e3 e4 e5 e6 e7 H3;have d:Z3 S1 g:=aN.same e1;have C:=(Sat.heap.2 ⟨g,d,H3⟩:Sat (Bh E h S1::Z) w3).A6;obtain⟨R,_,h1,hb⟩:=H3.SQ;refine⟨_,(Cr (S:=S1) (g:=g) H3).2.1,TU hE.toEnvS h1 (by omega) (by omega) (λe=>by omega) (λ_ O w' H'=> ?_) λ_ page hf w' H'=> ?_⟩
  .exact aU S1 ht J O w' (Sat.heap.2 ⟨g,⟨d.nd,d.mem⟩,hb H'⟩)
  .exact aP page (S1.Ge page n) (.inr ⟨S1,ht,hf,rfl⟩) (J.Ge C hf.2.2.1) hf.1 hf.2.1 w' (Sat.heap.2 ⟨g,⟨d.nd,d.mem⟩,hb H'⟩)
 refine AU (AU (pX (AB (λhp j=>AB (λhn=> ?_) λhn j=> ?_) λhp j=>AP rfl λj=> ?_)))
 .obtain⟨i,rfl⟩: ∃i:Nat,p=(i:Int):=⟨p.toNat,by omega⟩;have hi:i<64:=by omega
  rw[Int.toNat_natCast];refine⟨by omega,_,by rw[Nat.mul_one,add_add,Nat.add_comm];exact(Cr (S:=S) (g:=g) H).2.2.2.2.2.2.2 i hi,?_⟩;have v: ∀S1 Y,Jc S i S1->Bv S1 no->S1.sp=S.sp->S1.V=S.V->S1.ks=S.ks->S1.own=S.own->S1.fx=S.fx->S1.hint=S.hint->S1.AA=S.AA->Sat (Ct E h S1 g++Z) Y->
    F.C3 E (some ⟨g.cb i,0,none⟩) (i64 n) (λaX bB aY aK=>CND ((aY:Int)==0) (K aX true aK) (∀j:Nat->Value,∃aA:(Option Addr),aK.cell? ((Addr.mk h 0 none).add 1)=some (.pointer aA)/\F.BK E aA n (λaI aZ aJ aL=>K aI ((aJ:Int)==0) aL) aK)) Y:=by
   intro S1 Y aO J e1 e2 e3 e4 e5 e6 e7 aF;have d:Z3 S1 g:=aN.same e1;have C:=(Sat.heap.2 ⟨g,d,aF⟩:Sat (Bh E h S1::Z) Y).A6;obtain⟨R,hR,h1,hb⟩:=aF.VH hi;rw[AF (n:=n)];refine Xe (hT _ (hR h1.tail.tail)) h1 (by omega) (by omega) (λa7=>by omega) (λ_ _ O=>AP rfl λj=> ?_) λ_ _ k aE aQ aM w' H'=>AR rfl ?_
   .exact y S1 Y (.inr ⟨i,hi,rfl,hn,aO,O⟩) J e1 e2 e3 e4 e5 e6 e7 aF
   .have aH:=C.ci i hi;have q0:=aH.b0;have q1:=aH.b1;have q2:=aH.b64;have aC:=J.II C hi aE aM;rw[show((n.toNat:Nat):Int)=n by omega]at aC;refine aP ((S1.ca i).base+k) (S1.II i k n.toNat) (.inl ⟨S1,i,k,hi,rfl,hn,aO,aE,aQ,aM,rfl,rfl⟩) aC (by omega) (by omega) w' (Sat.heap.2 ⟨g,⟨d.nd,d.mem⟩,hb H'⟩)
  obtain⟨R,hR,h1,hb⟩:=H.VH hi;refine AU (NT h1 (λhe=>AR rfl ⟨_,(Cr (S:=S) (g:=g) H).2.1,?_⟩) λhe=>AP rfl λj=> ?_)
  .refine Zs hE.toEnvS h1 (λaW=>absurd he aW) (λ_ O w' H' j=> ?_) λ_ q hq w' H' j=> ?_
   .have h2:=hb H';rw[dM]at h2;exact v S w' (.inr ⟨.inr O,rfl⟩) hI rfl rfl rfl rfl rfl rfl rfl h2
   .exact v (S.fill i q) w' (.inl ⟨he,q,hq,rfl⟩) (hI.fill A6 hi he q) rfl rfl rfl rfl rfl rfl rfl (hb H')
  .exact v S w (.inr ⟨.inl he,rfl⟩) hI rfl rfl rfl rfl rfl rfl rfl H
 .exact y S w (.inl ⟨by omega,rfl⟩) hI rfl rfl rfl rfl rfl rfl rfl H
 .exact y S w (.inl ⟨by omega,rfl⟩) hI rfl rfl rfl rfl rfl rfl rfl H
def IZ(n:Int):Int:=(n+511)/512*512
def X2(S:HS)(n:Int)(S1:HS):Prop:=(∀r,S.V.rf≠true::r)/\ ∃at_,Hf S.V S.hint (IZ n) at_/\S1=S.grown {S.V with rf:=S.V.rf.tail,pl:=S.V.pl.tail,laid:=Dl S.V.laid at_ (at_+IZ n)} at_ (IZ n)
def Qh(S:HS)(n:Int)(S1:HS):Prop:=(∃r,S.V.rf=true::r/\S1={S with V:={S.V with rf:=r}})∨((∀r,S.V.rf≠true::r)/\Lv S.V S.hint (IZ n)/\S1={S with V:={S.V with rf:=S.V.rf.tail,pl:=S.V.pl.tail}})
theorem aA(H:Sat (Bh E h S::Z) w)(hI:Bv S no){n:Int}(n0:1<=n)(n1:n<=134217728){K:Int->World->Prop}
  (aP: ∀S1,X2 S n S1->Bv S1 no->(∃at_,Ld S1.T.fr at_ n)-> ∀w',Sat (Bh E h S1::Z) w'->K 0 w')(aD: ∀S1,Qh S n S1->Bv S1 no-> ∀w',Sat (Bh E h S1::Z) w'->K 13 w'):
  F.DC E (some ⟨h,0,none⟩) n K w:=by
 have A6:=H.A6;have aO:=hI.h0;have aX:=hI.h1;obtain⟨g,d,H⟩:=Sat.heap.1 H;unfold F.DC T0.DC;refine⟨by decide,AY λN hN=> ?_⟩;rw[AM (n:=n+512),AM (n:=n+512-1),Int.tdiv_eq_ediv_of_nonneg (by omega),AM (n:=(n+512-1)/512),AM]at hN;have hN:N=IZ n:=by unfold IZ;omega
 subst hN;have aQ:IZ n %512=0/\n<=IZ n/\IZ n<=134217728:=by omega
 obtain⟨u1,u2,u3⟩:=aQ;have u4:IZ n<n+512:=by omega
 simp only[AG];have Hd:=H.drew;refine⟨_,(Cr (S:=S) (g:=g) Hd).1,_,(Cr (S:=S) (g:=g) Hd).2.2.2.2.2.1,?_⟩;have bk: ∀{V':VS} {w'},Sat (Co E g.m V'::(Ct E h S g++Z).eraseIdx 1) w'->Sat (Ct E h {S with V:=V'} g++Z) w':=λ{V' w'} h'=>Sat.back (Ps:=Ct E h S g++Z) 1 h' (by simp[Ct]);refine V8 hE.toEnvS (Hd.front 1 rfl) aO (by omega) (by omega) (by omega) (λy=>by omega) (λ_ r hr w' H'=>AR rfl ?_) (λ_ hr hu w' H'=>AR rfl ?_) λ_ hr at_ hc w8 H8=>AP rfl ?_
 .exact aD _ (.inl ⟨r,hr,rfl⟩) (hI.pZ rfl rfl) w' (Sat.heap.2 ⟨g,⟨d.nd,d.mem⟩,bk H'⟩)
 .exact aD _ (.inr ⟨hr,hu,rfl⟩) (hI.pZ rfl rfl) w' (Sat.heap.2 ⟨g,⟨d.nd,d.mem⟩,bk H'⟩)
 obtain⟨f1,f2,f3,f4⟩:=hc.fits A6.vv.LM (by omega);have a0:0<=at_:=by
  rcases hc with ⟨p,r,h1,h2,rfl⟩|⟨_,⟨_,h1,_⟩|⟨_,_,h1,_⟩⟩
  .obtain⟨g',aM,_⟩:=Sat.Ru.1 (Hd.front 1 rfl:Sat (Co E g.m S.V::_) _);exact(aM.cX at_ (by rw[h1];exact List.mem_cons_self)).1
  .have:=h1.low;omega
  .have:=h1.low;omega
 have O: ∀p,at_<=p->p<at_+IZ n->S.T.Li p=false:=λp h1 h2=>Gx λhp=>(Dn A6.vv.LM (by omega)).1 f4 p h1 h2 ((hI.la p).2 hp);have H9:=bk H8;rw[AM (n:=at_+IZ n)];refine Ab H9 (o:=0) (m:=69) rfl (by rw[Z4];decide) λaR C=> ?_;rw[Nat.zero_add,Z5]at C;have j:Sat (Ct E h {S with V:={S.V with rf:=S.V.rf.tail,pl:=S.V.pl.tail,laid:=Dl S.V.laid at_ (at_+IZ n)},hint:=at_+IZ n} g++Z) aR:=C;clear C;rw[Int.tdiv_eq_ediv_of_nonneg (by omega),Int.tdiv_eq_ediv_of_nonneg (by omega),AM (n:=at_/512),AM (n:=IZ n/512)];refine⟨_,(Cr (S:={S with V:={S.V with rf:=S.V.rf.tail,pl:=S.V.pl.tail,laid:=Dl S.V.laid at_ (at_+IZ n)},hint:=at_+IZ n}) (g:=g) j).2.1,by decide,by decide,?_⟩;obtain⟨R,_,h1,hb⟩:=j.SQ;refine fM hE.toEnvS h1 (by omega) (by omega) (by omega) (by omega) (λy=>by unfold LL at y;omega) (λ_ hex=> ?_) λ_ _ aS aI=> ?_
 .grind
 have Y:=(hb aI).drew;generalize hS3:({S with V:={S.V with rf:=S.V.rf.tail,pl:=S.V.pl.tail,laid:=Dl S.V.laid at_ (at_+IZ n)},hint:=at_+IZ n,T:=S.T.grow (at_/512) (IZ n/512)}:HS)=S3;have e3:S3.hint=at_+IZ n:=by grind
 have J:Sat (Ct E h S3 g++Z) aS.drew:=by rw[<-hS3];exact Y
 clear Y;have aC:=(Cr (S:=S3) (g:=g) J).2.2.2.2.2.1;rw[e3]at aC;refine⟨_,(Cr (S:=S3) (g:=g) J).2.2.1,by decide,_,aC,by decide,?_⟩;rw[Int.tdiv_eq_ediv_of_nonneg (by omega),AM (n:=(at_+IZ n)/512)];refine fX hE (J.front 3 rfl) (by omega) (by omega) (by omega) λaF aJ=> ?_;have aB:Sat (Ct E h {S3 with ks:=Dl S3.ks (at_/512) ((at_+IZ n)/512)} g++Z) aF:=Sat.back (Ps:=Ct E h S3 g++Z) 3 aJ (by simp[Ct]);have v:=(Cr (S:={S3 with ks:=Dl S3.ks (at_/512) ((at_+IZ n)/512)}) (g:=g) aB).2.2.2.2.2.1;have aK:({S3 with ks:=Dl S3.ks (at_/512) ((at_+IZ n)/512)}:HS).hint=at_+IZ n:=e3;rw[aK]at v;refine⟨v,?_⟩;subst hS3;refine aP _ ⟨hr,at_,hc,rfl⟩ (hI.grown A6 a0 (by omega) (by omega) f1 u1 O rfl rfl) ⟨at_,λm q1 q2=> ?_⟩ aF (Sat.heap.2 ⟨g,⟨d.nd,d.mem⟩,aB⟩);show(S.T.fr m||inr (at_/512*512) (IZ n/512*512) m)=true;rw[Bool.or_eq_true,As];omega
def Jd(S:HS)(page n:Int):TV:=⟨S.T.Li,λp=>S.T.fr p||inr page n p,λp=>S.T.rl p||(inr page n p&& !Ms S.V.ready p)⟩
omit hE in
theorem gJ{S:HS}{page x y:Int}(h1:page<=x)(h2:x<=y)(d: ∀p,x<=p->p<y-> ¬mem S.V.ready p):(Jd S page (x-page)).back x (y-x)=Jd S page (y-page):=by
 have e: ∀p,inr page (y-page) p=(inr page (x-page) p||inr x (y-x) p):=λp=>by rw[Bool.eq_iff_iff,Bool.or_eq_true,As,As,As];omega
 unfold Jd TV.back;refine(TV.mk.injEq ..).mpr ⟨rfl,funext λp=> ?_,funext λp=> ?_⟩
 .grind
 .show(S.T.rl p||(inr page (x-page) p&& !Ms S.V.ready p)||inr x (y-x) p)=_;rw[e];cases g:inr x (y-x) p
  .simp
  .have g:=As.1 g;have:Ms S.V.ready p=false:=Gx λq=>d p (by omega) (by omega) (CJ.1 q)
   grind
omit hE in
theorem gK{S:HS}{page x y:Int}(h1:page<=x)(h2:x<=y)(d: ∀p,x<=p->p<y->mem S.V.ready p):(Jd S page (x-page)).Kx x (y-x)=Jd S page (y-page):=by
 have e: ∀p,inr page (y-page) p=(inr page (x-page) p||inr x (y-x) p):=λp=>by rw[Bool.eq_iff_iff,Bool.or_eq_true,As,As,As];omega
 unfold Jd TV.Kx;refine(TV.mk.injEq ..).mpr ⟨rfl,funext λp=> ?_,funext λp=> ?_⟩
 .grind
 .show(S.T.rl p||(inr page (x-page) p&& !Ms S.V.ready p))=_;rw[e];cases g:inr x (y-x) p
  .simp
  .have g:=As.1 g;rw[CJ.2 (d p (by omega) (by omega))];simp
theorem aB{page n:Int}(H:Sat (Bh E h S::Z) w)(hI:Bv S (inr page n))(p0:0<=page)(n0:1<=n)(pb:page+n<=34359738368){K:World->Prop}(hK:Bv (S.Eu page n) no-> ∀w',Sat (Bh E h (S.Eu page n)::Z) w'->K w'):
  F.DD E (some ⟨h,0,none⟩) page n K w:=by
 have A6:=H.A6;have a0:=hI.Eu A6;obtain⟨g,aZ,H⟩:=Sat.heap.1 H;unfold F.DD T0.DD F.Fu T0.Fu;simp only[AG];rw[AM (n:=page+n)];refine⟨_,(Cr (S:=S) (g:=g) H).1,?_⟩;simp only[AG];rw[show(Addr.mk g.m 0 none).add 5=⟨g.m,5,none⟩ by rw[add_eq]];obtain⟨gv,bD,HV⟩:=Sat.Ru.1 (H.front 1 rfl:Sat (Co E g.m S.V::_) w);refine U5 hE.toEnvS (HV.EM 1 rfl) (o:=5) rfl rfl p0 (by omega:page+n<18446744073709551616) λs' w3 H3 _=> ?_;have aX:Sat (Hy E g.m S.V gv++(Row E.AE 2 s' (flat (withinL S.V.ready page (page+n)))::(Ct E h S g++Z).eraseIdx 1)) w3:=
  Sat.Ol (Hy E g.m S.V gv) (H3.perm (.cons _ (.cons _ (C0 (i:=1) rfl).symm)))
 have H4:=Sat.Ru.2 ⟨gv,bD,aX⟩;have H5:Sat (Row E.AE 2 s' (flat (withinL S.V.ready page (page+n)))::Co E g.m S.V::(Ct E h S g++Z).eraseIdx 1) w3:=H4.perm (.swap _ _ _);have C:Sat (Ct E h S g++(Row E.AE 2 s' (flat (withinL S.V.ready page (page+n)))::Z)) w3:=by
  have h1:Sat (Row E.AE 2 s' (flat (withinL S.V.ready page (page+n)))::(Ct E h S g++Z)) w3:=H5.perm (.cons _ (C0 (i:=1) rfl).symm);exact Sat.Ol (Ct E h S g) h1
 clear H5 H4 aX H3 HV;have d:=TX A6.vv.Pj (a:=page) (b:=page+n) (by omega);have O: ∀q,mem (withinL S.V.ready page (page+n)) q↔mem S.V.ready q/\page<=q/\q<page+n:=λq=>NU;have aO: ∀q∈withinL S.V.ready page (page+n),page<=q.1/\q.1<q.2/\q.2<=page+n:=Og A6.vv.Pj (by omega);generalize hl:withinL S.V.ready page (page+n)=l at C d O aO;have hlen:s'.len=l.length:=by
  have:=((C.front 8 rfl:Sat (Row E.AE 2 s' (flat l)::_) _)).own.len;rw[FA]at this;omega
 have a8:(l.length:Int)<=n:=by
  have h1:=Tj d;have h2:=Nq d.jI (a:=page) (b:=page+n) λq hq=>((O q).1 hq).2;have h3:=FF d (a:=page) (b:=page+n) (by omega);omega
 have a5: ∀p,page<=p->p<page+n->S.T.Li p=true:=λp a b=>hI.li p (As.2 ⟨a,b⟩);have aK: ∀{x y:Int},page<=x->x<y->y<=page+n->HD (Jd S page (x-page)) x (y-x):=λ{x y} a b c=>⟨by omega,by omega,λm q1 q2=>a5 m (by omega) (by omega)⟩;have aF: ∀{x y:Int},page<=x->y<=page+n-> ∀m,x<=m->m<x+(y-x)->(Jd S page (x-page)).fr m=false:=λ{x y} a c m q1 q2=>by
  show(S.T.fr m||inr page (x-page) m)=false;rw[(hI.ON A6 (As.2 ⟨by omega,by omega⟩)).1,IU.2 (by omega)];rfl
 have aG: ∀{x y:Int} {Y:List Pr} {w5:World} {K5:Int->World->Prop},page<=x->x<=y->y<=page+n->(∀p,x<=p->p<y-> ¬mem S.V.ready p)->Sat (Ct E h {S with T:=Jd S page (x-page)} g++Y) w5->
   (∀r w6,Sat (Ct E h {S with T:=Jd S page (y-page)} g++Y) w6->K5 r w6)->F.DW E (some ⟨g.t,0,none⟩) x (y-x) K5 w5:=by
  intro x y Y w5 K5 h1 h2 h3 bH H5 aM;obtain⟨R,_,q1,qb⟩:=H5.SQ;refine fO hE.toEnvS q1 (by omega) (by omega) (by omega) (by omega) (λhb w6 C=> ?_) (λ_ hex w6 C=> ?_) λ_ _ w6 C=> ?_
  .have:x=y:=Classical.byContradiction λe=>hb (aK h1 (by omega) h3)
   grind
  .obtain⟨m,q1,q2,q3⟩:=hex;rw[aF h1 h3 m q1 q2]at q3;cases q3
  .rw[gJ h1 h2 bH]at C;exact aM _ _ (qb C)
 have stepG: ∀{x y:Int} {Y:List Pr} {w5:World} {K5:Int->World->Prop},page<=x->x<y->y<=page+n->(∀p,x<=p->p<y->mem S.V.ready p)->Sat (Ct E h {S with T:=Jd S page (x-page)} g++Y) w5->
   (∀r w6,Sat (Ct E h {S with T:=Jd S page (y-page)} g++Y) w6->K5 r w6)->F.C8 E (some ⟨g.t,0,none⟩) x (y-x) K5 w5:=by
  intro x y Y w5 K5 h1 h2 h3 a2 H5 aM;obtain⟨R,_,q1,qb⟩:=H5.SQ;refine U0 hE.toEnvS q1 (by omega) (by omega) (by omega) (by omega) (λhb w6 C=>absurd (aK h1 h2 h3) hb) (λ_ hex w6 C=> ?_) λ_ _ w6 C=> ?_
  .obtain⟨m,q1,q2,q3⟩:=hex;rw[aF h1 h3 m q1 q2]at q3;cases q3
  .rw[gK h1 (by omega) a2]at C;exact aM _ _ (qb C)
 refine AI (λst w'=> ∃i:Nat,st.2.1=(i:Int)/\i<=l.length/\page<=st.1/\st.1<=page+n/\(∀j q,j<i->l[j]? =some q->q.2<=st.1)/\(∀j q,i<=j->l[j]? =some q->st.1<=q.1)/\
   Sat (Ct E h {S with T:=Jd S page (st.1-page)} g++(Row E.AE 2 s' (flat l)::Z)) w') (λst _=>((l.length:Int)-st.2.1).toNat) ⟨0,rfl,Nat.zero_le _,Int.le_refl _,by omega,λj q hj=>absurd hj (Nat.not_lt_zero j),λj q _ hq=>(aO q (List.mem_of_getElem? hq)).1,?_⟩ ?_
 .have e:Jd S page (page-page)=S.T:=by
   unfold Jd;have: ∀p,inr page (page-page) p=false:=λp=>IU.2 (by omega);simp only[this,Bool.or_false,Bool.false_and]
  show Sat (Ct E h {S with T:=Jd S page (page-page)} g++_) w3;rw[e];exact C
 rintro⟨at_,i',v⟩ _ w6 ⟨i,hi,a4,aN,a1,bG,a3,C⟩;dsimp only at hi aN a1 bG a3 C⊢;subst hi;rw[hlen];refine AB (λbT=> ?_) λbS=> ?_
 .have a4:i<l.length:=by omega
  obtain⟨x,hx⟩: ∃x,l[i]? =some x:=⟨_,List.getElem?_eq_getElem a4⟩;obtain⟨x1,x2,x3⟩:=aO x (List.mem_of_getElem? hx);have x4:=a3 i x (Nat.le_refl _) hx;obtain⟨bb,bF,k1,k2⟩:=(C.front 8 rfl:Sat (Row E.AE 2 s' (flat l)::_) _).own.cells2 hx;rw[bF];simp only[AG,Int.toNat_natCast];refine⟨⟨by omega,by omega⟩,x.1,by rw[add_eq,add_eq,Nat.zero_add,Nat.add_zero];exact k1,x.2,by rw[add_eq,add_eq,Nat.zero_add];exact k2,?_⟩;refine AO (vs:=[.int .u64 0,.int .u64 0]) C λaA bX a9 _=> ?_;refine Fp (news:=[.int .u64 x.1,.int .u64 x.2]) a9 rfl (by simp[Value.oneCell']) λbY bA=> ?_;have aJ:=bA.drew;have hC: ∀{w'} {Y:List Pr},Sat (Cells aA E.AE [.int .u64 x.1,.int .u64 x.2]::Y) w'->w'.cell? (Addr.mk aA 0 none)=some (.int .u64 x.1)/\w'.cell? ((Addr.mk aA 0 none).add 1)=some (.int .u64 x.2):=λh=>⟨h.Af rfl,h.cell rfl⟩;have aH: ∀{w'} {S':HS},Sat (Ct E h S' g++(Cells aA E.AE [.int .u64 x.1,.int .u64 x.2]::Row E.AE 2 s' (flat l)::Z)) w'->Sat (Cells aA E.AE [.int .u64 x.1,.int .u64 x.2]::(Ct E h S' g++(Row E.AE 2 s' (flat l)::Z))) w':=λ{w' S'} h=>h.perm List.perm_middle;have bJ: ∀{w'} {S':HS},Sat (Cells aA E.AE [.int .u64 x.1,.int .u64 x.2]::(Ct E h S' g++(Row E.AE 2 s' (flat l)::Z))) w'->Sat (Ct E h S' g++(Cells aA E.AE [.int .u64 x.1,.int .u64 x.2]::Row E.AE 2 s' (flat l)::Z)) w':=λ{w' S'} q=>Sat.Ol (Ct E h S' g) q;have aV:=bJ aJ;refine⟨_,(Cr (S:={S with T:=Jd S page (at_-page)}) (g:=g) aV).2.1,_,(hC aJ).1,?_⟩;rw[AM (n:=x.1-at_)];refine aG aN x4 (by omega) (λp q1 q2 hm=> ?_) aV λr bZ aW=> ?_
  .obtain⟨y,hy,y1,y2⟩:=(O p).2 ⟨hm,by omega,by omega⟩;obtain⟨j,hj⟩:=List.mem_iff_getElem?.1 hy;rcases Nat.lt_trichotomy j i with g1|g1|g1
   .grind
   .grind
   .have:=d.lt g1 hx hj;omega
  have J:=aW.drew;refine⟨(hC (aH aW)).1,_,(Cr (S:={S with T:=Jd S page (x.1-page)}) (g:=g) J).2.1,_,(hC (aH J)).1,_,(hC (aH J)).2,_,(hC (aH J)).1,?_⟩;rw[AM (n:=x.2-x.1)];refine stepG (by omega) x2 x3 (λp q1 q2=>((O p).1 ⟨x,List.mem_of_getElem? hx,q1,q2⟩).1) J λr b0 bB=> ?_;have aC:=aH bB;refine⟨(hC aC).1,(hC aC).2,_,(hC aC).2,?_⟩;rw[AF (n:=(i:Int)+1)];refine⟨⟨i+1,by omega,by omega,by show page<=x.2;omega,x3,λj q hj hq=> ?_,λj q hj hq=> ?_,aC.tail⟩,by omega⟩
  .rcases Nat.lt_or_eq_of_le (Nat.le_of_lt_succ hj)with g1|g1
   .grind
   grind
  .have:=d.lt (show i<j by omega) hx hq;omega
 .have e:i=l.length:=by omega
  subst e;refine⟨_,(Cr (S:={S with T:=Jd S page (at_-page)}) (g:=g) C).2.1,?_⟩;rw[AM (n:=page+n-at_)];refine aG aN a1 (Int.le_refl _) (λp q1 q2 hm=> ?_) C λr bL aY=> ?_
  .obtain⟨y,hy,y1,y2⟩:=(O p).2 ⟨hm,by omega,by omega⟩;obtain⟨j,hj⟩:=List.mem_iff_getElem?.1 hy
   grind
  .rw[show page+n-page=n by omega]at aY;exact hK a0 bL (Sat.heap.2 ⟨g,⟨aZ.nd,aZ.mem⟩,Sat.Pg (Ct E h (S.Eu page n) g) aY⟩)
end
def Tk(S:HS)(p n page:Int)(S1:HS):Prop:=
 dN S p n page S1∨ ∃j d,IY S p n j/\(∀q,¬Ld j.T.fr q n)/\X2 j n d/\IH d.T n page/\S1=d.Ge page n
def Je(S:HS)(page n:Int):Prop:= ∀q,page<=q->q<page+n->mem S.V.ready q
def Made(S1:HS)(page n:Int)(S2:HS):Prop:=(Je S1 page n/\S2=S1)∨(¬Je S1 page n/\(∀r,S1.V.rf≠true::r)/\S2={S1 with V:=IA S1.V page n})
def Found(S:HS)(p n page:Int)(S2:HS):Prop:= ∃S1,Tk S p n page S1/\Made S1 page n S2
def Oo(S:HS)(p n:Int)(S2:HS):Prop:=
 (∃d,IY S p n d/\(∀q,¬Ld d.T.fr q n)/\Qh d n S2)∨
 ∃S1 page r,Tk S p n page S1/\ ¬Je S1 page n/\S1.V.rf=true::r/\S2=({S1 with V:={S1.V with rf:=r}}:HS).Eu page n
section
variable{E:Env}{h:Nat}{S:HS}{Z:List Pr}{w:World}{g:HG}
def Bv.pgs{S:HS}{fl:Int->Bool}(hI:Bv S fl):0<=S.AA/\S.AA<=34359738368:=by
 rw[hI.pg];exact Tg _
def Sat.vE(H:Sat (Bh E h S::Z) w): ∃m R,w.cell? (Addr.mk h 0 none)=some (.pointer (some ⟨m,0,none⟩))/\Sat (Co E m S.V::R) w/\
  ∀{V':VS} {w'},Sat (Co E m V'::R) w'->Sat (Bh E h {S with V:=V'}::Z) w':=by
 obtain⟨g,hI,H⟩:=Sat.heap.1 H;refine⟨g.m,_,(Cr (S:=S) (g:=g) H).1,H.front 1 rfl,λ{V' w'} h'=>Sat.heap.2 ⟨g,⟨hI.nd,hI.mem⟩,?_⟩⟩;exact Sat.back (Ps:=Ct E h S g++Z) 1 h' (by simp[Ct])
def Sat.lK(H:Sat (Bh E h S::Z) w): ∃t R,w.cell? ((Addr.mk h 0 none).add 1)=some (.pointer (some ⟨t,0,none⟩))/\Sat (Bl E t S.T::R) w/\
  ∀{d:TV} {w'},Sat (Bl E t d::R) w'->Sat (Bh E h {S with T:=d}::Z) w':=by
 obtain⟨g,hI,H⟩:=Sat.heap.1 H;refine⟨g.t,_,(Cr (S:=S) (g:=g) H).2.1,H.front 2 rfl,λ{V' w'} h'=>Sat.heap.2 ⟨g,⟨hI.nd,hI.mem⟩,?_⟩⟩;exact Sat.back (Ps:=Ct E h S g++Z) 2 h' (by simp[Ct])
variable(hE:EnvA E)
include hE
theorem aC(hT: ∀w',Sat Z w'->FQ E.AJ w')(H:Sat (Bh E h S::Z) w)(hI:Bv S no){p n:Int}(n0:1<=n)(n1:n<=134217728){K:Int->Int->World->Prop}
  (bZ: ∀page S2,Found S p n page S2->Bv S2 (inr page n)->0<=page->page+n<=34359738368->Je S2 page n-> ∀w',Sat (Bh E h S2::Z) w'->K page 0 w')
  (bG: ∀S2,Oo S p n S2->Bv S2 no-> ∀w',Sat (Bh E h S2::Z) w'->K 0 13 w'):F.DX E (some ⟨h,0,none⟩) p n K w:=by
 unfold F.DX T0.DX;refine AO (vs:=[.pointer (some ⟨h,0,none⟩)]) H λb1 w2 H2 _=>AO (vs:=[.int .u64 n]) H2 λb3 w4 H4 _=>AO (vs:=[.int .i64 0]) H4 λO w6 H6 _=> ?_;have H7:=H6.front 3 rfl;have d: ∀{w'} {S':HS} {x:Int} {Y:List Pr},Sat (Bh E h S'::Cells O E.CP [.int .i64 x]::Cells b3 E.AD [.int .u64 n]::Cells b1 E.BM [.pointer (some ⟨h,0,none⟩)]::Y) w'->
   w'.cell? (Addr.mk b1 0 none)=some (.pointer (some ⟨h,0,none⟩))/\w'.cell? (Addr.mk b3 0 none)=some (.int .u64 n)/\w'.cell? (Addr.mk O 0 none)=some (.int .i64 x):=λq=>⟨(q.front 3 rfl).Af rfl,(q.front 2 rfl).Af rfl,(q.front 1 rfl).Af rfl⟩
 have aR: ∀{w'} {S':HS} {x y:Int} {Y:List Pr} {K':World->Prop},Sat (Bh E h S'::Cells O E.CP [.int .i64 x]::Cells b3 E.AD [.int .u64 n]::Cells b1 E.BM [.pointer (some ⟨h,0,none⟩)]::Y) w'->
   (∀aX,Sat (Bh E h S'::Cells O E.CP [.int .i64 y]::Cells b3 E.AD [.int .u64 n]::Cells b1 E.BM [.pointer (some ⟨h,0,none⟩)]::Y) aX->K' aX)->stCells (Addr.mk O 0 none) 0 [.int .i64 y] w' K':=λ{w' S' x y Y K'} q hq=>by
  refine CN (q.front 1 rfl) (o:=0) rfl (by simp) λaX q'=>hq aX ?_;exact q'.perm (.swap _ _ _)
 have a0: ∀{w'} {S':HS} {x:Int},Sat (Bh E h S'::Cells O E.CP [.int .i64 x]::Cells b3 E.AD [.int .u64 n]::Cells b1 E.BM [.pointer (some ⟨h,0,none⟩)]::Z) w'->Sat (Bh E h S'::Z) w':=λ{w' S' x} q=>by
  have q1:=(q.front 1 rfl).tail;have q2:=(q1.front 1 rfl).tail;exact(q2.front 1 rfl).tail
 have bX: ∀w',Sat (Cells O E.CP [.int .i64 0]::Cells b3 E.AD [.int .u64 n]::Cells b1 E.BM [.pointer (some ⟨h,0,none⟩)]::Z) w'->FQ E.AJ w':=λw' q=>hT w' q.tail.tail.tail;refine⟨_,(d H7).1,_,(d H7).2.1,?_⟩;have aQ: ∀page S1,Tk S p n page S1->Bv S1 (inr page n)->0<=page->page+n<=34359738368-> ∀x a4,Sat (Bh E h S1::Cells O E.CP [.int .i64 x]::Cells b3 E.AD [.int .u64 n]::Cells b1 E.BM [.pointer (some ⟨h,0,none⟩)]::Z) a4->
  AL (.cells #[.int .u64 0] E.AD) a4 λJ bK=>
  stCells (Addr.mk J 0 none) 0 [.int .u64 page] bK λaJ=>
  ∃a6:(Option Addr),aJ.drew.cell? (Addr.mk b1 0 none)=some (.pointer a6)/\
  NC a6 λb9=>
  ∃bL:(Option Addr),aJ.drew.cell? b9=some (.pointer bL)/\
  ∃bM:Int,aJ.drew.cell? (Addr.mk b3 0 none)=some (.int .u64 bM)/\
  F.Cn E bL page bM (λcB v=>
  v.cell? (Addr.mk b1 0 none)=some (.pointer a6)/\
  CND ((cB:Int) !=0) (
   stCells (Addr.mk O 0 none) 0 [.int .i64 13] v λcG=>
   F.BH E (some (Addr.mk O 0 none)) (some (Addr.mk b1 0 none)) (some (Addr.mk J 0 none)) (some (Addr.mk b3 0 none)) (λa5=>
    ∃bN:Int,a5.cell? (Addr.mk O 0 none)=some (.int .i64 bN)/\
    K 0 bN a5
   ) cG
  ) (
   stCells (Addr.mk O 0 none) 0 [.int .i64 0] v λaT=>
   F.BH E (some (Addr.mk O 0 none)) (some (Addr.mk b1 0 none)) (some (Addr.mk J 0 none)) (some (Addr.mk b3 0 none)) (λaU=>
    ∃aV:Int,aU.cell? (Addr.mk O 0 none)=some (.int .i64 aV)/\
    K page aV aU
   ) aT
  )
  ) aJ.drew:=by
  intro page S1 hk aD q0 q1 x a4 a8;have T:=a8.A6;refine AO (vs:=[.int .u64 0]) a8 λJ bK bQ _=>CN bQ (o:=0) rfl (by simp) λaJ bR=> ?_;have bS:Sat (Bh E h S1::Cells O E.CP [.int .i64 x]::Cells b3 E.AD [.int .u64 n]::Cells b1 E.BM [.pointer (some ⟨h,0,none⟩)]::Cells J E.AD [.int .u64 page]::Z) aJ:=bR.perm ((C0 (l:=Bh E h S1::Cells O E.CP [.int .i64 x]::Cells b3 E.AD [.int .u64 n]::Cells b1 E.BM [.pointer (some ⟨h,0,none⟩)]::Cells J E.AD [.int .u64 page]::Z) (i:=4) rfl).symm);have aW:=bS.drew;obtain⟨m,R,c0,hm,hb⟩:=aW.vE;refine⟨_,(d aW).1,?_⟩;simp only[AG];refine⟨_,c0,_,(d aW).2.1,?_⟩;have bD: ∀{w'} {S':HS} {x:Int},Sat (Bh E h S'::Cells O E.CP [.int .i64 x]::Cells b3 E.AD [.int .u64 n]::Cells b1 E.BM [.pointer (some ⟨h,0,none⟩)]::Cells J E.AD [.int .u64 page]::Z) w'->w'.cell? (Addr.mk J 0 none)=some (.int .u64 page):=λq=>(q.front 4 rfl).Af rfl;have aI: ∀{w'} {S':HS} {x:Int},Sat (Bh E h S'::Cells O E.CP [.int .i64 x]::Cells b3 E.AD [.int .u64 n]::Cells b1 E.BM [.pointer (some ⟨h,0,none⟩)]::Cells J E.AD [.int .u64 page]::Z) w'->Sat (Bh E h S'::Z) w':=λ{w' S' x} q=>by
   have q1:=(q.front 1 rfl).tail;have q2:=(q1.front 1 rfl).tail;have q3:=(q2.front 1 rfl).tail;exact(q3.front 1 rfl).tail
  have bF: ∀q,page<=q->q<page+n->inr page n q=true:=λq a b=>As.2 ⟨a,b⟩;have a1:cnt S1.V.laid page (page+n)=n:=by
   have:=(El T.vv.LM (a:=page) (b:=page+n) (by omega)).2 λq a b=>(aD.la q).2 (aD.li q (bF q a b));omega
  have aO:=El T.vv.Pj (a:=page) (b:=page+n) (by omega);have C:cnt S1.V.ready page (page+n)=n↔Je S1 page n:=⟨λe=>aO.1 (by omega),λe=>by have:=aO.2 e;omega⟩;have same:({S1 with V:=S1.V}:HS)=S1:=rfl;have aP: ∀S2 v,Made S1 page n S2->Bv S2 (inr page n)->Je S2 page n->Sat (Bh E h S2::Cells O E.CP [.int .i64 x]::Cells b3 E.AD [.int .u64 n]::Cells b1 E.BM [.pointer (some ⟨h,0,none⟩)]::Cells J E.AD [.int .u64 page]::Z) v->
    stCells (Addr.mk O 0 none) 0 [.int .i64 0] v λaT=>
    F.BH E (some (Addr.mk O 0 none)) (some (Addr.mk b1 0 none)) (some (Addr.mk J 0 none)) (some (Addr.mk b3 0 none)) (λaU=>
     ∃aV:Int,aU.cell? (Addr.mk O 0 none)=some (.int .i64 aV)/\
     K page aV aU) aT:=by
   intro S2 v b0 aH b6 aE;refine aR aE λaT aZ=> ?_;unfold F.BH T0.BH;simp only[AG];exact⟨_,(d aZ).2.2,AP rfl ⟨_,(d aZ).2.2,bZ page S2 ⟨S1,hk,b0⟩ aH q0 q1 b6 aT (aI aZ)⟩⟩
  refine commit_spec hE.toEnvS hm q0 (by omega) (by omega) (by omega) (λbE=>absurd ⟨by omega,q1⟩ bE) (λ_ hl=>absurd a1 hl) (λ_ _ hr v bI=> ?_) (λ_ _ hr r a2 v aE=> ?_) λ_ _ hr a2 v aE=> ?_
  .have aE:=aW.nothing bI;exact⟨(d aE).1,AP rfl (aP S1 v (.inl ⟨C.1 hr,rfl⟩) aD (C.1 hr) aE)⟩
  .have aM:=hb aE;refine⟨(d aM).1,AR rfl (aR aM λa5 aN=> ?_)⟩;unfold F.BH T0.BH;simp only[AG];refine⟨_,(d aN).2.2,AR rfl ⟨_,(d aN).1,_,bD aN,_,(d aN).2.1,?_⟩⟩;have aH:Bv {S1 with V:={S1.V with rf:=r}} (inr page n):=aD.pZ rfl rfl;refine aB hE aN aH q0 n0 q1 λbW cH bB=>⟨_,(d bB).2.2,?_⟩;exact bG _ (.inr ⟨S1,page,r,hk,λe=>hr (C.2 e),a2,rfl⟩) bW cH (aI bB)
  .have aM:=hb aE;have aH:Bv {S1 with V:=IA S1.V page n} (inr page n):=aD.On T q0 (by omega) q1 bF;exact⟨(d aM).1,AP rfl (aP _ v (.inr ⟨λe=>hr (C.2 e),a2,rfl⟩) aH (WC T q0 (by omega) q1) aM)⟩
 refine gI hE bX H7 hI n0 n1 (λpage S1 hg aD q0 q1 bJ aK=>AU (AP rfl λj=>aQ page S1 (.inl hg) aD q0 q1 0 bJ aK)) λS0 ht bV bH bJ aK=>AU (AR rfl ⟨_,(d aK).1,_,(d aK).2.1,?_⟩);refine aA hE aK bV n0 n1 (λbC hg aD cK cC aY=> ?_) λS2 b4 aH cC aY=> ?_
 .refine aR aY λcD aL=>⟨_,(d aL).2.2,AP rfl ?_⟩;have aG:=aL.drew;have T:=aG.A6;obtain⟨t,R,c1,b7,hb⟩:=aG.lK;refine⟨_,(d aG).1,?_⟩;simp only[AG];refine⟨_,c1,_,(d aG).2.1,?_⟩;refine TU hE.toEnvS b7 (by omega) (by omega) (λe=>by omega) (λ_ cJ w' H'=> ?_) λ_ page hf cF bP=> ?_
  .grind
  .have bA:=hb bP;exact⟨(d bA).1,λj=>aQ page (bC.Ge page n) (.inr ⟨S0,bC,ht,bH,hg,hf,rfl⟩) (aD.Ge T hf.2.2.1) hf.1 hf.2.1 0 cF bA⟩
 .refine aR aY λcD aL=>⟨_,(d aL).2.2,AR rfl ?_⟩;have aG:=aL.drew;refine⟨_,(d aG).2.2,aR aG λcE a9=>⟨_,(d a9).2.2,?_⟩⟩;exact bG S2 (.inl ⟨S0,ht,bH,b4⟩) aH cE (a0 a9)
theorem aD{page n:Int}{b:Nat}{I:SI}(H:Sat (Cz E b I::Bh E h S::Z) w)(hI:Bv S (inr page n))(p0:0<=page)(n0:1<=n)(pb:page+n<=34359738368)(hr:Je S page n)
  (i1:I.base=page*8192)(i2:I.AA=n)(i3:I.state≠0){K:Int->World->Prop}
  (hK: ∀id X,Next S id X->Bv (S.C5 id (b,I) page n X) no-> ∀w',Sat (Bh E h (S.C5 id (b,I) page n X)::Z) w'->K id w'):F.Ef E (some ⟨h,0,none⟩) (some ⟨b,0,none⟩) K w:=by
 have A6:=(H.front 1 rfl:Sat (Bh E h S::_) w).A6;have bP:=hI.fb;obtain⟨g,aF,H0⟩:=Sat.heap.1 (H.front 1 rfl:Sat (Bh E h S::Cz E b I::Z) w);unfold F.Ef T0.Ef;simp only[AG];refine⟨_,(Cr (S:=S) (g:=g) H0).2.2.2.1,?_⟩;have C: ∀id X,Next S id X-> ∀w4,Sat (Ct E h {S with fx:=X} g++(Cz E b I::Z)) w4->
   ∃x6:(Option Nat),w4.cell? ((Addr.mk h 0 none).add 4)=some (.map x6)/\
   Ve .i64 id (.pointer (some ⟨b,0,none⟩)) x6 w4 λw7=>
   F.B7 E (some ⟨b,0,none⟩) (λr8 r9 a6 a7 a8 a9 bA bB bC bD aQ=>
   AL (.cells #[.int .u64 0,.int .i64 0,.int .i64 0,.int .i64 0,.bool false,.int .i64 0,.int .i64 0,.int .i64 0,.bool false,.bool false] E.Be) aQ λd aR=>
   stCells (Addr.mk d 0 none) 0 [.int .u64 r8,.int .i64 r9,.int .i64 a6,.int .i64 a7,.bool a8,.int .i64 a9,.int .i64 bA,.int .i64 bB,.bool bC,.bool bD] aR λj=>
   ∃aS:(Option Addr),j.drew.cell? ((Addr.mk h 0 none).add 2)=some (.pointer aS)/\
   ∃aI:Int,j.drew.cell? (Addr.mk d 0 none)=some (.int .u64 aI)/\
   8192≠(0:Int)/\
   ∃aJ:Int,j.drew.cell? ((Addr.mk d 0 none).add 1)=some (.int .i64 aJ)/\
   F.Dr E aS (u64 (Int.tdiv aI 8192)) (u64 (aJ)) id (λbT v=>
   v.cell? ((Addr.mk d 0 none).add 1)=some (.int .i64 aJ)/\
   v.cell? (Addr.mk d 0 none)=some (.int .u64 aI)/\
   ∃aT:Int,v.drew.cell? ((Addr.mk h 0 none).add 70)=some (.int .u64 aT)/\
   ∃aU:Int,v.drew.cell? ((Addr.mk d 0 none).add 1)=some (.int .i64 aU)/\
   stCells ((Addr.mk h 0 none).add 70) 0 [.int .u64 (u64 (aT+(u64 (aU))))] v.drew λaH=>
   K id aH
   ) j.drew
   ) w7:=by
  intro id X hX w4 H4;obtain⟨Mf,aG,a3⟩:=hX.live A6 hI;refine⟨_,(Cr (S:={S with fx:=X}) (g:=g) H4).2.2.2.2.1,cC (H4.front 5 rfl) λw7 H7=> ?_⟩;have e:(λi=>if i=id then some (Value.pointer (some ⟨b,0,none⟩))else Du S.sp i)=Du λi=>if i=id then some (b,I)else S.sp i:=funext λi=>by
   unfold Du
   grind
  have aM:Sat (DY g.sm .i64 (λi=>if i=id then some (Value.pointer (some ⟨b,0,none⟩))else Du S.sp i)::(Ct E h {S with fx:=X} g++(Cz E b I::Z)).eraseIdx 5) w7:=H7;rw[e]at aM;have H8:Sat (Cz E b I::DY g.sm .i64 (Du λi=>if i=id then some (b,I)else S.sp i)::[Cells h E.Ac (B3 g S.hint S.AA),Co E g.m S.V,Bl E g.t S.T,CY E g.a S.ks S.own,GW E g.f X,Aa (spR E S.sp) g.ids,Aa (λi:Nat=>BU E (g.cb i) (S.ca i)) (List.range 64)]++Z) w7:=
   aM.front 8 rfl
  refine I8 H8 λaQ aW=> ?_;refine AO (vs:=[.int .u64 0,.int .i64 0,.int .i64 0,.int .i64 0,.bool false,.int .i64 0,.int .i64 0,.int .i64 0,.bool false,.bool false]) aW λd aR aX _=> ?_;refine Fp (news:=[.int .u64 I.base,.int .i64 I.AA,.int .i64 I.state,.int .i64 I.cls,.bool I.Fv,.int .i64 I.elem,.int .i64 I.AK,.int .i64 I.used,.bool I.f8,.bool I.f9]) aX rfl (by simp[Value.oneCell']) λj aB=> ?_;have aP:id∉g.ids:=λq=>(aF.mem id).1 q aG;have y:Aa (spR E S.sp) g.ids=Aa (spR E λi=>if i=id then some (b,I)else S.sp i) g.ids:=Aa.congr λi hi=>by
   unfold spR
   grind
  have O:Cz E b I=spR E (λi=>if i=id then some (b,I)else S.sp i) id:=by unfold spR;grind
  generalize hsp:(λi=>if i=id then some (b,I)else S.sp i)=sp' at aB y O;have aY:Sat (Cells d E.Be [.int .u64 I.base,.int .i64 I.AA,.int .i64 I.state,.int .i64 I.cls,.bool I.Fv,.int .i64 I.elem,.int .i64 I.AK,.int .i64 I.used,.bool I.f8,.bool I.f9]::(Ct E h {S with fx:=X,sp:=sp'} {g with ids:=id::g.ids}++Z)) j:=by
   rw[y,O]at aB;have q1:Sat (spR E sp' id::Aa (spR E sp') g.ids::[Cells d E.Be [.int .u64 I.base,.int .i64 I.AA,.int .i64 I.state,.int .i64 I.cls,.bool I.Fv,.int .i64 I.elem,.int .i64 I.AK,.int .i64 I.used,.bool I.f8,.bool I.f9],DY g.sm .i64 (Du sp'),Cells h E.Ac (B3 g S.hint S.AA),Co E g.m S.V,Bl E g.t S.T,CY E g.a S.ks S.own,GW E g.f X,Aa (λi:Nat=>BU E (g.cb i) (S.ca i)) (List.range 64)]++Z) j:=
    (aB.front 1 rfl).EM 7 rfl
   have q2:=Sat.JN.2 q1;refine q2.perm ?_;show List.Perm _ (Cells d E.Be [.int .u64 I.base,.int .i64 I.AA,.int .i64 I.state,.int .i64 I.cls,.bool I.Fv,.int .i64 I.elem,.int .i64 I.AK,.int .i64 I.used,.bool I.f8,.bool I.f9]::([Cells h E.Ac (B3 g S.hint S.AA),Co E g.m S.V,Bl E g.t S.T,CY E g.a S.ks S.own,GW E g.f X,DY g.sm .i64 (Du sp'),Aa (spR E sp') (id::g.ids),Aa (λi:Nat=>BU E (g.cb i) (S.ca i)) (List.range 64)]++Z));refine List.Perm.trans (.swap _ _ _) (.cons _ ?_);refine List.Perm.append_right (l₁:=[Aa (spR E sp') (id::g.ids),DY g.sm .i64 (Du sp'),Cells h E.Ac (B3 g S.hint S.AA),Co E g.m S.V,Bl E g.t S.T,CY E g.a S.ks S.own,GW E g.f X,Aa (λi:Nat=>BU E (g.cb i) (S.ca i)) (List.range 64)]) Z ?_;refine List.Perm.trans (.swap _ _ _) ?_;refine List.Perm.trans (List.perm_middle (a:=DY g.sm .i64 (Du sp')) (l₁:=[])|>.symm) ?_;have p1:List.Perm (DY g.sm .i64 (Du sp')::Aa (spR E sp') (id::g.ids)::([Cells h E.Ac (B3 g S.hint S.AA),Co E g.m S.V,Bl E g.t S.T,CY E g.a S.ks S.own,GW E g.f X]++[Aa (λi:Nat=>BU E (g.cb i) (S.ca i)) (List.range 64)])) ([Cells h E.Ac (B3 g S.hint S.AA),Co E g.m S.V,Bl E g.t S.T,CY E g.a S.ks S.own,GW E g.f X]++(DY g.sm .i64 (Du sp')::Aa (spR E sp') (id::g.ids)::[Aa (λi:Nat=>BU E (g.cb i) (S.ca i)) (List.range 64)])):=by
    refine List.Perm.trans (.cons _ List.perm_middle.symm) ?_;exact List.perm_middle.symm
   exact p1
  have J:=aY.drew;have hB: ∀{w'} {Y:List Pr},Sat (Cells d E.Be [.int .u64 I.base,.int .i64 I.AA,.int .i64 I.state,.int .i64 I.cls,.bool I.Fv,.int .i64 I.elem,.int .i64 I.AK,.int .i64 I.used,.bool I.f8,.bool I.f9]::Y) w'->w'.cell? (Addr.mk d 0 none)=some (.int .u64 I.base)/\w'.cell? ((Addr.mk d 0 none).add 1)=some (.int .i64 I.AA):=λq=>⟨q.Af rfl,q.cell rfl⟩;have hA:=(Cr (S:={S with fx:=X,sp:=sp'}) (g:={g with ids:=id::g.ids}) J.tail).2.2.1;refine⟨_,hA,_,(hB J).1,by decide,_,(hB J).2,?_⟩;have e1:u64 (Int.tdiv I.base 8192)=page:=by rw[i1,Int.tdiv_eq_ediv_of_nonneg (by omega),show page*8192/8192=page by omega,AM]
  have e2:u64 I.AA=n:=by rw[i2,AM]
  rw[e1,e2];have aZ:=J.front 4 rfl;refine Xp hE aZ p0 (by omega) (by omega) (by omega) ⟨by omega,by omega,pb,λq q1 q2=>(hI.ks q).2 (hI.li q (As.2 ⟨q1,q2⟩))⟩ λv a0=> ?_;have aC:Sat (Cells d E.Be [.int .u64 I.base,.int .i64 I.AA,.int .i64 I.state,.int .i64 I.cls,.bool I.Fv,.int .i64 I.elem,.int .i64 I.AK,.int .i64 I.used,.bool I.f8,.bool I.f9]::(Ct E h {S with fx:=X,sp:=sp',own:=λp=>if page<=p/\p<page+n then id else S.own p} {g with ids:=id::g.ids}++Z)) v:=
   Sat.back (Ps:=Cells d E.Be [.int .u64 I.base,.int .i64 I.AA,.int .i64 I.state,.int .i64 I.cls,.bool I.Fv,.int .i64 I.elem,.int .i64 I.AK,.int .i64 I.used,.bool I.f8,.bool I.f9]::(Ct E h {S with fx:=X,sp:=sp'} {g with ids:=id::g.ids}++Z)) 4 a0 (by simp[Ct])
  have aE:=aC.drew;have hP:=(Cr (S:={S with fx:=X,sp:=sp',own:=λp=>if page<=p/\p<page+n then id else S.own p}) (g:={g with ids:=id::g.ids}) aE.tail).2.2.2.2.2.2.1;refine⟨(hB aC).2,(hB aC).1,_,hP,_,(hB aE).2,?_⟩;rw[e2];have bQ:=hI.pg;have bO:=Tg λp=>decide (0<S.own p);show stCells _ 0 [.int .u64 (u64 (S.AA+n))] _ _;rw[AM (n:=S.AA+n)];refine Ab aE.tail (o:=0) (m:=70) rfl (by rw[Z4];decide) λaH aL=> ?_;rw[Nat.zero_add,RM]at aL;have aO:=hI.C5 A6 p0 (by omega) pb hr hX (x:=(b,I)) i1 i2 i3;refine hK id X hX aO aH (Sat.heap.2 ⟨{g with ids:=id::g.ids},⟨List.nodup_cons.2 ⟨aP,aF.nd⟩,λi=> ?_⟩,?_⟩)
  .show i∈id::g.ids↔(if i=id then some (b,I)else S.sp i)≠none;rw[List.mem_cons,aF.mem]
   grind
  .subst hsp;exact aL
 have bk: ∀{X:FX} {w'},Sat (GW E g.f X::(Ct E h S g++(Cz E b I::Z)).eraseIdx 4) w'->Sat (Ct E h {S with fx:=X} g++(Cz E b I::Z)) w':=λ{X w'} q=>Sat.back (Ps:=Ct E h S g++(Cz E b I::Z)) 4 q (by simp[Ct]);refine Zw (H0.front 4 rfl) (by omega) (λhb w4 H4=> ?_) λa r hb w4 H4=> ?_
 .exact C _ _ (.inl ⟨hb,rfl,rfl⟩) w4 (bk H4)
 .exact C _ _ (.inr ⟨a,r,hb,rfl,rfl⟩) w4 (bk H4)
theorem X3(hT: ∀w',Sat Z w'->FQ E.AJ w')(H:Sat (Bh E h S::Z) w)(hI:Bv S no){p n c:Int}{np:Bool}(n0:0<=n)(n1:n<18446744073709551616){K:Int->Int->World->Prop}
  (O:F7 0 n c-> ∀w',Sat (Bh E h S::Z) w'->K 0 1 w')
  (T: ¬F7 0 n c-> ∀S2,Oo S p n S2->Bv S2 no-> ∀w',Sat (Bh E h S2::Z) w'->K 0 13 w')
  (Y: ¬F7 0 n c-> ∀page S2 b id X,Found S p n page S2->Bv S2 (inr page n)->0<=page->page+n<=34359738368->Next S2 id X->Bv (S2.C5 id (b,Gw page n c np) page n X) no-> ∀w',Sat (Bh E h (S2.C5 id (b,Gw page n c np) page n X)::Z) w'->K id 0 w'):
  F.EH E (some ⟨h,0,none⟩) p n c np K w:=by
 unfold F.EH T0.EH;refine Te H (by decide) n0 n1 (λJ w' H'=>AR rfl (O J w' H')) λd b0 w3 H3=>AP rfl ?_;have hg:=d;unfold F7 at hg;have hn:1<=n/\n<=134217728:=by
  by_cases e:c=0
  .omega
  .have aO:=Ke (c:=c) (by omega) (by omega);omega
 refine aC hE hT H3.tail hI hn.1 hn.2 (λpage S2 hf j q0 q1 hr w6 y=>AP rfl ?_) λS2 hl j w6 y=>AR rfl (T d S2 hl j w6 y);refine Te y q0 n0 n1 (λJ w' H'=> ?_) λ_ b w9 H9=> ?_
 .exfalso;unfold F7 at J;omega
 .refine aD hE H9 j q0 hn.1 q1 hr rfl rfl (by show(1:Int)≠0;decide) λid X hX C aE v=>Y d page S2 b id X hf j q0 q1 hX C aE v
theorem aE(H:Sat (Bh E h S::Z) w)(hI:Bv S no){id:Int}{K:Int->World->Prop}(aZ:S.sp id=none->K 35 w)(a0: ∀x,S.sp id=some x->0<x.2.used->K 33 w)
  (a1: ∀x,∀a:Nat,S.sp id=some x-> ¬0<x.2.used->id=(a:Int)+1->Bv (S.free a (x.2.base/8192) x.2.AA) no-> ∀w',Sat (Bh E h (S.free a (x.2.base/8192) x.2.AA)::Z) w'->K 0 w'):
  F.C9 E (some ⟨h,0,none⟩) id K w:=by
 have A6:=H.A6;obtain⟨g,v,H⟩:=Sat.heap.1 H;unfold F.C9 T0.C9;simp only[AG];refine⟨_,(Cr (S:=S) (g:=g) H).2.2.2.2.1,S6 (H.front 5 rfl) λes _=> ?_⟩;unfold Du;cases hs:S.sp id with
 | none=>exact⟨none,rfl,AR rfl (aZ hs)⟩
 | some x=>
  refine⟨some ⟨x.1,0,none⟩,rfl,AP rfl ?_⟩;obtain⟨a,rfl,aX,aY⟩:=(hI.sf id).1 (by grind);obtain⟨k1,k2,k3,k4,k5⟩:=hI.sp _ x hs;have y:=hI.free A6 hs;have hm:(a:Int)+1∈g.ids:=(v.mem _).2 (by grind);obtain⟨i,hi⟩:=List.mem_iff_getElem?.1 hm;have H1:=(H.front 6 rfl).F0 hi;have e:spR E S.sp ((a:Int)+1)=Cz E x.1 x.2:=by unfold spR;rw[hs]
  rw[e]at H1;refine Z0 H1 (λaI=> ?_) λaA w8 H8=>AP rfl ?_
  .rcases aI with q|q
   .exact absurd q k4
   .exact AR rfl (a0 x hs q)
  refine I8 H8 λa4 aP=> ?_;have aC:=aP.tail;have a3: ∀q,x.2.base/8192<=q->q<x.2.base/8192+x.2.AA->S.own q=(a:Int)+1:=k5;have aL:=hI.ow (x.2.base/8192) (by grind);have aB:=hI.ow (x.2.base/8192+x.2.AA-1) (by grind);have l0:=A6.tv.Ju _ aL.1;have l1:=A6.tv.Ju _ aB.1;generalize hsp:(λi=>if i=(a:Int)+1 then none else S.sp i)=sp';have a2:(a:Int)+1∉g.ids.eraseIdx i:=λq=>by
   have a2:=(C0 hi).nodup_iff.1 v.nd
   grind
  have O:Aa (spR E S.sp) (g.ids.eraseIdx i)=Aa (spR E sp') (g.ids.eraseIdx i):=Aa.congr λj hj=>by
   rw[<-hsp];unfold spR
   grind
  rw[O]at aC;have C:Sat ([Cells h E.Ac (B3 g S.hint S.AA),Co E g.m S.V,Bl E g.t S.T,CY E g.a S.ks S.own,GW E g.f S.fx,DY g.sm .i64 (Du S.sp),Aa (spR E sp') (g.ids.eraseIdx i),Aa (λi:Nat=>BU E (g.cb i) (S.ca i)) (List.range 64)]++Z) a4:=
   Sat.back (Ps:=[Cells h E.Ac (B3 g S.hint S.AA),Co E g.m S.V,Bl E g.t S.T,CY E g.a S.ks S.own,GW E g.f S.fx,DY g.sm .i64 (Du S.sp),cB,Aa (λi:Nat=>BU E (g.cb i) (S.ca i)) (List.range 64)]++Z) 6 aC (by simp)
  refine AO (vs:=[.int .u64 0,.int .i64 0,.int .i64 0,.int .i64 0,.bool false,.int .i64 0,.int .i64 0,.int .i64 0,.bool false,.bool false]) C λbC bI C _=> ?_;refine Fp (news:=[.int .u64 x.2.base,.int .i64 x.2.AA,.int .i64 0,.int .i64 x.2.cls,.bool x.2.Fv,.int .i64 x.2.elem,.int .i64 x.2.AK,.int .i64 0,.bool x.2.f8,.bool x.2.f9]) C rfl (by simp[Value.oneCell']) λbJ aQ=> ?_;have d:=aQ.drew;have hh: ∀{w'} {S':HS} {Y:List Pr},Sat (Cells h E.Ac (B3 g S'.hint S'.AA)::Y) w'->w'.cell? ((Addr.mk h 0 none).add 1)=some (.pointer (some ⟨g.t,0,none⟩))/\w'.cell? ((Addr.mk h 0 none).add 2)=some (.pointer (some ⟨g.a,0,none⟩))/\w'.cell? ((Addr.mk h 0 none).add 3)=some (.pointer (some ⟨g.f,0,none⟩))/\w'.cell? ((Addr.mk h 0 none).add 4)=some (.map (some g.sm))/\w'.cell? ((Addr.mk h 0 none).add 70)=some (.int .u64 S'.AA):=λ{w' S' Y} q=>
   ⟨(Cr (S:=S') (g:=g) q).2.1,(Cr (S:=S') (g:=g) q).2.2.1,(Cr (S:=S') (g:=g) q).2.2.2.1,(Cr (S:=S') (g:=g) q).2.2.2.2.1,(Cr (S:=S') (g:=g) q).2.2.2.2.2.2.1⟩
  refine⟨_,d.Af rfl,by decide,_,d.cell rfl,_,(hh (S':=S) d.tail).2.1,?_⟩;have e1:u64 (Int.tdiv x.2.base 8192)=x.2.base/8192:=by rw[Int.tdiv_eq_ediv_of_nonneg (by omega),AM]
  have e2:u64 x.2.AA=x.2.AA:=AM;simp only[e1,e2];generalize hpg:x.2.base/8192=page at *
  generalize hn:x.2.AA=n at *
  have aR:=d.tail;refine Xp hE (aR.front 3 rfl) l0.1 (by omega) (by omega) (by omega) ⟨by omega,Int.le_refl 0,by omega,λq q1 q2=>(hI.ks q).2 (hI.ow q (by grind)).1⟩ λa5 aS=> ?_;have aD:Sat ([Cells h E.Ac (B3 g S.hint S.AA),Co E g.m S.V,Bl E g.t S.T,CY E g.a S.ks (λp=>if page<=p/\p<page+n then 0 else S.own p),GW E g.f S.fx,DY g.sm .i64 (Du S.sp),Aa (spR E sp') (g.ids.eraseIdx i),Aa (λi:Nat=>BU E (g.cb i) (S.ca i)) (List.range 64)]++Z) a5:=
   Sat.back (Ps:=[Cells h E.Ac (B3 g S.hint S.AA),Co E g.m S.V,Bl E g.t S.T,CY E g.a S.ks S.own,GW E g.f S.fx,DY g.sm .i64 (Du S.sp),Aa (spR E sp') (g.ids.eraseIdx i),Aa (λi:Nat=>BU E (g.cb i) (S.ca i)) (List.range 64)]++Z) 3 aS (by simp)
  refine⟨_,(hh (S':=S) aD).1,?_⟩;refine U0 hE.toEnvS (aD.front 2 rfl) l0.1 (by omega) (by omega) (by omega) (λhb w' H'=> ?_) (λ_ hex w' H'=> ?_) λ_ _ a6 aT=> ?_
  .exact absurd ⟨by omega,by omega,λm q1 q2=>(hI.ow m (by grind)).1⟩ hb
  .obtain⟨m,q1,q2,q3⟩:=hex;have:=(hI.ow m (by grind)).2.1
   grind
  have aF:Sat ([Cells h E.Ac (B3 g S.hint S.AA),Co E g.m S.V,Bl E g.t (S.T.Kx page n),CY E g.a S.ks (λp=>if page<=p/\p<page+n then 0 else S.own p),GW E g.f S.fx,DY g.sm .i64 (Du S.sp),Aa (spR E sp') (g.ids.eraseIdx i),Aa (λi:Nat=>BU E (g.cb i) (S.ca i)) (List.range 64)]++Z) a6:=
   Sat.back (Ps:=[Cells h E.Ac (B3 g S.hint S.AA),Co E g.m S.V,Bl E g.t S.T,CY E g.a S.ks (λp=>if page<=p/\p<page+n then 0 else S.own p),GW E g.f S.fx,DY g.sm .i64 (Du S.sp),Aa (spR E sp') (g.ids.eraseIdx i),Aa (λi:Nat=>BU E (g.cb i) (S.ca i)) (List.range 64)]++Z) 2 aT (by simp)
  refine⟨_,(hh (S':=S) aF).2.2.1,Zx (aF.front 4 rfl) aX aY λa7 aU=> ?_⟩;have aG:Sat ([Cells h E.Ac (B3 g S.hint S.AA),Co E g.m S.V,Bl E g.t (S.T.Kx page n),CY E g.a S.ks (λp=>if page<=p/\p<page+n then 0 else S.own p),GW E g.f ⟨S.fx.n,a::S.fx.bk⟩,DY g.sm .i64 (Du S.sp),Aa (spR E sp') (g.ids.eraseIdx i),Aa (λi:Nat=>BU E (g.cb i) (S.ca i)) (List.range 64)]++Z) a7:=
   Sat.back (Ps:=[Cells h E.Ac (B3 g S.hint S.AA),Co E g.m S.V,Bl E g.t (S.T.Kx page n),CY E g.a S.ks (λp=>if page<=p/\p<page+n then 0 else S.own p),GW E g.f S.fx,DY g.sm .i64 (Du S.sp),Aa (spR E sp') (g.ids.eraseIdx i),Aa (λi:Nat=>BU E (g.cb i) (S.ca i)) (List.range 64)]++Z) 4 aU (by simp)
  have aM:0<=S.AA-n/\S.AA-n<18446744073709551616:=by
   have h1:=y.pgs;rw[show(S.free a page n).AA=S.AA-n from rfl]at h1;omega
  refine⟨_,(hh (S':=S) aG).2.2.2.2,?_⟩;rw[AM (n:=S.AA-n) aM.1 aM.2];refine Ab aG (o:=0) (m:=70) rfl (by rw[Z4];decide) λbK J=> ?_;rw[Nat.zero_add,RM]at J;refine⟨_,(hh (S':={S with AA:=S.AA-n}) J).2.2.2.1,Vq (J.front 5 rfl) λaN aV=> ?_⟩;have aK:=a1 x a hs (λq=>aA (.inr q)) rfl;rw[hpg,hn]at aK;refine aK y aN (Sat.heap.2 ⟨{g with ids:=g.ids.eraseIdx i},⟨?_,λj=> ?_⟩,?_⟩)
  .exact(List.nodup_cons.1 ((C0 hi).nodup_iff.1 v.nd)).2
  .show j∈g.ids.eraseIdx i↔(if j=(a:Int)+1 then none else S.sp j)≠none;by_cases q:j=(a:Int)+1
   .grind
   .rw[if_neg q,<-v.mem];have:=(C0 hi).mem_iff (a:=j)
    grind
  .have em:(λi=>if i=(a:Int)+1 then none else Du S.sp i)=Du sp':=funext λj=>by
    rw[<-hsp];unfold Du;by_cases q:j=(a:Int)+1
    .grind
    grind
   have aH:Sat (DY g.sm .i64 (λi=>if i=(a:Int)+1 then none else Du S.sp i)::([Cells h E.Ac (B3 g S.hint (S.AA-n)),Co E g.m S.V,Bl E g.t (S.T.Kx page n),CY E g.a S.ks (λp=>if page<=p/\p<page+n then 0 else S.own p),GW E g.f ⟨S.fx.n,a::S.fx.bk⟩,DY g.sm .i64 (Du S.sp),Aa (spR E sp') (g.ids.eraseIdx i),Aa (λi:Nat=>BU E (g.cb i) (S.ca i)) (List.range 64)]++Z).eraseIdx 5) aN:=aV;rw[em]at aH;have aW:=Sat.back (Ps:=[Cells h E.Ac (B3 g S.hint (S.AA-n)),Co E g.m S.V,Bl E g.t (S.T.Kx page n),CY E g.a S.ks (λp=>if page<=p/\p<page+n then 0 else S.own p),GW E g.f ⟨S.fx.n,a::S.fx.bk⟩,DY g.sm .i64 (Du S.sp),Aa (spR E sp') (g.ids.eraseIdx i),Aa (λi:Nat=>BU E (g.cb i) (S.ca i)) (List.range 64)]++Z) 5 aH (by simp);subst hsp;exact aW
end
end Go.Sh

/- The heap: what holds of it, and what each function does to it. No further condition. -/
import Derived.Test.YtbkjmfgdoceogaaGreatDoorB
import Derived.Test.YtbkjmfgdoceogaaGreatDoorC
import Derived.Test.YtbkjmfgdoceogaaGreatDoorR
import Derived.Test.YtbkjmfgdoceogaaGreatDoorY
set_option linter.all false
set_option maxRecDepth 8000
set_option maxHeartbeats 2000000
namespace Go.Sh
theorem T7{E:Env}{w:World}{Z:List Pr}{c:Nat}{S:CS}(H:Sat (A0 E c S::Z) w){K:Int->Int->Int->World->Prop}
  (J: ∀v d j w',(S.empty->v=0/\d=0/\j=0)->(¬S.empty->v=S.base/\d=W S.has/\j=W S.rel)->Sat (A0 E c S::Z) w'->K v d j w'):F.CN E (some ⟨c,0,none⟩) K w:=
 To H (fun h=>J _ _ _ w (fun _=>⟨rfl,rfl,rfl⟩) (fun C=>absurd h C) H) fun h w' N=>J _ _ _ w' (fun C=>absurd C h) (fun _=>⟨rfl,rfl,rfl⟩) N
structure HS where
 V:VS
 T:TV
 ca:Nat->CS
 ks:Iv
 own:Int->Int
 fx:FX
 sp:Int->Option (Nat×SI)
 hint:Int
 AA:Int
structure HG where
 m:Nat
 t:Nat
 a:Nat
 f:Nat
 sm:Nat
 cb:Nat->Nat
 ids:List Int
def WN(cb:Nat->Nat):List Value:=(List.range 64).map fun i=>.pointer (some ⟨cb i,0,none⟩)
def CD(g:HG)(hint AA:Int):List Value:=.pointer (some ⟨g.m,0,none⟩):: .pointer (some ⟨g.t,0,none⟩):: .pointer (some ⟨g.a,0,none⟩):: .pointer (some ⟨g.f,0,none⟩):: .map (some g.sm)::(WN g.cb++[.int .u64 hint,.int .u64 AA])
def Ec(sp:Int->Option (Nat×SI)):Int->Option Value:=fun id=>(sp id).map fun x=>.pointer (some ⟨x.1,0,none⟩)
def Kb(E:Env)(sp:Int->Option (Nat×SI))(id:Int):Pr:=match sp id with
 | some x=>GQ E x.1 x.2
 | none=>Uo
def Cz(E:Env)(h:Nat)(S:HS)(g:HG):List Pr:=
 [Cells h E.Aa (CD g S.hint S.AA),Bf E g.m S.V,BG E g.t S.T,CP E g.a S.ks S.own,FN E g.f S.fx,Dx g.sm .i64 (Ec S.sp),Ap (Kb E S.sp) g.ids,Ap (fun i:Nat=>A0 E (g.cb i) (S.ca i)) (List.range 64)]
structure T8(S:HS)(g:HG):Prop where
 nd:g.ids.Nodup
 mem: ∀id,id∈g.ids↔S.sp id≠none
def Au(E:Env)(h:Nat)(S:HS):Pr:=Ex fun g:HG=>ID (T8 S g) (N9 (Cz E h S g))
theorem Fl(cb:Nat->Nat):(WN cb).length=64:=by simp[WN]
theorem X8(g:HG)(x y:Int){i:Nat}(d:i<64):(CD g x y)[5+i]? =some (.pointer (some ⟨g.cb i,0,none⟩)):=by
 unfold CD;rw[show 5+i=i+1+1+1+1+1 by omega];simp only[List.getElem?_cons_succ];rw[List.getElem?_append_left (by rw[Fl];exact d)];simp[WN,d]
theorem aH(g:HG)(x y:Int):(CD g x y)[69]? =some (.int .u64 x):=by
 unfold CD;rw[show 69=64+1+1+1+1+1 from rfl];simp only[List.getElem?_cons_succ];rw[List.getElem?_append_right (by rw[Fl];exact Nat.le_refl _),Fl];rfl
theorem X9(g:HG)(x y:Int):(CD g x y)[70]? =some (.int .u64 y):=by
 unfold CD;rw[show 70=65+1+1+1+1+1 from rfl];simp only[List.getElem?_cons_succ];rw[List.getElem?_append_right (by rw[Fl];decide),Fl];rfl
theorem T9(g:HG)(x y:Int):(CD g x y).length=71:=by simp[CD,Fl]
theorem UA(g:HG)(x y z:Int):(CD g x y).set 69 (.int .u64 z)=CD g z y:=by
 unfold CD;rw[show 69=64+1+1+1+1+1 from rfl];simp only[List.set_cons_succ];rw[List.set_append_right _ _ (by rw[Fl];exact Nat.le_refl _),Fl];rfl
theorem M0(g:HG)(x y z:Int):(CD g x y).set 70 (.int .u64 z)=CD g x z:=by
 unfold CD;rw[show 70=65+1+1+1+1+1 from rfl];simp only[List.set_cons_succ];rw[List.set_append_right _ _ (by rw[Fl];decide),Fl];rfl
section
variable{E:Env}{h:Nat}{S:HS}{Z:List Pr}{w:World}{g:HG}
theorem Sat.heap:Sat (Au E h S::Z) w↔ ∃g,T8 S g/\Sat (Cz E h S g++Z) w:=by
 unfold Au;rw[Sat.ex];constructor
 ·rintro⟨g,h⟩;rw[Sat.where,Sat.star]at h;exact⟨g,h⟩
 ·rintro⟨g,h⟩;refine⟨g,?_⟩;rw[Sat.where,Sat.star];exact h
theorem CC(H:Sat (Cells h E.Aa (CD g S.hint S.AA)::Z) w):
  w.cell? (Addr.mk h 0 none)=some (.pointer (some ⟨g.m,0,none⟩))/\w.cell? ((Addr.mk h 0 none).add 1)=some (.pointer (some ⟨g.t,0,none⟩))/\w.cell? ((Addr.mk h 0 none).add 2)=some (.pointer (some ⟨g.a,0,none⟩))/\
  w.cell? ((Addr.mk h 0 none).add 3)=some (.pointer (some ⟨g.f,0,none⟩))/\w.cell? ((Addr.mk h 0 none).add 4)=some (.map (some g.sm))/\w.cell? ((Addr.mk h 0 none).add 69)=some (.int .u64 S.hint)/\w.cell? ((Addr.mk h 0 none).add 70)=some (.int .u64 S.AA)/\
  ∀i,i<64->w.cell? ((Addr.mk h 0 none).add (i+5))=some (.pointer (some ⟨g.cb i,0,none⟩)):=
 ⟨H.BI rfl,H.cell rfl,H.cell rfl,H.cell rfl,H.cell rfl,H.cell (by rw[Nat.zero_add];exact aH g _ _),H.cell (by rw[Nat.zero_add];exact X9 g _ _),fun i d=>H.cell (by rw[Nat.zero_add,Nat.add_comm];exact X8 g _ _ d)⟩
theorem WO(H:Sat (Au E h S::Z) w){K:Option Addr->World->Prop}(j: ∀m R,Sat (Bf E m S.V::R) w->(∀{V':VS} {w'},Sat (Bf E m V'::R) w'->Sat (Au E h {S with V:=V'}::Z) w')->K (some ⟨m,0,none⟩) w):F.FJ E (some ⟨h,0,none⟩) K w:=by
 obtain⟨g,d,H⟩:=Sat.heap.1 H;unfold F.FJ;simp only[AI];refine⟨_,(CC (S:=S) (g:=g) H).1,j g.m _ (H.front 1 rfl) fun{V' w'} h'=>Sat.heap.2 ⟨g,⟨d.nd,d.mem⟩,?_⟩⟩;exact Sat.back (Ps:=Cz E h S g++Z) 1 h' (by simp[Cz])
theorem aI{p:Int}{K:Bool->World->Prop}(d:K (decide (0<=p/\p<64)) w):F.Jo E p K w:=by
 unfold F.Jo;refine AE (fun h=> ?_) fun h=> ?_
 ·have:decide (p<64)=decide (0<=p/\p<64):=decide_eq_decide.2 (by omega);rw[this];exact d
 ·rw[decide_eq_false (by omega)]at d;exact d
theorem Sat.VM(H:Sat (Cz E h S g++Z) w){i:Nat}(j:i<64): ∃R,Sat (A0 E (g.cb i) (S.ca i)::R) w/\ ∀{w'},Sat (A0 E (g.cb i) (S.ca i)::R) w'->Sat (Cz E h S g++Z) w':=by
 have d:(List.range 64)[i]? =some i:=List.getElem?_range j;refine⟨_,(H.front 7 rfl).IF d,fun{w'} h'=> ?_⟩;exact Sat.back (Ps:=Cz E h S g++Z) 7 (Sat.Hf h' d) (by simp[Cz])
theorem WQ(cb:Nat->Nat){i:Nat}(d:i<64):List.getD ((List.range 64).map fun i=>some (Addr.mk (cb i) 0 none)) i none=some ⟨cb i,0,none⟩:=by
 rw[List.getD_eq_getElem?_getD,List.getElem?_map,List.getElem?_range d];rfl
variable(hE:K7 E)
include hE
end
end Go.Sh
set_option linter.all false
set_option maxRecDepth 4000
set_option maxHeartbeats 1000000
namespace Go.Sh
theorem bJ{u v z:Int->Bool}: ∀n:Nat,(∀k:Int,0<=k->k<n->z k=(u k||v k))->(∀k:Int,0<=k->k<n-> ¬(u k=true/\v k=true))->cu z n=cu u n+cu v n
 | 0,_,_=>rfl
 | n+1,h1,h2=>by
  simp only[cu];rw[bJ n (fun k a b=>h1 k a (by omega)) fun k a b=>h2 k a (by omega),h1 n (by omega) (by omega)];have:=h2 n (by omega) (by omega);cases hu:u n<;>cases hv:v n
  ·simp
  ·simp;omega
  ·simp;omega
  ·exact absurd ⟨hu,hv⟩ this
theorem SX{u v:Int->Bool}: ∀n:Nat,(∀k:Int,0<=k->k<n->u k=v k)->cu u n=cu v n
 | 0,_=>rfl
 | n+1,h=>by simp only[cu];rw[SX n fun k a b=>h k a (by omega),h n (by omega) (by omega)]
def cP(f:Int->Bool):Int:=cr f 0 34359738368
theorem OZ{f g:Int->Bool}(h: ∀p,0<=p->p<34359738368->f p=g p):cP f=cP g:=by
 unfold cP cr;exact SX _ fun k a b=>h _ (by omega) (by omega)
theorem KB{f g h:Int->Bool}(d: ∀p,h p=(f p||g p))(j: ∀p,f p=true->g p=true->False):cP h=cP f+cP g:=by
 unfold cP cr;exact bJ _ (fun k _ _=>d _) fun k _ _ e=>j _ e.1 e.2
theorem GM(f:Int->Bool):0<=cP f/\cP f<=34359738368:=by
 unfold cP;exact gU f 0 (by decide)
theorem Oa{f:Int->Bool}{l:Iv}(h:Ok l)(j: ∀p,mem l p↔f p=true)(d: ∀p,f p=true->p<34359738368):cP f=CK l:=by
 unfold cP;rw[Tm h j (by decide)];exact IC h.TR fun n v=>⟨LS h v,by have:=d n ((j n).1 v);omega⟩
theorem lT{f:Int->Bool}{l:Iv}(h:Ok l)(j: ∀p,mem l p↔f p=true)(d: ∀p,f p=true->p<34359738368):NT f=cP f:=by
 rw[R4 h j,Oa h j d]
theorem Lx{f:Int->Bool}(h: ∀p,f p=false):cP f=0:=by
 unfold cP;exact Z2 fun m _ _=>h m
theorem MY{x n:Int}(h0:0<=x)(j:0<=n)(v:x+n<=34359738368):cP (inr x n)=n:=by
 by_cases e:n=0
 ·subst e;exact Lx fun p=>Ey.2 (by omega)
 ·rw[Oa (l:=[(x,x+n)]) ⟨h0,by show x<x+n;omega,by show x+n<_;omega,fun q d=>(by cases d),trivial⟩ (fun p=> ?_) fun p hp=>by have:=AU.1 hp;omega]
  ·show x+n-x+0=n;omega
  ·rw[AU,mem_cons];exact⟨fun h=>h.elim (fun h=>h) fun h=>absurd h (Ar p),fun h=>.inl h⟩
theorem Ql{f g:Int->Bool}(h: ∀p,f p=true->g p=true):cP f<=cP g:=by
 have e:cP g=cP f+cP (fun p=>g p&& !f p):=KB (fun p=>by cases hf:f p<;>cases hg:g p<;>simp;exact absurd (h p hf) (by rw[hg];decide)) fun p a b=>by rw[a]at b;simp at b
 have:=GM fun p=>g p&& !f p;omega
theorem gX{f:Int->Bool}{p:Int}(hp:f p=true)(h0:0<=p)(h1:p<34359738368):1<=cP f:=by
 have:=Ql (f:=inr p 1) (g:=f) fun q d=>by
  have:=AU.1 d;rw[show q=p by omega];exact hp
 rw[MY h0 (by decide) (by omega)]at this;exact this
theorem YA{u:Nat->Bool}{B:Int}(h0:0<=B)(h1:B+64<=34359738368):cP (fun p=>inr B 64 p&&u (p-B).toNat)=cN u 64:=by
 have key: ∀n:Nat,n<=64->cP (fun p=>inr B n p&&u (p-B).toNat)=cN u n:=by
  intro n
  induction n with
  | zero=>intro _;exact Lx fun p=>by rw[Ey.2 (by omega)];rfl
  | succ n ih=>
   intro j;simp only[cN];rw[KB (f:=fun p=>inr B n p&&u (p-B).toNat) (g:=fun p=>inr (B+n) 1 p&&u n) (fun p=> ?_) fun p a b=> ?_,ih (by omega)]
   ·have e:cP (fun p=>inr (B+n) 1 p&&u n)=((u n).toNat:Nat):=by
     cases hu:u n
     ·rw[Lx fun p=>by simp];rfl
     ·rw[show(fun p=>inr (B+n) 1 p&&true)=inr (B+n) 1 from funext fun p=>by simp,MY (by omega) (by decide) (by omega)];rfl
    rw[e];simp
   ·have e:inr B ((n+1:Nat):Int) p=(inr B n p||inr (B+n) 1 p):=by rw[Bool.eq_iff_iff,Bool.or_eq_true,AU,AU,AU];omega
    rw[e];cases h1:inr B n p
    ·cases d:inr (B+n) 1 p
     ·rfl
     ·have:=AU.1 d;rw[show(p-B).toNat=n by omega];simp
    ·have:=AU.1 h1;rw[show inr (B+n) 1 p=false from Ey.2 (by omega)];simp
   ·rw[Bool.and_eq_true]at a b;have h1:=AU.1 a.1;have d:=AU.1 b.1;omega
 exact key 64 (Nat.le_refl _)
def LA:Iv->Iv
 | []=>[]
 | p::r=>(p.1*512,p.2*512)::LA r
theorem Ob{q:Int×Int}: ∀{l:Iv},q∈LA l-> ∃p∈l,q=(p.1*512,p.2*512)
 | p::r,h=>by
  rcases List.mem_cons.1 h with h|h
  ·exact⟨p,List.mem_cons_self,h⟩
  ·obtain⟨d,h1,j⟩:=Ob h;exact⟨d,List.mem_cons_of_mem _ h1,j⟩
theorem Pt: ∀{l:Iv},Ok l->(∀q∈l,q.2<=67108864)->Ok (LA l)
 | [],_,_=>trivial
 | p::r,h,hb=>by
  obtain⟨h0,h1,K,C,J⟩:=h;have:=hb p List.mem_cons_self;refine⟨by show 0<=p.1*512;omega,by show p.1*512<p.2*512;omega,by show p.2*512<_;omega,fun q d=> ?_,Pt J fun q d=>hb q (List.mem_cons_of_mem _ d)⟩;obtain⟨j,v,rfl⟩:=Ob d;have:=C j v;show p.2*512<j.1*512;omega
theorem UB{l:Iv}{p:Int}:mem (LA l) p↔mem l (p/512):=by
 induction l with
 | nil=>exact⟨fun h=>absurd h (Ar _),fun h=>absurd h (Ar _)⟩
 | cons q r ih=>
  show mem ((q.1*512,q.2*512)::LA r) p↔_;rw[mem_cons,mem_cons,ih];show(q.1*512<=p/\p<q.2*512)∨_↔_;have:(q.1*512<=p/\p<q.2*512)↔(q.1<=p/512/\p/512<q.2):=by omega
  rw[this]
theorem UC(l:Iv):CK (LA l)=CK l*512:=by
 induction l with
 | nil=>rfl
 | cons q r ih=>
  show q.2*512-q.1*512+CK (LA r)=(q.2-q.1+CK r)*512;rw[ih];omega
theorem WR{ks:Iv}(h:Ok ks){f:Int->Bool}(hf: ∀p,mem ks (p/512)↔f p=true)(d: ∀p,f p=true->p<34359738368):cP f=CK ks*512:=by
 rw[<-UC];refine Oa (Pt h fun q j=> ?_) (fun p=>UB.trans (hf p)) d;have h1:=h.mem j;have:=d ((q.2-1)*512) ((hf _).1 ⟨q,j,by omega,by omega⟩);omega
end Go.Sh
set_option linter.all false
set_option maxRecDepth 8000
set_option maxHeartbeats 2000000
namespace Go.Sh
def no:Int->Bool:=fun _=>false
theorem bK{f:Nat->Bool}:(List.range 64).any f=true↔ ∃i,i<64/\f i=true:=by
 rw[List.any_eq_true];exact⟨fun⟨i,h1,h2⟩=>⟨i,List.mem_range.1 h1,h2⟩,fun⟨i,h1,h2⟩=>⟨i,List.mem_range.2 h1,h2⟩⟩
def HS.I5(S:HS)(p:Int):Bool:=(List.range 64).any fun i=>(S.ca i).own p
def HS.gone(S:HS)(p:Int):Bool:=S.T.rl p||(List.range 64).any fun i=>(S.ca i).Ll p
theorem Dq{S:HS}{p:Int}:S.I5 p=true↔ ∃i,i<64/\(S.ca i).own p=true:=bK
theorem DX{S:HS}{p:Int}:S.gone p=true↔S.T.rl p=true∨ ∃i,i<64/\(S.ca i).Ll p=true:=by
 unfold HS.gone;rw[Bool.or_eq_true,bK]
structure E9(S:HS):Prop where
 tv:K1 S.T
 vv:MX S.V
 ci: ∀i,i<64->Lk (S.ca i)
 ok:Ok S.ks
 fx:SQ S.fx
theorem Sat.BH{E:Env}{h:Nat}{S:HS}{Z:List Pr}{w:World}(H:Sat (Au E h S::Z) w):E9 S:=by
 obtain⟨g,j,H⟩:=Sat.heap.1 H;refine⟨(H.front 2 rfl).lQ,(H.front 1 rfl).rX,fun i d=> ?_,(H.front 3 rfl).aE,?_⟩
 ·obtain⟨R,h1,_⟩:=H.VM d;exact(Sat.cache.1 h1).1
 ·obtain⟨_,_,_,h1,_⟩:=Sat.fix.1 (H.front 4 rfl);exact h1
structure Ag(S:HS)(fl:Int->Bool):Prop where
 cr: ∀i,i<64-> ∀p,(S.ca i).own p=true->S.T.Fb p=true/\S.T.fr p=false/\S.own p=0/\fl p=false
 cd: ∀i j p,i<64->j<64->(S.ca i).own p=true->(S.ca j).own p=true->i=j
 fn: ∀p,S.T.fr p=true->S.own p=0/\fl p=false
 ow: ∀p,0<S.own p->S.T.Fb p=true/\S.T.fr p=false/\fl p=false/\ ∃x,S.sp (S.own p)=some x/\x.2.base/8192<=p/\p<x.2.base/8192+x.2.AA
 o0: ∀p,0<=S.own p
 li: ∀p,fl p=true->S.T.Fb p=true
 cv: ∀p,S.T.Fb p=true->S.T.fr p=true∨S.I5 p=true∨0<S.own p∨fl p=true
 ks: ∀p,mem S.ks (p/512)↔S.T.Fb p=true
 la: ∀p,mem S.V.laid p↔S.T.Fb p=true
 rd: ∀p,fl p=false->(mem S.V.ready p↔S.T.Fb p=true/\S.gone p=false)
 sp: ∀id x,S.sp id=some x->0<id/\x.2.base %8192=0/\0<x.2.AA/\x.2.state≠0/\ ∀p,x.2.base/8192<=p->p<x.2.base/8192+x.2.AA->S.own p=id
 sf: ∀id,S.sp id≠none↔ ∃a:Nat,id=(a:Int)+1/\a<S.fx.n/\a∉S.fx.bk
 fb:S.fx.n<=34359738368
 pg:S.AA=cP fun p=>decide (0<S.own p)
 h0:0<=S.hint
 h1:S.hint<=34359738368
theorem Ly{C:CS}{p:Int}:C.own p=true↔(C.base<=p/\p<C.base+64)/\C.has (p-C.base).toNat=true:=by
 unfold CS.own;rw[Bool.and_eq_true,AU]
theorem Lz{C:CS}{p:Int}:C.Ll p=true↔(C.base<=p/\p<C.base+64)/\C.rel (p-C.base).toNat=true:=by
 unfold CS.Ll;rw[Bool.and_eq_true,AU]
theorem HD{C:CS}(h:Lk C){p:Int}(hp:C.Ll p=true):C.own p=true:=by
 rw[Lz]at hp;exact Ly.2 ⟨hp.1,h.rh _ hp.2⟩
theorem L0{C:CS}(h:C.empty)(p:Int):C.own p=false:=by
 unfold CS.own;rw[h];simp
theorem VN(p:Int):CS.nil.own p=false:=L0 (fun _=>rfl) p
theorem DK{b:Bool}(h: ¬b=true):b=false:=by cases b;rfl;exact absurd rfl h
theorem CJ{b:Bool}(h:b=false): ¬b=true:=by rw[h];decide
theorem KR{T:TV}{x n p:Int}:(T.take x n).fr p=true↔T.fr p=true/\ ¬(x<=p/\p<x+n):=by
 show(T.fr p&& !inr x n p)=true↔_;rw[Bool.and_eq_true,<-AU];cases inr x n p<;>simp
theorem L1{T:TV}{x n p:Int}:(T.take x n).rl p=true↔T.rl p=true/\ ¬(x<=p/\p<x+n):=by
 show(T.rl p&& !inr x n p)=true↔_;rw[Bool.and_eq_true,<-AU];cases inr x n p<;>simp
def filled(T:TV)(q:Int):CS:=⟨q/64*64,fun i=>decide (i<64)&&T.fr (q/64*64+i),fun i=>decide (i<64)&&T.rl (q/64*64+i)⟩
def HS.lU(S:HS)(i:Nat)(c:CS):HS:={S with ca:=fun j=>if j=i then c else S.ca j}
def HS.fill(S:HS)(i:Nat)(q:Int):HS:={S with T:=S.T.take (q/64*64) 64,ca:=fun j=>if j=i then filled S.T q else S.ca j}
theorem Oc{T:TV}{q p:Int}:(filled T q).own p=true↔(q/64*64<=p/\p<q/64*64+64)/\T.fr p=true:=by
 rw[Ly];show(q/64*64<=p/\p<q/64*64+64)/\(decide _&&T.fr _)=true↔_;constructor
 ·rintro⟨h1,d⟩;rw[Bool.and_eq_true]at d;have j:=d.2;have e:q/64*64+((p-q/64*64).toNat:Int)=p:=by omega
  refine⟨h1,?_⟩;rw[<-e];exact j
 ·rintro⟨h1,d⟩;refine⟨h1,?_⟩;rw[Bool.and_eq_true];have e:q/64*64+((p-q/64*64).toNat:Int)=p:=by omega
  exact⟨decide_eq_true (show(p-q/64*64).toNat<64 by omega),by show T.fr (q/64*64+((p-q/64*64).toNat:Int))=true;rw[e];exact d⟩
theorem M1{T:TV}{q p:Int}:(filled T q).Ll p=true↔(q/64*64<=p/\p<q/64*64+64)/\T.rl p=true:=by
 rw[Lz];show(q/64*64<=p/\p<q/64*64+64)/\(decide _&&T.rl _)=true↔_;constructor
 ·rintro⟨h1,d⟩;rw[Bool.and_eq_true]at d;have j:=d.2;have e:q/64*64+((p-q/64*64).toNat:Int)=p:=by omega
  refine⟨h1,?_⟩;rw[<-e];exact j
 ·rintro⟨h1,d⟩;refine⟨h1,?_⟩;rw[Bool.and_eq_true];have e:q/64*64+((p-q/64*64).toNat:Int)=p:=by omega
  exact⟨decide_eq_true (show(p-q/64*64).toNat<64 by omega),by show T.rl (q/64*64+((p-q/64*64).toNat:Int))=true;rw[e];exact d⟩
variable{S:HS}{fl:Int->Bool}
theorem Ag.fill(d:Ag S no)(hk:E9 S){i:Nat}(hi:i<64)(he:(S.ca i).empty)(q:Int):Ag (S.fill i q) no:=by
 have C: ∀p,(S.T.take (q/64*64) 64).fr p=true↔S.T.fr p=true/\ ¬(q/64*64<=p/\p<q/64*64+64):=fun p=>KR;have N: ∀p,(S.T.take (q/64*64) 64).rl p=true↔S.T.rl p=true/\ ¬(q/64*64<=p/\p<q/64*64+64):=fun p=>L1;have v: ∀j p,((S.fill i q).ca j).own p=true->(j=i/\(q/64*64<=p/\p<q/64*64+64)/\S.T.fr p=true)∨(j≠i/\(S.ca j).own p=true):=fun j p h=>by
  have h:(if j=i then filled S.T q else S.ca j).own p=true:=h;by_cases e:j=i
  ·rw[if_pos e]at h;exact .inl ⟨e,Oc.1 h⟩
  ·rw[if_neg e]at h;exact .inr ⟨e,h⟩
 have e1:(S.fill i q).ca i=filled S.T q:=if_pos rfl;have e2: ∀j,j≠i->(S.fill i q).ca j=S.ca j:=fun j h=>if_neg h;refine⟨fun j J p hp=> ?_,fun a b p ha hb h1 Y=> ?_,fun p hp=>d.fn p ((C p).1 hp).1,fun p hp=> ?_,d.o0,fun p hp=>(by cases hp),fun p hp=> ?_,d.ks,d.la,fun p _=> ?_,d.sp,d.sf,d.fb,d.pg,d.h0,d.h1⟩
 ·rcases v j p hp with ⟨_,h1,Y⟩|⟨e,h1⟩
  ·exact⟨hk.tv.fi p Y,DK fun h=>((C p).1 h).2 h1,(d.fn p Y).1,rfl⟩
  ·obtain⟨K,O,g3,g4⟩:=d.cr j J p h1;exact⟨K,DK fun h=>(CJ O) ((C p).1 h).1,g3,g4⟩
 ·rcases v a p h1 with ⟨ea,K,O⟩|⟨ea,K⟩<;>rcases v b p Y with ⟨eb,k1,k2⟩|⟨eb,k1⟩
  ·omega
  ·exact absurd O (CJ (d.cr b hb p k1).2.1)
  ·exact absurd k2 (CJ (d.cr a ha p K).2.1)
  ·exact d.cd a b p ha hb K k1
 ·obtain⟨K,O,g3,g4⟩:=d.ow p hp;exact⟨K,DK fun h=>(CJ O) ((C p).1 h).1,g3,g4⟩
 ·rcases d.cv p hp with h|h|h|h
  ·by_cases g:q/64*64<=p/\p<q/64*64+64
   ·refine .inr (.inl (Dq.2 ⟨i,hi,?_⟩));rw[e1];exact Oc.2 ⟨g,h⟩
   ·exact .inl ((C p).2 ⟨h,g⟩)
  ·obtain⟨j,J,h⟩:=Dq.1 h;refine .inr (.inl (Dq.2 ⟨j,J,?_⟩));rw[e2 j fun e=>by rw[e,L0 he]at h;cases h];exact h
  ·exact .inr (.inr (.inl h))
  ·exact .inr (.inr (.inr h))
 ·have e0:=d.rd p rfl;have:(S.fill i q).gone p=S.gone p:=by
   rw[Bool.eq_iff_iff,DX,DX];constructor
   ·rintro(h|⟨j,J,h⟩)
    ·exact .inl ((N p).1 h).1
    ·by_cases e:j=i
     ·rw[e,e1]at h;exact .inl (M1.1 h).2
     ·rw[e2 j e]at h;exact .inr ⟨j,J,h⟩
   ·rintro(h|⟨j,J,h⟩)
    ·by_cases g:q/64*64<=p/\p<q/64*64+64
     ·refine .inr ⟨i,hi,?_⟩;rw[e1];exact M1.2 ⟨g,h⟩
     ·exact .inl ((N p).2 ⟨h,g⟩)
    ·refine .inr ⟨j,J,?_⟩;rw[e2 j fun e=>by have:=HD (hk.ci j J) h;rw[e,L0 he]at this;cases this];exact h
  rw[this];exact e0
def HS.FA(S:HS)(i k n:Nat):HS:=S.lU i ((S.ca i).alloc k n)
def HS.DA(S:HS)(page n:Int):HS:={S with T:=S.T.take page n}
theorem Pu{C:CS}{k n:Nat}{p:Int}(J:k+n<=64):(C.alloc k n).own p=true↔C.own p=true/\ ¬(C.base+k<=p/\p<C.base+k+n):=by
 rw[Ly,Ly];show(C.base<=p/\p<C.base+64)/\(C.has (p-C.base).toNat&& !(decide (k<=(p-C.base).toNat)&&decide ((p-C.base).toNat<k+n)))=true↔_;constructor
 ·rintro⟨h1,d⟩;rw[Bool.and_eq_true]at d;refine⟨⟨h1,d.1⟩,fun v=> ?_⟩;have j:=d.2;rw[decide_eq_true (show k<=(p-C.base).toNat by omega),decide_eq_true (show(p-C.base).toNat<k+n by omega)]at j;cases j
 ·rintro⟨⟨h1,d⟩,v⟩;refine⟨h1,?_⟩;rw[Bool.and_eq_true];refine⟨d,?_⟩;by_cases g:k<=(p-C.base).toNat
  ·rw[decide_eq_false (show ¬(p-C.base).toNat<k+n by omega)];simp
  ·rw[decide_eq_false g];rfl
theorem Od{C:CS}{k n:Nat}{p:Int}(J:k+n<=64):(C.alloc k n).Ll p=true↔C.Ll p=true/\ ¬(C.base+k<=p/\p<C.base+k+n):=by
 rw[Lz,Lz];show(C.base<=p/\p<C.base+64)/\(C.rel (p-C.base).toNat&& !(decide (k<=(p-C.base).toNat)&&decide ((p-C.base).toNat<k+n)))=true↔_;constructor
 ·rintro⟨h1,d⟩;rw[Bool.and_eq_true]at d;refine⟨⟨h1,d.1⟩,fun v=> ?_⟩;have j:=d.2;rw[decide_eq_true (show k<=(p-C.base).toNat by omega),decide_eq_true (show(p-C.base).toNat<k+n by omega)]at j;cases j
 ·rintro⟨⟨h1,d⟩,v⟩;refine⟨h1,?_⟩;rw[Bool.and_eq_true];refine⟨d,?_⟩;by_cases g:k<=(p-C.base).toNat
  ·rw[decide_eq_false (show ¬(p-C.base).toNat<k+n by omega)];simp
  ·rw[decide_eq_false g];rfl
theorem Ag.FA(d:Ag S no)(hk:E9 S){i:Nat}(hi:i<64){k n:Nat}(hr:GJ (S.ca i).has k n)(C:k+n<=64):Ag (S.FA i k n) (inr ((S.ca i).base+k) n):=by
 have J: ∀p,(S.ca i).base+k<=p->p<(S.ca i).base+k+n->(S.ca i).own p=true:=fun p h1 O=>by
  refine Ly.2 ⟨by omega,?_⟩;have:=hr ((p-(S.ca i).base).toNat-k) (by omega);rwa[show k+((p-(S.ca i).base).toNat-k)=(p-(S.ca i).base).toNat by omega]at this
 have N:(S.FA i k n).ca i=(S.ca i).alloc k n:=if_pos rfl;have Y: ∀j,j≠i->(S.FA i k n).ca j=S.ca j:=fun j h=>if_neg h;have v: ∀j p,((S.FA i k n).ca j).own p=true->(S.ca j).own p=true/\(j=i-> ¬((S.ca i).base+k<=p/\p<(S.ca i).base+k+n)):=fun j p h=>by
  by_cases e:j=i
  ·subst e;rw[N,Pu C]at h;exact⟨h.1,fun _=>h.2⟩
  ·rw[Y j e]at h;exact⟨h,fun g=>absurd g e⟩
 refine⟨fun j K p hp=> ?_,fun a b p ha hb h1 O=>d.cd a b p ha hb (v a p h1).1 (v b p O).1,fun p hp=> ?_,fun p hp=> ?_,d.o0,fun p hp=> ?_,fun p hp=> ?_,d.ks,d.la,fun p hp=> ?_,d.sp,d.sf,d.fb,d.pg,d.h0,d.h1⟩
 ·obtain⟨h1,O⟩:=v j p hp;obtain⟨g1,g2,g3,g4⟩:=d.cr j K p h1;refine⟨g1,g2,g3,Ey.2 fun h=> ?_⟩;have:=d.cd j i p K hi h1 (J p h.1 h.2);exact O this h
 ·exact⟨(d.fn p hp).1,Ey.2 fun h=>by have:=(d.cr i hi p (J p h.1 h.2)).2.1;rw[show S.T.fr p=true from hp]at this;cases this⟩
 ·obtain⟨g1,g2,g3,g4⟩:=d.ow p hp;exact⟨g1,g2,Ey.2 fun h=>by have:=(d.cr i hi p (J p h.1 h.2)).2.2.1;have hp:0<S.own p:=hp;omega,g4⟩
 ·have h:=AU.1 hp;exact(d.cr i hi p (J p h.1 h.2)).1
 ·rcases d.cv p hp with h|h|h|h
  ·exact .inl h
  ·obtain⟨j,K,h⟩:=Dq.1 h;by_cases g:(S.ca i).base+k<=p/\p<(S.ca i).base+k+n
   ·exact .inr (.inr (.inr (AU.2 g)))
   ·refine .inr (.inl (Dq.2 ⟨j,K,?_⟩));by_cases e:j=i
    ·subst e;rw[N,Pu C];exact⟨h,g⟩
    ·rw[Y j e];exact h
  ·exact .inr (.inr (.inl h))
  ·cases h
 ·have hp:=Ey.1 hp;have e:=d.rd p rfl;have:(S.FA i k n).gone p=S.gone p:=by
   rw[Bool.eq_iff_iff,DX,DX];constructor
   ·rintro(h|⟨j,K,h⟩)
    ·exact .inl h
    ·refine .inr ⟨j,K,?_⟩;by_cases e:j=i
     ·subst e;rw[N,Od C]at h;exact h.1
     ·rw[Y j e]at h;exact h
   ·rintro(h|⟨j,K,h⟩)
    ·exact .inl h
    ·refine .inr ⟨j,K,?_⟩;by_cases e:j=i
     ·subst e;rw[N,Od C];exact⟨h,hp⟩
     ·rw[Y j e];exact h
  rw[this];exact e
theorem Ag.DA(d:Ag S no)(hk:E9 S){page n:Int}(K:Gb S.T.fr page n):Ag (S.DA page n) (inr page n):=by
 have v: ∀p,(S.T.take page n).fr p=true↔S.T.fr p=true/\ ¬(page<=p/\p<page+n):=fun p=>KR;have C: ∀p,(S.T.take page n).rl p=true↔S.T.rl p=true/\ ¬(page<=p/\p<page+n):=fun p=>L1;refine⟨fun j hj p hp=> ?_,d.cd,fun p hp=> ?_,fun p hp=> ?_,d.o0,fun p hp=> ?_,fun p hp=> ?_,d.ks,d.la,fun p hp=> ?_,d.sp,d.sf,d.fb,d.pg,d.h0,d.h1⟩
 ·obtain⟨N,J,O,Y⟩:=d.cr j hj p hp;exact⟨N,DK fun h=>(CJ J) ((v p).1 h).1,O,Ey.2 fun h=>(CJ J) (K p h.1 h.2)⟩
 ·obtain⟨h1,h2⟩:=(v p).1 hp;exact⟨(d.fn p h1).1,Ey.2 h2⟩
 ·obtain⟨N,J,O,Y⟩:=d.ow p hp;exact⟨N,DK fun h=>(CJ J) ((v p).1 h).1,Ey.2 fun h=>(CJ J) (K p h.1 h.2),Y⟩
 ·have h:=AU.1 hp;exact hk.tv.fi p (K p h.1 h.2)
 ·rcases d.cv p hp with h|h|h|h
  ·by_cases g:page<=p/\p<page+n
   ·exact .inr (.inr (.inr (AU.2 g)))
   ·exact .inl ((v p).2 ⟨h,g⟩)
  ·exact .inr (.inl h)
  ·exact .inr (.inr (.inl h))
  ·cases h
 ·have hp:=Ey.1 hp;have e:=d.rd p rfl;have:(S.DA page n).gone p=S.gone p:=by
   rw[Bool.eq_iff_iff,DX,DX];constructor
   ·rintro(h|h)
    ·exact .inl ((C p).1 h).1
    ·exact .inr h
   ·rintro(h|h)
    ·exact .inl ((C p).2 ⟨h,hp⟩)
    ·exact .inr h
  rw[this];exact e
theorem Ag.aJ(d:Ag S fl){V:VS}(h1:V.laid=S.V.laid)(j:V.ready=S.V.ready):Ag {S with V:=V} fl:=
 ⟨d.cr,d.cd,d.fn,d.ow,d.o0,d.li,d.cv,d.ks,fun p=>by rw[<-d.la,<-h1],fun p hp=>(show _=_ from congrArg (fun l=>Go.Sh.mem l p) j)▸d.rd p hp,d.sp,d.sf,d.fb,d.pg,d.h0,d.h1⟩
theorem Ag.LB(d:Ag S fl)(C:E9 S){page n:Int}(h0:0<=page)(J:0<n)(K:page+n<=34359738368)(j: ∀p,page<=p->p<page+n->fl p=true):Ag {S with V:=FY S.V page n} fl:=by
 have v: ∀p,Go.Sh.mem (Bk S.V.ready page (page+n)) p↔Go.Sh.mem S.V.ready p∨(page<=p/\p<page+n):=fun p=>Bo C.vv.IT (by omega) h0 (by omega) p;refine⟨d.cr,d.cd,d.fn,d.ow,d.o0,d.li,d.cv,d.ks,d.la,fun p hp=> ?_,d.sp,d.sf,d.fb,d.pg,d.h0,d.h1⟩;refine Iff.trans (v p) ?_;refine Iff.trans ⟨fun h=>h.elim (fun h=>h) fun h=> ?_,fun h=>.inl h⟩ (d.rd p hp);have:=j p h.1 h.2;rw[hp]at this;cases this
theorem Qm(j:E9 S){page n:Int}(h0:0<=page)(v:0<n)(C:page+n<=34359738368): ∀p,page<=p->p<page+n->mem (FY S.V page n).ready p:=fun p h1 d=>
 (Bo j.vv.IT (by omega) h0 (by omega) p).2 (.inr ⟨h1,d⟩)
def HS.grown(S:HS)(V:VS)(at_ N:Int):HS:={S with V:=V,T:=S.T.grow (at_/512) (N/512),ks:=Bk S.ks (at_/512) ((at_+N)/512),hint:=at_+N}
theorem Ag.grown(d:Ag S no)(hk:E9 S){V:VS}{at_ N:Int}(h0:0<=at_)(hn:0<N)(hb:at_+N<=34359738368)(m1:at_ %512=0)(m2:N %512=0)(K: ∀p,at_<=p->p<at_+N->S.T.Fb p=false)
  (hl:V.laid=Bk S.V.laid at_ (at_+N))(hr:V.ready=S.V.ready):Ag (S.grown V at_ N) no:=by
 have ma: ∀p,Go.Sh.mem (Bk S.V.laid at_ (at_+N)) p↔Go.Sh.mem S.V.laid p∨(at_<=p/\p<at_+N):=fun p=>Bo hk.vv.Gz (by omega) h0 (by omega) p;have mk: ∀p,Go.Sh.mem (Bk S.ks (at_/512) ((at_+N)/512)) p↔Go.Sh.mem S.ks p∨(at_/512<=p/\p<(at_+N)/512):=fun p=>Bo hk.ok (by omega) (by omega) (by omega) p;have e: ∀p,inr (at_/512*512) (N/512*512) p=true↔at_<=p/\p<at_+N:=fun p=>by rw[AU];omega
 have v: ∀p,(S.grown V at_ N).T.Fb p=true↔S.T.Fb p=true∨(at_<=p/\p<at_+N):=fun p=>by
  show(S.T.Fb p||inr (at_/512*512) (N/512*512) p)=true↔_;rw[Bool.or_eq_true,e]
 have C: ∀p,(S.grown V at_ N).T.fr p=true↔S.T.fr p=true∨(at_<=p/\p<at_+N):=fun p=>by
  show(S.T.fr p||inr (at_/512*512) (N/512*512) p)=true↔_;rw[Bool.or_eq_true,e]
 have Y: ∀p,(S.grown V at_ N).T.rl p=true↔S.T.rl p=true∨(at_<=p/\p<at_+N):=fun p=>by
  show(S.T.rl p||inr (at_/512*512) (N/512*512) p)=true↔_;rw[Bool.or_eq_true,e]
 have J: ∀p,S.T.Fb p=true-> ¬(at_<=p/\p<at_+N):=fun p h g=>by rw[K p g.1 g.2]at h;cases h
 refine⟨fun j hj p hp=> ?_,d.cd,fun p hp=> ?_,fun p hp=> ?_,d.o0,fun p hp=>(by cases hp),fun p hp=> ?_,fun p=> ?_,fun p=> ?_,fun p hp=> ?_,d.sp,d.sf,d.fb,d.pg,by show 0<=at_+N;omega,hb⟩
 ·obtain⟨O,g2,g3,g4⟩:=d.cr j hj p hp;exact⟨(v p).2 (.inl O),DK fun h=>((C p).1 h).elim (CJ g2) (J p O),g3,g4⟩
 ·rcases(C p).1 hp with h|h
  ·exact d.fn p h
  ·refine⟨?_,rfl⟩;have:=d.o0 p;have: ¬0<S.own p:=fun g=>J p (d.ow p g).1 h;show S.own p=0;omega
 ·obtain⟨O,g2,g3,g4⟩:=d.ow p hp;exact⟨(v p).2 (.inl O),DK fun h=>((C p).1 h).elim (CJ g2) (J p O),g3,g4⟩
 ·rcases(v p).1 hp with h|h
  ·rcases d.cv p h with h|h|h|h
   ·exact .inl ((C p).2 (.inl h))
   ·exact .inr (.inl h)
   ·exact .inr (.inr (.inl h))
   ·exact .inr (.inr (.inr h))
  ·exact .inl ((C p).2 (.inr h))
 ·rw[v,<-d.ks p];refine(mk (p/512)).trans ?_;have:(at_/512<=p/512/\p/512<(at_+N)/512)↔(at_<=p/\p<at_+N):=by omega
  rw[this]
 ·rw[v,<-d.la p];show Go.Sh.mem V.laid p↔_;rw[hl];exact ma p
 ·show Go.Sh.mem V.ready p↔_;rw[hr,d.rd p rfl,v];have key:(S.grown V at_ N).gone p=true↔S.gone p=true∨(at_<=p/\p<at_+N):=by
   rw[DX,DX,Y];exact⟨fun h=>h.elim (fun h=>h.elim (fun h=>.inl (.inl h)) .inr) fun h=>.inl (.inr h),fun h=>h.elim (fun h=>h.elim (fun h=>.inl (.inl h)) .inr) fun h=>.inl (.inr h)⟩
  constructor
  ·rintro⟨h1,h2⟩;exact⟨.inl h1,DK fun h=>(key.1 h).elim (CJ h2) (J p h1)⟩
  ·rintro⟨h1,h2⟩;have h3:=fun h=>(CJ h2) (key.2 h);rcases h1 with h1|h1
   ·exact⟨h1,DK fun h=>h3 (.inl h)⟩
   ·exact absurd (.inr h1) h3
end Go.Sh
set_option linter.all false
set_option maxRecDepth 8000
set_option maxHeartbeats 2000000
namespace Go.Sh
variable{S:HS}{fl:Int->Bool}
theorem Ag.Kj(d:Ag S fl)(J:E9 S){p:Int}(hp:fl p=true):S.T.fr p=false/\S.T.rl p=false/\S.own p=0/\S.gone p=false/\S.I5 p=false:=by
 have h1:S.T.fr p=false:=DK fun h=>(CJ (d.fn p h).2) hp;have v:S.T.rl p=false:=DK fun h=>(CJ h1) (J.tv.rf p h);have C:S.I5 p=false:=DK fun h=>by
  obtain⟨i,j,h⟩:=Dq.1 h;exact(CJ (d.cr i j p h).2.2.2) hp
 refine⟨h1,v,?_,DK fun h=> ?_,C⟩
 ·have:=d.o0 p;have: ¬0<S.own p:=fun h=>(CJ (d.ow p h).2.2.1) hp;omega
 ·rcases DX.1 h with h|⟨i,j,h⟩
  ·exact(CJ v) h
  ·exact(CJ C) (Dq.2 ⟨i,j,HD (J.ci i j) h⟩)
theorem Ag.gY(j:Ag S fl)(J:E9 S){p:Int}(hp:0<S.own p):S.T.rl p=false/\S.gone p=false/\S.I5 p=false:=by
 obtain⟨N,K,O,_⟩:=j.ow p hp;have C:S.T.rl p=false:=DK fun h=>(CJ K) (J.tv.rf p h);have v:S.I5 p=false:=DK fun h=>by
  obtain⟨i,d,h⟩:=Dq.1 h;have:=(j.cr i d p h).2.2.1;omega
 refine⟨C,DK fun h=> ?_,v⟩;rcases DX.1 h with h|⟨i,d,h⟩
 ·exact(CJ C) h
 ·exact(CJ v) (Dq.2 ⟨i,d,HD (J.ci i d) h⟩)
theorem Ag.ready(d:Ag S fl)(C:E9 S){p:Int}(hp:0<S.own p):mem S.V.ready p:=by
 obtain⟨j,J,v,_⟩:=d.ow p hp;exact(d.rd p v).2 ⟨j,(d.gY C hp).2.1⟩
def HS.DU(S:HS)(page n:Int):HS:={S with T:=⟨S.T.Fb,fun p=>S.T.fr p||inr page n p,fun p=>S.T.rl p||(inr page n p&& !Ik S.V.ready p)⟩}
theorem Ag.DU{page n:Int}(d:Ag S (inr page n))(Y:E9 S):Ag (S.DU page n) no:=by
 have v: ∀p,(S.DU page n).T.fr p=true↔S.T.fr p=true∨inr page n p=true:=fun p=>by
  show(S.T.fr p||inr page n p)=true↔_;rw[Bool.or_eq_true]
 refine⟨fun j hj p hp=> ?_,d.cd,fun p hp=> ?_,fun p hp=> ?_,d.o0,fun p hp=>(by cases hp),fun p hp=> ?_,d.ks,d.la,fun p _=> ?_,d.sp,d.sf,d.fb,d.pg,d.h0,d.h1⟩
 ·obtain⟨O,J,K,N⟩:=d.cr j hj p hp;exact⟨O,DK fun h=>((v p).1 h).elim (CJ J) (CJ N),K,rfl⟩
 ·rcases(v p).1 hp with h|h
  ·exact⟨(d.fn p h).1,rfl⟩
  ·exact⟨(d.Kj Y h).2.2.1,rfl⟩
 ·obtain⟨O,J,K,N⟩:=d.ow p hp;exact⟨O,DK fun h=>((v p).1 h).elim (CJ J) (CJ K),rfl,N⟩
 ·rcases d.cv p hp with h|h|h|h
  ·exact .inl ((v p).2 (.inl h))
  ·exact .inr (.inl h)
  ·exact .inr (.inr (.inl h))
  ·exact .inl ((v p).2 (.inr h))
 ·have C:(S.DU page n).gone p=true↔S.gone p=true∨(inr page n p=true/\ ¬mem S.V.ready p):=by
   rw[DX,DX];show(S.T.rl p||(inr page n p&& !Ik S.V.ready p))=true∨_↔_;rw[Bool.or_eq_true,Bool.and_eq_true,Bool.not_eq_true',<-A9];have e:(Ik S.V.ready p=false)↔ ¬(Ik S.V.ready p=true):=by cases Ik S.V.ready p<;>simp
   rw[e];constructor
   ·rintro((h|h)|h)
    ·exact .inl (.inl h)
    ·exact .inr h
    ·exact .inl (.inr h)
   ·rintro((h|h)|h)
    ·exact .inl (.inl h)
    ·exact .inr h
    ·exact .inl (.inr h)
  show mem S.V.ready p↔S.T.Fb p=true/\_;cases hf:inr page n p with
  | false=>
   rw[d.rd p hf];have:(S.DU page n).gone p=S.gone p:=by
    rw[Bool.eq_iff_iff,C,hf];exact⟨fun h=>h.elim (fun h=>h) fun h=>(by cases h.1),.inl⟩
   rw[this]
  | true=>
   have h2:=(d.Kj Y hf).2.2.2.1;rw[hf]at C;constructor
   ·intro h;exact⟨d.li p hf,DK fun g=>(C.1 g).elim (CJ h2) fun g=>g.2 h⟩
   ·rintro⟨_,h⟩;exact Classical.byContradiction fun g=>(CJ h) (C.2 (.inr ⟨rfl,g⟩))
def HS.Dd(S:HS)(id:Int)(x:Nat×SI)(page n:Int)(fx:FX):HS:=
 {S with fx:=fx,sp:=fun i=>if i=id then some x else S.sp i,own:=fun p=>if page<=p/\p<page+n then id else S.own p,AA:=S.AA+n}
def Next(S:HS)(id:Int)(fx:FX):Prop:=(S.fx.bk=[]/\id=(S.fx.n:Int)+1/\fx=⟨S.fx.n+1,[]⟩)∨ ∃a r,S.fx.bk=a::r/\id=(a:Int)+1/\fx=⟨S.fx.n,r⟩
theorem Ag.many(j:Ag S fl)(C:E9 S)(v:S.fx.bk=[]): ∀k:Nat,k<=S.fx.n->(k:Int)<=cP fun p=>decide (0<S.own p/\S.own p<=k)
 | 0,_=>(GM _).1
 | k+1,hkn=>by
  have ih:=j.many C v k (by omega);have d:S.sp ((k:Int)+1)≠none:=(j.sf _).2 ⟨k,rfl,by omega,by rw[v];exact fun h=>(by cases h)⟩;obtain⟨x,N⟩: ∃x,S.sp ((k:Int)+1)=some x:=by
   cases h:S.sp ((k:Int)+1)with
   | none=>exact absurd h d
   | some x=>exact⟨x,rfl⟩
  obtain⟨h1,h2,h3,h4,J⟩:=j.sp _ x N;have K:=J (x.2.base/8192) (by omega) (by omega);have e:cP (fun p=>decide (0<S.own p/\S.own p<=((k+1:Nat):Int)))=cP (fun p=>decide (0<S.own p/\S.own p<=(k:Int)))+cP (fun p=>decide (S.own p=(k:Int)+1)):=by
   refine KB (fun p=> ?_) fun p a b=> ?_
   ·rw[Bool.eq_iff_iff,Bool.or_eq_true,decide_eq_true_eq,decide_eq_true_eq,decide_eq_true_eq];omega
   ·have a:=of_decide_eq_true a;have b:=of_decide_eq_true b;omega
  obtain⟨O,o2,Y,T⟩:=j.ow (x.2.base/8192) (by omega);have d:=C.tv.Gc _ O;have:1<=cP (fun p=>decide (S.own p=(k:Int)+1)):=gX (p:=x.2.base/8192) (decide_eq_true K) d.1 d.2;rw[e];omega
theorem Next.live{id:Int}{X:FX}(h:Next S id X)(N:E9 S)(K:Ag S fl):0<id/\S.sp id=none/\ ∀j:Int,(∃a:Nat,j=(a:Int)+1/\a<X.n/\a∉X.bk)↔j=id∨S.sp j≠none:=by
 rcases h with ⟨h1,rfl,rfl⟩|⟨a,r,h1,rfl,rfl⟩
 ·refine⟨by omega,Classical.byContradiction fun g=> ?_,fun j=> ?_⟩
  ·obtain⟨a,e,v,_⟩:=(K.sf _).1 g;omega
  ·rw[K.sf];constructor
   ·rintro⟨a,e,v,d⟩;have v:a<S.fx.n+1:=v;by_cases g:a=S.fx.n
    ·subst g;exact .inl e
    ·exact .inr ⟨a,e,by omega,by rw[h1];exact d⟩
   ·rintro(e|⟨a,e,v,d⟩)
    ·exact⟨S.fx.n,e,Nat.lt_succ_self _,fun h=>by cases h⟩
    ·exact⟨a,e,Nat.lt_succ_of_lt v,fun h=>by cases h⟩
 ·have J:=N.fx.nd;have C:=N.fx.lt;rw[h1]at J C;refine⟨by omega,Classical.byContradiction fun g=> ?_,fun j=> ?_⟩
  ·obtain⟨b,e,v,d⟩:=(K.sf _).1 g;have:b=a:=by omega
   subst this;rw[h1]at d;exact d List.mem_cons_self
  ·rw[K.sf];constructor
   ·rintro⟨b,e,v,d⟩;by_cases g:b=a
    ·subst g;exact .inl e
    ·exact .inr ⟨b,e,v,by rw[h1];exact fun h=>(List.mem_cons.1 h).elim g d⟩
   ·rintro(e|⟨b,e,v,d⟩)
    ·exact⟨a,e,C a List.mem_cons_self,(List.nodup_cons.1 J).1⟩
    ·rw[h1]at d;exact⟨b,e,v,fun h=>d (List.mem_cons_of_mem _ h)⟩
theorem Pv{S:HS}(f:Int->Int){id page n:Int}(RP:0<id)(h0:0<=page)(d:0<=n)(j:page+n<=34359738368)(hz: ∀p,page<=p->p<page+n-> ¬0<f p):
  cP (fun p=>decide (0<if page<=p/\p<page+n then id else f p))=cP (fun p=>decide (0<f p))+n:=by
 rw[show cP (fun p=>decide (0<f p))+n=cP (fun p=>decide (0<f p))+cP (inr page n) by rw[MY h0 d j]];refine KB (fun p=> ?_) fun p a b=> ?_
 ·rw[Bool.eq_iff_iff,Bool.or_eq_true,decide_eq_true_eq,decide_eq_true_eq,AU];by_cases g:page<=p/\p<page+n
  ·rw[if_pos g];exact⟨fun _=>.inr g,fun _=>RP⟩
  ·rw[if_neg g];exact⟨.inl,fun h=>h.elim (fun h=>h) fun h=>absurd h g⟩
 ·have b:=AU.1 b;exact hz p b.1 b.2 (of_decide_eq_true a)
theorem Ag.Dd{page n:Int}(d:Ag S (inr page n))(T:E9 S)(h0:0<=page)(hn:0<n)(hb:page+n<=34359738368)(hr: ∀p,page<=p->p<page+n->mem S.V.ready p)
  {id:Int}{X:FX}(hX:Next S id X){x:Nat×SI}(x1:x.2.base=page*8192)(x2:x.2.AA=n)(x3:x.2.state≠0):Ag (S.Dd id x page n X) no:=by
 obtain⟨RP,K,O⟩:=hX.live T d;have v: ∀p,page<=p->p<page+n->inr page n p=true:=fun p a b=>AU.2 ⟨a,b⟩;have N: ∀p,S.own p=id->False:=fun p e=>by
  obtain⟨_,_,_,y,C,_⟩:=d.ow p (by omega);rw[e,K]at C;cases C
 have J: ∀p,(S.Dd id x page n X).own p=if page<=p/\p<page+n then id else S.own p:=fun p=>rfl
 have hs: ∀i,(S.Dd id x page n X).sp i=if i=id then some x else S.sp i:=fun p=>rfl
 refine⟨fun j hj p hp=> ?_,d.cd,fun p hp=> ?_,fun p hp=> ?_,fun p=> ?_,fun p hp=>(by cases hp),fun p hp=> ?_,d.ks,d.la,fun p _=> ?_,fun i y C=> ?_,fun i=> ?_,?_,?_,d.h0,d.h1⟩
 ·obtain⟨g1,Y,g3,g4⟩:=d.cr j hj p hp;refine⟨g1,Y,?_,rfl⟩;rw[J,if_neg (Ey.1 g4)];exact g3
 ·obtain⟨g1,Y⟩:=d.fn p hp;refine⟨?_,rfl⟩;rw[J,if_neg (Ey.1 Y)];exact g1
 ·rw[J]at hp⊢;by_cases g:page<=p/\p<page+n
  ·rw[if_pos g]at hp⊢;have hf:=v p g.1 g.2;refine⟨d.li p hf,(d.Kj T hf).1,rfl,x,?_,by omega,by omega⟩;rw[hs,if_pos rfl]
  ·rw[if_neg g]at hp⊢;obtain⟨g1,Y,g3,y,g4,g5⟩:=d.ow p hp;refine⟨g1,Y,rfl,y,?_,g5⟩;rw[hs,if_neg fun e=>N p e];exact g4
 ·rw[J];have:=d.o0 p;split<;>omega
 ·rcases d.cv p hp with h|h|h|h
  ·exact .inl h
  ·exact .inr (.inl h)
  ·refine .inr (.inr (.inl ?_));rw[J];split<;>omega
  ·refine .inr (.inr (.inl ?_));rw[J,if_pos (AU.1 h)];exact RP
 ·cases hf:inr page n p with
  | false=>exact d.rd p hf
  | true=>
   have aB:=AU.1 hf;exact⟨fun _=>⟨d.li p hf,(d.Kj T hf).2.2.2.1⟩,fun _=>hr p aB.1 aB.2⟩
 ·rw[hs]at C;by_cases g:i=id
  ·rw[if_pos g]at C;cases C;subst g;refine⟨RP,by omega,by omega,x3,fun p a b=> ?_⟩;rw[J,if_pos (by omega)]
  ·rw[if_neg g]at C;obtain⟨k1,k2,k3,k4,k5⟩:=d.sp i y C;refine⟨k1,k2,k3,k4,fun p a b=> ?_⟩;have h5:=k5 p a b;rw[J,if_neg fun h=> ?_]
   ·exact h5
   ·have:=(d.Kj T (v p h.1 h.2)).2.2.1;omega
 ·rw[hs];rw[show(S.Dd id x page n X).fx=X from rfl,O i];by_cases g:i=id
  ·rw[if_pos g];exact⟨fun _=>.inl g,fun _ h=>by cases h⟩
  ·rw[if_neg g];exact⟨.inr,fun h=>h.elim (fun h=>absurd h g) fun h=>h⟩
 ·show X.n<=34359738368;rcases hX with ⟨h1,rfl,rfl⟩|⟨a,r,h1,rfl,rfl⟩
  ·have h2:=d.many T h1 S.fx.n (Nat.le_refl _);have h3:cP (fun p=>decide (0<S.own p/\S.own p<=(S.fx.n:Int))||inr page n p)=cP (fun p=>decide (0<S.own p/\S.own p<=(S.fx.n:Int)))+cP (inr page n):=KB (fun p=>rfl) fun p a b=>by
    have a:=of_decide_eq_true a;have:=(d.Kj T b).2.2.1;omega
   rw[MY h0 (by omega) hb]at h3;have:=(GM fun p=>decide (0<S.own p/\S.own p<=(S.fx.n:Int))||inr page n p).2;show S.fx.n+1<=_;omega
  ·exact d.fb
 ·show S.AA+n=cP fun p=>decide (0<if page<=p/\p<page+n then id else S.own p);rw[Pv (S:=S) S.own RP h0 (by omega) hb fun p a b=>by have:=(d.Kj T (v p a b)).2.2.1;omega,<-d.pg]
def HS.free(S:HS)(a:Nat)(page n:Int):HS:=
 {S with T:=S.T.Ka page n,fx:=⟨S.fx.n,a::S.fx.bk⟩,sp:=fun i=>if i=(a:Int)+1 then none else S.sp i,own:=fun p=>if page<=p/\p<page+n then 0 else S.own p,AA:=S.AA-n}
theorem Ag.free(d:Ag S no)(hk:E9 S){a:Nat}{x:Nat×SI}(hx:S.sp ((a:Int)+1)=some x):Ag (S.free a (x.2.base/8192) x.2.AA) no:=by
 obtain⟨k1,k2,k3,k4,Y⟩:=d.sp _ x hx;generalize hpg:x.2.base/8192=page at *
 generalize hn:x.2.AA=n at *
 have J: ∀p,page<=p->p<page+n->0<S.own p:=fun p h1 C=>by rw[Y p h1 C];exact k1
 have O: ∀p,S.own p=(a:Int)+1↔page<=p/\p<page+n:=fun p=>by
  refine⟨fun e=> ?_,fun h=>Y p h.1 h.2⟩;obtain⟨_,_,_,y,h1,C,h3⟩:=d.ow p (by omega);rw[e,hx]at h1;cases h1;omega
 have K: ∀p,(S.free a page n).own p=if page<=p/\p<page+n then 0 else S.own p:=fun p=>rfl
 have hs: ∀i,(S.free a page n).sp i=if i=(a:Int)+1 then none else S.sp i:=fun p=>rfl
 have v: ∀p,(S.free a page n).T.fr p=true↔S.T.fr p=true∨(page<=p/\p<page+n):=fun p=>by
  show(S.T.fr p||inr page n p)=true↔_;rw[Bool.or_eq_true,AU]
 have aB:=hk.tv.Gc _ (d.ow page (J page (by omega) (by omega))).1;have aR:=hk.tv.Gc _ (d.ow (page+n-1) (J _ (by omega) (by omega))).1;refine⟨fun j hj p hp=> ?_,d.cd,fun p hp=> ?_,fun p hp=> ?_,fun p=> ?_,fun p hp=>(by cases hp),fun p hp=> ?_,d.ks,d.la,d.rd,fun i y N=> ?_,fun i=> ?_,d.fb,?_,d.h0,d.h1⟩
 ·obtain⟨g1,g2,g3,g4⟩:=d.cr j hj p hp;refine⟨g1,DK fun h=>((v p).1 h).elim (CJ g2) fun h=> ?_,?_,rfl⟩
  ·have:=J p h.1 h.2;omega
  ·rw[K];split
   ·rfl
   ·exact g3
 ·refine⟨?_,rfl⟩;rw[K];rcases(v p).1 hp with h|h
  ·split
   ·rfl
   ·exact(d.fn p h).1
  ·rw[if_pos h]
 ·rw[K]at hp⊢;by_cases g:page<=p/\p<page+n
  ·rw[if_pos g]at hp;omega
  ·rw[if_neg g]at hp⊢;obtain⟨g1,g2,g3,y,g4,g5⟩:=d.ow p hp;refine⟨g1,DK fun h=>((v p).1 h).elim (CJ g2) g,rfl,y,?_,g5⟩;rw[hs,if_neg fun e=>g ((O p).1 e)];exact g4
 ·rw[K];split
  ·exact Int.le_refl 0
  ·exact d.o0 p
 ·by_cases g:page<=p/\p<page+n
  ·exact .inl ((v p).2 (.inr g))
  ·rcases d.cv p hp with h|h|h|h
   ·exact .inl ((v p).2 (.inl h))
   ·exact .inr (.inl h)
   ·refine .inr (.inr (.inl ?_));rw[K,if_neg g];exact h
   ·exact .inr (.inr (.inr h))
 ·rw[hs]at N;by_cases g:i=(a:Int)+1
  ·rw[if_pos g]at N;cases N
  ·rw[if_neg g]at N;obtain⟨q1,q2,q3,q4,q5⟩:=d.sp i y N;refine⟨q1,q2,q3,q4,fun p h1 C=> ?_⟩;have h5:=q5 p h1 C;rw[K,if_neg fun h=> ?_]
   ·exact h5
   ·have:=Y p h.1 h.2;omega
 ·rw[hs];have:=d.sf i;show _↔ ∃b:Nat,i=(b:Int)+1/\b<S.fx.n/\b∉a::S.fx.bk;by_cases g:i=(a:Int)+1
  ·rw[if_pos g];refine⟨fun h=>absurd rfl h,fun⟨b,e,_,h⟩=>absurd ?_ h⟩;rw[show b=a by omega];exact List.mem_cons_self
  ·rw[if_neg g,this];constructor
   ·rintro⟨b,e,h1,C⟩;exact⟨b,e,h1,fun h=>(List.mem_cons.1 h).elim (fun h=>g (by omega)) C⟩
   ·rintro⟨b,e,h1,C⟩;exact⟨b,e,h1,fun h=>C (List.mem_cons_of_mem _ h)⟩
 ·show S.AA-n=cP fun p=>decide (0<if page<=p/\p<page+n then 0 else S.own p);have e:=Pv (S:=S) (fun p=>if page<=p/\p<page+n then 0 else S.own p) (id:=(a:Int)+1) k1 aB.1 (by omega) (by omega) (page:=page) (n:=n) fun p h1 C=>by
   show ¬0<if page<=p/\p<page+n then(0:Int)else S.own p
   rw[if_pos ⟨h1,C⟩];omega
  have e2:cP (fun p=>decide (0<if page<=p/\p<page+n then(a:Int)+1 else if page<=p/\p<page+n then 0 else S.own p))=cP fun p=>decide (0<S.own p):=OZ fun p _ _=>by
   by_cases g:page<=p/\p<page+n
   ·rw[if_pos g,Y p g.1 g.2]
   ·rw[if_neg g,if_neg g]
  rw[e2]at e;have:=d.pg;omega
def HS.flush(S:HS)(i:Nat):HS:={S with T:=S.T.flush (S.ca i),ca:=fun j=>if j=i then CS.nil else S.ca j}
def HS.F5(S:HS)(p k:Int):HS:={S with T:=S.T.F5 p k,V:=E0 S.V p k}
theorem Ag.idle(j:Ag S no)(C:E9 S){p:Int}(hp:S.T.idle p=true):S.T.fr p=true/\S.T.rl p=false/\mem S.V.ready p/\S.own p=0/\S.I5 p=false:=by
 have hp:(S.T.fr p&& !S.T.rl p)=true:=hp;rw[Bool.and_eq_true,Bool.not_eq_true']at hp;have v:S.I5 p=false:=DK fun h=>by
  obtain⟨i,d,h⟩:=Dq.1 h;exact(CJ (j.cr i d p h).2.1) hp.1
 refine⟨hp.1,hp.2,(j.rd p rfl).2 ⟨C.tv.fi p hp.1,DK fun h=> ?_⟩,(j.fn p hp.1).1,v⟩;rcases DX.1 h with h|⟨i,d,h⟩
 ·exact(CJ hp.2) h
 ·exact(CJ v) (Dq.2 ⟨i,d,HD (C.ci i d) h⟩)
theorem Ag.F5(d:Ag S no)(Y:E9 S){x k:Int}(N:0<k)(O:Gb S.T.idle x k):Ag (S.F5 x k) no:=by
 have v: ∀p,(S.F5 x k).T.rl p=true↔S.T.rl p=true∨(x<=p/\p<x+k):=fun p=>by
  show(S.T.rl p||inr x k p)=true↔_;rw[Bool.or_eq_true,AU]
 refine⟨d.cr,d.cd,d.fn,d.ow,d.o0,d.li,d.cv,d.ks,d.la,fun p _=> ?_,d.sp,d.sf,d.fb,d.pg,d.h0,d.h1⟩;have K:=d.rd p rfl;have J:(S.F5 x k).gone p=true↔S.gone p=true∨(x<=p/\p<x+k):=by
  rw[DX,DX,v];exact⟨fun h=>h.elim (fun h=>h.elim (fun h=>.inl (.inl h)) .inr) fun h=>.inl (.inr h),fun h=>h.elim (fun h=>h.elim (fun h=>.inl (.inl h)) .inr) fun h=>.inl (.inr h)⟩
 refine(B7 (by omega):mem (B6 S.V.ready x (x+k)) p↔_).trans ?_;rw[K];constructor
 ·rintro⟨⟨h1,C⟩,j⟩;exact⟨h1,DK fun h=>(J.1 h).elim (CJ C) j⟩
 ·rintro⟨h1,C⟩;have j:=fun h=>(CJ C) (J.2 h);exact⟨⟨h1,DK fun h=>j (.inl h)⟩,fun h=>j (.inr h)⟩
theorem Ag.counts(j:Ag S no)(d:E9 S):cP S.T.Fb=CK S.ks*512/\cP S.T.Fb=CK S.V.ready+cP S.gone/\S.AA<=CK S.V.ready:=by
 have v: ∀p,S.T.Fb p=true->p<34359738368:=fun p h=>(d.tv.Gc p h).2;have C: ∀p,S.gone p=true->S.T.Fb p=true:=fun p h=>by
  rcases DX.1 h with h|⟨i,J,h⟩
  ·exact d.tv.fi p (d.tv.rf p h)
  ·exact(j.cr i J p (HD (d.ci i J) h)).1
 have K:cP (Ik S.V.ready)=CK S.V.ready:=Oa d.vv.IT (fun p=>A9.symm) fun p h=>by
  have:=d.vv.Gc p (d.vv.rl p (A9.1 h));omega
 refine⟨WR d.ok j.ks v,?_,?_⟩
 ·rw[<-K];refine KB (fun p=> ?_) fun p a b=> ?_
  ·rw[Bool.eq_iff_iff,Bool.or_eq_true,A9,j.rd p rfl];constructor
   ·intro h;cases g:S.gone p with
    | false=>exact .inl ⟨h,rfl⟩
    | true=>exact .inr rfl
   ·rintro(h|h)
    ·exact h.1
    ·exact C p h
  ·rw[A9,j.rd p rfl]at a;exact(CJ a.2) b
 ·rw[<-K,j.pg];exact Ql fun p h=>A9.2 (j.ready d (of_decide_eq_true h))
end Go.Sh
set_option linter.all false
set_option maxRecDepth 8000
set_option maxHeartbeats 2000000
namespace Go.Sh
theorem Sat.rest{Ps Z:List Pr}{w:World}(H:Sat (Ps++Z) w):Sat Z w:=by
 induction Ps with
 | nil=>exact H
 | cons P Ps ih=>exact ih H.tail
section
variable{E:Env}{h:Nat}{S:HS}{Z:List Pr}{w:World}{g:HG}
theorem T8.same{S':HS}(d:T8 S g)(e:S'.sp=S.sp):T8 S' g:=⟨d.nd,fun id=>by rw[d.mem,e]⟩
theorem Sat.Pw(H:Sat (Cz E h S g++Z) w){i:Nat}(d:i<64): ∃R,(∀{w'},Sat R w'->Sat Z w')/\Sat (A0 E (g.cb i) (S.ca i)::BG E g.t S.T::R) w/\
  ∀{w' c' T'},Sat (A0 E (g.cb i) c'::BG E g.t T'::R) w'->Sat (Cz E h {S with T:=T',ca:=fun j=>if j=i then c' else S.ca j} g++Z) w':=by
 have C:(List.range 64)[i]? =some i:=List.getElem?_range d;have h1:=(H.front 7 rfl).IF C;have K:=h1.DF 3 rfl;refine⟨_,fun{w'} q=> ?_,K,fun{w' c' T'} h'=> ?_⟩
 ·exact Sat.rest (Ps:=[Ap (fun i:Nat=>A0 E (g.cb i) (S.ca i)) ((List.range 64).eraseIdx i),Cells h E.Aa (CD g S.hint S.AA),Bf E g.m S.V,CP E g.a S.ks S.own,FN E g.f S.fx,Dx g.sm .i64 (Ec S.sp),Ap (Kb E S.sp) g.ids]) q
 have b1:=Sat.Mo (P0:=A0 E (g.cb i) c') (Ps:=Ap (fun i:Nat=>A0 E (g.cb i) (S.ca i)) ((List.range 64).eraseIdx i)::((Cz E h S g++Z).eraseIdx 7)) 3 h' (by simp[Cz]);have v:Sat (A0 E (g.cb i) c'::Ap (fun i:Nat=>A0 E (g.cb i) (S.ca i)) ((List.range 64).eraseIdx i)::((Cz E h {S with T:=T',ca:=fun j=>if j=i then c' else S.ca j} g++Z).eraseIdx 7)) w':=b1;have e:Ap (fun i:Nat=>A0 E (g.cb i) (S.ca i)) ((List.range 64).eraseIdx i)=Ap (fun j:Nat=>A0 E (g.cb j) (if j=i then c' else S.ca j)) ((List.range 64).eraseIdx i):=
  Ap.congr fun x J=>by rw[if_neg (OW d J)]
 rw[e,show A0 E (g.cb i) c'=(fun j:Nat=>A0 E (g.cb j) (if j=i then c' else S.ca j)) i by show _=A0 E (g.cb i) (if i=i then c' else S.ca i);rw[if_pos rfl]]at v;exact Sat.back (Ps:=Cz E h {S with T:=T',ca:=fun j=>if j=i then c' else S.ca j} g++Z) 7 (Sat.Hf v C) (by simp[Cz])
theorem VO{ca:Nat->CS}{i:Nat}:(fun j=>if j=i then ca i else ca j)=ca:=funext fun j=>by
 by_cases e:j=i
 ·rw[if_pos e,e]
 ·rw[if_neg e]
theorem Sat.Ni(H:Sat (Cz E h S g++Z) w): ∃R,(∀{w'},Sat R w'->Sat Z w')/\Sat (BG E g.t S.T::R) w/\ ∀{w' T'},Sat (BG E g.t T'::R) w'->Sat (Cz E h {S with T:=T'} g++Z) w':=
 ⟨_,fun{w'} q=>Sat.rest (Ps:=[Cells h E.Aa (CD g S.hint S.AA),Bf E g.m S.V,CP E g.a S.ks S.own,FN E g.f S.fx,Dx g.sm .i64 (Ec S.sp),Ap (Kb E S.sp) g.ids,Ap (fun i:Nat=>A0 E (g.cb i) (S.ca i)) (List.range 64)]) q,
  H.front 2 rfl,fun{w' T'} h'=>Sat.back (Ps:=Cz E h S g++Z) 2 h' (by simp[Cz])⟩
def HS.new(V:VS):HS:=⟨V,TV.nil,fun _=>CS.nil,[],fun _=>0,⟨0,[]⟩,fun _=>none,0,0⟩
theorem Ag.new{V:VS}(h1:V.laid=[])(C:V.ready=[]):Ag (HS.new V) no:=by
 have j: ∀p,¬mem ([]:Iv) p:=Ar;refine⟨fun i O p hp=> ?_,fun a b p K N d J=> ?_,fun p hp=>(by cases hp),fun p hp=>absurd hp (by show ¬(0:Int)<0;decide),fun _=>Int.le_refl 0,fun p hp=>(by cases hp),fun p hp=>(by cases hp),fun p=>⟨fun q=>absurd q (j _),fun q=>(by cases q)⟩,fun p=> ?_,fun p _=> ?_,fun id x v=>(by cases v),fun id=>⟨fun q=>absurd rfl q,fun⟨a,_,q,_⟩=>absurd q (Nat.not_lt_zero a)⟩,Nat.zero_le _,?_,Int.le_refl 0,by show(0:Int)<=_;decide⟩
 ·have hp:CS.nil.own p=true:=hp;rw[VN]at hp;cases hp
 ·have d:CS.nil.own p=true:=d;rw[VN]at d;cases d
 ·show mem V.laid p↔_;rw[h1];exact⟨fun q=>absurd q (j _),fun q=>(by cases q)⟩
 ·show mem V.ready p↔_;rw[C];exact⟨fun q=>absurd q (j _),fun q=>(by cases q.1)⟩
 ·exact(Lx fun p=>rfl).symm
theorem Oe(n:Nat):List.range (n+1)=List.range n++[n]:=List.range_succ
theorem UD(cb:Nat->Nat)(k:Nat)(x y:Value)(v0 v1 v2 j v4:Value)(b:Nat)(d:k<64):
  (v0::v1::v2::j::v4::(((List.range 64).map fun i=>Value.pointer (if i<k then some ⟨cb i,0,none⟩else none))++[x,y])).set (0+(5+k)) (.pointer (some ⟨b,0,none⟩))
   =v0::v1::v2::j::v4::(((List.range 64).map fun i=>Value.pointer (if i<k+1 then some ⟨if i=k then b else cb i,0,none⟩else none))++[x,y]):=by
 rw[show 0+(5+k)=k+1+1+1+1+1 by omega];simp only[List.set_cons_succ];rw[List.set_append_left _ _ (by simp;exact d)];have key:((List.range 64).map fun i=>Value.pointer (if i<k then some ⟨cb i,0,none⟩else none)).set k (.pointer (some ⟨b,0,none⟩))=(List.range 64).map fun i=>Value.pointer (if i<k+1 then some ⟨if i=k then b else cb i,0,none⟩else none):=by
  apply List.ext_getElem?;intro i;rw[List.getElem?_set];by_cases e:k=i
  ·subst e;rw[if_pos rfl,if_pos (by simp;exact d),List.getElem?_map,List.getElem?_range d];simp
  ·rw[if_neg e,List.getElem?_map,List.getElem?_map];by_cases g:i<64
   ·rw[List.getElem?_range g];simp only[Option.map_some,Option.some.injEq,Value.pointer.injEq];have:(i<k)↔(i<k+1):=by omega
    by_cases g2:i<k
    ·rw[if_pos g2,if_pos (this.1 g2),if_neg fun q=>e q.symm]
    ·rw[if_neg g2,if_neg fun q=>g2 (this.2 q)]
   ·rw[List.getElem?_eq_none (by simp;omega)];rfl
 rw[key]
theorem UE{m:Nat}{V:VS}(H:Sat (Bf E m V::Z) w){K:Option Addr->World->Prop}(hK: ∀h w',w'.cell? (Addr.mk h 0 none)=some (.pointer (some ⟨m,0,none⟩))->Sat (Au E h (HS.new V)::Z) w'->K (some ⟨h,0,none⟩) w'):F.FU E (some ⟨m,0,none⟩) K w:=by
 unfold F.FU T0.FU;refine Xv H fun w2 t H2=>X3 H2 fun w4 a H4=>XL H4 .i64 fun d w6 H6 _=> ?_;refine Am (vs:=.pointer (some ⟨m,0,none⟩):: .pointer (some ⟨t,0,none⟩):: .pointer (some ⟨a,0,none⟩):: .pointer none:: .map (some d)::(((List.range 64).map fun i=>Value.pointer none)++[.int .u64 0,.int .u64 0])) H6 fun C w8 H8 _=> ?_;refine WJ H8 fun f aJ T=> ?_;refine Aj (T.front 1 rfl) (o:=0) (m:=3) rfl (by simp) fun aC O=> ?_;have N:Sat (Cells C E.Aa (.pointer (some ⟨m,0,none⟩):: .pointer (some ⟨t,0,none⟩):: .pointer (some ⟨a,0,none⟩):: .pointer (some ⟨f,0,none⟩):: .map (some d)::(((List.range 64).map fun i=>Value.pointer none)++[.int .u64 0,.int .u64 0]))::
   FN E f ⟨0,[]⟩::Dx d .i64 (fun _=>none)::CP E a [] (fun _=>0)::BG E t TV.nil::Bf E m V::Z) aC:=O
 clear O;refine AM (fun st w'=> ∃(k:Nat) (cb:Nat->Nat),st.1=(k:Int)/\k<=64/\Sat (Ap (fun i:Nat=>A0 E (cb i) CS.nil) (List.range k)::Cells C E.Aa (.pointer (some ⟨m,0,none⟩):: .pointer (some ⟨t,0,none⟩):: .pointer (some ⟨a,0,none⟩):: .pointer (some ⟨f,0,none⟩):: .map (some d)::(((List.range 64).map fun i=>Value.pointer (if i<k then some ⟨cb i,0,none⟩else none))++[.int .u64 0,.int .u64 0]))::
   FN E f ⟨0,[]⟩::Dx d .i64 (fun _=>none)::CP E a [] (fun _=>0)::BG E t TV.nil::Bf E m V::Z) w') (fun st _=>(64-st.1).toNat) ⟨0,fun _=>0,rfl,by decide,?_⟩ ?_
 ·exact N.KN _
 rintro⟨k',v⟩ _ Y ⟨k,cb,hk,aF,j⟩;dsimp only at hk⊢;subst hk;refine AE (fun aR=> ?_) fun aP=> ?_
 ·refine V8 j.drew fun aI c aB=>⟨⟨by omega,by omega⟩,?_⟩;have aA:k<64:=by omega
  rw[Int.toNat_natCast,Nat.mul_one,add_add,AN (n:=(k:Int)+1)];refine Aj (aB.front 2 rfl) (o:=0) (m:=5+k) rfl (by simp;omega) fun aE J=> ?_;rw[UD cb k _ _ _ _ _ _ _ c aA]at J;refine⟨⟨k+1,fun i=>if i=k then c else cb i,by omega,by omega,?_⟩,by omega⟩;have h1:=J.DF 1 rfl;have h2:Sat (A0 E c CS.nil::Ap (fun i:Nat=>A0 E (cb i) CS.nil) (List.range k)::Cells C E.Aa (.pointer (some ⟨m,0,none⟩):: .pointer (some ⟨t,0,none⟩):: .pointer (some ⟨a,0,none⟩):: .pointer (some ⟨f,0,none⟩):: .map (some d)::(((List.range 64).map fun i=>Value.pointer (if i<k+1 then some ⟨if i=k then c else cb i,0,none⟩else none))++[.int .u64 0,.int .u64 0]))::
    FN E f ⟨0,[]⟩::Dx d .i64 (fun _=>none)::CP E a [] (fun _=>0)::BG E t TV.nil::Bf E m V::Z) aE:=J.perm (List.perm_middle (l₁:=[_,_])|>.symm)
  rw[Oe];have e:Ap (fun i:Nat=>A0 E (cb i) CS.nil) (List.range k)=Ap (fun i:Nat=>A0 E (if i=k then c else cb i) CS.nil) (List.range k):=Ap.congr fun x hx=>by rw[if_neg (by have:=List.mem_range.1 hx;omega)]
  rw[e,show A0 E c CS.nil=(fun i:Nat=>A0 E (if i=k then c else cb i) CS.nil) k by show _=A0 E (if k=k then c else cb k) CS.nil;rw[if_pos rfl]]at h2;exact h2.OD
 ·have e:k=64:=by omega
  subst e;refine hK C Y ((j.front 1 rfl).BI rfl) (Sat.heap.2 ⟨⟨m,t,a,f,d,cb,[]⟩,⟨List.nodup_nil,fun id=>⟨fun q=>(by cases q),fun q=>absurd rfl q⟩⟩,?_⟩);have e:((List.range 64).map fun i=>Value.pointer (if i<64 then some ⟨cb i,0,none⟩else none))=WN cb:=by
   unfold WN;exact List.map_congr_left fun i hi=>by rw[if_pos (List.mem_range.1 hi)]
  rw[e]at j;have aD:=j.KN (Kb E fun _=>none);refine aD.perm ?_;show List.Perm _ ((Cells C E.Aa (CD ⟨m,t,a,f,d,cb,[]⟩ 0 0)::Bf E m V::BG E t TV.nil::CP E a [] (fun _=>0)::FN E f ⟨0,[]⟩::Dx d .i64 (fun _=>none)::Ap (Kb E fun _=>none) []::Ap (fun i:Nat=>A0 E (cb i) CS.nil) (List.range 64)::[])++Z);refine List.Perm.append_right (l₁:=[Ap (Kb E fun _=>none) [],Ap (fun i:Nat=>A0 E (cb i) CS.nil) (List.range 64),Cells C E.Aa (CD ⟨m,t,a,f,d,cb,[]⟩ 0 0),FN E f ⟨0,[]⟩,Dx d .i64 (fun _=>none),CP E a [] (fun _=>0),BG E t TV.nil,Bf E m V]) Z ?_;exact(List.perm_append_comm (l₁:=[Ap (Kb E fun _=>none) [],Ap (fun i:Nat=>A0 E (cb i) CS.nil) (List.range 64)]) (l₂:=[Cells C E.Aa (CD ⟨m,t,a,f,d,cb,[]⟩ 0 0),FN E f ⟨0,[]⟩,Dx d .i64 (fun _=>none),CP E a [] (fun _=>0),BG E t TV.nil,Bf E m V])).trans (.cons _ ((List.reverse_perm [Bf E m V,BG E t TV.nil,CP E a [] (fun _=>0),Dx d .i64 (fun _=>none),FN E f ⟨0,[]⟩]).append_right _|>.trans (.cons _ (.cons _ (.cons _ (.swap _ _ _))))))
theorem WS{m:Nat}{V:VS}(H:Sat (Bf E m V::Z) w){K:Option Addr->World->Prop}(d: ∀h w',Sat (Au E h (HS.new V)::Z) w'->K (some ⟨h,0,none⟩) w'):F.FU E (some ⟨m,0,none⟩) K w:=
 UE H fun h w' _=>d h w'
end
end Go.Sh
set_option linter.all false
set_option maxRecDepth 8000
set_option maxHeartbeats 2000000
namespace Go.Sh
theorem aK{x c:Nat}(h1:x.testBit c=true)(J: ∀i,i<c->x.testBit i=false)(i:Nat):(x&&&(x-1)).testBit i=(x.testBit i&& !(i==c)):=by
 have hm:x %2^(c+1)=2^c:=by
  apply Nat.eq_of_testBit_eq;intro j;rw[Nat.testBit_mod_two_pow,Nat.testBit_two_pow];by_cases e:c=j
  ·subst e;simp[h1]
  ·rw[decide_eq_false e];by_cases g:j<c
   ·rw[J j g];simp
   ·rw[decide_eq_false (show ¬j<c+1 by omega)];rfl
 have v:x=2^(c+1)*(x/2^(c+1))+2^c:=by
  have:=Nat.div_add_mod x (2^(c+1));rw[hm]at this;exact this.symm
 generalize hy:x/2^(c+1)=y at v;have C:2^c<2^(c+1):=Nat.pow_lt_pow_right (by decide) (by omega);have K:0<2^c:=Nat.pow_pos (by decide);have d:x-1=2^(c+1)*y+(2^c-1):=by omega
 rw[Nat.testBit_and,d]
 conv=>lhs;lhs;rw[v]
 conv=>rhs;lhs;rw[v]
 rw[Nat.testBit_two_pow_mul_add _ C,Nat.testBit_two_pow_mul_add _ (by omega:2^c-1<2^(c+1))];by_cases g:i<c+1
 ·rw[if_pos g,if_pos g,Nat.testBit_two_pow,Nat.testBit_two_pow_sub_one];by_cases e:c=i
  ·subst e;simp
  ·rw[decide_eq_false e];simp
 ·rw[if_neg g,if_neg g];have:(i==c)=false:=by simp;omega
  rw[this];simp
theorem YB{u:Nat->Bool}{c:Nat}(C:c<64)(h1:u c=true)(K: ∀i,i<c->u i=false):E8 .u64 0 (W u) (u64 (W u-1))=W (fun i=>u i&& !(i==c)):=by
 have J:wN u 64<2^64:=Jm u 64;have d:(wN u 64).testBit c=true:=by rw[DZ,h1];simp[C]
 have hz:wN u 64≠0:=fun e=>by rw[e]at d;simp at d
 have e:u64 (W u-1)=((wN u 64-1:Nat):Int):=by
  unfold W;rw[AG];omega
 rw[e];unfold W;rw[bH (by omega) (by omega)];congr 1;apply Nat.eq_of_testBit_eq;intro i;rw[aK d (fun j v=>by rw[DZ,K j v];simp),DZ,DZ];cases decide (i<64)<;>simp
theorem YC{u:Nat->Bool}{c:Nat}(h1:u c=true): ∀n,(c<n->cN u n=cN (fun i=>u i&& !(i==c)) n+1)/\(n<=c->cN u n=cN (fun i=>u i&& !(i==c)) n)
 | 0=>⟨fun h=>absurd h (Nat.not_lt_zero c),fun _=>rfl⟩
 | n+1=>by
  obtain⟨i1,i2⟩:=YC h1 n;simp only[cN];refine⟨fun h=> ?_,fun h=> ?_⟩
  ·by_cases e:n=c
   ·subst e;rw[i2 (Nat.le_refl _),h1];simp
   ·rw[i1 (by omega)];have:(n==c)=false:=by simp[e]
    rw[this];simp;omega
  ·rw[i2 (by omega)];have:(n==c)=false:=by simp;omega
   rw[this];simp
theorem YD{u:Nat->Bool}(h:W u≠0): ∃c,c<64/\u c=true/\ ∀i,i<c->u i=false:=by
 have hex: ∃c,c<64/\u c=true:=by
  refine Classical.byContradiction fun g=>h (GZ.2 fun i d=> ?_);cases hu:u i with
  | false=>rfl
  | true=>exact absurd ⟨i,d,hu⟩ g
 have key: ∀n:Nat,(∃c,c<n/\u c=true)-> ∃c,c<n/\u c=true/\ ∀i,i<c->u i=false:=by
  intro n
  induction n with
  | zero=>rintro⟨c,j,_⟩;omega
  | succ n ih=>
   rintro⟨c,j,hu⟩;by_cases g: ∃c,c<n/\u c=true
   ·obtain⟨v,h1,J,C⟩:=ih g;exact⟨v,by omega,J,C⟩
   ·have:c=n:=by
     refine Classical.byContradiction fun e=>g ⟨c,by omega,hu⟩
    subst this;refine⟨c,j,hu,fun i d=> ?_⟩;cases hui:u i with
    | false=>rfl
    | true=>exact absurd ⟨i,d,hui⟩ g
 exact key 64 hex
def IU(ca:Nat->CS):Nat->Int
 | 0=>0
 | k+1=>IU ca k+cN (ca k).rel 64
theorem KS(ca:Nat->CS)(k:Nat): ∀m,IU ca k<=IU ca (k+m)
 | 0=>Int.le_refl _
 | m+1=>by
  show _<=IU ca (k+m)+_;have:=KS ca k m;omega
section
variable{E:Env}{h:Nat}{S:HS}{Z:List Pr}{w:World}{g:HG}
theorem Ag.IU(C:Ag S no)(d:E9 S):NT S.T.rl+Go.Sh.IU S.ca 64=cP S.gone:=by
 have key: ∀k:Nat,k<=64->NT S.T.rl+Go.Sh.IU S.ca k=cP (fun p=>S.T.rl p||(List.range k).any fun i=>(S.ca i).Ll p):=by
  intro k
  induction k with
  | zero=>
   intro _;obtain⟨l,h1,O⟩:=d.tv.cr;have e:(fun p=>S.T.rl p||(List.range 0).any fun i=>(S.ca i).Ll p)=S.T.rl:=funext fun p=>by simp
   rw[e,lT h1 O fun p hp=>(d.tv.Gc p (d.tv.fi p (d.tv.rf p hp))).2];show cP S.T.rl+0=_;omega
  | succ k ih=>
   intro aA;have ci:=d.ci k (by omega);rw[KB (f:=fun p=>S.T.rl p||(List.range k).any fun i=>(S.ca i).Ll p) (g:=(S.ca k).Ll) (fun p=>by rw[Oe,List.any_append];simp[Bool.or_assoc]) fun p a b=> ?_,<-ih (by omega)]
   ·have e:cP (S.ca k).Ll=cN (S.ca k).rel 64:=by
     have j:=ci.b0;have Y:=ci.b1;have:=ci.lR;exact YA j (by omega)
    rw[e];show _+(Go.Sh.IU S.ca k+_)=_;omega
   ·rw[Bool.or_eq_true]at a;have v:=HD ci b;obtain⟨g1,K,g3,g4⟩:=C.cr k (by omega) p v;rcases a with a|a
    ·exact(CJ K) (d.tv.rf p a)
    ·rw[List.any_eq_true]at a;obtain⟨i,J,N⟩:=a;have J:=List.mem_range.1 J;have:=C.cd i k p (by omega) (by omega) (HD (d.ci i (by omega)) N) v;omega
 exact key 64 (Nat.le_refl _)
theorem HE(H:Sat (Au E h S::Z) w)(hI:Ag S no){K:Int->Int->Int->World->Prop}(hK: ∀w',Sat (Au E h S::Z) w'->K (cP S.T.Fb) S.AA (cP S.gone) w'):F.CF E (some ⟨h,0,none⟩) K w:=by
 have BH:=H.BH;have aC:=hI.IU BH;obtain⟨c1,c2,c3⟩:=hI.counts BH;have aX:=GM S.gone;have aS:=GM S.T.Fb;have aY:0<=NT S.T.rl:=by
  obtain⟨l,h1,h2⟩:=BH.tv.cr;rw[R4 h1 h2];exact GY h1
 obtain⟨g,aL,H⟩:=Sat.heap.1 H;unfold F.CF T0.CF;simp only[AI];refine⟨_,(CC (S:=S) (g:=g) H).2.1,PE (H.front 2 rfl) ?_⟩;have aH:=(CC (S:=S) (g:=g) H).2.2.2.2.2.2.2;simp only[add_add,Nat.reduceAdd]
 repeat (refine⟨_,aH _ (by decide),?_⟩)
 have hL: ∀i:Nat,i<64->List.getD ((List.range 64).map fun i=>some (Addr.mk (g.cb i) 0 none)) i none=some ⟨g.cb i,0,none⟩:=fun i C=>WQ g.cb C;refine AM (fun st w'=> ∃i:Nat,st.2.1=(i:Int)/\i<=64/\st.1=NT S.T.rl+Go.Sh.IU S.ca i/\Sat (Cz E h S g++Z) w') (fun st _=>(64-st.2.1).toNat) ⟨0,rfl,by decide,(Int.add_zero _).symm,H⟩ ?_;rintro⟨cnt,i',v⟩ _ a3 ⟨i,C,aP,hc,Y⟩;dsimp only at C hc⊢;subst C;refine AE (fun aF=>⟨⟨by omega,by omega⟩,?_⟩) fun aD=> ?_
 ·have C:i<64:=by omega
  obtain⟨R,aM,hb⟩:=Y.VM C;rw[Int.toNat_natCast];have e:=hL i C;refine(show _=_ from e)▸ ?_;refine T7 aM fun r0 r1 r2 aW g0 g1 aI=> ?_;have ci:=BH.ci i C;have aG:r2=W (S.ca i).rel:=by
   by_cases he:(S.ca i).empty
   ·rw[(g0 he).2.2];refine(GZ.2 fun k _=>DK fun q=> ?_).symm;have:=ci.rh k q;rw[he k]at this;cases this
   ·exact(g1 he).2.2
  subst aG;have a6:Go.Sh.IU S.ca (i+1)=Go.Sh.IU S.ca i+cN (S.ca i).rel 64:=rfl;have aJ:=KS S.ca (i+1) (64-(i+1));rw[show i+1+(64-(i+1))=64 by omega]at aJ;have a4:0<=Go.Sh.IU S.ca i:=by
   have:=KS S.ca 0 i;rw[Nat.zero_add]at this;exact this
  refine AM (fun st w'=> ∃u,st.2.1=W u/\NT S.T.rl+Go.Sh.IU S.ca i<=st.1/\st.1+cN u 64=NT S.T.rl+Go.Sh.IU S.ca (i+1)/\Sat (Cz E h S g++Z) w') (fun st _=>st.2.1.toNat) ⟨(S.ca i).rel,rfl,by show _<=cnt;omega,by show cnt+_=_;omega,hb aI⟩ ?_;rintro⟨j,r,v⟩ _ a1 ⟨u,hu,hle,aE,aA⟩;dsimp only at hu hle aE⊢;subst hu;refine DE (fun aB=> ?_) fun hz=> ?_
  ·obtain⟨c,d,J,O⟩:=YD aB;rw[YB d J O];have aV:=(YC J 64).1 d;refine AY fun aR aK=> ?_;subst aK;rw[AG (n:=j+1)];refine⟨⟨_,rfl,by show _<=j+1;omega,by show j+1+_=_;omega,aA⟩,?_⟩;show(W fun i=>u i&& !(i==c)).toNat<(W u).toNat;rw[<-YB d J O];have hb:=jF u;have hz:W u≠0:=aB;have e:E8 .u64 0 (W u) (u64 (W u-1))=((wN u 64&&&(wN u 64-1):Nat):Int):=by
    have a7:wN u 64<2^64:=Jm u 64;have e:u64 (W u-1)=((wN u 64-1:Nat):Int):=by
     unfold W at hz⊢;rw[AG];omega
    rw[e];unfold W;rw[bH (by omega) (by omega)]
   rw[e,Int.toNat_natCast];have:wN u 64&&&(wN u 64-1)<=wN u 64-1:=Nat.and_le_right;unfold W at hz⊢;rw[Int.toNat_natCast];omega
  ·have h0:cN u 64=0:=by
    have h1:=GZ.1 hz;have: ∀n,n<=64->cN u n=0:=by
     intro n
     induction n with
     | zero=>intro _;rfl
     | succ n ih=>intro hn;simp only[cN];rw[ih (by omega),h1 n (by omega)];rfl
    exact this 64 (Nat.le_refl _)
   rw[AN (n:=(i:Int)+1)];exact⟨⟨i+1,by omega,by omega,by show j=_;omega,aA⟩,by show(64-((i:Int)+1)).toNat<(64-(i:Int)).toNat;omega⟩
 ·have e:i=64:=by omega
  subst e;have N:=Y.drew;refine⟨_,(CC (S:=S) (g:=g) N).2.2.1,_,(CC (S:=S) (g:=g) N).2.2.2.2.2.2.1,Tw (N.front 3 rfl) ⟨(CC (S:=S) (g:=g) N).2.2.2.2.2.2.1,?_⟩⟩;rw[AG (n:=CK S.ks*512),<-c1,hc,aC];exact hK _ (Sat.heap.2 ⟨g,aL,N⟩)
variable(hE:EnvS E)
include hE
end
end Go.Sh
set_option linter.all false
set_option maxRecDepth 8000
set_option maxHeartbeats 2000000
namespace Go.Sh
def FB(S:HS)(i:Nat)(S1:HS):Prop:=((S.ca i).empty/\ ∃q,Eh S.T 1 q/\S1=S.fill i q)∨((¬(S.ca i).empty∨ ∀q,S.T.fr q=false)/\S1=S)
def Er(S:HS)(p n:Int)(S1:HS):Prop:=(¬(0<=p/\p<64/\n<16)/\S1=S)∨ ∃i:Nat,i<64/\p=i/\n<16/\FB S i S1/\ ∀k,¬GJ (S1.ca i).has k n.toNat
def SY(S:HS)(p n page:Int)(S2:HS):Prop:=
 (∃S1,∃i k:Nat,i<64/\p=i/\n<16/\FB S i S1/\GJ (S1.ca i).has k n.toNat/\(∀j,GJ (S1.ca i).has j n.toNat->k<=j)/\k+n.toNat<=64/\page=(S1.ca i).base+k/\S2=S1.FA i k n.toNat)∨
 ∃S1,Er S p n S1/\Eh S1.T n page/\S2=S1.DA page n
theorem FB.inv{S S1:HS}{i:Nat}(h:FB S i S1)(d:Ag S no)(v:E9 S)(j:i<64):Ag S1 no:=by
 rcases h with ⟨h1,q,C,rfl⟩|⟨h1,rfl⟩
 ·exact d.fill v j h1 q
 ·exact d
theorem Er.inv{S S1:HS}{p n:Int}(h:Er S p n S1)(d:Ag S no)(v:E9 S):Ag S1 no:=by
 rcases h with ⟨_,rfl⟩|⟨i,j,_,_,h,_⟩
 ·exact d
 ·exact h.inv d v j
section
variable{E:Env}{h:Nat}{S:HS}{Z:List Pr}{w:World}{g:HG}
theorem Of: ∀{l:Iv},Ok l->(l.length:Int)<=CK l
 | [],_=>Int.le_refl _
 | p::r,h=>by
  have:=Of h.tail;have:=h.2.1;show((r.length+1:Nat):Int)<=p.2-p.1+CK r;omega
variable(hE:K7 E)
include hE
theorem WT(hT: ∀w',Sat Z w'->GC E.AQ w')(H:Sat (Au E h S::Z) w)(hI:Ag S no){p n:Int}(n0:1<=n)(n1:n<=134217728){K:Int->Bool->World->Prop}
  (aO: ∀page S2,SY S p n page S2->Ag S2 (inr page n)->0<=page->page+n<=34359738368-> ∀w',Sat (Au E h S2::Z) w'->K page true w')
  (aW: ∀S1,Er S p n S1->Ag S1 no->(∀q,¬Gb S1.T.fr q n)-> ∀w',Sat (Au E h S1::Z) w'->K 0 false w'):F.Cr E (some ⟨h,0,none⟩) p n K w:=by
 have BH:=H.BH;obtain⟨g,aS,H⟩:=Sat.heap.1 H;unfold F.Cr T0.Cr;simp only[AI];have v: ∀S1 w3,Er S p n S1->Ag S1 no->S1.sp=S.sp->S1.V=S.V->S1.ks=S.ks->S1.own=S.own->S1.fx=S.fx->S1.hint=S.hint->S1.AA=S.AA->Sat (Cz E h S1 g++Z) w3->
   ∃aA:(Option Addr),w3.cell? ((Addr.mk h 0 none).add 1)=some (.pointer aA)/\F.A1 E aA n (fun aM aZ aK aJ=>K aM ((aK:Int)==0) aJ) w3:=by
  intro S1 w3 ht O e1 e2 e3 e4 e5 e6 e7 H3;have d:T8 S1 g:=aS.same e1;have J:=(Sat.heap.2 ⟨g,d,H3⟩:Sat (Au E h S1::Z) w3).BH;obtain⟨R,_,h1,hb⟩:=H3.Ni;refine⟨_,(CC (S:=S1) (g:=g) H3).2.1,OP hE.toEnvS h1 (by omega) (by omega) (fun e=>by omega) (fun _ Y w' H'=> ?_) fun _ page hf w' H'=> ?_⟩
  ·exact aW S1 ht O Y w' (Sat.heap.2 ⟨g,⟨d.nd,d.mem⟩,hb H'⟩)
  ·exact aO page (S1.DA page n) (.inr ⟨S1,ht,hf,rfl⟩) (O.DA J hf.2.2.1) hf.1 hf.2.1 w' (Sat.heap.2 ⟨g,⟨d.nd,d.mem⟩,hb H'⟩)
 refine Ax (Ax (aI (AE (fun hp j=>AE (fun hn=> ?_) fun hn j=> ?_) fun hp j=>Ab rfl fun j=> ?_)))
 ·obtain⟨i,rfl⟩: ∃i:Nat,p=(i:Int):=⟨p.toNat,by omega⟩;have hi:i<64:=by omega
  rw[Int.toNat_natCast];refine⟨by omega,_,by rw[Nat.mul_one,add_add,Nat.add_comm];exact(CC (S:=S) (g:=g) H).2.2.2.2.2.2.2 i hi,?_⟩;have C: ∀S1 N,FB S i S1->Ag S1 no->S1.sp=S.sp->S1.V=S.V->S1.ks=S.ks->S1.own=S.own->S1.fx=S.fx->S1.hint=S.hint->S1.AA=S.AA->Sat (Cz E h S1 g++Z) N->
    F.B3 E (some ⟨g.cb i,0,none⟩) (i64 n) (fun a0 bE a1 aH=>CND ((a1:Int)==0) (K a0 true aH) (∀j:Nat->Value,∃aA:(Option Addr),aH.cell? ((Addr.mk h 0 none).add 1)=some (.pointer aA)/\F.A1 E aA n (fun aM aZ aK aJ=>K aM ((aK:Int)==0) aJ) aH)) N:=by
   intro S1 N aT O e1 e2 e3 e4 e5 e6 e7 aG;have d:T8 S1 g:=aS.same e1;have J:=(Sat.heap.2 ⟨g,d,aG⟩:Sat (Au E h S1::Z) N).BH;obtain⟨R,hR,h1,hb⟩:=aG.Pw hi;rw[AN (n:=n)];refine R6 (hT _ (hR h1.tail.tail)) h1 (by omega) (by omega) (fun a2=>by omega) (fun _ _ Y=>Ab rfl fun j=> ?_) fun _ _ k aE aR aQ w' H'=>Ao rfl ?_
   ·exact v S1 N (.inr ⟨i,hi,rfl,hn,aT,Y⟩) O e1 e2 e3 e4 e5 e6 e7 aG
   ·have aF:=J.ci i hi;have q0:=aF.b0;have q1:=aF.b1;have q2:=aF.lR;have aC:=O.FA J hi aE aQ;rw[show((n.toNat:Nat):Int)=n by omega]at aC;refine aO ((S1.ca i).base+k) (S1.FA i k n.toNat) (.inl ⟨S1,i,k,hi,rfl,hn,aT,aE,aR,aQ,rfl,rfl⟩) aC (by omega) (by omega) w' (Sat.heap.2 ⟨g,⟨d.nd,d.mem⟩,hb H'⟩)
  obtain⟨R,hR,h1,hb⟩:=H.Pw hi;refine Ax (IJ h1 (fun he=>Ao rfl ⟨_,(CC (S:=S) (g:=g) H).2.1,?_⟩) fun he=>Ab rfl fun j=> ?_)
  ·refine Tp hE.toEnvS h1 (fun aY=>absurd he aY) (fun _ Y w' H' j=> ?_) fun _ q hq w' H' j=> ?_
   ·have h2:=hb H';rw[VO]at h2;exact C S w' (.inr ⟨.inr Y,rfl⟩) hI rfl rfl rfl rfl rfl rfl rfl h2
   ·exact C (S.fill i q) w' (.inl ⟨he,q,hq,rfl⟩) (hI.fill BH hi he q) rfl rfl rfl rfl rfl rfl rfl (hb H')
  ·exact C S w (.inr ⟨.inl he,rfl⟩) hI rfl rfl rfl rfl rfl rfl rfl H
 ·exact v S w (.inl ⟨by omega,rfl⟩) hI rfl rfl rfl rfl rfl rfl rfl H
 ·exact v S w (.inl ⟨by omega,rfl⟩) hI rfl rfl rfl rfl rfl rfl rfl H
def Ek(n:Int):Int:=(n+511)/512*512
def PF(S:HS)(n:Int)(S1:HS):Prop:=(∀r,S.V.rf≠true::r)/\ ∃at_,FL S.V S.hint (Ek n) at_/\S1=S.grown {S.V with rf:=S.V.rf.tail,pl:=S.V.pl.tail,laid:=Bk S.V.laid at_ (at_+Ek n)} at_ (Ek n)
def MZ(S:HS)(n:Int)(S1:HS):Prop:=(∃r,S.V.rf=true::r/\S1={S with V:={S.V with rf:=r}})∨((∀r,S.V.rf≠true::r)/\Ij S.V S.hint (Ek n)/\S1={S with V:={S.V with rf:=S.V.rf.tail,pl:=S.V.pl.tail}})
theorem UF(H:Sat (Au E h S::Z) w)(hI:Ag S no){n:Int}(n0:1<=n)(n1:n<=134217728){K:Int->World->Prop}
  (aL: ∀S1,PF S n S1->Ag S1 no->(∃at_,Gb S1.T.fr at_ n)-> ∀w',Sat (Au E h S1::Z) w'->K 0 w')(aG: ∀S1,MZ S n S1->Ag S1 no-> ∀w',Sat (Au E h S1::Z) w'->K 13 w'):
  F.CZ E (some ⟨h,0,none⟩) n K w:=by
 have BH:=H.BH;have aR:=hI.h0;have aZ:=hI.h1;obtain⟨g,d,H⟩:=Sat.heap.1 H;unfold F.CZ T0.CZ;refine⟨by decide,AY fun N hN=> ?_⟩;rw[AG (n:=n+512),AG (n:=n+512-1),Int.tdiv_eq_ediv_of_nonneg (by omega),AG (n:=(n+512-1)/512),AG]at hN;have hN:N=Ek n:=by unfold Ek;omega
 subst hN;have aO:Ek n %512=0/\n<=Ek n/\Ek n<=134217728:=by unfold Ek;omega
 obtain⟨u1,u2,u3⟩:=aO;have u4:Ek n<n+512:=by unfold Ek;omega
 simp only[AI];have Hd:=H.drew;refine⟨_,(CC (S:=S) (g:=g) Hd).1,_,(CC (S:=S) (g:=g) Hd).2.2.2.2.2.1,?_⟩;have bk: ∀{V':VS} {w'},Sat (Bf E g.m V'::(Cz E h S g++Z).eraseIdx 1) w'->Sat (Cz E h {S with V:=V'} g++Z) w':=fun{V' w'} h'=>Sat.back (Ps:=Cz E h S g++Z) 1 h' (by simp[Cz]);refine Qh hE.toEnvS (Hd.front 1 rfl) aR (by omega) (by omega) (by omega) (fun C=>by omega) (fun _ r hr w' H'=>Ao rfl ?_) (fun _ hr hu w' H'=>Ao rfl ?_) fun _ hr at_ hc w8 H8=>Ab rfl ?_
 ·exact aG _ (.inl ⟨r,hr,rfl⟩) (hI.aJ rfl rfl) w' (Sat.heap.2 ⟨g,⟨d.nd,d.mem⟩,bk H'⟩)
 ·exact aG _ (.inr ⟨hr,hu,rfl⟩) (hI.aJ rfl rfl) w' (Sat.heap.2 ⟨g,⟨d.nd,d.mem⟩,bk H'⟩)
 obtain⟨f1,f2,f3,f4⟩:=hc.fits BH.vv.Gz (by omega);have a0:0<=at_:=by
  rcases hc with ⟨p,r,h1,h2,rfl⟩|⟨_,⟨_,h1,_⟩|⟨_,_,h1,_⟩⟩
  ·obtain⟨g',aT,_⟩:=Sat.K3.1 (Hd.front 1 rfl:Sat (Bf E g.m S.V::_) _);exact(aT.R7 at_ (by rw[h1];exact List.mem_cons_self)).1
  ·have:=h1.low;omega
  ·have:=h1.low;omega
 have j: ∀p,at_<=p->p<at_+Ek n->S.T.Fb p=false:=fun p h1 h2=>DK fun hp=>(CU BH.vv.Gz (by omega)).1 f4 p h1 h2 ((hI.la p).2 hp);have H9:=bk H8;rw[AG (n:=at_+Ek n)];refine Aj H9 (o:=0) (m:=69) rfl (by rw[T9];decide) fun aU O=> ?_;rw[Nat.zero_add,UA]at O;have v:Sat (Cz E h {S with V:={S.V with rf:=S.V.rf.tail,pl:=S.V.pl.tail,laid:=Bk S.V.laid at_ (at_+Ek n)},hint:=at_+Ek n} g++Z) aU:=O;clear O;rw[Int.tdiv_eq_ediv_of_nonneg (by omega),Int.tdiv_eq_ediv_of_nonneg (by omega),AG (n:=at_/512),AG (n:=Ek n/512)];refine⟨_,(CC (S:={S with V:={S.V with rf:=S.V.rf.tail,pl:=S.V.pl.tail,laid:=Bk S.V.laid at_ (at_+Ek n)},hint:=at_+Ek n}) (g:=g) v).2.1,by decide,by decide,?_⟩;obtain⟨R,_,h1,hb⟩:=v.Ni;refine V3 hE.toEnvS h1 (by omega) (by omega) (by omega) (by omega) (fun C=>by unfold II at C;omega) (fun _ hex=> ?_) fun _ _ aK aI=> ?_
 ·obtain⟨p,q1,q2,q3⟩:=hex;have:S.T.Fb p=true:=q3;rw[j p (by omega) (by omega)]at this;cases this
 have aB:=(hb aI).drew;generalize hS3:({S with V:={S.V with rf:=S.V.rf.tail,pl:=S.V.pl.tail,laid:=Bk S.V.laid at_ (at_+Ek n)},hint:=at_+Ek n,T:=S.T.grow (at_/512) (Ek n/512)}:HS)=S3;have e3:S3.hint=at_+Ek n:=by rw[<-hS3]
 have Y:Sat (Cz E h S3 g++Z) aK.drew:=by rw[<-hS3];exact aB
 clear aB;have aF:=(CC (S:=S3) (g:=g) Y).2.2.2.2.2.1;rw[e3]at aF;refine⟨_,(CC (S:=S3) (g:=g) Y).2.2.1,by decide,_,aF,by decide,?_⟩;rw[Int.tdiv_eq_ediv_of_nonneg (by omega),AG (n:=(at_+Ek n)/512)];refine WI hE (Y.front 3 rfl) (by omega) (by omega) (by omega) fun aE aQ=> ?_;have aC:Sat (Cz E h {S3 with ks:=Bk S3.ks (at_/512) ((at_+Ek n)/512)} g++Z) aE:=Sat.back (Ps:=Cz E h S3 g++Z) 3 aQ (by simp[Cz]);have J:=(CC (S:={S3 with ks:=Bk S3.ks (at_/512) ((at_+Ek n)/512)}) (g:=g) aC).2.2.2.2.2.1;have aS:({S3 with ks:=Bk S3.ks (at_/512) ((at_+Ek n)/512)}:HS).hint=at_+Ek n:=e3;rw[aS]at J;refine⟨J,?_⟩;subst hS3;refine aL _ ⟨hr,at_,hc,rfl⟩ (hI.grown BH a0 (by omega) (by omega) f1 u1 j rfl rfl) ⟨at_,fun m q1 q2=> ?_⟩ aE (Sat.heap.2 ⟨g,⟨d.nd,d.mem⟩,aC⟩);show(S.T.fr m||inr (at_/512*512) (Ek n/512*512) m)=true;rw[Bool.or_eq_true,AU];exact .inr (by omega)
def GN(S:HS)(page n:Int):TV:=⟨S.T.Fb,fun p=>S.T.fr p||inr page n p,fun p=>S.T.rl p||(inr page n p&& !Ik S.V.ready p)⟩
omit hE in
theorem WU{S:HS}{page x y:Int}(h1:page<=x)(j:x<=y)(d: ∀p,x<=p->p<y-> ¬mem S.V.ready p):(GN S page (x-page)).back x (y-x)=GN S page (y-page):=by
 have e: ∀p,inr page (y-page) p=(inr page (x-page) p||inr x (y-x) p):=fun p=>by rw[Bool.eq_iff_iff,Bool.or_eq_true,AU,AU,AU];omega
 unfold GN TV.back;refine(TV.mk.injEq ..).mpr ⟨rfl,funext fun p=> ?_,funext fun p=> ?_⟩
 ·show(S.T.fr p||inr page (x-page) p||inr x (y-x) p)=_;rw[e,Bool.or_assoc]
 ·show(S.T.rl p||(inr page (x-page) p&& !Ik S.V.ready p)||inr x (y-x) p)=_;rw[e];cases g:inr x (y-x) p
  ·simp
  ·have g:=AU.1 g;have:Ik S.V.ready p=false:=DK fun q=>d p (by omega) (by omega) (A9.1 q);rw[this];simp
omit hE in
theorem WV{S:HS}{page x y:Int}(h1:page<=x)(j:x<=y)(d: ∀p,x<=p->p<y->mem S.V.ready p):(GN S page (x-page)).Ka x (y-x)=GN S page (y-page):=by
 have e: ∀p,inr page (y-page) p=(inr page (x-page) p||inr x (y-x) p):=fun p=>by rw[Bool.eq_iff_iff,Bool.or_eq_true,AU,AU,AU];omega
 unfold GN TV.Ka;refine(TV.mk.injEq ..).mpr ⟨rfl,funext fun p=> ?_,funext fun p=> ?_⟩
 ·show(S.T.fr p||inr page (x-page) p||inr x (y-x) p)=_;rw[e,Bool.or_assoc]
 ·show(S.T.rl p||(inr page (x-page) p&& !Ik S.V.ready p))=_;rw[e];cases g:inr x (y-x) p
  ·simp
  ·have g:=AU.1 g;rw[A9.2 (d p (by omega) (by omega))];simp
theorem UG{page n:Int}(H:Sat (Au E h S::Z) w)(hI:Ag S (inr page n))(p0:0<=page)(n0:1<=n)(pb:page+n<=34359738368){K:World->Prop}(hK:Ag (S.DU page n) no-> ∀w',Sat (Au E h (S.DU page n)::Z) w'->K w'):
  F.Cb E (some ⟨h,0,none⟩) page n K w:=by
 have BH:=H.BH;have aZ:=hI.DU BH;obtain⟨g,a6,H⟩:=Sat.heap.1 H;unfold F.Cb T0.Cb F.EG T0.EG;simp only[AI];rw[AG (n:=page+n)];refine⟨_,(CC (S:=S) (g:=g) H).1,?_⟩;simp only[AI];rw[show(Addr.mk g.m 0 none).add 5=⟨g.m,5,none⟩ by rw[add_eq]];obtain⟨gv,bM,HV⟩:=Sat.K3.1 (H.front 1 rfl:Sat (Bf E g.m S.V::_) w);refine Pf hE.toEnvS (HV.DF 1 rfl) (o:=5) rfl rfl p0 (by omega:page+n<18446744073709551616) fun s' w3 H3 _=> ?_;have a5:Sat (Ea E g.m S.V gv++(Row E.AD 2 s' (flat (withinL S.V.ready page (page+n)))::(Cz E h S g++Z).eraseIdx 1)) w3:=
  Sat.Jz (Ea E g.m S.V gv) (H3.perm (.cons _ (.cons _ (DD (i:=1) rfl).symm)))
 have H4:=Sat.K3.2 ⟨gv,bM,a5⟩;have H5:Sat (Row E.AD 2 s' (flat (withinL S.V.ready page (page+n)))::Bf E g.m S.V::(Cz E h S g++Z).eraseIdx 1) w3:=H4.perm (.swap _ _ _);have C:Sat (Cz E h S g++(Row E.AD 2 s' (flat (withinL S.V.ready page (page+n)))::Z)) w3:=by
  have h1:Sat (Row E.AD 2 s' (flat (withinL S.V.ready page (page+n)))::(Cz E h S g++Z)) w3:=H5.perm (.cons _ (DD (i:=1) rfl).symm);exact Sat.Jz (Cz E h S g) h1
 clear H5 H4 a5 H3 HV;have d:=OQ BH.vv.IT (a:=page) (b:=page+n) (by omega);have N: ∀q,mem (withinL S.V.ready page (page+n)) q↔mem S.V.ready q/\page<=q/\q<page+n:=fun q=>Jy;have aS: ∀q∈withinL S.V.ready page (page+n),page<=q.1/\q.1<q.2/\q.2<=page+n:=K0 BH.vv.IT (by omega);generalize hl:withinL S.V.ready page (page+n)=l at C d N aS;have hlen:s'.len=l.length:=by
  have:=((C.front 8 rfl:Sat (Row E.AD 2 s' (flat l)::_) _)).own.len;rw[Dl]at this;omega
 have a9:(l.length:Int)<=n:=by
  have h1:=Of d;have h2:=IC d.TR (a:=page) (b:=page+n) fun q hq=>((N q).1 hq).2;have h3:=DY d (a:=page) (b:=page+n) (by omega);omega
 have a4: ∀p,page<=p->p<page+n->S.T.Fb p=true:=fun p a b=>hI.li p (AU.2 ⟨a,b⟩);have aN: ∀{x y:Int},page<=x->x<y->y<=page+n->Ez (GN S page (x-page)) x (y-x):=fun{x y} a b c=>⟨by omega,by omega,fun m q1 q2=>a4 m (by omega) (by omega)⟩;have aF: ∀{x y:Int},page<=x->y<=page+n-> ∀m,x<=m->m<x+(y-x)->(GN S page (x-page)).fr m=false:=fun{x y} a c m q1 q2=>by
  show(S.T.fr m||inr page (x-page) m)=false;rw[(hI.Kj BH (AU.2 ⟨by omega,by omega⟩)).1,Ey.2 (by omega)];rfl
 have aE: ∀{x y:Int} {Y:List Pr} {w5:World} {K5:Int->World->Prop},page<=x->x<=y->y<=page+n->(∀p,x<=p->p<y-> ¬mem S.V.ready p)->Sat (Cz E h {S with T:=GN S page (x-page)} g++Y) w5->
   (∀r w6,Sat (Cz E h {S with T:=GN S page (y-page)} g++Y) w6->K5 r w6)->F.Ca E (some ⟨g.t,0,none⟩) x (y-x) K5 w5:=by
  intro x y Y w5 K5 h1 h2 h3 bK H5 aK;obtain⟨R,_,q1,qb⟩:=H5.Ni;refine V5 hE.toEnvS q1 (by omega) (by omega) (by omega) (by omega) (fun hb w6 C=> ?_) (fun _ hex w6 C=> ?_) fun _ _ w6 C=> ?_
  ·have:x=y:=Classical.byContradiction fun e=>hb (aN h1 (by omega) h3);subst this;exact aK _ _ (qb C)
  ·obtain⟨m,q1,q2,q3⟩:=hex;rw[aF h1 h3 m q1 q2]at q3;cases q3
  ·rw[WU h1 h2 bK]at C;exact aK _ _ (qb C)
 have stepG: ∀{x y:Int} {Y:List Pr} {w5:World} {K5:Int->World->Prop},page<=x->x<y->y<=page+n->(∀p,x<=p->p<y->mem S.V.ready p)->Sat (Cz E h {S with T:=GN S page (x-page)} g++Y) w5->
   (∀r w6,Sat (Cz E h {S with T:=GN S page (y-page)} g++Y) w6->K5 r w6)->F.CB E (some ⟨g.t,0,none⟩) x (y-x) K5 w5:=by
  intro x y Y w5 K5 h1 h2 h3 a1 H5 aK;obtain⟨R,_,q1,qb⟩:=H5.Ni;refine Pc hE.toEnvS q1 (by omega) (by omega) (by omega) (by omega) (fun hb w6 C=>absurd (aN h1 h2 h3) hb) (fun _ hex w6 C=> ?_) fun _ _ w6 C=> ?_
  ·obtain⟨m,q1,q2,q3⟩:=hex;rw[aF h1 h3 m q1 q2]at q3;cases q3
  ·rw[WV h1 (by omega) a1]at C;exact aK _ _ (qb C)
 refine AM (fun st w'=> ∃i:Nat,st.2.1=(i:Int)/\i<=l.length/\page<=st.1/\st.1<=page+n/\(∀j q,j<i->l[j]? =some q->q.2<=st.1)/\(∀j q,i<=j->l[j]? =some q->st.1<=q.1)/\
   Sat (Cz E h {S with T:=GN S page (st.1-page)} g++(Row E.AD 2 s' (flat l)::Z)) w') (fun st _=>((l.length:Int)-st.2.1).toNat) ⟨0,rfl,Nat.zero_le _,Int.le_refl _,by show page<=_;omega,fun j q hj=>absurd hj (Nat.not_lt_zero j),fun j q _ hq=>(aS q (List.mem_of_getElem? hq)).1,?_⟩ ?_
 ·have e:GN S page (page-page)=S.T:=by
   unfold GN;have: ∀p,inr page (page-page) p=false:=fun p=>Ey.2 (by omega);simp only[this,Bool.or_false,Bool.false_and]
  show Sat (Cz E h {S with T:=GN S page (page-page)} g++_) w3;rw[e];exact C
 rintro⟨at_,i',v⟩ _ w6 ⟨i,hi,a3,aT,a2,aI,a7,C⟩;dsimp only at hi aT a2 aI a7 C⊢;subst hi;rw[hlen];refine AE (fun b6=> ?_) fun bY=> ?_
 ·have a3:i<l.length:=by omega
  obtain⟨x,hx⟩: ∃x,l[i]? =some x:=⟨_,List.getElem?_eq_getElem a3⟩;obtain⟨x1,x2,x3⟩:=aS x (List.mem_of_getElem? hx);have x4:=a7 i x (Nat.le_refl _) hx;obtain⟨bb,bN,k1,k2⟩:=(C.front 8 rfl:Sat (Row E.AD 2 s' (flat l)::_) _).own.cells2 hx;rw[bN];simp only[AI,Int.toNat_natCast];refine⟨⟨by omega,by omega⟩,x.1,by rw[add_eq,add_eq,Nat.zero_add,Nat.add_zero];exact k1,x.2,by rw[add_eq,add_eq,Nat.zero_add];exact k2,?_⟩;refine Am (vs:=[.int .u64 0,.int .u64 0]) C fun O b4 bO _=> ?_;refine Jg (news:=[.int .u64 x.1,.int .u64 x.2]) bO rfl (by simp[Value.oneCell']) fun bV bH=> ?_;have aM:=bH.drew;have hC: ∀{w'} {Y:List Pr},Sat (Cells O E.AD [.int .u64 x.1,.int .u64 x.2]::Y) w'->w'.cell? (Addr.mk O 0 none)=some (.int .u64 x.1)/\w'.cell? ((Addr.mk O 0 none).add 1)=some (.int .u64 x.2):=fun h=>⟨h.BI rfl,h.cell rfl⟩;have aG: ∀{w'} {S':HS},Sat (Cz E h S' g++(Cells O E.AD [.int .u64 x.1,.int .u64 x.2]::Row E.AD 2 s' (flat l)::Z)) w'->Sat (Cells O E.AD [.int .u64 x.1,.int .u64 x.2]::(Cz E h S' g++(Row E.AD 2 s' (flat l)::Z))) w':=fun{w' S'} h=>h.perm List.perm_middle;have bF: ∀{w'} {S':HS},Sat (Cells O E.AD [.int .u64 x.1,.int .u64 x.2]::(Cz E h S' g++(Row E.AD 2 s' (flat l)::Z))) w'->Sat (Cz E h S' g++(Cells O E.AD [.int .u64 x.1,.int .u64 x.2]::Row E.AD 2 s' (flat l)::Z)) w':=fun{w' S'} q=>Sat.Jz (Cz E h S' g) q;have aW:=bF aM;refine⟨_,(CC (S:={S with T:=GN S page (at_-page)}) (g:=g) aW).2.1,_,(hC aM).1,?_⟩;rw[AG (n:=x.1-at_)];refine aE aT x4 (by omega) (fun p q1 q2 hm=> ?_) aW fun r b0 aY=> ?_
  ·obtain⟨y,hy,y1,y2⟩:=(N p).2 ⟨hm,by omega,by omega⟩;obtain⟨j,hj⟩:=List.mem_iff_getElem?.1 hy;rcases Nat.lt_trichotomy j i with g1|g1|g1
   ·have:=aI j y g1 hj;omega
   ·subst g1;rw[hx]at hj;cases hj;omega
   ·have:=d.lt g1 hx hj;omega
  have J:=aY.drew;refine⟨(hC (aG aY)).1,_,(CC (S:={S with T:=GN S page (x.1-page)}) (g:=g) J).2.1,_,(hC (aG J)).1,_,(hC (aG J)).2,_,(hC (aG J)).1,?_⟩;rw[AG (n:=x.2-x.1)];refine stepG (by omega) x2 x3 (fun p q1 q2=>((N p).1 ⟨x,List.mem_of_getElem? hx,q1,q2⟩).1) J fun r bX bG=> ?_;have aA:=aG bG;refine⟨(hC aA).1,(hC aA).2,_,(hC aA).2,?_⟩;rw[AN (n:=(i:Int)+1)];refine⟨⟨i+1,by omega,by omega,by show page<=x.2;omega,x3,fun j q hj hq=> ?_,fun j q hj hq=> ?_,aA.tail⟩,by show((l.length:Int)-((i:Int)+1)).toNat<((l.length:Int)-(i:Int)).toNat;omega⟩
  ·rcases Nat.lt_or_eq_of_le (Nat.le_of_lt_succ hj)with g1|g1
   ·have:=aI j q g1 hq;show q.2<=x.2;omega
   ·subst g1;rw[hx]at hq;cases hq;exact Int.le_refl _
  ·have:=d.lt (show i<j by omega) hx hq;show x.2<=q.1;omega
 ·have e:i=l.length:=by omega
  subst e;refine⟨_,(CC (S:={S with T:=GN S page (at_-page)}) (g:=g) C).2.1,?_⟩;rw[AG (n:=page+n-at_)];refine aE aT a2 (Int.le_refl _) (fun p q1 q2 hm=> ?_) C fun r bE a8=> ?_
  ·obtain⟨y,hy,y1,y2⟩:=(N p).2 ⟨hm,by omega,by omega⟩;obtain⟨j,hj⟩:=List.mem_iff_getElem?.1 hy;have bJ:j<l.length:=by
    obtain⟨h1,_⟩:=List.getElem?_eq_some_iff.1 hj;exact h1
   have:=aI j y bJ hj;omega
  ·rw[show page+n-page=n by omega]at a8;exact hK aZ bE (Sat.heap.2 ⟨g,⟨a6.nd,a6.mem⟩,Sat.Lm (Cz E h (S.DU page n) g) a8⟩)
end
end Go.Sh
set_option linter.all false
set_option maxRecDepth 8000
set_option maxHeartbeats 2000000
namespace Go.Sh
def JG(S:HS)(p n page:Int)(S1:HS):Prop:=
 SY S p n page S1∨ ∃j d,Er S p n j/\(∀q,¬Gb j.T.fr q n)/\PF j n d/\Eh d.T n page/\S1=d.DA page n
def Fm(S:HS)(page n:Int):Prop:= ∀q,page<=q->q<page+n->mem S.V.ready q
def Made(S1:HS)(page n:Int)(S2:HS):Prop:=(Fm S1 page n/\S2=S1)∨(¬Fm S1 page n/\(∀r,S1.V.rf≠true::r)/\S2={S1 with V:=FY S1.V page n})
def Found(S:HS)(p n page:Int)(S2:HS):Prop:= ∃S1,JG S p n page S1/\Made S1 page n S2
def Ma(S:HS)(p n:Int)(S2:HS):Prop:=
 (∃d,Er S p n d/\(∀q,¬Gb d.T.fr q n)/\MZ d n S2)∨
 ∃S1 page r,JG S p n page S1/\ ¬Fm S1 page n/\S1.V.rf=true::r/\S2=({S1 with V:={S1.V with rf:=r}}:HS).DU page n
section
variable{E:Env}{h:Nat}{S:HS}{Z:List Pr}{w:World}{g:HG}
theorem Ag.rY{S:HS}{fl:Int->Bool}(d:Ag S fl):0<=S.AA/\S.AA<=34359738368:=by
 rw[d.pg];exact GM _
theorem Sat.YE(H:Sat (Au E h S::Z) w): ∃m R,w.cell? (Addr.mk h 0 none)=some (.pointer (some ⟨m,0,none⟩))/\Sat (Bf E m S.V::R) w/\
  ∀{V':VS} {w'},Sat (Bf E m V'::R) w'->Sat (Au E h {S with V:=V'}::Z) w':=by
 obtain⟨g,d,H⟩:=Sat.heap.1 H;refine⟨g.m,_,(CC (S:=S) (g:=g) H).1,H.front 1 rfl,fun{V' w'} h'=>Sat.heap.2 ⟨g,⟨d.nd,d.mem⟩,?_⟩⟩;exact Sat.back (Ps:=Cz E h S g++Z) 1 h' (by simp[Cz])
theorem Sat.SZ(H:Sat (Au E h S::Z) w): ∃t R,w.cell? ((Addr.mk h 0 none).add 1)=some (.pointer (some ⟨t,0,none⟩))/\Sat (BG E t S.T::R) w/\
  ∀{j:TV} {w'},Sat (BG E t j::R) w'->Sat (Au E h {S with T:=j}::Z) w':=by
 obtain⟨g,d,H⟩:=Sat.heap.1 H;refine⟨g.t,_,(CC (S:=S) (g:=g) H).2.1,H.front 2 rfl,fun{V' w'} h'=>Sat.heap.2 ⟨g,⟨d.nd,d.mem⟩,?_⟩⟩;exact Sat.back (Ps:=Cz E h S g++Z) 2 h' (by simp[Cz])
variable(hE:K7 E)
include hE
theorem UH(hT: ∀w',Sat Z w'->GC E.AQ w')(H:Sat (Au E h S::Z) w)(hI:Ag S no){p n:Int}(n0:1<=n)(n1:n<=134217728){K:Int->Int->World->Prop}
  (bQ: ∀page S2,Found S p n page S2->Ag S2 (inr page n)->0<=page->page+n<=34359738368->Fm S2 page n-> ∀w',Sat (Au E h S2::Z) w'->K page 0 w')
  (bM: ∀S2,Ma S p n S2->Ag S2 no-> ∀w',Sat (Au E h S2::Z) w'->K 0 13 w'):F.Cu E (some ⟨h,0,none⟩) p n K w:=by
 unfold F.Cu T0.Cu;refine Am (vs:=[.pointer (some ⟨h,0,none⟩)]) H fun b1 w2 H2 _=>Am (vs:=[.int .u64 n]) H2 fun b3 w4 H4 _=>Am (vs:=[.int .i64 0]) H4 fun N w6 H6 _=> ?_;have H7:=H6.front 3 rfl;have d: ∀{w'} {S':HS} {x:Int} {Y:List Pr},Sat (Au E h S'::Cells N E.C1 [.int .i64 x]::Cells b3 E.AH [.int .u64 n]::Cells b1 E.CE [.pointer (some ⟨h,0,none⟩)]::Y) w'->
   w'.cell? (Addr.mk b1 0 none)=some (.pointer (some ⟨h,0,none⟩))/\w'.cell? (Addr.mk b3 0 none)=some (.int .u64 n)/\w'.cell? (Addr.mk N 0 none)=some (.int .i64 x):=fun q=>⟨(q.front 3 rfl).BI rfl,(q.front 2 rfl).BI rfl,(q.front 1 rfl).BI rfl⟩
 have aG: ∀{w'} {S':HS} {x y:Int} {Y:List Pr} {K':World->Prop},Sat (Au E h S'::Cells N E.C1 [.int .i64 x]::Cells b3 E.AH [.int .u64 n]::Cells b1 E.CE [.pointer (some ⟨h,0,none⟩)]::Y) w'->
   (∀aU,Sat (Au E h S'::Cells N E.C1 [.int .i64 y]::Cells b3 E.AH [.int .u64 n]::Cells b1 E.CE [.pointer (some ⟨h,0,none⟩)]::Y) aU->K' aU)->stCells (Addr.mk N 0 none) 0 [.int .i64 y] w' K':=fun{w' S' x y Y K'} q hq=>by
  refine Gs (q.front 1 rfl) (o:=0) rfl (by simp) fun aU q'=>hq aU ?_;exact q'.perm (.swap _ _ _)
 have a3: ∀{w'} {S':HS} {x:Int},Sat (Au E h S'::Cells N E.C1 [.int .i64 x]::Cells b3 E.AH [.int .u64 n]::Cells b1 E.CE [.pointer (some ⟨h,0,none⟩)]::Z) w'->Sat (Au E h S'::Z) w':=fun{w' S' x} q=>by
  have q1:=(q.front 1 rfl).tail;have q2:=(q1.front 1 rfl).tail;exact(q2.front 1 rfl).tail
 have bZ: ∀w',Sat (Cells N E.C1 [.int .i64 0]::Cells b3 E.AH [.int .u64 n]::Cells b1 E.CE [.pointer (some ⟨h,0,none⟩)]::Z) w'->GC E.AQ w':=fun w' q=>hT w' q.tail.tail.tail;refine⟨_,(d H7).1,_,(d H7).2.1,?_⟩;have aR: ∀page S1,JG S p n page S1->Ag S1 (inr page n)->0<=page->page+n<=34359738368-> ∀x aW,Sat (Au E h S1::Cells N E.C1 [.int .i64 x]::Cells b3 E.AH [.int .u64 n]::Cells b1 E.CE [.pointer (some ⟨h,0,none⟩)]::Z) aW->
  AL (.cells #[.int .u64 0] E.AH) aW fun J bC=>
  stCells (Addr.mk J 0 none) 0 [.int .u64 page] bC fun aF=>
  ∃aV:(Option Addr),aF.drew.cell? (Addr.mk b1 0 none)=some (.pointer aV)/\
  NC aV fun b8=>
  ∃bB:(Option Addr),aF.drew.cell? b8=some (.pointer bB)/\
  ∃bG:Int,aF.drew.cell? (Addr.mk b3 0 none)=some (.int .u64 bG)/\
  F.CA E bB page bG (fun cB v=>
  v.cell? (Addr.mk b1 0 none)=some (.pointer aV)/\
  CND ((cB:Int) !=0) (
   stCells (Addr.mk N 0 none) 0 [.int .i64 13] v fun cE=>
   F.At E (some (Addr.mk N 0 none)) (some (Addr.mk b1 0 none)) (some (Addr.mk J 0 none)) (some (Addr.mk b3 0 none)) (fun a2=>
    ∃a5:Int,a2.cell? (Addr.mk N 0 none)=some (.int .i64 a5)/\
    K 0 a5 a2
   ) cE
  ) (
   stCells (Addr.mk N 0 none) 0 [.int .i64 0] v fun aK=>
   F.At E (some (Addr.mk N 0 none)) (some (Addr.mk b1 0 none)) (some (Addr.mk J 0 none)) (some (Addr.mk b3 0 none)) (fun aL=>
    ∃aP:Int,aL.cell? (Addr.mk N 0 none)=some (.int .i64 aP)/\
    K page aP aL
   ) aK
  )
  ) aF.drew:=by
  intro page S1 hk T q0 q1 x aW a9;have O:=a9.BH;refine Am (vs:=[.int .u64 0]) a9 fun J bC b0 _=>Gs b0 (o:=0) rfl (by simp) fun aF b4=> ?_;have bU:Sat (Au E h S1::Cells N E.C1 [.int .i64 x]::Cells b3 E.AH [.int .u64 n]::Cells b1 E.CE [.pointer (some ⟨h,0,none⟩)]::Cells J E.AH [.int .u64 page]::Z) aF:=b4.perm ((DD (l:=Au E h S1::Cells N E.C1 [.int .i64 x]::Cells b3 E.AH [.int .u64 n]::Cells b1 E.CE [.pointer (some ⟨h,0,none⟩)]::Cells J E.AH [.int .u64 page]::Z) (i:=4) rfl).symm);have aT:=bU.drew;obtain⟨m,R,c0,hm,hb⟩:=aT.YE;refine⟨_,(d aT).1,?_⟩;simp only[AI];refine⟨_,c0,_,(d aT).2.1,?_⟩;have a8: ∀{w'} {S':HS} {x:Int},Sat (Au E h S'::Cells N E.C1 [.int .i64 x]::Cells b3 E.AH [.int .u64 n]::Cells b1 E.CE [.pointer (some ⟨h,0,none⟩)]::Cells J E.AH [.int .u64 page]::Z) w'->w'.cell? (Addr.mk J 0 none)=some (.int .u64 page):=fun q=>(q.front 4 rfl).BI rfl;have aE: ∀{w'} {S':HS} {x:Int},Sat (Au E h S'::Cells N E.C1 [.int .i64 x]::Cells b3 E.AH [.int .u64 n]::Cells b1 E.CE [.pointer (some ⟨h,0,none⟩)]::Cells J E.AH [.int .u64 page]::Z) w'->Sat (Au E h S'::Z) w':=fun{w' S' x} q=>by
   have q1:=(q.front 1 rfl).tail;have q2:=(q1.front 1 rfl).tail;have q3:=(q2.front 1 rfl).tail;exact(q3.front 1 rfl).tail
  have bK: ∀q,page<=q->q<page+n->inr page n q=true:=fun q a b=>AU.2 ⟨a,b⟩;have a0:cnt S1.V.laid page (page+n)=n:=by
   have:=(Ci O.vv.Gz (a:=page) (b:=page+n) (by omega)).2 fun q a b=>(T.la q).2 (T.li q (bK q a b));omega
  have aS:=Ci O.vv.IT (a:=page) (b:=page+n) (by omega);have C:cnt S1.V.ready page (page+n)=n↔Fm S1 page n:=⟨fun e=>aS.1 (by omega),fun e=>by have:=aS.2 e;omega⟩;have same:({S1 with V:=S1.V}:HS)=S1:=rfl;have aI: ∀S2 v,Made S1 page n S2->Ag S2 (inr page n)->Fm S2 page n->Sat (Au E h S2::Cells N E.C1 [.int .i64 x]::Cells b3 E.AH [.int .u64 n]::Cells b1 E.CE [.pointer (some ⟨h,0,none⟩)]::Cells J E.AH [.int .u64 page]::Z) v->
    stCells (Addr.mk N 0 none) 0 [.int .i64 0] v fun aK=>
    F.At E (some (Addr.mk N 0 none)) (some (Addr.mk b1 0 none)) (some (Addr.mk J 0 none)) (some (Addr.mk b3 0 none)) (fun aL=>
     ∃aP:Int,aL.cell? (Addr.mk N 0 none)=some (.int .i64 aP)/\
     K page aP aL) aK:=by
   intro S2 v b6 aC bS aA;refine aG aA fun aK a1=> ?_;unfold F.At T0.At;simp only[AI];exact⟨_,(d a1).2.2,Ab rfl ⟨_,(d a1).2.2,bQ page S2 ⟨S1,hk,b6⟩ aC q0 q1 bS aK (aE a1)⟩⟩
  refine SC hE.toEnvS hm q0 (by omega) (by omega) (by omega) (fun bE=>absurd ⟨by omega,q1⟩ bE) (fun _ hl=>absurd a0 hl) (fun _ _ hr v bL=> ?_) (fun _ _ hr r aZ v aA=> ?_) fun _ _ hr aZ v aA=> ?_
  ·have aA:=aT.nothing bL;exact⟨(d aA).1,Ab rfl (aI S1 v (.inl ⟨C.1 hr,rfl⟩) T (C.1 hr) aA)⟩
  ·have aQ:=hb aA;refine⟨(d aQ).1,Ao rfl (aG aQ fun a2 aN=> ?_)⟩;unfold F.At T0.At;simp only[AI];refine⟨_,(d aN).2.2,Ao rfl ⟨_,(d aN).1,_,a8 aN,_,(d aN).2.1,?_⟩⟩;have aC:Ag {S1 with V:={S1.V with rf:=r}} (inr page n):=T.aJ rfl rfl;refine UG hE aN aC q0 n0 q1 fun b7 bR bI=>⟨_,(d bI).2.2,?_⟩;exact bM _ (.inr ⟨S1,page,r,hk,fun e=>hr (C.2 e),aZ,rfl⟩) b7 bR (aE bI)
  ·have aQ:=hb aA;have aC:Ag {S1 with V:=FY S1.V page n} (inr page n):=T.LB O q0 (by omega) q1 bK;exact⟨(d aQ).1,Ab rfl (aI _ v (.inr ⟨fun e=>hr (C.2 e),aZ,rfl⟩) aC (Qm O q0 (by omega) q1) aQ)⟩
 refine WT hE bZ H7 hI n0 n1 (fun page S1 hg T q0 q1 bH aO=>Ax (Ab rfl fun j=>aR page S1 (.inl hg) T q0 q1 0 bH aO)) fun S0 ht bV bJ bH aO=>Ax (Ao rfl ⟨_,(d aO).1,_,(d aO).2.1,?_⟩);refine UF hE aO bV n0 n1 (fun bA hg T a7 bW aY=> ?_) fun S2 cD aC bW aY=> ?_
 ·refine aG aY fun cC aM=>⟨_,(d aM).2.2,Ab rfl ?_⟩;have aD:=aM.drew;have O:=aD.BH;obtain⟨t,R,c1,b9,hb⟩:=aD.SZ;refine⟨_,(d aD).1,?_⟩;simp only[AI];refine⟨_,c1,_,(d aD).2.1,?_⟩;refine OP hE.toEnvS b9 (by omega) (by omega) (fun e=>by omega) (fun _ bF w' H'=> ?_) fun _ page hf cF bP=> ?_
  ·obtain⟨a,ha⟩:=a7;exact absurd ha (bF a)
  ·have a6:=hb bP;exact⟨(d a6).1,fun j=>aR page (bA.DA page n) (.inr ⟨S0,bA,ht,bJ,hg,hf,rfl⟩) (T.DA O hf.2.2.1) hf.1 hf.2.1 0 cF a6⟩
 ·refine aG aY fun cC aM=>⟨_,(d aM).2.2,Ao rfl ?_⟩;have aD:=aM.drew;refine⟨_,(d aD).2.2,aG aD fun bT bD=>⟨_,(d bD).2.2,?_⟩⟩;exact bM S2 (.inl ⟨S0,ht,bJ,cD⟩) aC bT (a3 bD)
theorem UI{page n:Int}{b:Nat}{I:SI}(H:Sat (GQ E b I::Au E h S::Z) w)(hI:Ag S (inr page n))(p0:0<=page)(n0:1<=n)(pb:page+n<=34359738368)(hr:Fm S page n)
  (i1:I.base=page*8192)(i2:I.AA=n)(i3:I.state≠0){K:Int->World->Prop}
  (hK: ∀id X,Next S id X->Ag (S.Dd id (b,I) page n X) no-> ∀w',Sat (Au E h (S.Dd id (b,I) page n X)::Z) w'->K id w'):F.DO E (some ⟨h,0,none⟩) (some ⟨b,0,none⟩) K w:=by
 have BH:=(H.front 1 rfl:Sat (Au E h S::_) w).BH;have bK:=hI.fb;obtain⟨g,aG,H0⟩:=Sat.heap.1 (H.front 1 rfl:Sat (Au E h S::GQ E b I::Z) w);unfold F.DO T0.DO;simp only[AI];refine⟨_,(CC (S:=S) (g:=g) H0).2.2.2.1,?_⟩;have C: ∀id X,Next S id X-> ∀O,Sat (Cz E h {S with fx:=X} g++(GQ E b I::Z)) O->
   ∃x6:(Option Nat),O.cell? ((Addr.mk h 0 none).add 4)=some (.map x6)/\
   QK .i64 id (.pointer (some ⟨b,0,none⟩)) x6 O fun w7=>
   F.EH E (some ⟨b,0,none⟩) (fun r8 r9 aY aZ a3 bB bA a8 a5 a9 aP=>
   AL (.cells #[.int .u64 0,.int .i64 0,.int .i64 0,.int .i64 0,.bool false,.int .i64 0,.int .i64 0,.int .i64 0,.bool false,.bool false] E.EF) aP fun d aU=>
   stCells (Addr.mk d 0 none) 0 [.int .u64 r8,.int .i64 r9,.int .i64 aY,.int .i64 aZ,.bool a3,.int .i64 bB,.int .i64 bA,.int .i64 a8,.bool a5,.bool a9] aU fun v=>
   ∃aS:(Option Addr),v.drew.cell? ((Addr.mk h 0 none).add 2)=some (.pointer aS)/\
   ∃aE:Int,v.drew.cell? (Addr.mk d 0 none)=some (.int .u64 aE)/\
   8192≠(0:Int)/\
   ∃aJ:Int,v.drew.cell? ((Addr.mk d 0 none).add 1)=some (.int .i64 aJ)/\
   F.Ct E aS (u64 (Int.tdiv aE 8192)) (u64 (aJ)) id (fun bW j=>
   j.cell? ((Addr.mk d 0 none).add 1)=some (.int .i64 aJ)/\
   j.cell? (Addr.mk d 0 none)=some (.int .u64 aE)/\
   ∃aR:Int,j.drew.cell? ((Addr.mk h 0 none).add 70)=some (.int .u64 aR)/\
   ∃aO:Int,j.drew.cell? ((Addr.mk d 0 none).add 1)=some (.int .i64 aO)/\
   stCells ((Addr.mk h 0 none).add 70) 0 [.int .u64 (u64 (aR+(u64 (aO))))] j.drew fun aI=>
   K id aI
   ) v.drew
   ) w7:=by
  intro id X hX O H4;obtain⟨RP,aF,a6⟩:=hX.live BH hI;refine⟨_,(CC (S:={S with fx:=X}) (g:=g) H4).2.2.2.2.1,Up (H4.front 5 rfl) fun w7 H7=> ?_⟩;have e:(fun i=>if i=id then some (Value.pointer (some ⟨b,0,none⟩))else Ec S.sp i)=Ec fun i=>if i=id then some (b,I)else S.sp i:=funext fun i=>by
   unfold Ec;by_cases q:i=id
   ·dsimp only;rw[if_pos q,if_pos q];rfl
   ·dsimp only;rw[if_neg q,if_neg q]
  have aT:Sat (Dx g.sm .i64 (fun i=>if i=id then some (Value.pointer (some ⟨b,0,none⟩))else Ec S.sp i)::(Cz E h {S with fx:=X} g++(GQ E b I::Z)).eraseIdx 5) w7:=H7;rw[e]at aT;have H8:Sat (GQ E b I::Dx g.sm .i64 (Ec fun i=>if i=id then some (b,I)else S.sp i)::[Cells h E.Aa (CD g S.hint S.AA),Bf E g.m S.V,BG E g.t S.T,CP E g.a S.ks S.own,FN E g.f X,Ap (Kb E S.sp) g.ids,Ap (fun i:Nat=>A0 E (g.cb i) (S.ca i)) (List.range 64)]++Z) w7:=
   aT.front 8 rfl
  refine Mz H8 fun aP a2=> ?_;refine Am (vs:=[.int .u64 0,.int .i64 0,.int .i64 0,.int .i64 0,.bool false,.int .i64 0,.int .i64 0,.int .i64 0,.bool false,.bool false]) a2 fun d aU a7 _=> ?_;refine Jg (news:=[.int .u64 I.base,.int .i64 I.AA,.int .i64 I.state,.int .i64 I.cls,.bool I.Hl,.int .i64 I.elem,.int .i64 I.Bs,.int .i64 I.used,.bool I.f8,.bool I.f9]) a7 rfl (by simp[Value.oneCell']) fun v aH=> ?_;have aB:id∉g.ids:=fun q=>(aG.mem id).1 q aF;have J:Ap (Kb E S.sp) g.ids=Ap (Kb E fun i=>if i=id then some (b,I)else S.sp i) g.ids:=Ap.congr fun i hi=>by
   unfold Kb;dsimp only;rw[if_neg fun q=>aB (by rw[<-q];exact hi)]
  have aA:GQ E b I=Kb E (fun i=>if i=id then some (b,I)else S.sp i) id:=by unfold Kb;dsimp only;rw[if_pos rfl]
  generalize hsp:(fun i=>if i=id then some (b,I)else S.sp i)=sp' at aH J aA;have a0:Sat (Cells d E.EF [.int .u64 I.base,.int .i64 I.AA,.int .i64 I.state,.int .i64 I.cls,.bool I.Hl,.int .i64 I.elem,.int .i64 I.Bs,.int .i64 I.used,.bool I.f8,.bool I.f9]::(Cz E h {S with fx:=X,sp:=sp'} {g with ids:=id::g.ids}++Z)) v:=by
   rw[J,aA]at aH;have q1:Sat (Kb E sp' id::Ap (Kb E sp') g.ids::[Cells d E.EF [.int .u64 I.base,.int .i64 I.AA,.int .i64 I.state,.int .i64 I.cls,.bool I.Hl,.int .i64 I.elem,.int .i64 I.Bs,.int .i64 I.used,.bool I.f8,.bool I.f9],Dx g.sm .i64 (Ec sp'),Cells h E.Aa (CD g S.hint S.AA),Bf E g.m S.V,BG E g.t S.T,CP E g.a S.ks S.own,FN E g.f X,Ap (fun i:Nat=>A0 E (g.cb i) (S.ca i)) (List.range 64)]++Z) v:=
    (aH.front 1 rfl).DF 7 rfl
   have q2:=Sat.Jl.2 q1;refine q2.perm ?_;show List.Perm _ (Cells d E.EF [.int .u64 I.base,.int .i64 I.AA,.int .i64 I.state,.int .i64 I.cls,.bool I.Hl,.int .i64 I.elem,.int .i64 I.Bs,.int .i64 I.used,.bool I.f8,.bool I.f9]::([Cells h E.Aa (CD g S.hint S.AA),Bf E g.m S.V,BG E g.t S.T,CP E g.a S.ks S.own,FN E g.f X,Dx g.sm .i64 (Ec sp'),Ap (Kb E sp') (id::g.ids),Ap (fun i:Nat=>A0 E (g.cb i) (S.ca i)) (List.range 64)]++Z));refine List.Perm.trans (.swap _ _ _) (.cons _ ?_);refine List.Perm.append_right (l₁:=[Ap (Kb E sp') (id::g.ids),Dx g.sm .i64 (Ec sp'),Cells h E.Aa (CD g S.hint S.AA),Bf E g.m S.V,BG E g.t S.T,CP E g.a S.ks S.own,FN E g.f X,Ap (fun i:Nat=>A0 E (g.cb i) (S.ca i)) (List.range 64)]) Z ?_;refine List.Perm.trans (.swap _ _ _) ?_;refine List.Perm.trans (List.perm_middle (a:=Dx g.sm .i64 (Ec sp')) (l₁:=[])|>.symm) ?_;have p1:List.Perm (Dx g.sm .i64 (Ec sp')::Ap (Kb E sp') (id::g.ids)::([Cells h E.Aa (CD g S.hint S.AA),Bf E g.m S.V,BG E g.t S.T,CP E g.a S.ks S.own,FN E g.f X]++[Ap (fun i:Nat=>A0 E (g.cb i) (S.ca i)) (List.range 64)])) ([Cells h E.Aa (CD g S.hint S.AA),Bf E g.m S.V,BG E g.t S.T,CP E g.a S.ks S.own,FN E g.f X]++(Dx g.sm .i64 (Ec sp')::Ap (Kb E sp') (id::g.ids)::[Ap (fun i:Nat=>A0 E (g.cb i) (S.ca i)) (List.range 64)])):=by
    refine List.Perm.trans (.cons _ List.perm_middle.symm) ?_;exact List.perm_middle.symm
   exact p1
  have N:=a0.drew;have hB: ∀{w'} {Y:List Pr},Sat (Cells d E.EF [.int .u64 I.base,.int .i64 I.AA,.int .i64 I.state,.int .i64 I.cls,.bool I.Hl,.int .i64 I.elem,.int .i64 I.Bs,.int .i64 I.used,.bool I.f8,.bool I.f9]::Y) w'->w'.cell? (Addr.mk d 0 none)=some (.int .u64 I.base)/\w'.cell? ((Addr.mk d 0 none).add 1)=some (.int .i64 I.AA):=fun q=>⟨q.BI rfl,q.cell rfl⟩;have hA:=(CC (S:={S with fx:=X,sp:=sp'}) (g:={g with ids:=id::g.ids}) N.tail).2.2.1;refine⟨_,hA,_,(hB N).1,by decide,_,(hB N).2,?_⟩;have e1:u64 (Int.tdiv I.base 8192)=page:=by rw[i1,Int.tdiv_eq_ediv_of_nonneg (by omega),show page*8192/8192=page by omega,AG]
  have e2:u64 I.AA=n:=by rw[i2,AG]
  rw[e1,e2];have aX:=N.front 4 rfl;refine SM hE aX p0 (by omega) (by omega) (by omega) ⟨by omega,by omega,pb,fun q q1 q2=>(hI.ks q).2 (hI.li q (AU.2 ⟨q1,q2⟩))⟩ fun j bD=> ?_;have aD:Sat (Cells d E.EF [.int .u64 I.base,.int .i64 I.AA,.int .i64 I.state,.int .i64 I.cls,.bool I.Hl,.int .i64 I.elem,.int .i64 I.Bs,.int .i64 I.used,.bool I.f8,.bool I.f9]::(Cz E h {S with fx:=X,sp:=sp',own:=fun p=>if page<=p/\p<page+n then id else S.own p} {g with ids:=id::g.ids}++Z)) j:=
   Sat.back (Ps:=Cells d E.EF [.int .u64 I.base,.int .i64 I.AA,.int .i64 I.state,.int .i64 I.cls,.bool I.Hl,.int .i64 I.elem,.int .i64 I.Bs,.int .i64 I.used,.bool I.f8,.bool I.f9]::(Cz E h {S with fx:=X,sp:=sp'} {g with ids:=id::g.ids}++Z)) 4 bD (by simp[Cz])
  have aC:=aD.drew;have hP:=(CC (S:={S with fx:=X,sp:=sp',own:=fun p=>if page<=p/\p<page+n then id else S.own p}) (g:={g with ids:=id::g.ids}) aC.tail).2.2.2.2.2.2.1;refine⟨(hB aD).2,(hB aD).1,_,hP,_,(hB aC).2,?_⟩;rw[e2];have bP:=hI.pg;have bJ:=GM fun p=>decide (0<S.own p);show stCells _ 0 [.int .u64 (u64 (S.AA+n))] _ _;rw[AG (n:=S.AA+n)];refine Aj aC.tail (o:=0) (m:=70) rfl (by rw[T9];decide) fun aI aM=> ?_;rw[Nat.zero_add,M0]at aM;have aN:=hI.Dd BH p0 (by omega) pb hr hX (x:=(b,I)) i1 i2 i3;refine hK id X hX aN aI (Sat.heap.2 ⟨{g with ids:=id::g.ids},⟨List.nodup_cons.2 ⟨aB,aG.nd⟩,fun i=> ?_⟩,?_⟩)
  ·show i∈id::g.ids↔(if i=id then some (b,I)else S.sp i)≠none;rw[List.mem_cons,aG.mem];by_cases q:i=id
   ·rw[if_pos q];exact⟨fun _ h=>(by cases h),fun _=>.inl q⟩
   ·rw[if_neg q];exact⟨fun h=>h.elim (fun h=>absurd h q) fun h=>h,.inr⟩
  ·subst hsp;exact aM
 have bk: ∀{X:FX} {w'},Sat (FN E g.f X::(Cz E h S g++(GQ E b I::Z)).eraseIdx 4) w'->Sat (Cz E h {S with fx:=X} g++(GQ E b I::Z)) w':=fun{X w'} q=>Sat.back (Ps:=Cz E h S g++(GQ E b I::Z)) 4 q (by simp[Cz]);refine Tx (H0.front 4 rfl) (by omega) (fun hb O H4=> ?_) fun a r hb O H4=> ?_
 ·exact C _ _ (.inl ⟨hb,rfl,rfl⟩) O (bk H4)
 ·exact C _ _ (.inr ⟨a,r,hb,rfl,rfl⟩) O (bk H4)
theorem M3(hT: ∀w',Sat Z w'->GC E.AQ w')(H:Sat (Au E h S::Z) w)(hI:Ag S no){p n c:Int}{T:Bool}(n0:0<=n)(n1:n<18446744073709551616){K:Int->Int->World->Prop}
  (aD:D5 0 n c-> ∀w',Sat (Au E h S::Z) w'->K 0 1 w')
  (O: ¬D5 0 n c-> ∀S2,Ma S p n S2->Ag S2 no-> ∀w',Sat (Au E h S2::Z) w'->K 0 13 w')
  (aA: ¬D5 0 n c-> ∀page S2 b id X,Found S p n page S2->Ag S2 (inr page n)->0<=page->page+n<=34359738368->Next S2 id X->Ag (S2.Dd id (b,K8 page n c T) page n X) no-> ∀w',Sat (Au E h (S2.Dd id (b,K8 page n c T) page n X)::Z) w'->K id 0 w'):
  F.Bp E (some ⟨h,0,none⟩) p n c T K w:=by
 unfold F.Bp T0.Bp;refine OY H (by decide) n0 n1 (fun hb w' H'=>Ao rfl (aD hb w' H')) fun d b0 w3 H3=>Ab rfl ?_;have hg:=d;unfold D5 at hg;have C:1<=n/\n<=134217728:=by
  by_cases e:c=0
  ·omega
  ·have aL:=I4 (c:=c) (by omega) (by omega);omega
 refine UH hE hT H3.tail hI C.1 C.2 (fun page S2 hf j Y q1 hr w6 N=>Ab rfl ?_) fun S2 hl j w6 N=>Ao rfl (O d S2 hl j w6 N);refine OY N Y n0 n1 (fun hb w' H'=> ?_) fun _ b w9 H9=> ?_
 ·exfalso;unfold D5 at hb;omega
 ·refine UI hE H9 j Y C.1 q1 hr rfl rfl (by show(1:Int)≠0;decide) fun id X hX aC J v=>aA d page S2 b id X hf j Y q1 hX aC J v
theorem Og(H:Sat (Au E h S::Z) w)(v:Ag S no){id:Int}{K:Int->World->Prop}(bA:S.sp id=none->K 35 w)(aY: ∀x,S.sp id=some x->0<x.2.used->K 33 w)
  (a6: ∀x,∀a:Nat,S.sp id=some x-> ¬0<x.2.used->id=(a:Int)+1->Ag (S.free a (x.2.base/8192) x.2.AA) no-> ∀w',Sat (Au E h (S.free a (x.2.base/8192) x.2.AA)::Z) w'->K 0 w'):
  F.Cc E (some ⟨h,0,none⟩) id K w:=by
 have BH:=H.BH;obtain⟨g,N,H⟩:=Sat.heap.1 H;unfold F.Cc T0.Cc;simp only[AI];refine⟨_,(CC (S:=S) (g:=g) H).2.2.2.2.1,bX (H.front 5 rfl) fun es _=> ?_⟩;unfold Ec;cases hs:S.sp id with
 | none=>exact⟨none,rfl,Ao rfl (bA hs)⟩
 | some x=>
  refine⟨some ⟨x.1,0,none⟩,rfl,Ab rfl ?_⟩;obtain⟨a,rfl,a2,aW⟩:=(v.sf id).1 (by rw[hs];exact fun h=>(by cases h));obtain⟨k1,k2,k3,k4,k5⟩:=v.sp _ x hs;have O:=v.free BH hs;have hm:(a:Int)+1∈g.ids:=(N.mem _).2 (by rw[hs];exact fun h=>(by cases h));obtain⟨i,hi⟩:=List.mem_iff_getElem?.1 hm;have H1:=(H.front 6 rfl).IF hi;have e:Kb E S.sp ((a:Int)+1)=GQ E x.1 x.2:=by unfold Kb;rw[hs]
  rw[e]at H1;refine T6 H1 (fun aJ=> ?_) fun aB w8 H8=>Ab rfl ?_
  ·rcases aJ with q|q
   ·exact absurd q k4
   ·exact Ao rfl (aY x hs q)
  refine Mz H8 fun a8 a3=> ?_;have aM:=a3.tail;have d: ∀q,x.2.base/8192<=q->q<x.2.base/8192+x.2.AA->S.own q=(a:Int)+1:=k5;have aH:=v.ow (x.2.base/8192) (by rw[d _ (by omega) (by omega)];exact k1);have aA:=v.ow (x.2.base/8192+x.2.AA-1) (by rw[d _ (by omega) (by omega)];exact k1);have l0:=BH.tv.Gc _ aH.1;have l1:=BH.tv.Gc _ aA.1;generalize hsp:(fun i=>if i=(a:Int)+1 then none else S.sp i)=sp';have J:(a:Int)+1∉g.ids.eraseIdx i:=fun q=>by
   have J:=(DD hi).nodup_iff.1 N.nd;exact(List.nodup_cons.1 J).1 q
  have aE:Ap (Kb E S.sp) (g.ids.eraseIdx i)=Ap (Kb E sp') (g.ids.eraseIdx i):=Ap.congr fun j hj=>by
   rw[<-hsp];unfold Kb;dsimp only;rw[if_neg fun q=>J (by rw[<-q];exact hj)]
  rw[aE]at aM;have aD:Sat ([Cells h E.Aa (CD g S.hint S.AA),Bf E g.m S.V,BG E g.t S.T,CP E g.a S.ks S.own,FN E g.f S.fx,Dx g.sm .i64 (Ec S.sp),Ap (Kb E sp') (g.ids.eraseIdx i),Ap (fun i:Nat=>A0 E (g.cb i) (S.ca i)) (List.range 64)]++Z) a8:=
   Sat.back (Ps:=[Cells h E.Aa (CD g S.hint S.AA),Bf E g.m S.V,BG E g.t S.T,CP E g.a S.ks S.own,FN E g.f S.fx,Dx g.sm .i64 (Ec S.sp),Uo,Ap (fun i:Nat=>A0 E (g.cb i) (S.ca i)) (List.range 64)]++Z) 6 aM (by simp)
  refine Am (vs:=[.int .u64 0,.int .i64 0,.int .i64 0,.int .i64 0,.bool false,.int .i64 0,.int .i64 0,.int .i64 0,.bool false,.bool false]) aD fun bC bI aD _=> ?_;refine Jg (news:=[.int .u64 x.2.base,.int .i64 x.2.AA,.int .i64 0,.int .i64 x.2.cls,.bool x.2.Hl,.int .i64 x.2.elem,.int .i64 x.2.Bs,.int .i64 0,.bool x.2.f8,.bool x.2.f9]) aD rfl (by simp[Value.oneCell']) fun bD aZ=> ?_;have C:=aZ.drew;have hh: ∀{w'} {S':HS} {Y:List Pr},Sat (Cells h E.Aa (CD g S'.hint S'.AA)::Y) w'->w'.cell? ((Addr.mk h 0 none).add 1)=some (.pointer (some ⟨g.t,0,none⟩))/\w'.cell? ((Addr.mk h 0 none).add 2)=some (.pointer (some ⟨g.a,0,none⟩))/\w'.cell? ((Addr.mk h 0 none).add 3)=some (.pointer (some ⟨g.f,0,none⟩))/\w'.cell? ((Addr.mk h 0 none).add 4)=some (.map (some g.sm))/\w'.cell? ((Addr.mk h 0 none).add 70)=some (.int .u64 S'.AA):=fun{w' S' Y} q=>
   ⟨(CC (S:=S') (g:=g) q).2.1,(CC (S:=S') (g:=g) q).2.2.1,(CC (S:=S') (g:=g) q).2.2.2.1,(CC (S:=S') (g:=g) q).2.2.2.2.1,(CC (S:=S') (g:=g) q).2.2.2.2.2.2.1⟩
  refine⟨_,C.BI rfl,by decide,_,C.cell rfl,_,(hh (S':=S) C.tail).2.1,?_⟩;have e1:u64 (Int.tdiv x.2.base 8192)=x.2.base/8192:=by rw[Int.tdiv_eq_ediv_of_nonneg (by omega),AG]
  have e2:u64 x.2.AA=x.2.AA:=AG;simp only[e1,e2];generalize hpg:x.2.base/8192=page at *
  generalize hn:x.2.AA=n at *
  have aU:=C.tail;refine SM hE (aU.front 3 rfl) l0.1 (by omega) (by omega) (by omega) ⟨by omega,Int.le_refl 0,by omega,fun q q1 q2=>(v.ks q).2 (v.ow q (by rw[d q q1 q2];exact k1)).1⟩ fun a4 a0=> ?_;have aG:Sat ([Cells h E.Aa (CD g S.hint S.AA),Bf E g.m S.V,BG E g.t S.T,CP E g.a S.ks (fun p=>if page<=p/\p<page+n then 0 else S.own p),FN E g.f S.fx,Dx g.sm .i64 (Ec S.sp),Ap (Kb E sp') (g.ids.eraseIdx i),Ap (fun i:Nat=>A0 E (g.cb i) (S.ca i)) (List.range 64)]++Z) a4:=
   Sat.back (Ps:=[Cells h E.Aa (CD g S.hint S.AA),Bf E g.m S.V,BG E g.t S.T,CP E g.a S.ks S.own,FN E g.f S.fx,Dx g.sm .i64 (Ec S.sp),Ap (Kb E sp') (g.ids.eraseIdx i),Ap (fun i:Nat=>A0 E (g.cb i) (S.ca i)) (List.range 64)]++Z) 3 a0 (by simp)
  refine⟨_,(hh (S':=S) aG).1,?_⟩;refine Pc hE.toEnvS (aG.front 2 rfl) l0.1 (by omega) (by omega) (by omega) (fun hb w' H'=> ?_) (fun _ hex w' H'=> ?_) fun _ _ a7 aV=> ?_
  ·exact absurd ⟨by omega,by omega,fun m q1 q2=>(v.ow m (by rw[d m q1 q2];exact k1)).1⟩ hb
  ·obtain⟨m,q1,q2,q3⟩:=hex;have:=(v.ow m (by rw[d m q1 q2];exact k1)).2.1;rw[this]at q3;cases q3
  have aP:Sat ([Cells h E.Aa (CD g S.hint S.AA),Bf E g.m S.V,BG E g.t (S.T.Ka page n),CP E g.a S.ks (fun p=>if page<=p/\p<page+n then 0 else S.own p),FN E g.f S.fx,Dx g.sm .i64 (Ec S.sp),Ap (Kb E sp') (g.ids.eraseIdx i),Ap (fun i:Nat=>A0 E (g.cb i) (S.ca i)) (List.range 64)]++Z) a7:=
   Sat.back (Ps:=[Cells h E.Aa (CD g S.hint S.AA),Bf E g.m S.V,BG E g.t S.T,CP E g.a S.ks (fun p=>if page<=p/\p<page+n then 0 else S.own p),FN E g.f S.fx,Dx g.sm .i64 (Ec S.sp),Ap (Kb E sp') (g.ids.eraseIdx i),Ap (fun i:Nat=>A0 E (g.cb i) (S.ca i)) (List.range 64)]++Z) 2 aV (by simp)
  refine⟨_,(hh (S':=S) aP).2.2.1,Tz (aP.front 4 rfl) a2 aW fun a9 a1=> ?_⟩;have aR:Sat ([Cells h E.Aa (CD g S.hint S.AA),Bf E g.m S.V,BG E g.t (S.T.Ka page n),CP E g.a S.ks (fun p=>if page<=p/\p<page+n then 0 else S.own p),FN E g.f ⟨S.fx.n,a::S.fx.bk⟩,Dx g.sm .i64 (Ec S.sp),Ap (Kb E sp') (g.ids.eraseIdx i),Ap (fun i:Nat=>A0 E (g.cb i) (S.ca i)) (List.range 64)]++Z) a9:=
   Sat.back (Ps:=[Cells h E.Aa (CD g S.hint S.AA),Bf E g.m S.V,BG E g.t (S.T.Ka page n),CP E g.a S.ks (fun p=>if page<=p/\p<page+n then 0 else S.own p),FN E g.f S.fx,Dx g.sm .i64 (Ec S.sp),Ap (Kb E sp') (g.ids.eraseIdx i),Ap (fun i:Nat=>A0 E (g.cb i) (S.ca i)) (List.range 64)]++Z) 4 a1 (by simp)
  have aQ:0<=S.AA-n/\S.AA-n<18446744073709551616:=by
   have h1:=O.rY;rw[show(S.free a page n).AA=S.AA-n from rfl]at h1;omega
  refine⟨_,(hh (S':=S) aR).2.2.2.2,?_⟩;rw[AG (n:=S.AA-n) aQ.1 aQ.2];refine Aj aR (o:=0) (m:=70) rfl (by rw[T9];decide) fun bN aC=> ?_;rw[Nat.zero_add,M0]at aC;refine⟨_,(hh (S':={S with AA:=S.AA-n}) aC).2.2.2.1,Uq (aC.front 5 rfl) fun aI a5=> ?_⟩;have aN:=a6 x a hs (fun q=>aB (.inr q)) rfl;rw[hpg,hn]at aN;refine aN O aI (Sat.heap.2 ⟨{g with ids:=g.ids.eraseIdx i},⟨?_,fun j=> ?_⟩,?_⟩)
  ·exact(List.nodup_cons.1 ((DD hi).nodup_iff.1 N.nd)).2
  ·show j∈g.ids.eraseIdx i↔(if j=(a:Int)+1 then none else S.sp j)≠none;by_cases q:j=(a:Int)+1
   ·rw[if_pos q,q];exact⟨fun h=>absurd h J,fun h=>absurd rfl h⟩
   ·rw[if_neg q,<-N.mem];have:=(DD hi).mem_iff (a:=j);rw[this,List.mem_cons];exact⟨.inr,fun h=>h.elim (fun h=>absurd h q) fun h=>h⟩
  ·have em:(fun i=>if i=(a:Int)+1 then none else Ec S.sp i)=Ec sp':=funext fun j=>by
    rw[<-hsp];unfold Ec;by_cases q:j=(a:Int)+1
    ·dsimp only;rw[if_pos q,if_pos q];rfl
    ·dsimp only;rw[if_neg q,if_neg q]
   have aL:Sat (Dx g.sm .i64 (fun i=>if i=(a:Int)+1 then none else Ec S.sp i)::([Cells h E.Aa (CD g S.hint (S.AA-n)),Bf E g.m S.V,BG E g.t (S.T.Ka page n),CP E g.a S.ks (fun p=>if page<=p/\p<page+n then 0 else S.own p),FN E g.f ⟨S.fx.n,a::S.fx.bk⟩,Dx g.sm .i64 (Ec S.sp),Ap (Kb E sp') (g.ids.eraseIdx i),Ap (fun i:Nat=>A0 E (g.cb i) (S.ca i)) (List.range 64)]++Z).eraseIdx 5) aI:=a5;rw[em]at aL;have aX:=Sat.back (Ps:=[Cells h E.Aa (CD g S.hint (S.AA-n)),Bf E g.m S.V,BG E g.t (S.T.Ka page n),CP E g.a S.ks (fun p=>if page<=p/\p<page+n then 0 else S.own p),FN E g.f ⟨S.fx.n,a::S.fx.bk⟩,Dx g.sm .i64 (Ec S.sp),Ap (Kb E sp') (g.ids.eraseIdx i),Ap (fun i:Nat=>A0 E (g.cb i) (S.ca i)) (List.range 64)]++Z) 5 aL (by simp);subst hsp;exact aX
end
end Go.Sh

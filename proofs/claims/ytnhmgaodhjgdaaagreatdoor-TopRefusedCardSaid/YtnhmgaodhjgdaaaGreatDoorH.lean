/- The heap: what holds of it, and what each function does to it. No further condition. -/
import Derived.Test.YtnhmgaodhjgdaaaGreatDoorB
import Derived.Test.YtnhmgaodhjgdaaaGreatDoorC
import Derived.Test.YtnhmgaodhjgdaaaGreatDoorR
import Derived.Test.YtnhmgaodhjgdaaaGreatDoorY
set_option linter.all false
set_option maxRecDepth 50000
set_option maxHeartbeats 2000000
namespace Go.Sh
structure HS where
 V:VS
 T:TV
 ca:Nat->CS
 ks:Iv
 own:Int->Int
 fx:FX
 sp:Int->Option (Nat×SI)
 hint:Int
 AF:Int
structure HG where
 m:Nat
 t:Nat
 a:Nat
 f:Nat
 sm:Nat
 cb:Nat->Nat
 ids:List Int
def kU(cb:Nat->Nat):List Value:=(List.range 64).map λi=>.pointer (some ⟨cb i,0,none⟩)
def BX(g:HG)(hint AF:Int):List Value:=.pointer (some ⟨g.m,0,none⟩):: .pointer (some ⟨g.t,0,none⟩):: .pointer (some ⟨g.a,0,none⟩):: .pointer (some ⟨g.f,0,none⟩):: .map (some g.sm)::(kU g.cb++[.int .u64 hint,.int .u64 AF])
def Dc(sp:Int->Option (Nat×SI)):Int->Option Value:=λid=>(sp id).map λx=>.pointer (some ⟨x.1,0,none⟩)
def spR(E:Env)(sp:Int->Option (Nat×SI))(id:Int):Pr:=match sp id with
 | some x=>Cb E x.1 x.2
 | none=>YZ
def Bz(E:Env)(h:Nat)(S:HS)(g:HG):List Pr:=
 [Cells h E.Ad (BX g S.hint S.AF),Bj E g.m S.V,BR E g.t S.T,Bq E g.a S.ks S.own,Gi E g.f S.fx,CH g.sm .i64 (Dc S.sp),Al (spR E S.sp) g.ids,Al (λi:Nat=>BH E (g.cb i) (S.ca i)) (List.range 64)]
structure cK(S:HS)(g:HG):Prop where
 nd:g.ids.Nodup
 mem: ∀id,id∈g.ids↔S.sp id≠none
def BF(E:Env)(h:Nat)(S:HS):Pr:=Ex λg:HG=>KR (cK S g) (S5 (Bz E h S g))
def I3(cb:Nat->Nat):(kU cb).length=64:=by simp[kU]
def pK(g:HG)(x y:Int){i:Nat}(hi:i<64):(BX g x y)[5+i]? =some (.pointer (some ⟨g.cb i,0,none⟩)):=by
 unfold BX;rw[show 5+i=i+1+1+1+1+1 by omega];simp only[List.getElem?_cons_succ];rw[List.getElem?_append_left (by rw[I3];exact hi)];simp[kU,hi]
def vL(g:HG)(x y:Int):(BX g x y)[69]? =some (.int .u64 x):=by
 unfold BX;rw[show 69=64+1+1+1+1+1 from rfl];simp only[List.getElem?_cons_succ];rw[List.getElem?_append_right (by rw[I3];omega),I3];rfl
def pL(g:HG)(x y:Int):(BX g x y)[70]? =some (.int .u64 y):=by
 unfold BX;rw[show 70=65+1+1+1+1+1 from rfl];simp only[List.getElem?_cons_succ];rw[List.getElem?_append_right (by rw[I3];decide),I3];rfl
def cL(g:HG)(x y:Int):(BX g x y).length=71:=by simp[BX,I3]
def cM(g:HG)(x y z:Int):(BX g x y).set 69 (.int .u64 z)=BX g z y:=by
 unfold BX;rw[show 69=64+1+1+1+1+1 from rfl];simp only[List.set_cons_succ];rw[List.set_append_right _ _ (by rw[I3];omega),I3];rfl
def SY(g:HG)(x y z:Int):(BX g x y).set 70 (.int .u64 z)=BX g x z:=by
 unfold BX;rw[show 70=65+1+1+1+1+1 from rfl];simp only[List.set_cons_succ];rw[List.set_append_right _ _ (by rw[I3];decide),I3];rfl
section
variable{E:Env}{h:Nat}{S:HS}{Z:List Pr}{w:World}{g:HG}
def Sat.heap:Sat (BF E h S::Z) w↔ ∃g,cK S g/\Sat (Bz E h S g++Z) w:=by
 unfold BF;rw[Sat.ex];constructor
 .rintro⟨g,h⟩;rw[Sat.where,Sat.star]at h
  grind
 .rintro⟨g,h⟩;refine⟨g,?_⟩;rw[Sat.where,Sat.star];exact h
def Cq(H:Sat (Cells h E.Ad (BX g S.hint S.AF)::Z) w):
  w.cell? (Addr.mk h 0 none)=some (.pointer (some ⟨g.m,0,none⟩))/\w.cell? ((Addr.mk h 0 none).add 1)=some (.pointer (some ⟨g.t,0,none⟩))/\w.cell? ((Addr.mk h 0 none).add 2)=some (.pointer (some ⟨g.a,0,none⟩))/\
  w.cell? ((Addr.mk h 0 none).add 3)=some (.pointer (some ⟨g.f,0,none⟩))/\w.cell? ((Addr.mk h 0 none).add 4)=some (.map (some g.sm))/\w.cell? ((Addr.mk h 0 none).add 69)=some (.int .u64 S.hint)/\w.cell? ((Addr.mk h 0 none).add 70)=some (.int .u64 S.AF)/\
  ∀i,i<64->w.cell? ((Addr.mk h 0 none).add (i+5))=some (.pointer (some ⟨g.cb i,0,none⟩)):=
 ⟨H.AU rfl,H.cell rfl,H.cell rfl,H.cell rfl,H.cell rfl,H.cell (by rw[Nat.zero_add];exact vL g _ _),H.cell (by rw[Nat.zero_add];exact pL g _ _),λi hi=>H.cell (by rw[Nat.zero_add,Nat.add_comm];exact pK g _ _ hi)⟩
def Ug(H:Sat (BF E h S::Z) w){id:Int}{K:Option Addr->Int->World->Prop}(a:S.sp id=none->K none 35 w)(d: ∀x,S.sp id=some x->K (some ⟨x.1,0,none⟩) 0 w):F.De E (some ⟨h,0,none⟩) id K w:=by
 obtain⟨g,hI,H⟩:=Sat.heap.1 H;unfold F.De;simp only[AK];refine⟨_,(Cq (S:=S) (g:=g) H).2.2.2.2.1,MG (H.front 5 rfl) λes _=> ?_⟩;unfold Dc;cases hs:S.sp id with
 | none=>exact⟨none,rfl,Aa rfl (a hs)⟩
 | some x=>exact⟨_,rfl,AO rfl (d x hs)⟩
def Sat.KZ(H:Sat (BF E h S::Z) w){id:Int}{x:Nat×SI}(d:S.sp id=some x): ∃R:List Pr,Sat (Cb E x.1 x.2::R) w/\ ∀{w'},Sat (Cb E x.1 x.2::R) w'->Sat (BF E h S::Z) w':=by
 obtain⟨g,hI,H⟩:=Sat.heap.1 H;have hm:id∈g.ids:=(hI.mem id).2 (by grind);obtain⟨i,hi⟩:=List.mem_iff_getElem?.1 hm;have H1:=(H.front 6 rfl).FO hi;have e:spR E S.sp id=Cb E x.1 x.2:=by unfold spR;rw[d]
 rw[e]at H1;refine⟨_,H1,λ{w'} h'=>Sat.heap.2 ⟨g,hI,?_⟩⟩;rw[<-e]at h';have a:=Sat.Jb h' hi;exact Sat.back (Ps:=Bz E h S g++Z) 6 a (by simp[Bz])
def ZH(H:Sat (BF E h S::Z) w){x:Int}(h0:0<=x)(e:x<18446744073709551616){K:Int->World->Prop}(d: ∀w',Sat (BF E h S::Z) w'->K (S.own (x/8192)) w'):F.D0 E (some ⟨h,0,none⟩) x K w:=by
 obtain⟨g,hI,H⟩:=Sat.heap.1 H;unfold F.D0 T0.D0;simp only[AK];refine⟨_,(Cq (S:=S) (g:=g) H).2.2.1,vH (H.front 3 rfl) h0 e λw' a=>d w' (Sat.heap.2 ⟨g,hI,?_⟩)⟩;exact Sat.back (Ps:=Bz E h S g++Z) 3 a (by simp[Bz])
def WC(H:Sat (BF E h S::Z) w){K:Option Addr->World->Prop}(a: ∀m R,Sat (Bj E m S.V::R) w->(∀{V':VS} {w'},Sat (Bj E m V'::R) w'->Sat (BF E h {S with V:=V'}::Z) w')->K (some ⟨m,0,none⟩) w):F.Et E (some ⟨h,0,none⟩) K w:=by
 obtain⟨g,hI,H⟩:=Sat.heap.1 H;unfold F.Et;simp only[AK];refine⟨_,(Cq (S:=S) (g:=g) H).1,a g.m _ (H.front 1 rfl) λ{V' w'} h'=>Sat.heap.2 ⟨g,⟨hI.nd,hI.mem⟩,?_⟩⟩;exact Sat.back (Ps:=Bz E h S g++Z) 1 h' (by simp[Bz])
def vM{p:Int}{K:Bool->World->Prop}(a:K (decide (0<=p/\p<64)) w):F.Qn E p K w:=by
 unfold F.Qn;refine AG (λh=> ?_) λh=> ?_
 .have:decide (p<64)=decide (0<=p/\p<64):=decide_eq_decide.2 (by omega)
  grind
 .rw[decide_eq_false (by omega)]at a;exact a
def Sat.vN(H:Sat (Bz E h S g++Z) w){i:Nat}(hi:i<64): ∃R,Sat (BH E (g.cb i) (S.ca i)::R) w/\ ∀{w'},Sat (BH E (g.cb i) (S.ca i)::R) w'->Sat (Bz E h S g++Z) w':=by
 have a:(List.range 64)[i]? =some i:=List.getElem?_range hi;refine⟨_,(H.front 7 rfl).FO a,λ{w'} h'=> ?_⟩;exact Sat.back (Ps:=Bz E h S g++Z) 7 (Sat.Jb h' a) (by simp[Bz])
variable(hE:EnvA E)
include hE
end
def yB{u v z:Int->Bool}: ∀n:Nat,(∀k:Int,0<=k->k<n->z k=(u k||v k))->(∀k:Int,0<=k->k<n-> ¬(u k=true/\v k=true))->cu z n=cu u n+cu v n
 | 0,_,_=>rfl
 | n+1,h1,h2=>by
  simp only[cu];rw[yB n (λk a b=>h1 k a (by omega)) λk a b=>h2 k a (by omega),h1 n (by omega) (by omega)]
  grind
def ZI{u v:Int->Bool}: ∀n:Nat,(∀k:Int,0<=k->k<n->u k=v k)->cu u n=cu v n
 | 0,_=>rfl
 | n+1,h=>by simp only[cu];rw[ZI n λk a b=>h k a (by omega),h n (by omega) (by omega)]
def cP(f:Int->Bool):Int:=cr f 0 34359738368
def pM{f g:Int->Bool}(h: ∀p,0<=p->p<34359738368->f p=g p):cP f=cP g:=by
 unfold cP cr;exact ZI _ λk a b=>h _ (by omega) (by omega)
def gR{f g h:Int->Bool}(a: ∀p,h p=(f p||g p))(hd: ∀p,f p=true->g p=true->False):cP h=cP f+cP g:=by
 unfold cP cr;exact yB _ (λk _ _=>a _) λk _ _ e=>hd _ e.1 e.2
def Uh(f:Int->Bool):0<=cP f/\cP f<=34359738368:=by
 unfold cP;exact AAI f 0 (by decide)
def cP_iv{f:Int->Bool}{l:Iv}(h:Ok l)(d: ∀p,mem l p↔f p=true)(a: ∀p,f p=true->p<34359738368):cP f=JZ l:=by
 unfold cP;rw[bV h d (by decide)];exact Oj h.mO λn e=>⟨fC h e,by have:=a n ((d n).1 e);omega⟩
def gS{f:Int->Bool}(h: ∀p,f p=false):cP f=0:=by
 unfold cP;exact vB λm _ _=>h m
def cO{x n:Int}(h0:0<=x)(m:0<=n)(d:x+n<=34359738368):cP (inr x n)=n:=by
 by_cases e:n=0
 .subst e;exact gS λp=>LY.2 (by omega)
 .rw[cP_iv (l:=[(x,x+n)]) ⟨h0,by omega,by omega,λq a=>(by cases a),trivial⟩ (λp=> ?_) λp hp=>by have:=BE.1 hp;omega]
  .show x+n-x+0=n;omega
  .rw[BE,mem_cons];exact⟨λh=>h.elim (λh=>h) λh=>absurd h (DL p),λh=>.inl h⟩
def vO{f g:Int->Bool}(h: ∀p,f p=true->g p=true):cP f<=cP g:=by
 have e:cP g=cP f+cP (λp=>g p&& !f p):=gR (λp=>by cases hf:f p<;>cases hg:g p<;>simp;grind) λp a b=>by grind
 have:=Uh λp=>g p&& !f p;omega
def cP_pos{f:Int->Bool}{p:Int}(hp:f p=true)(h0:0<=p)(h1:p<34359738368):1<=cP f:=by
 have:=vO (f:=inr p 1) (g:=f) λq a=>by
  have:=BE.1 a
  grind
 rw[cO h0 (by decide) (by omega)]at this;exact this
end Go.Sh
namespace Go.Sh
def no:Int->Bool:=λ_=>false
def any64{f:Nat->Bool}:(List.range 64).any f=true↔ ∃i,i<64/\f i=true:=by grind
def HS.Rw(S:HS)(p:Int):Bool:=(List.range 64).any λi=>(S.ca i).own p
def HS.gone(S:HS)(p:Int):Bool:=S.T.rl p||(List.range 64).any λi=>(S.ca i).Yq p
def HT{S:HS}{p:Int}:S.Rw p=true↔ ∃i,i<64/\(S.ca i).own p=true:=any64
def Hl{S:HS}{p:Int}:S.gone p=true↔S.T.rl p=true∨ ∃i,i<64/\(S.ca i).Yq p=true:=by
 unfold HS.gone
 grind
structure SZ(S:HS):Prop where
 tv:AAJ S.T
 vv:VOk S.V
 ci: ∀i,i<64->XG (S.ca i)
 ok:Ok S.ks
 fx:FInv S.fx
def Sat.BU{E:Env}{h:Nat}{S:HS}{Z:List Pr}{w:World}(H:Sat (BF E h S::Z) w):SZ S:=by
 obtain⟨g,hI,H⟩:=Sat.heap.1 H;refine⟨(H.front 2 rfl).tvok,(H.front 1 rfl).vok,λi hi=> ?_,(H.front 3 rfl).vG,?_⟩
 .obtain⟨R,h1,_⟩:=H.vN hi;exact(Sat.cache.1 h1).1
 .obtain⟨_,_,_,h1,_⟩:=Sat.fix.1 (H.front 4 rfl);exact h1
structure CF(S:HS)(fl:Int->Bool):Prop where
 cr: ∀i,i<64-> ∀p,(S.ca i).own p=true->S.T.NZ p=true/\S.T.fr p=false/\S.own p=0/\fl p=false
 cd: ∀i j p,i<64->j<64->(S.ca i).own p=true->(S.ca j).own p=true->i=j
 fn: ∀p,S.T.fr p=true->S.own p=0/\fl p=false
 ow: ∀p,0<S.own p->S.T.NZ p=true/\S.T.fr p=false/\fl p=false/\ ∃x,S.sp (S.own p)=some x/\x.2.base/8192<=p/\p<x.2.base/8192+x.2.AF
 o0: ∀p,0<=S.own p
 li: ∀p,fl p=true->S.T.NZ p=true
 cv: ∀p,S.T.NZ p=true->S.T.fr p=true∨S.Rw p=true∨0<S.own p∨fl p=true
 ks: ∀p,mem S.ks (p/512)↔S.T.NZ p=true
 la: ∀p,mem S.V.laid p↔S.T.NZ p=true
 rd: ∀p,fl p=false->(mem S.V.ready p↔S.T.NZ p=true/\S.gone p=false)
 sp: ∀id x,S.sp id=some x->0<id/\x.2.base %8192=0/\0<x.2.AF/\x.2.state≠0/\ ∀p,x.2.base/8192<=p->p<x.2.base/8192+x.2.AF->S.own p=id
 sf: ∀id,S.sp id≠none↔ ∃a:Nat,id=(a:Int)+1/\a<S.fx.n/\a∉S.fx.bk
 fb:S.fx.n<=34359738368
 pg:S.AF=cP λp=>decide (0<S.own p)
 h0:0<=S.hint
 h1:S.hint<=34359738368
def Q7{C:CS}{p:Int}:C.own p=true↔(C.base<=p/\p<C.base+64)/\C.has (p-C.base).toNat=true:=by
 unfold CS.own;rw[Bool.and_eq_true,BE]
def Q8{C:CS}{p:Int}:C.Yq p=true↔(C.base<=p/\p<C.base+64)/\C.rel (p-C.base).toNat=true:=by
 unfold CS.Yq;rw[Bool.and_eq_true,BE]
def Ui{C:CS}(h:XG C){p:Int}(hp:C.Yq p=true):C.own p=true:=by
 rw[Q8]at hp;exact Q7.2 ⟨hp.1,h.rh _ hp.2⟩
def XN{C:CS}(h:C.empty)(p:Int):C.own p=false:=by
 unfold CS.own;rw[h];simp
def gT(p:Int):CS.nil.own p=false:=XN (λ_=>rfl) p
def Ge{b:Bool}(h: ¬b=true):b=false:=by cases b;rfl;grind
def FC{b:Bool}(h:b=false): ¬b=true:=by grind
def gU{T:TV}{x n p:Int}:(T.take x n).fr p=true↔T.fr p=true/\ ¬(x<=p/\p<x+n):=by
 show(T.fr p&& !inr x n p)=true↔_;rw[Bool.and_eq_true,<-BE];grind
def gV{T:TV}{x n p:Int}:(T.take x n).rl p=true↔T.rl p=true/\ ¬(x<=p/\p<x+n):=by
 show(T.rl p&& !inr x n p)=true↔_;rw[Bool.and_eq_true,<-BE];grind
def filled(T:TV)(q:Int):CS:=⟨q/64*64,λi=>decide (i<64)&&T.fr (q/64*64+i),λi=>decide (i<64)&&T.rl (q/64*64+i)⟩
def HS.setca(S:HS)(i:Nat)(c:CS):HS:={S with ca:=λj=>if j=i then c else S.ca j}
def HS.fill(S:HS)(i:Nat)(q:Int):HS:={S with T:=S.T.take (q/64*64) 64,ca:=λj=>if j=i then filled S.T q else S.ca j}
def Uj{T:TV}{q p:Int}:(filled T q).own p=true↔(q/64*64<=p/\p<q/64*64+64)/\T.fr p=true:=by
 rw[Q7];show(q/64*64<=p/\p<q/64*64+64)/\(decide _&&T.fr _)=true↔_;constructor
 .rintro⟨h1,a⟩;rw[Bool.and_eq_true]at a;have d:=a.2;have e:q/64*64+((p-q/64*64).toNat:Int)=p:=by omega
  refine⟨h1,?_⟩;rw[<-e];exact d
 .rintro⟨h1,a⟩;refine⟨h1,?_⟩;rw[Bool.and_eq_true];have e:q/64*64+((p-q/64*64).toNat:Int)=p:=by omega
  exact⟨decide_eq_true (show(p-q/64*64).toNat<64 by omega),by show T.fr (q/64*64+((p-q/64*64).toNat:Int))=true;grind⟩
def Sa{T:TV}{q p:Int}:(filled T q).Yq p=true↔(q/64*64<=p/\p<q/64*64+64)/\T.rl p=true:=by
 rw[Q8];show(q/64*64<=p/\p<q/64*64+64)/\(decide _&&T.rl _)=true↔_;constructor
 .rintro⟨h1,a⟩;rw[Bool.and_eq_true]at a;have d:=a.2;have e:q/64*64+((p-q/64*64).toNat:Int)=p:=by omega
  refine⟨h1,?_⟩;rw[<-e];exact d
 .rintro⟨h1,a⟩;refine⟨h1,?_⟩;rw[Bool.and_eq_true];have e:q/64*64+((p-q/64*64).toNat:Int)=p:=by omega
  exact⟨decide_eq_true (show(p-q/64*64).toNat<64 by omega),by show T.rl (q/64*64+((p-q/64*64).toNat:Int))=true;grind⟩
variable{S:HS}{fl:Int->Bool}
def CF.fill(hI:CF S no)(hk:SZ S){i:Nat}(hi:i<64)(he:(S.ca i).empty)(q:Int):CF (S.fill i q) no:=by
 have d: ∀p,(S.T.take (q/64*64) 64).fr p=true↔S.T.fr p=true/\ ¬(q/64*64<=p/\p<q/64*64+64):=λp=>gU;have v: ∀p,(S.T.take (q/64*64) 64).rl p=true↔S.T.rl p=true/\ ¬(q/64*64<=p/\p<q/64*64+64):=λp=>gV;have m: ∀j p,((S.fill i q).ca j).own p=true->(j=i/\(q/64*64<=p/\p<q/64*64+64)/\S.T.fr p=true)∨(j≠i/\(S.ca j).own p=true):=λj p h=>by
  have h:(if j=i then filled S.T q else S.ca j).own p=true:=h;by_cases e:j=i
  .rw[if_pos e]at h;exact .inl ⟨e,Uj.1 h⟩
  grind
 have K:(S.fill i q).ca i=filled S.T q:=if_pos rfl;have O: ∀j,j≠i->(S.fill i q).ca j=S.ca j:=λj h=>if_neg h;refine⟨λj u p hp=> ?_,λa b p Y hb h1 J=> ?_,λp hp=>hI.fn p ((d p).1 hp).1,λp hp=> ?_,hI.o0,λp hp=>(by cases hp),λp hp=> ?_,hI.ks,hI.la,λp _=> ?_,hI.sp,hI.sf,hI.fb,hI.pg,hI.h0,hI.h1⟩
 .rcases m j p hp with ⟨_,h1,J⟩|⟨e,h1⟩
  .exact⟨hk.tv.fi p J,Ge λh=>((d p).1 h).2 h1,(hI.fn p J).1,rfl⟩
  .obtain⟨g1,g2,g3,g4⟩:=hI.cr j u p h1;exact⟨g1,Ge λh=>(FC g2) ((d p).1 h).1,g3,g4⟩
 .rcases m a p h1 with ⟨ea,g1,g2⟩|⟨ea,g1⟩<;>rcases m b p J with ⟨eb,k1,k2⟩|⟨eb,k1⟩
  .omega
  .exact absurd g2 (FC (hI.cr b hb p k1).2.1)
  .exact absurd k2 (FC (hI.cr a Y p g1).2.1)
  .exact hI.cd a b p Y hb g1 k1
 .obtain⟨g1,g2,g3,g4⟩:=hI.ow p hp;exact⟨g1,Ge λh=>(FC g2) ((d p).1 h).1,g3,g4⟩
 .rcases hI.cv p hp with h|h|h|h
  .by_cases g:q/64*64<=p/\p<q/64*64+64
   .refine .inr (.inl (HT.2 ⟨i,hi,?_⟩));rw[K];exact Uj.2 ⟨g,h⟩
   .exact .inl ((d p).2 ⟨h,g⟩)
  .obtain⟨j,u,h⟩:=HT.1 h;refine .inr (.inl (HT.2 ⟨j,u,?_⟩));rw[O j λe=>by rw[e,XN he]at h;cases h];exact h
  .exact .inr (.inr (.inl h))
  grind
 .have e0:=hI.rd p rfl;have:(S.fill i q).gone p=S.gone p:=by
   rw[Bool.eq_iff_iff,Hl,Hl];constructor
   .rintro(h|⟨j,u,h⟩)
    .exact .inl ((v p).1 h).1
    .by_cases e:j=i
     .rw[e,K]at h;exact .inl (Sa.1 h).2
     grind
   .rintro(h|⟨j,u,h⟩)
    .by_cases g:q/64*64<=p/\p<q/64*64+64
     .refine .inr ⟨i,hi,?_⟩;rw[K];exact Sa.2 ⟨g,h⟩
     .exact .inl ((v p).2 ⟨h,g⟩)
    .refine .inr ⟨j,u,?_⟩;rw[O j λe=>by have:=Ui (hk.ci j u) h;rw[e,XN he]at this;cases this];exact h
  rw[this];exact e0
def HS.Lc(S:HS)(i k n:Nat):HS:=S.setca i ((S.ca i).alloc k n)
def HS.Ld(S:HS)(page n:Int):HS:={S with T:=S.T.take page n}
def WD{C:CS}{k n:Nat}{p:Int}(m:k+n<=64):(C.alloc k n).own p=true↔C.own p=true/\ ¬(C.base+k<=p/\p<C.base+k+n):=by
 rw[Q7,Q7];show(C.base<=p/\p<C.base+64)/\(C.has (p-C.base).toNat&& !(decide (k<=(p-C.base).toNat)&&decide ((p-C.base).toNat<k+n)))=true↔_;constructor
 .rintro⟨h1,a⟩;rw[Bool.and_eq_true]at a;refine⟨⟨h1,a.1⟩,λe=> ?_⟩;have d:=a.2;rw[decide_eq_true (show k<=(p-C.base).toNat by omega),decide_eq_true (show(p-C.base).toNat<k+n by omega)]at d;cases d
 grind
def Ul{C:CS}{k n:Nat}{p:Int}(m:k+n<=64):(C.alloc k n).Yq p=true↔C.Yq p=true/\ ¬(C.base+k<=p/\p<C.base+k+n):=by
 rw[Q8,Q8];show(C.base<=p/\p<C.base+64)/\(C.rel (p-C.base).toNat&& !(decide (k<=(p-C.base).toNat)&&decide ((p-C.base).toNat<k+n)))=true↔_;constructor
 .rintro⟨h1,a⟩;rw[Bool.and_eq_true]at a;refine⟨⟨h1,a.1⟩,λe=> ?_⟩;have d:=a.2;rw[decide_eq_true (show k<=(p-C.base).toNat by omega),decide_eq_true (show(p-C.base).toNat<k+n by omega)]at d;cases d
 grind
def CF.Lc(hI:CF S no)(hk:SZ S){i:Nat}(hi:i<64){k n:Nat}(hr:L6 (S.ca i).has k n)(u:k+n<=64):CF (S.Lc i k n) (inr ((S.ca i).base+k) n):=by
 have m: ∀p,(S.ca i).base+k<=p->p<(S.ca i).base+k+n->(S.ca i).own p=true:=λp h1 K=>by
  refine Q7.2 ⟨by omega,?_⟩;have:=hr ((p-(S.ca i).base).toNat-k) (by omega)
  grind
 have J:(S.Lc i k n).ca i=(S.ca i).alloc k n:=if_pos rfl;have e2: ∀j,j≠i->(S.Lc i k n).ca j=S.ca j:=λj h=>if_neg h;have d: ∀j p,((S.Lc i k n).ca j).own p=true->(S.ca j).own p=true/\(j=i-> ¬((S.ca i).base+k<=p/\p<(S.ca i).base+k+n)):=λj p h=>by
  by_cases e:j=i
  .subst e;rw[J,WD u]at h;grind
  grind
 refine⟨λj v p hp=> ?_,λa b p O Y h1 K=>hI.cd a b p O Y (d a p h1).1 (d b p K).1,λp hp=> ?_,λp hp=> ?_,hI.o0,λp hp=> ?_,λp hp=> ?_,hI.ks,hI.la,λp hp=> ?_,hI.sp,hI.sf,hI.fb,hI.pg,hI.h0,hI.h1⟩
 .obtain⟨h1,K⟩:=d j p hp;obtain⟨g1,g2,g3,g4⟩:=hI.cr j v p h1;refine⟨g1,g2,g3,LY.2 λh=> ?_⟩;have:=hI.cd j i p v hi h1 (m p h.1 h.2);omega
 .exact⟨(hI.fn p hp).1,LY.2 λh=>by have:=(hI.cr i hi p (m p h.1 h.2)).2.1;rw[show S.T.fr p=true from hp]at this;cases this⟩
 .obtain⟨g1,g2,g3,g4⟩:=hI.ow p hp;exact⟨g1,g2,LY.2 λh=>by have:=(hI.cr i hi p (m p h.1 h.2)).2.2.1;have hp:0<S.own p:=hp;omega,g4⟩
 .have h:=BE.1 hp;exact(hI.cr i hi p (m p h.1 h.2)).1
 .rcases hI.cv p hp with h|h|h|h
  .exact .inl h
  .obtain⟨j,v,h⟩:=HT.1 h;by_cases g:(S.ca i).base+k<=p/\p<(S.ca i).base+k+n
   .exact .inr (.inr (.inr (BE.2 g)))
   .refine .inr (.inl (HT.2 ⟨j,v,?_⟩));by_cases e:j=i
    .subst e;rw[J,WD u];grind
    grind
  .exact .inr (.inr (.inl h))
  .cases h
 .have hp:=LY.1 hp;have e:=hI.rd p rfl;have:(S.Lc i k n).gone p=S.gone p:=by
   rw[Bool.eq_iff_iff,Hl,Hl];constructor
   .rintro(h|⟨j,v,h⟩)
    .exact .inl h
    .refine .inr ⟨j,v,?_⟩;by_cases e:j=i
     .subst e;rw[J,Ul u]at h;exact h.1
     grind
   .rintro(h|⟨j,v,h⟩)
    .exact .inl h
    .refine .inr ⟨j,v,?_⟩;by_cases e:j=i
     .subst e;rw[J,Ul u];grind
     grind
  rw[this];exact e
def CF.Ld(hI:CF S no)(J:SZ S){page n:Int}(m:NT S.T.fr page n):CF (S.Ld page n) (inr page n):=by
 have a: ∀p,(S.T.take page n).fr p=true↔S.T.fr p=true/\ ¬(page<=p/\p<page+n):=λp=>gU;have d: ∀p,(S.T.take page n).rl p=true↔S.T.rl p=true/\ ¬(page<=p/\p<page+n):=λp=>gV;refine⟨λj v p hp=> ?_,hI.cd,λp hp=> ?_,λp hp=> ?_,hI.o0,λp hp=> ?_,λp hp=> ?_,hI.ks,hI.la,λp hp=> ?_,hI.sp,hI.sf,hI.fb,hI.pg,hI.h0,hI.h1⟩
 .obtain⟨g1,g2,g3,g4⟩:=hI.cr j v p hp;exact⟨g1,Ge λh=>(FC g2) ((a p).1 h).1,g3,LY.2 λh=>(FC g2) (m p h.1 h.2)⟩
 .obtain⟨h1,u⟩:=(a p).1 hp;exact⟨(hI.fn p h1).1,LY.2 u⟩
 .obtain⟨g1,g2,g3,g4⟩:=hI.ow p hp;exact⟨g1,Ge λh=>(FC g2) ((a p).1 h).1,LY.2 λh=>(FC g2) (m p h.1 h.2),g4⟩
 .have h:=BE.1 hp;exact J.tv.fi p (m p h.1 h.2)
 .rcases hI.cv p hp with h|h|h|h
  .by_cases g:page<=p/\p<page+n
   .exact .inr (.inr (.inr (BE.2 g)))
   .exact .inl ((a p).2 ⟨h,g⟩)
  .exact .inr (.inl h)
  .exact .inr (.inr (.inl h))
  .cases h
 .have hp:=LY.1 hp;have e:=hI.rd p rfl;have:(S.Ld page n).gone p=S.gone p:=by
   rw[Bool.eq_iff_iff,Hl,Hl];constructor
   .rintro(h|h)
    .exact .inl ((d p).1 h).1
    .exact .inr h
   .rintro(h|h)
    .exact .inl ((d p).2 ⟨h,hp⟩)
    .exact .inr h
  rw[this];exact e
def CF.vP(hI:CF S fl){V:VS}(h1:V.laid=S.V.laid)(a:V.ready=S.V.ready):CF {S with V:=V} fl:=
 ⟨hI.cr,hI.cd,hI.fn,hI.ow,hI.o0,hI.li,hI.cv,hI.ks,λp=>by rw[<-hI.la,<-h1],λp hp=>(show _=_ from congrArg (λl=>Go.Sh.mem l p) a)▸hI.rd p hp,hI.sp,hI.sf,hI.fb,hI.pg,hI.h0,hI.h1⟩
def CF.commit(hI:CF S fl)(d:SZ S){page n:Int}(h0:0<=page)(m:0<n)(e:page+n<=34359738368)(a: ∀p,page<=p->p<page+n->fl p=true):CF {S with V:=Qu S.V page n} fl:=by
 have ma: ∀p,Go.Sh.mem (ES S.V.ready page (page+n)) p↔Go.Sh.mem S.V.ready p∨(page<=p/\p<page+n):=λp=>GI d.vv.o8 (by omega) h0 (by omega) p;refine⟨hI.cr,hI.cd,hI.fn,hI.ow,hI.o0,hI.li,hI.cv,hI.ks,hI.la,λp hp=> ?_,hI.sp,hI.sf,hI.fb,hI.pg,hI.h0,hI.h1⟩;refine Iff.trans (ma p) ?_;refine Iff.trans ⟨λh=>h.elim (λh=>h) λh=> ?_,λh=>.inl h⟩ (hI.rd p hp);have:=a p h.1 h.2
 grind
def XO(d:SZ S){page n:Int}(h0:0<=page)(m:0<n)(e:page+n<=34359738368): ∀p,page<=p->p<page+n->mem (Qu S.V page n).ready p:=λp h1 a=>
 (GI d.vv.o8 (by omega) h0 (by omega) p).2 (.inr ⟨h1,a⟩)
def HS.grown(S:HS)(V:VS)(at_ N:Int):HS:={S with V:=V,T:=S.T.grow (at_/512) (N/512),ks:=ES S.ks (at_/512) ((at_+N)/512),hint:=at_+N}
def CF.grown(hI:CF S no)(J:SZ S){V:VS}{at_ N:Int}(h0:0<=at_)(hn:0<N)(K:at_+N<=34359738368)(m1:at_ %512=0)(m2:N %512=0)(u: ∀p,at_<=p->p<at_+N->S.T.NZ p=false)
  (hl:V.laid=ES S.V.laid at_ (at_+N))(Y:V.ready=S.V.ready):CF (S.grown V at_ N) no:=by
 have ma: ∀p,Go.Sh.mem (ES S.V.laid at_ (at_+N)) p↔Go.Sh.mem S.V.laid p∨(at_<=p/\p<at_+N):=λp=>GI J.vv.o7 (by omega) h0 (by omega) p;have mk: ∀p,Go.Sh.mem (ES S.ks (at_/512) ((at_+N)/512)) p↔Go.Sh.mem S.ks p∨(at_/512<=p/\p<(at_+N)/512):=λp=>GI J.ok (by omega) (by omega) (by omega) p;have e: ∀p,inr (at_/512*512) (N/512*512) p=true↔at_<=p/\p<at_+N:=λp=>by rw[BE];omega
 have a: ∀p,(S.grown V at_ N).T.NZ p=true↔S.T.NZ p=true∨(at_<=p/\p<at_+N):=λp=>by
  show(S.T.NZ p||inr (at_/512*512) (N/512*512) p)=true↔_
  grind
 have d: ∀p,(S.grown V at_ N).T.fr p=true↔S.T.fr p=true∨(at_<=p/\p<at_+N):=λp=>by
  show(S.T.fr p||inr (at_/512*512) (N/512*512) p)=true↔_
  grind
 have v: ∀p,(S.grown V at_ N).T.rl p=true↔S.T.rl p=true∨(at_<=p/\p<at_+N):=λp=>by
  show(S.T.rl p||inr (at_/512*512) (N/512*512) p)=true↔_
  grind
 have m: ∀p,S.T.NZ p=true-> ¬(at_<=p/\p<at_+N):=λp h g=>by grind
 refine⟨λj O p hp=> ?_,hI.cd,λp hp=> ?_,λp hp=> ?_,hI.o0,λp hp=>(by cases hp),λp hp=> ?_,λp=> ?_,λp=> ?_,λp hp=> ?_,hI.sp,hI.sf,hI.fb,hI.pg,by show 0<=at_+N;omega,K⟩
 .obtain⟨g1,g2,g3,g4⟩:=hI.cr j O p hp;exact⟨(a p).2 (.inl g1),Ge λh=>((d p).1 h).elim (FC g2) (m p g1),g3,g4⟩
 .rcases(d p).1 hp with h|h
  .exact hI.fn p h
  .refine⟨?_,rfl⟩;have:=hI.o0 p;have: ¬0<S.own p:=λg=>m p (hI.ow p g).1 h;show S.own p=0;omega
 .obtain⟨g1,g2,g3,g4⟩:=hI.ow p hp;exact⟨(a p).2 (.inl g1),Ge λh=>((d p).1 h).elim (FC g2) (m p g1),g3,g4⟩
 .rcases(a p).1 hp with h|h
  .rcases hI.cv p h with h|h|h|h
   .grind
   .exact .inr (.inl h)
   .exact .inr (.inr (.inl h))
   grind
  grind
 .rw[a,<-hI.ks p];refine(mk (p/512)).trans ?_
  grind
 .rw[a,<-hI.la p];show Go.Sh.mem V.laid p↔_
  grind
 .show Go.Sh.mem V.ready p↔_;rw[Y,hI.rd p rfl,a];have key:(S.grown V at_ N).gone p=true↔S.gone p=true∨(at_<=p/\p<at_+N):=by
   rw[Hl,Hl,v];exact⟨λh=>h.elim (λh=>h.elim (λh=>.inl (.inl h)) .inr) λh=>.inl (.inr h),λh=>h.elim (λh=>h.elim (λh=>.inl (.inl h)) .inr) λh=>.inl (.inr h)⟩
  grind
end Go.Sh
namespace Go.Sh
variable{S:HS}{fl:Int->Bool}
def CF.Sb(hI:CF S fl)(d:SZ S){p:Int}(hp:fl p=true):S.T.fr p=false/\S.T.rl p=false/\S.own p=0/\S.gone p=false/\S.Rw p=false:=by
 have h1:S.T.fr p=false:=Ge λh=>(FC (hI.fn p h).2) hp;have e:S.T.rl p=false:=Ge λh=>(FC h1) (d.tv.rf p h);have a:S.Rw p=false:=Ge λh=>by
  obtain⟨i,hi,h⟩:=HT.1 h;exact(FC (hI.cr i hi p h).2.2.2) hp
 refine⟨h1,e,?_,Ge λh=> ?_,a⟩
 .have:=hI.o0 p;have: ¬0<S.own p:=λh=>(FC (hI.ow p h).2.2.1) hp;omega
 .rcases Hl.1 h with h|⟨i,hi,h⟩
  .grind
  .exact(FC a) (HT.2 ⟨i,hi,Ui (d.ci i hi) h⟩)
def CF.ownOut(hI:CF S fl)(e:SZ S){p:Int}(hp:0<S.own p):S.T.rl p=false/\S.gone p=false/\S.Rw p=false:=by
 obtain⟨g1,g2,g3,_⟩:=hI.ow p hp;have a:S.T.rl p=false:=Ge λh=>(FC g2) (e.tv.rf p h);have d:S.Rw p=false:=Ge λh=>by
  obtain⟨i,hi,h⟩:=HT.1 h;have:=(hI.cr i hi p h).2.2.1;omega
 refine⟨a,Ge λh=> ?_,d⟩;rcases Hl.1 h with h|⟨i,hi,h⟩
 .exact(FC a) h
 .exact(FC d) (HT.2 ⟨i,hi,Ui (e.ci i hi) h⟩)
def CF.ready(hI:CF S fl)(a:SZ S){p:Int}(hp:0<S.own p):mem S.V.ready p:=by
 obtain⟨g1,g2,g3,_⟩:=hI.ow p hp;exact(hI.rd p g3).2 ⟨g1,(hI.ownOut a hp).2.1⟩
def HS.K2(S:HS)(page n:Int):HS:={S with T:=⟨S.T.NZ,λp=>S.T.fr p||inr page n p,λp=>S.T.rl p||(inr page n p&& !V2 S.V.ready p)⟩}
def CF.K2{page n:Int}(hI:CF S (inr page n))(m:SZ S):CF (S.K2 page n) no:=by
 have a: ∀p,(S.K2 page n).T.fr p=true↔S.T.fr p=true∨inr page n p=true:=λp=>by
  show(S.T.fr p||inr page n p)=true↔_
  grind
 refine⟨λj v p hp=> ?_,hI.cd,λp hp=> ?_,λp hp=> ?_,hI.o0,λp hp=>(by cases hp),λp hp=> ?_,hI.ks,hI.la,λp _=> ?_,hI.sp,hI.sf,hI.fb,hI.pg,hI.h0,hI.h1⟩
 .obtain⟨g1,g2,g3,g4⟩:=hI.cr j v p hp;exact⟨g1,Ge λh=>((a p).1 h).elim (FC g2) (FC g4),g3,rfl⟩
 .rcases(a p).1 hp with h|h
  .exact⟨(hI.fn p h).1,rfl⟩
  .exact⟨(hI.Sb m h).2.2.1,rfl⟩
 .obtain⟨g1,g2,g3,g4⟩:=hI.ow p hp;exact⟨g1,Ge λh=>((a p).1 h).elim (FC g2) (FC g3),rfl,g4⟩
 .rcases hI.cv p hp with h|h|h|h
  .grind
  .exact .inr (.inl h)
  .exact .inr (.inr (.inl h))
  grind
 .have d:(S.K2 page n).gone p=true↔S.gone p=true∨(inr page n p=true/\ ¬mem S.V.ready p):=by
   rw[Hl,Hl];show(S.T.rl p||(inr page n p&& !V2 S.V.ready p))=true∨_↔_;rw[Bool.or_eq_true,Bool.and_eq_true,Bool.not_eq_true',<-Ig];have e:(V2 S.V.ready p=false)↔ ¬(V2 S.V.ready p=true):=by grind
   rw[e];constructor
   .rintro((h|h)|h)
    .grind
    .grind
    .exact .inl (.inr h)
   .rintro((h|h)|h)
    .grind
    .exact .inr h
    grind
  show mem S.V.ready p↔S.T.NZ p=true/\_;cases hf:inr page n p with
  | false=>
   rw[hI.rd p hf]
   grind
  | true=>
   have u:=(hI.Sb m hf).2.2.2.1;rw[hf]at d;constructor
   .intro h;exact⟨hI.li p hf,Ge λg=>(d.1 g).elim (FC u) λg=>g.2 h⟩
   grind
def HS.GW(S:HS)(id:Int)(x:Nat×SI)(page n:Int)(fx:FX):HS:=
 {S with fx:=fx,sp:=λi=>if i=id then some x else S.sp i,own:=λp=>if page<=p/\p<page+n then id else S.own p,AF:=S.AF+n}
def Next(S:HS)(id:Int)(fx:FX):Prop:=(S.fx.bk=[]/\id=(S.fx.n:Int)+1/\fx=⟨S.fx.n+1,[]⟩)∨ ∃a r,S.fx.bk=a::r/\id=(a:Int)+1/\fx=⟨S.fx.n,r⟩
def CF.many(hI:CF S fl)(m:SZ S)(v:S.fx.bk=[]): ∀k:Nat,k<=S.fx.n->(k:Int)<=cP λp=>decide (0<S.own p/\S.own p<=k)
 | 0,_=>(Uh _).1
 | k+1,hkn=>by
  have ih:=hI.many m v k (by omega);have d:S.sp ((k:Int)+1)≠none:=(hI.sf _).2 ⟨k,rfl,by omega,by grind⟩;obtain⟨x,J⟩: ∃x,S.sp ((k:Int)+1)=some x:=by
   cases h:S.sp ((k:Int)+1)with
   | none=>grind
   | some x=>grind
  obtain⟨h1,O,T,Y,u⟩:=hI.sp _ x J;have ho:=u (x.2.base/8192) (by omega) (by omega);have e:cP (λp=>decide (0<S.own p/\S.own p<=((k+1:Nat):Int)))=cP (λp=>decide (0<S.own p/\S.own p<=(k:Int)))+cP (λp=>decide (S.own p=(k:Int)+1)):=by
   refine gR (λp=> ?_) λp a b=> ?_
   .grind
   grind
  obtain⟨K,o2,o3,o4⟩:=hI.ow (x.2.base/8192) (by omega);have d:=m.tv.OC _ K;have:1<=cP (λp=>decide (S.own p=(k:Int)+1)):=cP_pos (p:=x.2.base/8192) (decide_eq_true ho) d.1 d.2;omega
def Next.live{id:Int}{X:FX}(h:Next S id X)(v:SZ S)(hI:CF S fl):0<id/\S.sp id=none/\ ∀j:Int,(∃a:Nat,j=(a:Int)+1/\a<X.n/\a∉X.bk)↔j=id∨S.sp j≠none:=by
 rcases h with ⟨h1,rfl,rfl⟩|⟨a,r,h1,rfl,rfl⟩
 .refine⟨by omega,Classical.byContradiction λg=> ?_,λj=> ?_⟩
  .obtain⟨a,e,u,_⟩:=(hI.sf _).1 g;omega
  .rw[hI.sf]
   grind
 .have m:=v.fx.nd;have d:=v.fx.lt;rw[h1]at m d;refine⟨by omega,Classical.byContradiction λg=> ?_,λj=> ?_⟩
  .obtain⟨b,e,u,J⟩:=(hI.sf _).1 g
   grind
  .rw[hI.sf];constructor
   .grind
   .rintro(e|⟨b,e,u,J⟩)
    .exact⟨a,e,d a List.mem_cons_self,(List.nodup_cons.1 m).1⟩
    grind
def WE{S:HS}(f:Int->Int){id page n:Int}(Nd:0<id)(h0:0<=page)(e:0<=n)(d:page+n<=34359738368)(hz: ∀p,page<=p->p<page+n-> ¬0<f p):
  cP (λp=>decide (0<if page<=p/\p<page+n then id else f p))=cP (λp=>decide (0<f p))+n:=by
 rw[show cP (λp=>decide (0<f p))+n=cP (λp=>decide (0<f p))+cP (inr page n) by rw[cO h0 e d]];refine gR (λp=> ?_) λp a b=> ?_
 .rw[Bool.eq_iff_iff,Bool.or_eq_true,decide_eq_true_eq,decide_eq_true_eq,BE];omega
 .have b:=BE.1 b
  grind
def CF.GW{page n:Int}(hI:CF S (inr page n))(u:SZ S)(h0:0<=page)(hn:0<n)(hb:page+n<=34359738368)(hr: ∀p,page<=p->p<page+n->mem S.V.ready p)
  {id:Int}{X:FX}(Y:Next S id X){x:Nat×SI}(x1:x.2.base=page*8192)(x2:x.2.AF=n)(x3:x.2.state≠0):CF (S.GW id x page n X) no:=by
 obtain⟨Nd,O,v⟩:=Y.live u hI;have d: ∀p,page<=p->p<page+n->inr page n p=true:=λp a b=>BE.2 ⟨a,b⟩;have T: ∀p,S.own p=id->False:=λp e=>by
  obtain⟨_,_,_,y,K,_⟩:=hI.ow p (by omega)
  grind
 have ho: ∀p,(S.GW id x page n X).own p=if page<=p/\p<page+n then id else S.own p:=λp=>rfl
 have hs: ∀i,(S.GW id x page n X).sp i=if i=id then some x else S.sp i:=λp=>rfl
 refine⟨λj hj p hp=> ?_,hI.cd,λp hp=> ?_,λp hp=> ?_,λp=> ?_,λp hp=>(by cases hp),λp hp=> ?_,hI.ks,hI.la,λp _=> ?_,λi y K=> ?_,λi=> ?_,?_,?_,hI.h0,hI.h1⟩
 .obtain⟨g1,g2,g3,g4⟩:=hI.cr j hj p hp;refine⟨g1,g2,?_,rfl⟩
  grind
 .obtain⟨g1,g2⟩:=hI.fn p hp;refine⟨?_,rfl⟩
  grind
 .rw[ho]at hp⊢;by_cases g:page<=p/\p<page+n
  .rw[if_pos g]at hp⊢;have m:=d p g.1 g.2;refine⟨hI.li p m,(hI.Sb u m).1,rfl,x,?_,by omega,by omega⟩
   grind
  .rw[if_neg g]at hp⊢;obtain⟨g1,g2,g3,y,g4,g5⟩:=hI.ow p hp;refine⟨g1,g2,rfl,y,?_,g5⟩
   grind
 .rw[ho];have:=hI.o0 p;omega
 .rcases hI.cv p hp with h|h|h|h
  .exact .inl h
  .exact .inr (.inl h)
  .grind
  .refine .inr (.inr (.inl ?_));rw[ho,if_pos (BE.1 h)];exact Nd
 .cases m:inr page n p with
  | false=>exact hI.rd p m
  | true=>
   have J:=BE.1 m;exact⟨λ_=>⟨hI.li p m,(hI.Sb u m).2.2.2.1⟩,λ_=>hr p J.1 J.2⟩
 .rw[hs]at K;by_cases g:i=id
  .grind
  .rw[if_neg g]at K;obtain⟨k1,k2,k3,k4,k5⟩:=hI.sp i y K;refine⟨k1,k2,k3,k4,λp a b=> ?_⟩;have h5:=k5 p a b;rw[ho,if_neg λh=> ?_]
   .exact h5
   .have:=(hI.Sb u (d p h.1 h.2)).2.2.1;omega
 .rw[hs];rw[show(S.GW id x page n X).fx=X from rfl,v i]
  grind
 .show X.n<=34359738368;rcases Y with ⟨h1,rfl,rfl⟩|⟨a,r,h1,rfl,rfl⟩
  .have h2:=hI.many u h1 S.fx.n (Nat.le_refl _);have h3:cP (λp=>decide (0<S.own p/\S.own p<=(S.fx.n:Int))||inr page n p)=cP (λp=>decide (0<S.own p/\S.own p<=(S.fx.n:Int)))+cP (inr page n):=gR (λp=>rfl) λp a b=>by
    have a:=of_decide_eq_true a;have:=(hI.Sb u b).2.2.1;omega
   rw[cO h0 (by omega) hb]at h3;have:=(Uh λp=>decide (0<S.own p/\S.own p<=(S.fx.n:Int))||inr page n p).2
   grind
  .exact hI.fb
 .show S.AF+n=cP λp=>decide (0<if page<=p/\p<page+n then id else S.own p);rw[WE (S:=S) S.own Nd h0 (by omega) hb λp a b=>by have:=(hI.Sb u (d p a b)).2.2.1;omega,<-hI.pg]
def HS.free(S:HS)(a:Nat)(page n:Int):HS:=
 {S with T:=S.T.Va page n,fx:=⟨S.fx.n,a::S.fx.bk⟩,sp:=λi=>if i=(a:Int)+1 then none else S.sp i,own:=λp=>if page<=p/\p<page+n then 0 else S.own p,AF:=S.AF-n}
def CF.free(hI:CF S no)(O:SZ S){a:Nat}{x:Nat×SI}(hx:S.sp ((a:Int)+1)=some x):CF (S.free a (x.2.base/8192) x.2.AF) no:=by
 obtain⟨k1,k2,k3,k4,k5⟩:=hI.sp _ x hx;generalize hpg:x.2.base/8192=page at *
 generalize hn:x.2.AF=n at *
 have m: ∀p,page<=p->p<page+n->0<S.own p:=λp h1 J=>by grind
 have K: ∀p,S.own p=(a:Int)+1↔page<=p/\p<page+n:=λp=>by
  refine⟨λe=> ?_,λh=>k5 p h.1 h.2⟩;obtain⟨_,_,_,y,h1,J,h3⟩:=hI.ow p (by omega)
  grind
 have ho: ∀p,(S.free a page n).own p=if page<=p/\p<page+n then 0 else S.own p:=λp=>rfl
 have Y: ∀i,(S.free a page n).sp i=if i=(a:Int)+1 then none else S.sp i:=λp=>rfl
 have d: ∀p,(S.free a page n).T.fr p=true↔S.T.fr p=true∨(page<=p/\p<page+n):=λp=>by
  show(S.T.fr p||inr page n p)=true↔_;rw[Bool.or_eq_true,BE]
 have u:=O.tv.OC _ (hI.ow page (m page (by omega) (by omega))).1;have aC:=O.tv.OC _ (hI.ow (page+n-1) (m _ (by omega) (by omega))).1;refine⟨λj hj p hp=> ?_,hI.cd,λp hp=> ?_,λp hp=> ?_,λp=> ?_,λp hp=>(by cases hp),λp hp=> ?_,hI.ks,hI.la,hI.rd,λi y v=> ?_,λi=> ?_,hI.fb,?_,hI.h0,hI.h1⟩
 .obtain⟨g1,g2,g3,g4⟩:=hI.cr j hj p hp;refine⟨g1,Ge λh=>((d p).1 h).elim (FC g2) λh=> ?_,?_,rfl⟩
  .grind
  grind
 .refine⟨?_,rfl⟩;rw[ho];rcases(d p).1 hp with h|h
  .split
   .rfl
   .exact(hI.fn p h).1
  omega
 .rw[ho]at hp⊢;by_cases g:page<=p/\p<page+n
  .omega
  .rw[if_neg g]at hp⊢;obtain⟨g1,g2,g3,y,g4,g5⟩:=hI.ow p hp;refine⟨g1,Ge λh=>((d p).1 h).elim (FC g2) g,rfl,y,?_,g5⟩
   grind
 .rw[ho];split
  .omega
  .exact hI.o0 p
 .by_cases g:page<=p/\p<page+n
  .grind
  .rcases hI.cv p hp with h|h|h|h
   .grind
   .exact .inr (.inl h)
   .grind
   grind
 .rw[Y]at v;by_cases g:i=(a:Int)+1
  .grind
  .rw[if_neg g]at v;obtain⟨q1,q2,q3,q4,q5⟩:=hI.sp i y v
   grind
 .rw[Y];have:=hI.sf i;show _↔ ∃b:Nat,i=(b:Int)+1/\b<S.fx.n/\b∉a::S.fx.bk
  grind
 .show S.AF-n=cP λp=>decide (0<if page<=p/\p<page+n then 0 else S.own p);have e:=WE (S:=S) (λp=>if page<=p/\p<page+n then 0 else S.own p) (id:=(a:Int)+1) k1 u.1 (by omega) (by omega) (page:=page) (n:=n) λp h1 J=>by omega
  have e2:cP (λp=>decide (0<if page<=p/\p<page+n then(a:Int)+1 else if page<=p/\p<page+n then 0 else S.own p))=cP λp=>decide (0<S.own p):=pM λp _ _=>by grind
  rw[e2]at e;have:=hI.pg;omega
end Go.Sh
namespace Go.Sh
def Sat.rest{Ps Z:List Pr}{w:World}(H:Sat (Ps++Z) w):Sat Z w:=by
 induction Ps with
 | nil=>exact H
 | cons P Ps ih=>exact ih H.tail
section
variable{E:Env}{h:Nat}{S:HS}{Z:List Pr}{w:World}{g:HG}
def cK.same{S':HS}(hI:cK S g)(e:S'.sp=S.sp):cK S' g:=⟨hI.nd,λid=>by rw[hI.mem,e]⟩
def Sat.WG(H:Sat (Bz E h S g++Z) w){i:Nat}(hi:i<64): ∃R,(∀{w'},Sat R w'->Sat Z w')/\Sat (BH E (g.cb i) (S.ca i)::BR E g.t S.T::R) w/\
  ∀{w' c' T'},Sat (BH E (g.cb i) c'::BR E g.t T'::R) w'->Sat (Bz E h {S with T:=T',ca:=λj=>if j=i then c' else S.ca j} g++Z) w':=by
 have d:(List.range 64)[i]? =some i:=List.getElem?_range hi;have h1:=(H.front 7 rfl).FO d;have u:=h1.Bh 3 rfl;refine⟨_,λ{w'} q=> ?_,u,λ{w' c' T'} h'=> ?_⟩
 .exact Sat.rest (Ps:=[Al (λi:Nat=>BH E (g.cb i) (S.ca i)) ((List.range 64).eraseIdx i),Cells h E.Ad (BX g S.hint S.AF),Bj E g.m S.V,Bq E g.a S.ks S.own,Gi E g.f S.fx,CH g.sm .i64 (Dc S.sp),Al (spR E S.sp) g.ids]) q
 have b1:=Sat.Qc (P0:=BH E (g.cb i) c') (Ps:=Al (λi:Nat=>BH E (g.cb i) (S.ca i)) ((List.range 64).eraseIdx i)::((Bz E h S g++Z).eraseIdx 7)) 3 h' (by simp[Bz]);have b2:Sat (BH E (g.cb i) c'::Al (λi:Nat=>BH E (g.cb i) (S.ca i)) ((List.range 64).eraseIdx i)::((Bz E h {S with T:=T',ca:=λj=>if j=i then c' else S.ca j} g++Z).eraseIdx 7)) w':=b1;have e:Al (λi:Nat=>BH E (g.cb i) (S.ca i)) ((List.range 64).eraseIdx i)=Al (λj:Nat=>BH E (g.cb j) (if j=i then c' else S.ca j)) ((List.range 64).eraseIdx i):=
  Al.congr λx v=>by rw[if_neg (Ud hi v)]
 rw[e,show BH E (g.cb i) c'=(λj:Nat=>BH E (g.cb j) (if j=i then c' else S.ca j)) i by grind]at b2;exact Sat.back (Ps:=Bz E h {S with T:=T',ca:=λj=>if j=i then c' else S.ca j} g++Z) 7 (Sat.Jb b2 d) (by simp[Bz])
def vQ{ca:Nat->CS}{i:Nat}:(λj=>if j=i then ca i else ca j)=ca:=funext λj=>by
 by_cases e:j=i
 .rw[if_pos e,e]
 .rw[if_neg e]
def Sat.TR(H:Sat (Bz E h S g++Z) w): ∃R,(∀{w'},Sat R w'->Sat Z w')/\Sat (BR E g.t S.T::R) w/\ ∀{w' T'},Sat (BR E g.t T'::R) w'->Sat (Bz E h {S with T:=T'} g++Z) w':=
 ⟨_,λ{w'} q=>Sat.rest (Ps:=[Cells h E.Ad (BX g S.hint S.AF),Bj E g.m S.V,Bq E g.a S.ks S.own,Gi E g.f S.fx,CH g.sm .i64 (Dc S.sp),Al (spR E S.sp) g.ids,Al (λi:Nat=>BH E (g.cb i) (S.ca i)) (List.range 64)]) q,
  H.front 2 rfl,λ{w' T'} h'=>Sat.back (Ps:=Bz E h S g++Z) 2 h' (by simp[Bz])⟩
def HS.new(V:VS):HS:=⟨V,TV.nil,λ_=>CS.nil,[],λ_=>0,⟨0,[]⟩,λ_=>none,0,0⟩
def CF.new{V:VS}(h1:V.laid=[])(m:V.ready=[]):CF (HS.new V) no:=by
 have e: ∀p,¬mem ([]:Iv) p:=DL;refine⟨λi hi p hp=> ?_,λa b p v J d K=> ?_,λp hp=>(by cases hp),λp hp=>absurd hp (by show ¬(0:Int)<0;decide),λ_=>Int.le_refl 0,λp hp=>(by cases hp),λp hp=>(by cases hp),λp=>⟨λq=>absurd q (e _),λq=>(by cases q)⟩,λp=> ?_,λp _=> ?_,λid x u=>(by cases u),λid=>⟨λq=>absurd rfl q,λ⟨a,_,q,_⟩=>absurd q (Nat.not_lt_zero a)⟩,Nat.zero_le _,?_,Int.le_refl 0,by show(0:Int)<=_;decide⟩
 .have hp:CS.nil.own p=true:=hp;rw[gT]at hp;cases hp
 .have d:CS.nil.own p=true:=d;rw[gT]at d;cases d
 .show mem V.laid p↔_;rw[h1];exact⟨λq=>absurd q (e _),λq=>(by cases q)⟩
 .show mem V.ready p↔_;rw[m];exact⟨λq=>absurd q (e _),λq=>(by cases q.1)⟩
 .exact(gS λp=>rfl).symm
def cQ(n:Nat):List.range (n+1)=List.range n++[n]:=List.range_succ
def cR(cb:Nat->Nat)(k:Nat)(x y:Value)(v0 v1 v2 a v4:Value)(b:Nat)(d:k<64):
  (v0::v1::v2::a::v4::(((List.range 64).map λi=>Value.pointer (if i<k then some ⟨cb i,0,none⟩else none))++[x,y])).set (0+(5+k)) (.pointer (some ⟨b,0,none⟩))
   =v0::v1::v2::a::v4::(((List.range 64).map λi=>Value.pointer (if i<k+1 then some ⟨if i=k then b else cb i,0,none⟩else none))++[x,y]):=by
 rw[show 0+(5+k)=k+1+1+1+1+1 by omega];simp only[List.set_cons_succ];rw[List.set_append_left _ _ (by simp;exact d)];have key:((List.range 64).map λi=>Value.pointer (if i<k then some ⟨cb i,0,none⟩else none)).set k (.pointer (some ⟨b,0,none⟩))=(List.range 64).map λi=>Value.pointer (if i<k+1 then some ⟨if i=k then b else cb i,0,none⟩else none):=by
  apply List.ext_getElem?
  grind
 rw[key]
def cS{m:Nat}{V:VS}(H:Sat (Bj E m V::Z) w){K:Option Addr->World->Prop}(hK: ∀h w',w'.cell? (Addr.mk h 0 none)=some (.pointer (some ⟨m,0,none⟩))->Sat (BF E h (HS.new V)::Z) w'->K (some ⟨h,0,none⟩) w'):F.IY E (some ⟨m,0,none⟩) K w:=by
 unfold F.IY T0.IY;refine oY H λw2 t H2=>pD H2 λw4 a H4=>Nv H4 .i64 λd w6 H6 _=> ?_;refine AJ (vs:=.pointer (some ⟨m,0,none⟩):: .pointer (some ⟨t,0,none⟩):: .pointer (some ⟨a,0,none⟩):: .pointer none:: .map (some d)::(((List.range 64).map λi=>Value.pointer none)++[.int .u64 0,.int .u64 0])) H6 λO w8 H8 _=> ?_;refine kP H8 λf aR aA=> ?_;refine Ah (aA.front 1 rfl) (o:=0) (m:=3) rfl (by simp) λaE T=> ?_;have Y:Sat (Cells O E.Ad (.pointer (some ⟨m,0,none⟩):: .pointer (some ⟨t,0,none⟩):: .pointer (some ⟨a,0,none⟩):: .pointer (some ⟨f,0,none⟩):: .map (some d)::(((List.range 64).map λi=>Value.pointer none)++[.int .u64 0,.int .u64 0]))::
   Gi E f ⟨0,[]⟩::CH d .i64 (λ_=>none)::Bq E a [] (λ_=>0)::BR E t TV.nil::Bj E m V::Z) aE:=T
 clear T;refine AM (λst w'=> ∃(k:Nat) (cb:Nat->Nat),st.1=(k:Int)/\k<=64/\Sat (Al (λi:Nat=>BH E (cb i) CS.nil) (List.range k)::Cells O E.Ad (.pointer (some ⟨m,0,none⟩):: .pointer (some ⟨t,0,none⟩):: .pointer (some ⟨a,0,none⟩):: .pointer (some ⟨f,0,none⟩):: .map (some d)::(((List.range 64).map λi=>Value.pointer (if i<k then some ⟨cb i,0,none⟩else none))++[.int .u64 0,.int .u64 0]))::
   Gi E f ⟨0,[]⟩::CH d .i64 (λ_=>none)::Bq E a [] (λ_=>0)::BR E t TV.nil::Bj E m V::Z) w') (λst _=>(64-st.1).toNat) ⟨0,λ_=>0,rfl,by decide,?_⟩ ?_
 .exact Y.Mr _
 rintro⟨k',v⟩ _ aF ⟨k,cb,hk,aJ,u⟩;dsimp only at hk⊢;subst hk;refine AG (λaQ=> ?_) λaP=> ?_
 .refine kD u.drew λaS c aC=>⟨⟨by omega,by omega⟩,?_⟩;have aD:k<64:=by omega
  rw[Int.toNat_natCast,Nat.mul_one,add_add,AI (n:=(k:Int)+1)];refine Ah (aC.front 2 rfl) (o:=0) (m:=5+k) rfl (by simp;omega) λaG J=> ?_;rw[cR cb k _ _ _ _ _ _ _ c aD]at J;refine⟨⟨k+1,λi=>if i=k then c else cb i,by omega,by omega,?_⟩,by omega⟩;have h1:=J.Bh 1 rfl;have h2:Sat (BH E c CS.nil::Al (λi:Nat=>BH E (cb i) CS.nil) (List.range k)::Cells O E.Ad (.pointer (some ⟨m,0,none⟩):: .pointer (some ⟨t,0,none⟩):: .pointer (some ⟨a,0,none⟩):: .pointer (some ⟨f,0,none⟩):: .map (some d)::(((List.range 64).map λi=>Value.pointer (if i<k+1 then some ⟨if i=k then c else cb i,0,none⟩else none))++[.int .u64 0,.int .u64 0]))::
    Gi E f ⟨0,[]⟩::CH d .i64 (λ_=>none)::Bq E a [] (λ_=>0)::BR E t TV.nil::Bj E m V::Z) aG:=J.perm (List.perm_middle (l₁:=[_,_])|>.symm)
  rw[cQ];have e:Al (λi:Nat=>BH E (cb i) CS.nil) (List.range k)=Al (λi:Nat=>BH E (if i=k then c else cb i) CS.nil) (List.range k):=Al.congr λx hx=>by grind
  rw[e,show BH E c CS.nil=(λi:Nat=>BH E (if i=k then c else cb i) CS.nil) k by grind]at h2;exact h2.T6
 .have e:k=64:=by omega
  subst e;refine hK O aF ((u.front 1 rfl).AU rfl) (Sat.heap.2 ⟨⟨m,t,a,f,d,cb,[]⟩,⟨List.nodup_nil,λid=>⟨λq=>(by cases q),λq=>absurd rfl q⟩⟩,?_⟩);have e:((List.range 64).map λi=>Value.pointer (if i<64 then some ⟨cb i,0,none⟩else none))=kU cb:=by
   unfold kU;exact List.map_congr_left λi hi=>by grind
  rw[e]at u;have aB:=u.Mr (spR E λ_=>none);refine aB.perm ?_;show List.Perm _ ((Cells O E.Ad (BX ⟨m,t,a,f,d,cb,[]⟩ 0 0)::Bj E m V::BR E t TV.nil::Bq E a [] (λ_=>0)::Gi E f ⟨0,[]⟩::CH d .i64 (λ_=>none)::Al (spR E λ_=>none) []::Al (λi:Nat=>BH E (cb i) CS.nil) (List.range 64)::[])++Z);refine List.Perm.append_right (l₁:=[Al (spR E λ_=>none) [],Al (λi:Nat=>BH E (cb i) CS.nil) (List.range 64),Cells O E.Ad (BX ⟨m,t,a,f,d,cb,[]⟩ 0 0),Gi E f ⟨0,[]⟩,CH d .i64 (λ_=>none),Bq E a [] (λ_=>0),BR E t TV.nil,Bj E m V]) Z ?_;exact(List.perm_append_comm (l₁:=[Al (spR E λ_=>none) [],Al (λi:Nat=>BH E (cb i) CS.nil) (List.range 64)]) (l₂:=[Cells O E.Ad (BX ⟨m,t,a,f,d,cb,[]⟩ 0 0),Gi E f ⟨0,[]⟩,CH d .i64 (λ_=>none),Bq E a [] (λ_=>0),BR E t TV.nil,Bj E m V])).trans (.cons _ ((List.reverse_perm [Bj E m V,BR E t TV.nil,Bq E a [] (λ_=>0),CH d .i64 (λ_=>none),Gi E f ⟨0,[]⟩]).append_right _|>.trans (.cons _ (.cons _ (.cons _ (.swap _ _ _))))))
def kV{m:Nat}{V:VS}(H:Sat (Bj E m V::Z) w){K:Option Addr->World->Prop}(a: ∀h w',Sat (BF E h (HS.new V)::Z) w'->K (some ⟨h,0,none⟩) w'):F.IY E (some ⟨m,0,none⟩) K w:=
 cS H λh w' _=>a h w'
end
def vR{x c:Nat}(h1:x.testBit c=true)(e: ∀i,i<c->x.testBit i=false)(i:Nat):(x&&&(x-1)).testBit i=(x.testBit i&& !(i==c)):=by
 have hm:x %2^(c+1)=2^c:=by
  apply Nat.eq_of_testBit_eq
  grind
 have a:x=2^(c+1)*(x/2^(c+1))+2^c:=by
  have:=Nat.div_add_mod x (2^(c+1));omega
 generalize hy:x/2^(c+1)=y at a;have p1:2^c<2^(c+1):=Nat.pow_lt_pow_right (by decide) (by omega);have p0:0<2^c:=Nat.pow_pos (by decide);have d:x-1=2^(c+1)*y+(2^c-1):=by omega
 rw[Nat.testBit_and,d]
 conv=>lhs;lhs;rw[a]
 conv=>rhs;lhs;rw[a]
 rw[Nat.testBit_two_pow_mul_add _ p1,Nat.testBit_two_pow_mul_add _ (by omega:2^c-1<2^(c+1))]
 grind
def W_low1{u:Nat->Bool}{c:Nat}(m:c<64)(h1:u c=true)(a: ∀i,i<c->u i=false):DQ .u64 0 (W u) (u64 (W u-1))=W (λi=>u i&& !(i==c)):=by
 have J:wN u 64<2^64:=PK u 64;have d:(wN u 64).testBit c=true:=by rw[DV,h1];simp[m]
 have hz:wN u 64≠0:=λe=>by grind
 have e:u64 (W u-1)=((wN u 64-1:Nat):Int):=by
  unfold W;rw[AR];omega
 rw[e];unfold W;rw[bkN (by omega) (by omega)];congr 1;apply Nat.eq_of_testBit_eq;intro i;rw[vR d (λj v=>by rw[DV,a j v];simp),DV,DV]
 grind
def pN{u:Nat->Bool}(h:W u≠0): ∃c,c<64/\u c=true/\ ∀i,i<c->u i=false:=by
 have hex: ∃c,c<64/\u c=true:=by
  refine Classical.byContradiction λg=>h (Hp.2 λi hi=> ?_);cases hu:u i with
  | false=>rfl
  | true=>grind
 have key: ∀n:Nat,(∃c,c<n/\u c=true)-> ∃c,c<n/\u c=true/\ ∀i,i<c->u i=false:=by
  intro n
  induction n with
  | zero=>omega
  | succ n ih=>
   rintro⟨c,a,hu⟩;by_cases g: ∃c,c<n/\u c=true
   .grind
   grind
 exact key 64 hex
section
variable{E:Env}{h:Nat}{S:HS}{Z:List Pr}{w:World}{g:HG}
variable(hE:EnvS E)
include hE
end
def Px(S:HS)(i:Nat)(S1:HS):Prop:=((S.ca i).empty/\ ∃q,Pp S.T 1 q/\S1=S.fill i q)∨((¬(S.ca i).empty∨ ∀q,S.T.fr q=false)/\S1=S)
def PS(S:HS)(p n:Int)(S1:HS):Prop:=(¬(0<=p/\p<64/\n<16)/\S1=S)∨ ∃i:Nat,i<64/\p=i/\n<16/\Px S i S1/\ ∀k,¬L6 (S1.ca i).has k n.toNat
def Got(S:HS)(p n page:Int)(S2:HS):Prop:=
 (∃S1,∃i k:Nat,i<64/\p=i/\n<16/\Px S i S1/\L6 (S1.ca i).has k n.toNat/\(∀j,L6 (S1.ca i).has j n.toNat->k<=j)/\k+n.toNat<=64/\page=(S1.ca i).base+k/\S2=S1.Lc i k n.toNat)∨
 ∃S1,PS S p n S1/\Pp S1.T n page/\S2=S1.Ld page n
section
variable{E:Env}{h:Nat}{S:HS}{Z:List Pr}{w:World}{g:HG}
def Um: ∀{l:Iv},Ok l->(l.length:Int)<=JZ l
 | [],_=>Int.le_refl _
 | p::r,h=>by
  have:=Um h.tail;have:=h.2.1;show((r.length+1:Nat):Int)<=p.2-p.1+JZ r;omega
variable(hE:EnvA E)
include hE
theorem kW(hT: ∀w',Sat Z w'->DJ E.AB w')(H:Sat (BF E h S::Z) w)(hI:CF S no){p n:Int}(n0:1<=n)(n1:n<=134217728){K:Int->Bool->World->Prop}
  (aN: ∀page S2,Got S p n page S2->CF S2 (inr page n)->0<=page->page+n<=34359738368-> ∀w',Sat (BF E h S2::Z) w'->K page true w')
  (aT: ∀S1,PS S p n S1->CF S1 no->(∀q,¬NT S1.T.fr q n)-> ∀w',Sat (BF E h S1::Z) w'->K 0 false w'):F.Cz E (some ⟨h,0,none⟩) p n K w:=by
 have BU:=H.BU;obtain⟨g,aL,H⟩:=Sat.heap.1 H;unfold F.Cz T0.Cz;simp only[AK];have m: ∀S1 w3,PS S p n S1->CF S1 no->S1.sp=S.sp->S1.V=S.V->S1.ks=S.ks->S1.own=S.own->S1.fx=S.fx->S1.hint=S.hint->S1.AF=S.AF->Sat (Bz E h S1 g++Z) w3->
   ∃Y:(Option Addr),w3.cell? ((Addr.mk h 0 none).add 1)=some (.pointer Y)/\F.Ay E Y n (λaG aY aH aJ=>K aG ((aH:Int)==0) aJ) w3:=by
  intro S1 w3 ht v e1 e2 e3 e4 e5 e6 e7 H3;have a:cK S1 g:=aL.same e1;have u:=(Sat.heap.2 ⟨g,a,H3⟩:Sat (BF E h S1::Z) w3).BU;obtain⟨R,_,h1,hb⟩:=H3.TR;refine⟨_,(Cq (S:=S1) (g:=g) H3).2.1,US hE.toEnvS h1 (by omega) (by omega) (λe=>by omega) (λ_ J w' H'=> ?_) λ_ page hf w' H'=> ?_⟩
  .exact aT S1 ht v J w' (Sat.heap.2 ⟨g,⟨a.nd,a.mem⟩,hb H'⟩)
  .exact aN page (S1.Ld page n) (.inr ⟨S1,ht,hf,rfl⟩) (v.Ld u hf.2.2.1) hf.1 hf.2.1 w' (Sat.heap.2 ⟨g,⟨a.nd,a.mem⟩,hb H'⟩)
 refine AZ (AZ (vM (AG (λhp j=>AG (λhn=> ?_) λhn j=> ?_) λhp j=>AO rfl λj=> ?_)))
 .obtain⟨i,rfl⟩: ∃i:Nat,p=(i:Int):=⟨p.toNat,by omega⟩;have hi:i<64:=by omega
  rw[Int.toNat_natCast];refine⟨by omega,_,by rw[Nat.mul_one,add_add,Nat.add_comm];exact(Cq (S:=S) (g:=g) H).2.2.2.2.2.2.2 i hi,?_⟩;have d: ∀S1 O,Px S i S1->CF S1 no->S1.sp=S.sp->S1.V=S.V->S1.ks=S.ks->S1.own=S.own->S1.fx=S.fx->S1.hint=S.hint->S1.AF=S.AF->Sat (Bz E h S1 g++Z) O->
    F.CQ E (some ⟨g.cb i,0,none⟩) (i64 n) (λaW bB aX aI=>CND ((aX:Int)==0) (K aW true aI) (∀j:Nat->Value,∃Y:(Option Addr),aI.cell? ((Addr.mk h 0 none).add 1)=some (.pointer Y)/\F.Ay E Y n (λaG aY aH aJ=>K aG ((aH:Int)==0) aJ) aI)) O:=by
   intro S1 O aM v e1 e2 e3 e4 e5 e6 e7 aD;have a:cK S1 g:=aL.same e1;have u:=(Sat.heap.2 ⟨g,a,aD⟩:Sat (BF E h S1::Z) O).BU;obtain⟨R,hR,h1,hb⟩:=aD.WG hi;rw[AI (n:=n)];refine Yp (hT _ (hR h1.tail.tail)) h1 (by omega) (by omega) (λa7=>by omega) (λ_ _ J=>AO rfl λj=> ?_) λ_ _ k aC aO aK w' H'=>Aa rfl ?_
   .exact m S1 O (.inr ⟨i,hi,rfl,hn,aM,J⟩) v e1 e2 e3 e4 e5 e6 e7 aD
   .have aF:=u.ci i hi;have q0:=aF.b0;have q1:=aF.b1;have q2:=aF.b64;have aB:=v.Lc u hi aC aK;rw[show((n.toNat:Nat):Int)=n by omega]at aB;refine aN ((S1.ca i).base+k) (S1.Lc i k n.toNat) (.inl ⟨S1,i,k,hi,rfl,hn,aM,aC,aO,aK,rfl,rfl⟩) aB (by omega) (by omega) w' (Sat.heap.2 ⟨g,⟨a.nd,a.mem⟩,hb H'⟩)
  obtain⟨R,hR,h1,hb⟩:=H.WG hi;refine AZ (OD h1 (λhe=>Aa rfl ⟨_,(Cq (S:=S) (g:=g) H).2.1,?_⟩) λhe=>AO rfl λj=> ?_)
  .refine bX hE.toEnvS h1 (λaV=>absurd he aV) (λ_ J w' H' j=> ?_) λ_ q hq w' H' j=> ?_
   .have h2:=hb H';rw[vQ]at h2;exact d S w' (.inr ⟨.inr J,rfl⟩) hI rfl rfl rfl rfl rfl rfl rfl h2
   .exact d (S.fill i q) w' (.inl ⟨he,q,hq,rfl⟩) (hI.fill BU hi he q) rfl rfl rfl rfl rfl rfl rfl (hb H')
  .exact d S w (.inr ⟨.inl he,rfl⟩) hI rfl rfl rfl rfl rfl rfl rfl H
 .exact m S w (.inl ⟨by omega,rfl⟩) hI rfl rfl rfl rfl rfl rfl rfl H
 .exact m S w (.inl ⟨by omega,rfl⟩) hI rfl rfl rfl rfl rfl rfl rfl H
def Le(n:Int):Int:=(n+511)/512*512
def vS(S:HS)(n:Int)(S1:HS):Prop:=(∀r,S.V.rf≠true::r)/\ ∃at_,Pu S.V S.hint (Le n) at_/\S1=S.grown {S.V with rf:=S.V.rf.tail,pl:=S.V.pl.tail,laid:=ES S.V.laid at_ (at_+Le n)} at_ (Le n)
def pO(S:HS)(n:Int)(S1:HS):Prop:=(∃r,S.V.rf=true::r/\S1={S with V:={S.V with rf:=r}})∨((∀r,S.V.rf≠true::r)/\UU S.V S.hint (Le n)/\S1={S with V:={S.V with rf:=S.V.rf.tail,pl:=S.V.pl.tail}})
theorem cT(H:Sat (BF E h S::Z) w)(hI:CF S no){n:Int}(n0:1<=n)(n1:n<=134217728){K:Int->World->Prop}
  (aO: ∀S1,vS S n S1->CF S1 no->(∃at_,NT S1.T.fr at_ n)-> ∀w',Sat (BF E h S1::Z) w'->K 0 w')(aC: ∀S1,pO S n S1->CF S1 no-> ∀w',Sat (BF E h S1::Z) w'->K 13 w'):
  F.CZ E (some ⟨h,0,none⟩) n K w:=by
 have BU:=H.BU;have aN:=hI.h0;have aX:=hI.h1;obtain⟨g,a,H⟩:=Sat.heap.1 H;unfold F.CZ T0.CZ;refine⟨by decide,Ac λN hN=> ?_⟩;rw[AR (n:=n+512),AR (n:=n+512-1),Int.tdiv_eq_ediv_of_nonneg (by omega),AR (n:=(n+512-1)/512),AR]at hN;have hN:N=Le n:=by unfold Le;omega
 subst hN;have aP:Le n %512=0/\n<=Le n/\Le n<=134217728:=by omega
 obtain⟨u1,u2,u3⟩:=aP;have u4:Le n<n+512:=by omega
 simp only[AK];have Hd:=H.drew;refine⟨_,(Cq (S:=S) (g:=g) Hd).1,_,(Cq (S:=S) (g:=g) Hd).2.2.2.2.2.1,?_⟩;have bk: ∀{V':VS} {w'},Sat (Bj E g.m V'::(Bz E h S g++Z).eraseIdx 1) w'->Sat (Bz E h {S with V:=V'} g++Z) w':=λ{V' w'} h'=>Sat.back (Ps:=Bz E h S g++Z) 1 h' (by simp[Bz]);refine XJ hE.toEnvS (Hd.front 1 rfl) aN (by omega) (by omega) (by omega) (λu=>by omega) (λ_ r hr w' H'=>Aa rfl ?_) (λ_ hr hu w' H'=>Aa rfl ?_) λ_ hr at_ hc w8 H8=>AO rfl ?_
 .exact aC _ (.inl ⟨r,hr,rfl⟩) (hI.vP rfl rfl) w' (Sat.heap.2 ⟨g,⟨a.nd,a.mem⟩,bk H'⟩)
 .exact aC _ (.inr ⟨hr,hu,rfl⟩) (hI.vP rfl rfl) w' (Sat.heap.2 ⟨g,⟨a.nd,a.mem⟩,bk H'⟩)
 obtain⟨f1,f2,f3,f4⟩:=hc.fits BU.vv.o7 (by omega);have a0:0<=at_:=by
  rcases hc with ⟨p,r,h1,h2,rfl⟩|⟨_,⟨_,h1,_⟩|⟨_,_,h1,_⟩⟩
  .obtain⟨g',aL,_⟩:=Sat.OF.1 (Hd.front 1 rfl:Sat (Bj E g.m S.V::_) _);exact(aL.sU at_ (by rw[h1];exact List.mem_cons_self)).1
  .have:=h1.low;omega
  .have:=h1.low;omega
 have O: ∀p,at_<=p->p<at_+Le n->S.T.NZ p=false:=λp h1 h2=>Ge λhp=>(IG BU.vv.o7 (by omega)).1 f4 p h1 h2 ((hI.la p).2 hp);have H9:=bk H8;rw[AR (n:=at_+Le n)];refine Ah H9 (o:=0) (m:=69) rfl (by rw[cL];decide) λaQ v=> ?_;rw[Nat.zero_add,cM]at v;have d:Sat (Bz E h {S with V:={S.V with rf:=S.V.rf.tail,pl:=S.V.pl.tail,laid:=ES S.V.laid at_ (at_+Le n)},hint:=at_+Le n} g++Z) aQ:=v;clear v;rw[Int.tdiv_eq_ediv_of_nonneg (by omega),Int.tdiv_eq_ediv_of_nonneg (by omega),AR (n:=at_/512),AR (n:=Le n/512)];refine⟨_,(Cq (S:={S with V:={S.V with rf:=S.V.rf.tail,pl:=S.V.pl.tail,laid:=ES S.V.laid at_ (at_+Le n)},hint:=at_+Le n}) (g:=g) d).2.1,by decide,by decide,?_⟩;obtain⟨R,_,h1,hb⟩:=d.TR;refine kA hE.toEnvS h1 (by omega) (by omega) (by omega) (by omega) (λu=>by unfold L5 at u;omega) (λ_ hex=> ?_) λ_ _ aR aH=> ?_
 .grind
 have Y:=(hb aH).drew;generalize hS3:({S with V:={S.V with rf:=S.V.rf.tail,pl:=S.V.pl.tail,laid:=ES S.V.laid at_ (at_+Le n)},hint:=at_+Le n,T:=S.T.grow (at_/512) (Le n/512)}:HS)=S3;have e3:S3.hint=at_+Le n:=by grind
 have J:Sat (Bz E h S3 g++Z) aR.drew:=by rw[<-hS3];exact Y
 clear Y;have aB:=(Cq (S:=S3) (g:=g) J).2.2.2.2.2.1;rw[e3]at aB;refine⟨_,(Cq (S:=S3) (g:=g) J).2.2.1,by decide,_,aB,by decide,?_⟩;rw[Int.tdiv_eq_ediv_of_nonneg (by omega),AR (n:=(at_+Le n)/512)];refine kO hE (J.front 3 rfl) (by omega) (by omega) (by omega) λaE aI=> ?_;have aA:Sat (Bz E h {S3 with ks:=ES S3.ks (at_/512) ((at_+Le n)/512)} g++Z) aE:=Sat.back (Ps:=Bz E h S3 g++Z) 3 aI (by simp[Bz]);have e:=(Cq (S:={S3 with ks:=ES S3.ks (at_/512) ((at_+Le n)/512)}) (g:=g) aA).2.2.2.2.2.1;have aJ:({S3 with ks:=ES S3.ks (at_/512) ((at_+Le n)/512)}:HS).hint=at_+Le n:=e3;rw[aJ]at e;refine⟨e,?_⟩;subst hS3;refine aO _ ⟨hr,at_,hc,rfl⟩ (hI.grown BU a0 (by omega) (by omega) f1 u1 O rfl rfl) ⟨at_,λm q1 q2=> ?_⟩ aE (Sat.heap.2 ⟨g,⟨a.nd,a.mem⟩,aA⟩);show(S.T.fr m||inr (at_/512*512) (Le n/512*512) m)=true;rw[Bool.or_eq_true,BE];omega
def Jn(S:HS)(page n:Int):TV:=⟨S.T.NZ,λp=>S.T.fr p||inr page n p,λp=>S.T.rl p||(inr page n p&& !V2 S.V.ready p)⟩
omit hE in
theorem kX{S:HS}{page x y:Int}(h1:page<=x)(d:x<=y)(a: ∀p,x<=p->p<y-> ¬mem S.V.ready p):(Jn S page (x-page)).back x (y-x)=Jn S page (y-page):=by
 have e: ∀p,inr page (y-page) p=(inr page (x-page) p||inr x (y-x) p):=λp=>by rw[Bool.eq_iff_iff,Bool.or_eq_true,BE,BE,BE];omega
 unfold Jn TV.back;refine(TV.mk.injEq ..).mpr ⟨rfl,funext λp=> ?_,funext λp=> ?_⟩
 .grind
 .show(S.T.rl p||(inr page (x-page) p&& !V2 S.V.ready p)||inr x (y-x) p)=_;rw[e];cases g:inr x (y-x) p
  .simp
  .have g:=BE.1 g;have:V2 S.V.ready p=false:=Ge λq=>a p (by omega) (by omega) (Ig.1 q)
   grind
omit hE in
theorem kY{S:HS}{page x y:Int}(h1:page<=x)(d:x<=y)(a: ∀p,x<=p->p<y->mem S.V.ready p):(Jn S page (x-page)).Va x (y-x)=Jn S page (y-page):=by
 have e: ∀p,inr page (y-page) p=(inr page (x-page) p||inr x (y-x) p):=λp=>by rw[Bool.eq_iff_iff,Bool.or_eq_true,BE,BE,BE];omega
 unfold Jn TV.Va;refine(TV.mk.injEq ..).mpr ⟨rfl,funext λp=> ?_,funext λp=> ?_⟩
 .grind
 .show(S.T.rl p||(inr page (x-page) p&& !V2 S.V.ready p))=_;rw[e];cases g:inr x (y-x) p
  .simp
  .have g:=BE.1 g;rw[Ig.2 (a p (by omega) (by omega))];simp
theorem cU{page n:Int}(H:Sat (BF E h S::Z) w)(hI:CF S (inr page n))(p0:0<=page)(n0:1<=n)(pb:page+n<=34359738368){K:World->Prop}(hK:CF (S.K2 page n) no-> ∀w',Sat (BF E h (S.K2 page n)::Z) w'->K w'):
  F.Ca E (some ⟨h,0,none⟩) page n K w:=by
 have BU:=H.BU;have aZ:=hI.K2 BU;obtain⟨g,aY,H⟩:=Sat.heap.1 H;unfold F.Ca T0.Ca F.Fu T0.Fu;simp only[AK];rw[AR (n:=page+n)];refine⟨_,(Cq (S:=S) (g:=g) H).1,?_⟩;simp only[AK];rw[show(Addr.mk g.m 0 none).add 5=⟨g.m,5,none⟩ by rw[add_eq]];obtain⟨gv,bD,HV⟩:=Sat.OF.1 (H.front 1 rfl:Sat (Bj E g.m S.V::_) w);refine V3 hE.toEnvS (HV.Bh 1 rfl) (o:=5) rfl rfl p0 (by omega:page+n<18446744073709551616) λs' w3 H3 _=> ?_;have aW:Sat (Fi E g.m S.V gv++(Row E.AD 2 s' (flat (withinL S.V.ready page (page+n)))::(Bz E h S g++Z).eraseIdx 1)) w3:=
  Sat.Pv (Fi E g.m S.V gv) (H3.perm (.cons _ (.cons _ (D8 (i:=1) rfl).symm)))
 have H4:=Sat.OF.2 ⟨gv,bD,aW⟩;have H5:Sat (Row E.AD 2 s' (flat (withinL S.V.ready page (page+n)))::Bj E g.m S.V::(Bz E h S g++Z).eraseIdx 1) w3:=H4.perm (.swap _ _ _);have u:Sat (Bz E h S g++(Row E.AD 2 s' (flat (withinL S.V.ready page (page+n)))::Z)) w3:=by
  have h1:Sat (Row E.AD 2 s' (flat (withinL S.V.ready page (page+n)))::(Bz E h S g++Z)) w3:=H5.perm (.cons _ (D8 (i:=1) rfl).symm);exact Sat.Pv (Bz E h S g) h1
 clear H5 H4 aW H3 HV;have d:=UW BU.vv.o8 (a:=page) (b:=page+n) (by omega);have O: ∀q,mem (withinL S.V.ready page (page+n)) q↔mem S.V.ready q/\page<=q/\q<page+n:=λq=>OH;have aN: ∀q∈withinL S.V.ready page (page+n),page<=q.1/\q.1<q.2/\q.2<=page+n:=Pn BU.vv.o8 (by omega);generalize hl:withinL S.V.ready page (page+n)=l at u d O aN;have hlen:s'.len=l.length:=by
  have:=((u.front 8 rfl:Sat (Row E.AD 2 s' (flat l)::_) _)).own.len;rw[Ez]at this;omega
 have a8:(l.length:Int)<=n:=by
  have h1:=Um d;have h2:=Oj d.mO (a:=page) (b:=page+n) λq hq=>((O q).1 hq).2;have h3:=Gm d (a:=page) (b:=page+n) (by omega);omega
 have a4: ∀p,page<=p->p<page+n->S.T.NZ p=true:=λp a b=>hI.li p (BE.2 ⟨a,b⟩);have aJ: ∀{x y:Int},page<=x->x<y->y<=page+n->Ik (Jn S page (x-page)) x (y-x):=λ{x y} a b c=>⟨by omega,by omega,λm q1 q2=>a4 m (by omega) (by omega)⟩;have aE: ∀{x y:Int},page<=x->y<=page+n-> ∀m,x<=m->m<x+(y-x)->(Jn S page (x-page)).fr m=false:=λ{x y} a c m q1 q2=>by
  show(S.T.fr m||inr page (x-page) m)=false;rw[(hI.Sb BU (BE.2 ⟨by omega,by omega⟩)).1,LY.2 (by omega)];rfl
 have aF: ∀{x y:Int} {Y:List Pr} {w5:World} {K5:Int->World->Prop},page<=x->x<=y->y<=page+n->(∀p,x<=p->p<y-> ¬mem S.V.ready p)->Sat (Bz E h {S with T:=Jn S page (x-page)} g++Y) w5->
   (∀r w6,Sat (Bz E h {S with T:=Jn S page (y-page)} g++Y) w6->K5 r w6)->F.C9 E (some ⟨g.t,0,none⟩) x (y-x) K5 w5:=by
  intro x y Y w5 K5 h1 h2 h3 bH H5 aL;obtain⟨R,_,q1,qb⟩:=H5.TR;refine kC hE.toEnvS q1 (by omega) (by omega) (by omega) (by omega) (λhb w6 u=> ?_) (λ_ hex w6 u=> ?_) λ_ _ w6 u=> ?_
  .have:x=y:=Classical.byContradiction λe=>hb (aJ h1 (by omega) h3)
   grind
  .obtain⟨m,q1,q2,q3⟩:=hex;rw[aE h1 h3 m q1 q2]at q3;cases q3
  .rw[kX h1 h2 bH]at u;exact aL _ _ (qb u)
 have stepG: ∀{x y:Int} {Y:List Pr} {w5:World} {K5:Int->World->Prop},page<=x->x<y->y<=page+n->(∀p,x<=p->p<y->mem S.V.ready p)->Sat (Bz E h {S with T:=Jn S page (x-page)} g++Y) w5->
   (∀r w6,Sat (Bz E h {S with T:=Jn S page (y-page)} g++Y) w6->K5 r w6)->F.CV E (some ⟨g.t,0,none⟩) x (y-x) K5 w5:=by
  intro x y Y w5 K5 h1 h2 h3 a1 H5 aL;obtain⟨R,_,q1,qb⟩:=H5.TR;refine Vy hE.toEnvS q1 (by omega) (by omega) (by omega) (by omega) (λhb w6 u=>absurd (aJ h1 h2 h3) hb) (λ_ hex w6 u=> ?_) λ_ _ w6 u=> ?_
  .obtain⟨m,q1,q2,q3⟩:=hex;rw[aE h1 h3 m q1 q2]at q3;cases q3
  .rw[kY h1 (by omega) a1]at u;exact aL _ _ (qb u)
 refine AM (λst w'=> ∃i:Nat,st.2.1=(i:Int)/\i<=l.length/\page<=st.1/\st.1<=page+n/\(∀j q,j<i->l[j]? =some q->q.2<=st.1)/\(∀j q,i<=j->l[j]? =some q->st.1<=q.1)/\
   Sat (Bz E h {S with T:=Jn S page (st.1-page)} g++(Row E.AD 2 s' (flat l)::Z)) w') (λst _=>((l.length:Int)-st.2.1).toNat) ⟨0,rfl,Nat.zero_le _,Int.le_refl _,by omega,λj q hj=>absurd hj (Nat.not_lt_zero j),λj q _ hq=>(aN q (List.mem_of_getElem? hq)).1,?_⟩ ?_
 .have e:Jn S page (page-page)=S.T:=by
   unfold Jn;have: ∀p,inr page (page-page) p=false:=λp=>LY.2 (by omega);simp only[this,Bool.or_false,Bool.false_and]
  show Sat (Bz E h {S with T:=Jn S page (page-page)} g++_) w3;rw[e];exact u
 rintro⟨at_,i',v⟩ _ w6 ⟨i,hi,a3,aM,a0,bG,a2,u⟩;dsimp only at hi aM a0 bG a2 u⊢;subst hi;rw[hlen];refine AG (λbR=> ?_) λbQ=> ?_
 .have a3:i<l.length:=by omega
  obtain⟨x,hx⟩: ∃x,l[i]? =some x:=⟨_,List.getElem?_eq_getElem a3⟩;obtain⟨x1,x2,x3⟩:=aN x (List.mem_of_getElem? hx);have x4:=a2 i x (Nat.le_refl _) hx;obtain⟨bb,bF,k1,k2⟩:=(u.front 8 rfl:Sat (Row E.AD 2 s' (flat l)::_) _).own.cells2 hx;rw[bF];simp only[AK,Int.toNat_natCast];refine⟨⟨by omega,by omega⟩,x.1,by rw[add_eq,add_eq,Nat.zero_add,Nat.add_zero];exact k1,x.2,by rw[add_eq,add_eq,Nat.zero_add];exact k2,?_⟩;refine AJ (vs:=[.int .u64 0,.int .u64 0]) u λaA bT a9 _=> ?_;refine CN (news:=[.int .u64 x.1,.int .u64 x.2]) a9 rfl (by simp[Value.oneCell']) λbU bA=> ?_;have aI:=bA.drew;have hC: ∀{w'} {Y:List Pr},Sat (Cells aA E.AD [.int .u64 x.1,.int .u64 x.2]::Y) w'->w'.cell? (Addr.mk aA 0 none)=some (.int .u64 x.1)/\w'.cell? ((Addr.mk aA 0 none).add 1)=some (.int .u64 x.2):=λh=>⟨h.AU rfl,h.cell rfl⟩;have aG: ∀{w'} {S':HS},Sat (Bz E h S' g++(Cells aA E.AD [.int .u64 x.1,.int .u64 x.2]::Row E.AD 2 s' (flat l)::Z)) w'->Sat (Cells aA E.AD [.int .u64 x.1,.int .u64 x.2]::(Bz E h S' g++(Row E.AD 2 s' (flat l)::Z))) w':=λ{w' S'} h=>h.perm List.perm_middle;have bJ: ∀{w'} {S':HS},Sat (Cells aA E.AD [.int .u64 x.1,.int .u64 x.2]::(Bz E h S' g++(Row E.AD 2 s' (flat l)::Z))) w'->Sat (Bz E h S' g++(Cells aA E.AD [.int .u64 x.1,.int .u64 x.2]::Row E.AD 2 s' (flat l)::Z)) w':=λ{w' S'} q=>Sat.Pv (Bz E h S' g) q;have aU:=bJ aI;refine⟨_,(Cq (S:={S with T:=Jn S page (at_-page)}) (g:=g) aU).2.1,_,(hC aI).1,?_⟩;rw[AR (n:=x.1-at_)];refine aF aM x4 (by omega) (λp q1 q2 hm=> ?_) aU λr bV aV=> ?_
  .obtain⟨y,hy,y1,y2⟩:=(O p).2 ⟨hm,by omega,by omega⟩;obtain⟨j,hj⟩:=List.mem_iff_getElem?.1 hy;rcases Nat.lt_trichotomy j i with g1|g1|g1
   .grind
   .grind
   .have:=d.lt g1 hx hj;omega
  have J:=aV.drew;refine⟨(hC (aG aV)).1,_,(Cq (S:={S with T:=Jn S page (x.1-page)}) (g:=g) J).2.1,_,(hC (aG J)).1,_,(hC (aG J)).2,_,(hC (aG J)).1,?_⟩;rw[AR (n:=x.2-x.1)];refine stepG (by omega) x2 x3 (λp q1 q2=>((O p).1 ⟨x,List.mem_of_getElem? hx,q1,q2⟩).1) J λr bW bB=> ?_;have aB:=aG bB;refine⟨(hC aB).1,(hC aB).2,_,(hC aB).2,?_⟩;rw[AI (n:=(i:Int)+1)];refine⟨⟨i+1,by omega,by omega,by show page<=x.2;omega,x3,λj q hj hq=> ?_,λj q hj hq=> ?_,aB.tail⟩,by omega⟩
  .rcases Nat.lt_or_eq_of_le (Nat.le_of_lt_succ hj)with g1|g1
   .grind
   grind
  .have:=d.lt (show i<j by omega) hx hq;omega
 .have e:i=l.length:=by omega
  subst e;refine⟨_,(Cq (S:={S with T:=Jn S page (at_-page)}) (g:=g) u).2.1,?_⟩;rw[AR (n:=page+n-at_)];refine aF aM a0 (Int.le_refl _) (λp q1 q2 hm=> ?_) u λr bK aX=> ?_
  .obtain⟨y,hy,y1,y2⟩:=(O p).2 ⟨hm,by omega,by omega⟩;obtain⟨j,hj⟩:=List.mem_iff_getElem?.1 hy
   grind
  .rw[show page+n-page=n by omega]at aX;exact hK aZ bK (Sat.heap.2 ⟨g,⟨aY.nd,aY.mem⟩,Sat.Qv (Bz E h (S.K2 page n) g) aX⟩)
end
def gW(S:HS)(p n page:Int)(S1:HS):Prop:=
 Got S p n page S1∨ ∃d a,PS S p n d/\(∀q,¬NT d.T.fr q n)/\vS d n a/\Pp a.T n page/\S1=a.Ld page n
def Lf(S:HS)(page n:Int):Prop:= ∀q,page<=q->q<page+n->mem S.V.ready q
def Made(S1:HS)(page n:Int)(S2:HS):Prop:=(Lf S1 page n/\S2=S1)∨(¬Lf S1 page n/\(∀r,S1.V.rf≠true::r)/\S2={S1 with V:=Qu S1.V page n})
def Found(S:HS)(p n page:Int)(S2:HS):Prop:= ∃S1,gW S p n page S1/\Made S1 page n S2
def kZ(S:HS)(p n:Int)(S2:HS):Prop:=
 (∃a,PS S p n a/\(∀q,¬NT a.T.fr q n)/\pO a n S2)∨
 ∃S1 page r,gW S p n page S1/\ ¬Lf S1 page n/\S1.V.rf=true::r/\S2=({S1 with V:={S1.V with rf:=r}}:HS).K2 page n
section
variable{E:Env}{h:Nat}{S:HS}{Z:List Pr}{w:World}{g:HG}
def CF.pgs{S:HS}{fl:Int->Bool}(hI:CF S fl):0<=S.AF/\S.AF<=34359738368:=by
 rw[hI.pg];exact Uh _
def Sat.theMem(H:Sat (BF E h S::Z) w): ∃m R,w.cell? (Addr.mk h 0 none)=some (.pointer (some ⟨m,0,none⟩))/\Sat (Bj E m S.V::R) w/\
  ∀{V':VS} {w'},Sat (Bj E m V'::R) w'->Sat (BF E h {S with V:=V'}::Z) w':=by
 obtain⟨g,hI,H⟩:=Sat.heap.1 H;refine⟨g.m,_,(Cq (S:=S) (g:=g) H).1,H.front 1 rfl,λ{V' w'} h'=>Sat.heap.2 ⟨g,⟨hI.nd,hI.mem⟩,?_⟩⟩;exact Sat.back (Ps:=Bz E h S g++Z) 1 h' (by simp[Bz])
def Sat.pP(H:Sat (BF E h S::Z) w): ∃t R,w.cell? ((Addr.mk h 0 none).add 1)=some (.pointer (some ⟨t,0,none⟩))/\Sat (BR E t S.T::R) w/\
  ∀{a:TV} {w'},Sat (BR E t a::R) w'->Sat (BF E h {S with T:=a}::Z) w':=by
 obtain⟨g,hI,H⟩:=Sat.heap.1 H;refine⟨g.t,_,(Cq (S:=S) (g:=g) H).2.1,H.front 2 rfl,λ{V' w'} h'=>Sat.heap.2 ⟨g,⟨hI.nd,hI.mem⟩,?_⟩⟩;exact Sat.back (Ps:=Bz E h S g++Z) 2 h' (by simp[Bz])
variable(hE:EnvA E)
include hE
theorem cV(hT: ∀w',Sat Z w'->DJ E.AB w')(H:Sat (BF E h S::Z) w)(hI:CF S no){p n:Int}(n0:1<=n)(n1:n<=134217728){K:Int->Int->World->Prop}
  (bW: ∀page S2,Found S p n page S2->CF S2 (inr page n)->0<=page->page+n<=34359738368->Lf S2 page n-> ∀w',Sat (BF E h S2::Z) w'->K page 0 w')
  (bC: ∀S2,kZ S p n S2->CF S2 no-> ∀w',Sat (BF E h S2::Z) w'->K 0 13 w'):F.DA E (some ⟨h,0,none⟩) p n K w:=by
 unfold F.DA T0.DA;refine AJ (vs:=[.pointer (some ⟨h,0,none⟩)]) H λb1 w2 H2 _=>AJ (vs:=[.int .u64 n]) H2 λb3 w4 H4 _=>AJ (vs:=[.int .i64 0]) H4 λO w6 H6 _=> ?_;have H7:=H6.front 3 rfl;have d: ∀{w'} {S':HS} {x:Int} {Y:List Pr},Sat (BF E h S'::Cells O E.BB [.int .i64 x]::Cells b3 E.AE [.int .u64 n]::Cells b1 E.A6 [.pointer (some ⟨h,0,none⟩)]::Y) w'->
   w'.cell? (Addr.mk b1 0 none)=some (.pointer (some ⟨h,0,none⟩))/\w'.cell? (Addr.mk b3 0 none)=some (.int .u64 n)/\w'.cell? (Addr.mk O 0 none)=some (.int .i64 x):=λq=>⟨(q.front 3 rfl).AU rfl,(q.front 2 rfl).AU rfl,(q.front 1 rfl).AU rfl⟩
 have aN: ∀{w'} {S':HS} {x y:Int} {Y:List Pr} {K':World->Prop},Sat (BF E h S'::Cells O E.BB [.int .i64 x]::Cells b3 E.AE [.int .u64 n]::Cells b1 E.A6 [.pointer (some ⟨h,0,none⟩)]::Y) w'->
   (∀aT,Sat (BF E h S'::Cells O E.BB [.int .i64 y]::Cells b3 E.AE [.int .u64 n]::Cells b1 E.A6 [.pointer (some ⟨h,0,none⟩)]::Y) aT->K' aT)->stCells (Addr.mk O 0 none) 0 [.int .i64 y] w' K':=λ{w' S' x y Y K'} q hq=>by
  refine BT (q.front 1 rfl) (o:=0) rfl (by simp) λaT q'=>hq aT ?_;exact q'.perm (.swap _ _ _)
 have aW: ∀{w'} {S':HS} {x:Int},Sat (BF E h S'::Cells O E.BB [.int .i64 x]::Cells b3 E.AE [.int .u64 n]::Cells b1 E.A6 [.pointer (some ⟨h,0,none⟩)]::Z) w'->Sat (BF E h S'::Z) w':=λ{w' S' x} q=>by
  have q1:=(q.front 1 rfl).tail;have q2:=(q1.front 1 rfl).tail;exact(q2.front 1 rfl).tail
 have bU: ∀w',Sat (Cells O E.BB [.int .i64 0]::Cells b3 E.AE [.int .u64 n]::Cells b1 E.A6 [.pointer (some ⟨h,0,none⟩)]::Z) w'->DJ E.AB w':=λw' q=>hT w' q.tail.tail.tail;refine⟨_,(d H7).1,_,(d H7).2.1,?_⟩;have aM: ∀page S1,gW S p n page S1->CF S1 (inr page n)->0<=page->page+n<=34359738368-> ∀x a0,Sat (BF E h S1::Cells O E.BB [.int .i64 x]::Cells b3 E.AE [.int .u64 n]::Cells b1 E.A6 [.pointer (some ⟨h,0,none⟩)]::Z) a0->
  AL (.cells #[.int .u64 0] E.AE) a0 λJ bG=>
  stCells (Addr.mk J 0 none) 0 [.int .u64 page] bG λaF=>
  ∃a2:(Option Addr),aF.drew.cell? (Addr.mk b1 0 none)=some (.pointer a2)/\
  NC a2 λb4=>
  ∃bH:(Option Addr),aF.drew.cell? b4=some (.pointer bH)/\
  ∃bI:Int,aF.drew.cell? (Addr.mk b3 0 none)=some (.int .u64 bI)/\
  F.CD E bH page bI (λb7 u=>
  u.cell? (Addr.mk b1 0 none)=some (.pointer a2)/\
  CND ((b7:Int) !=0) (
   stCells (Addr.mk O 0 none) 0 [.int .i64 13] u λcC=>
   F.A3 E (some (Addr.mk O 0 none)) (some (Addr.mk b1 0 none)) (some (Addr.mk J 0 none)) (some (Addr.mk b3 0 none)) (λa1=>
    ∃bJ:Int,a1.cell? (Addr.mk O 0 none)=some (.int .i64 bJ)/\
    K 0 bJ a1
   ) cC
  ) (
   stCells (Addr.mk O 0 none) 0 [.int .i64 0] u λaP=>
   F.A3 E (some (Addr.mk O 0 none)) (some (Addr.mk b1 0 none)) (some (Addr.mk J 0 none)) (some (Addr.mk b3 0 none)) (λaQ=>
    ∃aR:Int,aQ.cell? (Addr.mk O 0 none)=some (.int .i64 aR)/\
    K page aR aQ
   ) aP
  )
  ) aF.drew:=by
  intro page S1 hk aA q0 q1 x a0 a4;have T:=a4.BU;refine AJ (vs:=[.int .u64 0]) a4 λJ bG bN _=>BT bN (o:=0) rfl (by simp) λaF bO=> ?_;have bP:Sat (BF E h S1::Cells O E.BB [.int .i64 x]::Cells b3 E.AE [.int .u64 n]::Cells b1 E.A6 [.pointer (some ⟨h,0,none⟩)]::Cells J E.AE [.int .u64 page]::Z) aF:=bO.perm ((D8 (l:=BF E h S1::Cells O E.BB [.int .i64 x]::Cells b3 E.AE [.int .u64 n]::Cells b1 E.A6 [.pointer (some ⟨h,0,none⟩)]::Cells J E.AE [.int .u64 page]::Z) (i:=4) rfl).symm);have aS:=bP.drew;obtain⟨m,R,c0,hm,hb⟩:=aS.theMem;refine⟨_,(d aS).1,?_⟩;simp only[AK];refine⟨_,c0,_,(d aS).2.1,?_⟩;have a9: ∀{w'} {S':HS} {x:Int},Sat (BF E h S'::Cells O E.BB [.int .i64 x]::Cells b3 E.AE [.int .u64 n]::Cells b1 E.A6 [.pointer (some ⟨h,0,none⟩)]::Cells J E.AE [.int .u64 page]::Z) w'->w'.cell? (Addr.mk J 0 none)=some (.int .u64 page):=λq=>(q.front 4 rfl).AU rfl;have aE: ∀{w'} {S':HS} {x:Int},Sat (BF E h S'::Cells O E.BB [.int .i64 x]::Cells b3 E.AE [.int .u64 n]::Cells b1 E.A6 [.pointer (some ⟨h,0,none⟩)]::Cells J E.AE [.int .u64 page]::Z) w'->Sat (BF E h S'::Z) w':=λ{w' S' x} q=>by
   have q1:=(q.front 1 rfl).tail;have q2:=(q1.front 1 rfl).tail;have q3:=(q2.front 1 rfl).tail;exact(q3.front 1 rfl).tail
  have bB: ∀q,page<=q->q<page+n->inr page n q=true:=λq a b=>BE.2 ⟨a,b⟩;have aX:cnt S1.V.laid page (page+n)=n:=by
   have:=(Ja T.vv.o7 (a:=page) (b:=page+n) (by omega)).2 λq a b=>(aA.la q).2 (aA.li q (bB q a b));omega
  have aK:=Ja T.vv.o8 (a:=page) (b:=page+n) (by omega);have v:cnt S1.V.ready page (page+n)=n↔Lf S1 page n:=⟨λe=>aK.1 (by omega),λe=>by have:=aK.2 e;omega⟩;have same:({S1 with V:=S1.V}:HS)=S1:=rfl;have aL: ∀S2 u,Made S1 page n S2->CF S2 (inr page n)->Lf S2 page n->Sat (BF E h S2::Cells O E.BB [.int .i64 x]::Cells b3 E.AE [.int .u64 n]::Cells b1 E.A6 [.pointer (some ⟨h,0,none⟩)]::Cells J E.AE [.int .u64 page]::Z) u->
    stCells (Addr.mk O 0 none) 0 [.int .i64 0] u λaP=>
    F.A3 E (some (Addr.mk O 0 none)) (some (Addr.mk b1 0 none)) (some (Addr.mk J 0 none)) (some (Addr.mk b3 0 none)) (λaQ=>
     ∃aR:Int,aQ.cell? (Addr.mk O 0 none)=some (.int .i64 aR)/\
     K page aR aQ) aP:=by
   intro S2 u bX aD bZ aB;refine aN aB λaP aV=> ?_;unfold F.A3 T0.A3;simp only[AK];exact⟨_,(d aV).2.2,AO rfl ⟨_,(d aV).2.2,bW page S2 ⟨S1,hk,bX⟩ aD q0 q1 bZ aP (aE aV)⟩⟩
  refine commit_spec hE.toEnvS hm q0 (by omega) (by omega) (by omega) (λbA=>absurd ⟨by omega,q1⟩ bA) (λ_ hl=>absurd aX hl) (λ_ _ hr u bE=> ?_) (λ_ _ hr r aY u aB=> ?_) λ_ _ hr aY u aB=> ?_
  .have aB:=aS.nothing bE;exact⟨(d aB).1,AO rfl (aL S1 u (.inl ⟨v.1 hr,rfl⟩) aA (v.1 hr) aB)⟩
  .have aI:=hb aB;refine⟨(d aI).1,Aa rfl (aN aI λa1 aJ=> ?_)⟩;unfold F.A3 T0.A3;simp only[AK];refine⟨_,(d aJ).2.2,Aa rfl ⟨_,(d aJ).1,_,a9 aJ,_,(d aJ).2.1,?_⟩⟩;have aD:CF {S1 with V:={S1.V with rf:=r}} (inr page n):=aA.vP rfl rfl;refine cU hE aJ aD q0 n0 q1 λbT cD a7=>⟨_,(d a7).2.2,?_⟩;exact bC _ (.inr ⟨S1,page,r,hk,λe=>hr (v.2 e),aY,rfl⟩) bT cD (aE a7)
  .have aI:=hb aB;have aD:CF {S1 with V:=Qu S1.V page n} (inr page n):=aA.commit T q0 (by omega) q1 bB;exact⟨(d aI).1,AO rfl (aL _ u (.inr ⟨λe=>hr (v.2 e),aY,rfl⟩) aD (XO T q0 (by omega) q1) aI)⟩
 refine kW hE bU H7 hI n0 n1 (λpage S1 hg aA q0 q1 bF aG=>AZ (AO rfl λj=>aM page S1 (.inl hg) aA q0 q1 0 bF aG)) λS0 ht bS bD bF aG=>AZ (Aa rfl ⟨_,(d aG).1,_,(d aG).2.1,?_⟩);refine cT hE aG bS n0 n1 (λa8 hg aA cH b8 aU=> ?_) λS2 bY aD b8 aU=> ?_
 .refine aN aU λb9 aH=>⟨_,(d aH).2.2,AO rfl ?_⟩;have aC:=aH.drew;have T:=aC.BU;obtain⟨t,R,c1,b2,hb⟩:=aC.pP;refine⟨_,(d aC).1,?_⟩;simp only[AK];refine⟨_,c1,_,(d aC).2.1,?_⟩;refine US hE.toEnvS b2 (by omega) (by omega) (λe=>by omega) (λ_ cG w' H'=> ?_) λ_ page hf cB bM=> ?_
  .grind
  .have a6:=hb bM;exact⟨(d a6).1,λj=>aM page (a8.Ld page n) (.inr ⟨S0,a8,ht,bD,hg,hf,rfl⟩) (aA.Ld T hf.2.2.1) hf.1 hf.2.1 0 cB a6⟩
 .refine aN aU λb9 aH=>⟨_,(d aH).2.2,Aa rfl ?_⟩;have aC:=aH.drew;refine⟨_,(d aC).2.2,aN aC λcA a5=>⟨_,(d a5).2.2,?_⟩⟩;exact bC S2 (.inl ⟨S0,ht,bD,bY⟩) aD cA (aW a5)
theorem cW{page n:Int}{b:Nat}{I:SI}(H:Sat (Cb E b I::BF E h S::Z) w)(hI:CF S (inr page n))(p0:0<=page)(n0:1<=n)(pb:page+n<=34359738368)(hr:Lf S page n)
  (i1:I.base=page*8192)(i2:I.AF=n)(i3:I.state≠0){K:Int->World->Prop}
  (hK: ∀id X,Next S id X->CF (S.GW id (b,I) page n X) no-> ∀w',Sat (BF E h (S.GW id (b,I) page n X)::Z) w'->K id w'):F.EN E (some ⟨h,0,none⟩) (some ⟨b,0,none⟩) K w:=by
 have BU:=(H.front 1 rfl:Sat (BF E h S::_) w).BU;have bP:=hI.fb;obtain⟨g,aG,H0⟩:=Sat.heap.1 (H.front 1 rfl:Sat (BF E h S::Cb E b I::Z) w);unfold F.EN T0.EN;simp only[AK];refine⟨_,(Cq (S:=S) (g:=g) H0).2.2.2.1,?_⟩;have O: ∀id X,Next S id X-> ∀w4,Sat (Bz E h {S with fx:=X} g++(Cb E b I::Z)) w4->
   ∃x6:(Option Nat),w4.cell? ((Addr.mk h 0 none).add 4)=some (.map x6)/\
   KB .i64 id (.pointer (some ⟨b,0,none⟩)) x6 w4 λw7=>
   F.Ax E (some ⟨b,0,none⟩) (λr8 r9 a7 a8 a9 bA bB bC bD bE aR=>
   AL (.cells #[.int .u64 0,.int .i64 0,.int .i64 0,.int .i64 0,.bool false,.int .i64 0,.int .i64 0,.int .i64 0,.bool false,.bool false] E.BM) aR λd aS=>
   stCells (Addr.mk d 0 none) 0 [.int .u64 r8,.int .i64 r9,.int .i64 a7,.int .i64 a8,.bool a9,.int .i64 bA,.int .i64 bB,.int .i64 bC,.bool bD,.bool bE] aS λu=>
   ∃aT:(Option Addr),u.drew.cell? ((Addr.mk h 0 none).add 2)=some (.pointer aT)/\
   ∃aJ:Int,u.drew.cell? (Addr.mk d 0 none)=some (.int .u64 aJ)/\
   8192≠(0:Int)/\
   ∃aK:Int,u.drew.cell? ((Addr.mk d 0 none).add 1)=some (.int .i64 aK)/\
   F.DZ E aT (u64 (Int.tdiv aJ 8192)) (u64 (aK)) id (λbS v=>
   v.cell? ((Addr.mk d 0 none).add 1)=some (.int .i64 aK)/\
   v.cell? (Addr.mk d 0 none)=some (.int .u64 aJ)/\
   ∃aU:Int,v.drew.cell? ((Addr.mk h 0 none).add 70)=some (.int .u64 aU)/\
   ∃aV:Int,v.drew.cell? ((Addr.mk d 0 none).add 1)=some (.int .i64 aV)/\
   stCells ((Addr.mk h 0 none).add 70) 0 [.int .u64 (u64 (aU+(u64 (aV))))] v.drew λaI=>
   K id aI
   ) u.drew
   ) w7:=by
  intro id X hX w4 H4;obtain⟨Nd,aH,a4⟩:=hX.live BU hI;refine⟨_,(Cq (S:={S with fx:=X}) (g:=g) H4).2.2.2.2.1,E8 (H4.front 5 rfl) λw7 H7=> ?_⟩;have e:(λi=>if i=id then some (Value.pointer (some ⟨b,0,none⟩))else Dc S.sp i)=Dc λi=>if i=id then some (b,I)else S.sp i:=funext λi=>by
   unfold Dc
   grind
  have aN:Sat (CH g.sm .i64 (λi=>if i=id then some (Value.pointer (some ⟨b,0,none⟩))else Dc S.sp i)::(Bz E h {S with fx:=X} g++(Cb E b I::Z)).eraseIdx 5) w7:=H7;rw[e]at aN;have H8:Sat (Cb E b I::CH g.sm .i64 (Dc λi=>if i=id then some (b,I)else S.sp i)::[Cells h E.Ad (BX g S.hint S.AF),Bj E g.m S.V,BR E g.t S.T,Bq E g.a S.ks S.own,Gi E g.f X,Al (spR E S.sp) g.ids,Al (λi:Nat=>BH E (g.cb i) (S.ca i)) (List.range 64)]++Z) w7:=
   aN.front 8 rfl
  refine JP H8 λaR aX=> ?_;refine AJ (vs:=[.int .u64 0,.int .i64 0,.int .i64 0,.int .i64 0,.bool false,.int .i64 0,.int .i64 0,.int .i64 0,.bool false,.bool false]) aX λd aS aY _=> ?_;refine CN (news:=[.int .u64 I.base,.int .i64 I.AF,.int .i64 I.state,.int .i64 I.cls,.bool I.E3,.int .i64 I.elem,.int .i64 I.AP,.int .i64 I.used,.bool I.f8,.bool I.f9]) aY rfl (by simp[Value.oneCell']) λu aD=> ?_;have aQ:id∉g.ids:=λq=>(aG.mem id).1 q aH;have J:Al (spR E S.sp) g.ids=Al (spR E λi=>if i=id then some (b,I)else S.sp i) g.ids:=Al.congr λi hi=>by
   unfold spR
   grind
  have aB:Cb E b I=spR E (λi=>if i=id then some (b,I)else S.sp i) id:=by unfold spR;grind
  generalize hsp:(λi=>if i=id then some (b,I)else S.sp i)=sp' at aD J aB;have aZ:Sat (Cells d E.BM [.int .u64 I.base,.int .i64 I.AF,.int .i64 I.state,.int .i64 I.cls,.bool I.E3,.int .i64 I.elem,.int .i64 I.AP,.int .i64 I.used,.bool I.f8,.bool I.f9]::(Bz E h {S with fx:=X,sp:=sp'} {g with ids:=id::g.ids}++Z)) u:=by
   rw[J,aB]at aD;have q1:Sat (spR E sp' id::Al (spR E sp') g.ids::[Cells d E.BM [.int .u64 I.base,.int .i64 I.AF,.int .i64 I.state,.int .i64 I.cls,.bool I.E3,.int .i64 I.elem,.int .i64 I.AP,.int .i64 I.used,.bool I.f8,.bool I.f9],CH g.sm .i64 (Dc sp'),Cells h E.Ad (BX g S.hint S.AF),Bj E g.m S.V,BR E g.t S.T,Bq E g.a S.ks S.own,Gi E g.f X,Al (λi:Nat=>BH E (g.cb i) (S.ca i)) (List.range 64)]++Z) u:=
    (aD.front 1 rfl).Bh 7 rfl
   have q2:=Sat.Ix.2 q1;refine q2.perm ?_;show List.Perm _ (Cells d E.BM [.int .u64 I.base,.int .i64 I.AF,.int .i64 I.state,.int .i64 I.cls,.bool I.E3,.int .i64 I.elem,.int .i64 I.AP,.int .i64 I.used,.bool I.f8,.bool I.f9]::([Cells h E.Ad (BX g S.hint S.AF),Bj E g.m S.V,BR E g.t S.T,Bq E g.a S.ks S.own,Gi E g.f X,CH g.sm .i64 (Dc sp'),Al (spR E sp') (id::g.ids),Al (λi:Nat=>BH E (g.cb i) (S.ca i)) (List.range 64)]++Z));refine List.Perm.trans (.swap _ _ _) (.cons _ ?_);refine List.Perm.append_right (l₁:=[Al (spR E sp') (id::g.ids),CH g.sm .i64 (Dc sp'),Cells h E.Ad (BX g S.hint S.AF),Bj E g.m S.V,BR E g.t S.T,Bq E g.a S.ks S.own,Gi E g.f X,Al (λi:Nat=>BH E (g.cb i) (S.ca i)) (List.range 64)]) Z ?_;refine List.Perm.trans (.swap _ _ _) ?_;refine List.Perm.trans (List.perm_middle (a:=CH g.sm .i64 (Dc sp')) (l₁:=[])|>.symm) ?_;have p1:List.Perm (CH g.sm .i64 (Dc sp')::Al (spR E sp') (id::g.ids)::([Cells h E.Ad (BX g S.hint S.AF),Bj E g.m S.V,BR E g.t S.T,Bq E g.a S.ks S.own,Gi E g.f X]++[Al (λi:Nat=>BH E (g.cb i) (S.ca i)) (List.range 64)])) ([Cells h E.Ad (BX g S.hint S.AF),Bj E g.m S.V,BR E g.t S.T,Bq E g.a S.ks S.own,Gi E g.f X]++(CH g.sm .i64 (Dc sp')::Al (spR E sp') (id::g.ids)::[Al (λi:Nat=>BH E (g.cb i) (S.ca i)) (List.range 64)])):=by
    refine List.Perm.trans (.cons _ List.perm_middle.symm) ?_;exact List.perm_middle.symm
   exact p1
  have aA:=aZ.drew;have hB: ∀{w'} {Y:List Pr},Sat (Cells d E.BM [.int .u64 I.base,.int .i64 I.AF,.int .i64 I.state,.int .i64 I.cls,.bool I.E3,.int .i64 I.elem,.int .i64 I.AP,.int .i64 I.used,.bool I.f8,.bool I.f9]::Y) w'->w'.cell? (Addr.mk d 0 none)=some (.int .u64 I.base)/\w'.cell? ((Addr.mk d 0 none).add 1)=some (.int .i64 I.AF):=λq=>⟨q.AU rfl,q.cell rfl⟩;have hA:=(Cq (S:={S with fx:=X,sp:=sp'}) (g:={g with ids:=id::g.ids}) aA.tail).2.2.1;refine⟨_,hA,_,(hB aA).1,by decide,_,(hB aA).2,?_⟩;have e1:u64 (Int.tdiv I.base 8192)=page:=by rw[i1,Int.tdiv_eq_ediv_of_nonneg (by omega),show page*8192/8192=page by omega,AR]
  have e2:u64 I.AF=n:=by rw[i2,AR]
  rw[e1,e2];have a0:=aA.front 4 rfl;refine ZC hE a0 p0 (by omega) (by omega) (by omega) ⟨by omega,by omega,pb,λq q1 q2=>(hI.ks q).2 (hI.li q (BE.2 ⟨q1,q2⟩))⟩ λv a1=> ?_;have aE:Sat (Cells d E.BM [.int .u64 I.base,.int .i64 I.AF,.int .i64 I.state,.int .i64 I.cls,.bool I.E3,.int .i64 I.elem,.int .i64 I.AP,.int .i64 I.used,.bool I.f8,.bool I.f9]::(Bz E h {S with fx:=X,sp:=sp',own:=λp=>if page<=p/\p<page+n then id else S.own p} {g with ids:=id::g.ids}++Z)) v:=
   Sat.back (Ps:=Cells d E.BM [.int .u64 I.base,.int .i64 I.AF,.int .i64 I.state,.int .i64 I.cls,.bool I.E3,.int .i64 I.elem,.int .i64 I.AP,.int .i64 I.used,.bool I.f8,.bool I.f9]::(Bz E h {S with fx:=X,sp:=sp'} {g with ids:=id::g.ids}++Z)) 4 a1 (by simp[Bz])
  have aF:=aE.drew;have hP:=(Cq (S:={S with fx:=X,sp:=sp',own:=λp=>if page<=p/\p<page+n then id else S.own p}) (g:={g with ids:=id::g.ids}) aF.tail).2.2.2.2.2.2.1;refine⟨(hB aE).2,(hB aE).1,_,hP,_,(hB aF).2,?_⟩;rw[e2];have bQ:=hI.pg;have bO:=Uh λp=>decide (0<S.own p);show stCells _ 0 [.int .u64 (u64 (S.AF+n))] _ _;rw[AR (n:=S.AF+n)];refine Ah aF.tail (o:=0) (m:=70) rfl (by rw[cL];decide) λaI aM=> ?_;rw[Nat.zero_add,SY]at aM;have aP:=hI.GW BU p0 (by omega) pb hr hX (x:=(b,I)) i1 i2 i3;refine hK id X hX aP aI (Sat.heap.2 ⟨{g with ids:=id::g.ids},⟨List.nodup_cons.2 ⟨aQ,aG.nd⟩,λi=> ?_⟩,?_⟩)
  .show i∈id::g.ids↔(if i=id then some (b,I)else S.sp i)≠none;rw[List.mem_cons,aG.mem]
   grind
  .subst hsp;exact aM
 have bk: ∀{X:FX} {w'},Sat (Gi E g.f X::(Bz E h S g++(Cb E b I::Z)).eraseIdx 4) w'->Sat (Bz E h {S with fx:=X} g++(Cb E b I::Z)) w':=λ{X w'} q=>Sat.back (Ps:=Bz E h S g++(Cb E b I::Z)) 4 q (by simp[Bz]);refine cD (H0.front 4 rfl) (by omega) (λhb w4 H4=> ?_) λa r hb w4 H4=> ?_
 .exact O _ _ (.inl ⟨hb,rfl,rfl⟩) w4 (bk H4)
 .exact O _ _ (.inr ⟨a,r,hb,rfl,rfl⟩) w4 (bk H4)
theorem ZJ(hT: ∀w',Sat Z w'->DJ E.AB w')(H:Sat (BF E h S::Z) w)(hI:CF S no){p n c:Int}{np:Bool}(n0:0<=n)(n1:n<18446744073709551616){K:Int->Int->World->Prop}
  (O:KY 0 n c-> ∀w',Sat (BF E h S::Z) w'->K 0 1 w')
  (T: ¬KY 0 n c-> ∀S2,kZ S p n S2->CF S2 no-> ∀w',Sat (BF E h S2::Z) w'->K 0 13 w')
  (Y: ¬KY 0 n c-> ∀page S2 b id X,Found S p n page S2->CF S2 (inr page n)->0<=page->page+n<=34359738368->Next S2 id X->CF (S2.GW id (b,JV page n c np) page n X) no-> ∀w',Sat (BF E h (S2.GW id (b,JV page n c np) page n X)::Z) w'->K id 0 w'):
  F.DH E (some ⟨h,0,none⟩) p n c np K w:=by
 unfold F.DH T0.DH;refine Uf H (by decide) n0 n1 (λJ w' H'=>Aa rfl (O J w' H')) λa b0 w3 H3=>AO rfl ?_;have hg:=a;unfold KY at hg;have hn:1<=n/\n<=134217728:=by
  by_cases e:c=0
  .omega
  .have aK:=Q5 (c:=c) (by omega) (by omega);omega
 refine cV hE hT H3.tail hI hn.1 hn.2 (λpage S2 hf d q0 q1 hr w6 u=>AO rfl ?_) λS2 hl d w6 u=>Aa rfl (T a S2 hl d w6 u);refine Uf u q0 n0 n1 (λJ w' H'=> ?_) λ_ b w9 H9=> ?_
 .exfalso;unfold KY at J;omega
 .refine cW hE H9 d q0 hn.1 q1 hr rfl rfl (by show(1:Int)≠0;decide) λid X hX v aC m=>Y a page S2 b id X hf d q0 q1 hX v aC m
theorem cX(H:Sat (BF E h S::Z) w)(hI:CF S no){id:Int}{K:Int->World->Prop}(aY:S.sp id=none->K 35 w)(aZ: ∀x,S.sp id=some x->0<x.2.used->K 33 w)
  (a0: ∀x,∀a:Nat,S.sp id=some x-> ¬0<x.2.used->id=(a:Int)+1->CF (S.free a (x.2.base/8192) x.2.AF) no-> ∀w',Sat (BF E h (S.free a (x.2.base/8192) x.2.AF)::Z) w'->K 0 w'):
  F.CW E (some ⟨h,0,none⟩) id K w:=by
 have BU:=H.BU;obtain⟨g,u,H⟩:=Sat.heap.1 H;unfold F.CW T0.CW;simp only[AK];refine⟨_,(Cq (S:=S) (g:=g) H).2.2.2.2.1,MG (H.front 5 rfl) λes _=> ?_⟩;unfold Dc;cases hs:S.sp id with
 | none=>exact⟨none,rfl,Aa rfl (aY hs)⟩
 | some x=>
  refine⟨some ⟨x.1,0,none⟩,rfl,AO rfl ?_⟩;obtain⟨a,rfl,aW,aX⟩:=(hI.sf id).1 (by grind);obtain⟨k1,k2,k3,k4,k5⟩:=hI.sp _ x hs;have v:=hI.free BU hs;have hm:(a:Int)+1∈g.ids:=(u.mem _).2 (by grind);obtain⟨i,hi⟩:=List.mem_iff_getElem?.1 hm;have H1:=(H.front 6 rfl).FO hi;have e:spR E S.sp ((a:Int)+1)=Cb E x.1 x.2:=by unfold spR;rw[hs]
  rw[e]at H1;refine cJ H1 (λaI=> ?_) λaB w8 H8=>AO rfl ?_
  .rcases aI with q|q
   .exact absurd q k4
   .exact Aa rfl (aZ x hs q)
  refine JP H8 λa3 aO=> ?_;have aD:=aO.tail;have a2: ∀q,x.2.base/8192<=q->q<x.2.base/8192+x.2.AF->S.own q=(a:Int)+1:=k5;have aL:=hI.ow (x.2.base/8192) (by grind);have aC:=hI.ow (x.2.base/8192+x.2.AF-1) (by grind);have l0:=BU.tv.OC _ aL.1;have l1:=BU.tv.OC _ aC.1;generalize hsp:(λi=>if i=(a:Int)+1 then none else S.sp i)=sp';have a1:(a:Int)+1∉g.ids.eraseIdx i:=λq=>by
   have a1:=(D8 hi).nodup_iff.1 u.nd
   grind
  have aA:Al (spR E S.sp) (g.ids.eraseIdx i)=Al (spR E sp') (g.ids.eraseIdx i):=Al.congr λj hj=>by
   rw[<-hsp];unfold spR
   grind
  rw[aA]at aD;have J:Sat ([Cells h E.Ad (BX g S.hint S.AF),Bj E g.m S.V,BR E g.t S.T,Bq E g.a S.ks S.own,Gi E g.f S.fx,CH g.sm .i64 (Dc S.sp),Al (spR E sp') (g.ids.eraseIdx i),Al (λi:Nat=>BH E (g.cb i) (S.ca i)) (List.range 64)]++Z) a3:=
   Sat.back (Ps:=[Cells h E.Ad (BX g S.hint S.AF),Bj E g.m S.V,BR E g.t S.T,Bq E g.a S.ks S.own,Gi E g.f S.fx,CH g.sm .i64 (Dc S.sp),YZ,Al (λi:Nat=>BH E (g.cb i) (S.ca i)) (List.range 64)]++Z) 6 aD (by simp)
  refine AJ (vs:=[.int .u64 0,.int .i64 0,.int .i64 0,.int .i64 0,.bool false,.int .i64 0,.int .i64 0,.int .i64 0,.bool false,.bool false]) J λbB bH J _=> ?_;refine CN (news:=[.int .u64 x.2.base,.int .i64 x.2.AF,.int .i64 0,.int .i64 x.2.cls,.bool x.2.E3,.int .i64 x.2.elem,.int .i64 x.2.AP,.int .i64 0,.bool x.2.f8,.bool x.2.f9]) J rfl (by simp[Value.oneCell']) λbI aP=> ?_;have d:=aP.drew;have hh: ∀{w'} {S':HS} {Y:List Pr},Sat (Cells h E.Ad (BX g S'.hint S'.AF)::Y) w'->w'.cell? ((Addr.mk h 0 none).add 1)=some (.pointer (some ⟨g.t,0,none⟩))/\w'.cell? ((Addr.mk h 0 none).add 2)=some (.pointer (some ⟨g.a,0,none⟩))/\w'.cell? ((Addr.mk h 0 none).add 3)=some (.pointer (some ⟨g.f,0,none⟩))/\w'.cell? ((Addr.mk h 0 none).add 4)=some (.map (some g.sm))/\w'.cell? ((Addr.mk h 0 none).add 70)=some (.int .u64 S'.AF):=λ{w' S' Y} q=>
   ⟨(Cq (S:=S') (g:=g) q).2.1,(Cq (S:=S') (g:=g) q).2.2.1,(Cq (S:=S') (g:=g) q).2.2.2.1,(Cq (S:=S') (g:=g) q).2.2.2.2.1,(Cq (S:=S') (g:=g) q).2.2.2.2.2.2.1⟩
  refine⟨_,d.AU rfl,by decide,_,d.cell rfl,_,(hh (S':=S) d.tail).2.1,?_⟩;have e1:u64 (Int.tdiv x.2.base 8192)=x.2.base/8192:=by rw[Int.tdiv_eq_ediv_of_nonneg (by omega),AR]
  have e2:u64 x.2.AF=x.2.AF:=AR;simp only[e1,e2];generalize hpg:x.2.base/8192=page at *
  generalize hn:x.2.AF=n at *
  have aQ:=d.tail;refine ZC hE (aQ.front 3 rfl) l0.1 (by omega) (by omega) (by omega) ⟨by omega,Int.le_refl 0,by omega,λq q1 q2=>(hI.ks q).2 (hI.ow q (by grind)).1⟩ λa4 aR=> ?_;have aE:Sat ([Cells h E.Ad (BX g S.hint S.AF),Bj E g.m S.V,BR E g.t S.T,Bq E g.a S.ks (λp=>if page<=p/\p<page+n then 0 else S.own p),Gi E g.f S.fx,CH g.sm .i64 (Dc S.sp),Al (spR E sp') (g.ids.eraseIdx i),Al (λi:Nat=>BH E (g.cb i) (S.ca i)) (List.range 64)]++Z) a4:=
   Sat.back (Ps:=[Cells h E.Ad (BX g S.hint S.AF),Bj E g.m S.V,BR E g.t S.T,Bq E g.a S.ks S.own,Gi E g.f S.fx,CH g.sm .i64 (Dc S.sp),Al (spR E sp') (g.ids.eraseIdx i),Al (λi:Nat=>BH E (g.cb i) (S.ca i)) (List.range 64)]++Z) 3 aR (by simp)
  refine⟨_,(hh (S':=S) aE).1,?_⟩;refine Vy hE.toEnvS (aE.front 2 rfl) l0.1 (by omega) (by omega) (by omega) (λhb w' H'=> ?_) (λ_ hex w' H'=> ?_) λ_ _ a5 aS=> ?_
  .exact absurd ⟨by omega,by omega,λm q1 q2=>(hI.ow m (by grind)).1⟩ hb
  .obtain⟨m,q1,q2,q3⟩:=hex;have:=(hI.ow m (by grind)).2.1
   grind
  have aF:Sat ([Cells h E.Ad (BX g S.hint S.AF),Bj E g.m S.V,BR E g.t (S.T.Va page n),Bq E g.a S.ks (λp=>if page<=p/\p<page+n then 0 else S.own p),Gi E g.f S.fx,CH g.sm .i64 (Dc S.sp),Al (spR E sp') (g.ids.eraseIdx i),Al (λi:Nat=>BH E (g.cb i) (S.ca i)) (List.range 64)]++Z) a5:=
   Sat.back (Ps:=[Cells h E.Ad (BX g S.hint S.AF),Bj E g.m S.V,BR E g.t S.T,Bq E g.a S.ks (λp=>if page<=p/\p<page+n then 0 else S.own p),Gi E g.f S.fx,CH g.sm .i64 (Dc S.sp),Al (spR E sp') (g.ids.eraseIdx i),Al (λi:Nat=>BH E (g.cb i) (S.ca i)) (List.range 64)]++Z) 2 aS (by simp)
  refine⟨_,(hh (S':=S) aF).2.2.1,cE (aF.front 4 rfl) aW aX λa6 aT=> ?_⟩;have aG:Sat ([Cells h E.Ad (BX g S.hint S.AF),Bj E g.m S.V,BR E g.t (S.T.Va page n),Bq E g.a S.ks (λp=>if page<=p/\p<page+n then 0 else S.own p),Gi E g.f ⟨S.fx.n,a::S.fx.bk⟩,CH g.sm .i64 (Dc S.sp),Al (spR E sp') (g.ids.eraseIdx i),Al (λi:Nat=>BH E (g.cb i) (S.ca i)) (List.range 64)]++Z) a6:=
   Sat.back (Ps:=[Cells h E.Ad (BX g S.hint S.AF),Bj E g.m S.V,BR E g.t (S.T.Va page n),Bq E g.a S.ks (λp=>if page<=p/\p<page+n then 0 else S.own p),Gi E g.f S.fx,CH g.sm .i64 (Dc S.sp),Al (spR E sp') (g.ids.eraseIdx i),Al (λi:Nat=>BH E (g.cb i) (S.ca i)) (List.range 64)]++Z) 4 aT (by simp)
  have aM:0<=S.AF-n/\S.AF-n<18446744073709551616:=by
   have h1:=v.pgs;rw[show(S.free a page n).AF=S.AF-n from rfl]at h1;omega
  refine⟨_,(hh (S':=S) aG).2.2.2.2,?_⟩;rw[AR (n:=S.AF-n) aM.1 aM.2];refine Ah aG (o:=0) (m:=70) rfl (by rw[cL];decide) λbJ O=> ?_;rw[Nat.zero_add,SY]at O;refine⟨_,(hh (S':={S with AF:=S.AF-n}) O).2.2.2.1,Qe (O.front 5 rfl) λaN aU=> ?_⟩;have aK:=a0 x a hs (λq=>aB (.inr q)) rfl;rw[hpg,hn]at aK;refine aK v aN (Sat.heap.2 ⟨{g with ids:=g.ids.eraseIdx i},⟨?_,λj=> ?_⟩,?_⟩)
  .exact(List.nodup_cons.1 ((D8 hi).nodup_iff.1 u.nd)).2
  .show j∈g.ids.eraseIdx i↔(if j=(a:Int)+1 then none else S.sp j)≠none;by_cases q:j=(a:Int)+1
   .grind
   .rw[if_neg q,<-u.mem];have:=(D8 hi).mem_iff (a:=j)
    grind
  .have em:(λi=>if i=(a:Int)+1 then none else Dc S.sp i)=Dc sp':=funext λj=>by
    rw[<-hsp];unfold Dc;by_cases q:j=(a:Int)+1
    .grind
    grind
   have aH:Sat (CH g.sm .i64 (λi=>if i=(a:Int)+1 then none else Dc S.sp i)::([Cells h E.Ad (BX g S.hint (S.AF-n)),Bj E g.m S.V,BR E g.t (S.T.Va page n),Bq E g.a S.ks (λp=>if page<=p/\p<page+n then 0 else S.own p),Gi E g.f ⟨S.fx.n,a::S.fx.bk⟩,CH g.sm .i64 (Dc S.sp),Al (spR E sp') (g.ids.eraseIdx i),Al (λi:Nat=>BH E (g.cb i) (S.ca i)) (List.range 64)]++Z).eraseIdx 5) aN:=aU;rw[em]at aH;have aV:=Sat.back (Ps:=[Cells h E.Ad (BX g S.hint (S.AF-n)),Bj E g.m S.V,BR E g.t (S.T.Va page n),Bq E g.a S.ks (λp=>if page<=p/\p<page+n then 0 else S.own p),Gi E g.f ⟨S.fx.n,a::S.fx.bk⟩,CH g.sm .i64 (Dc S.sp),Al (spR E sp') (g.ids.eraseIdx i),Al (λi:Nat=>BH E (g.cb i) (S.ca i)) (List.range 64)]++Z) 5 aH (by simp);subst hsp;exact aV
end
end Go.Sh

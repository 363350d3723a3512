/- The heap: what holds of it, and what each function does to it. No further condition. -/
import Derived.Test.YtcjamkpfbpfeoaaGreatDoorB
import Derived.Test.YtcjamkpfbpfeoaaGreatDoorC
import Derived.Test.YtcjamkpfbpfeoaaGreatDoorR
import Derived.Test.YtcjamkpfbpfeoaaGreatDoorY
set_option linter.all false
set_option maxRecDepth 8000
set_option maxHeartbeats 2000000
namespace Go.Sh
theorem RA{E:Env}{w:World}{Z:List Pr}{c:Nat}{S:CS}(H:Sat (A3 E c S::Z) w){K:Int->Int->Int->World->Prop}
  (v: ∀r0 r1 d w',(S.empty->r0=0/\r1=0/\d=0)->(¬S.empty->r0=S.base/\r1=W S.has/\d=W S.rel)->Sat (A3 E c S::Z) w'->K r0 r1 d w'):F.CZ E (some ⟨c,0,none⟩) K w:=
 XF H (fun h=>v _ _ _ w (fun _=>⟨rfl,rfl,rfl⟩) (fun j=>absurd h j) H) fun h w' y=>v _ _ _ w' (fun j=>absurd j h) (fun _=>⟨rfl,rfl,rfl⟩) y
structure HS where
 V:VS
 T:TV
 ca:Nat->CS
 ks:Iv
 own:Int->Int
 fx:FX
 sp:Int->Option (Nat×SI)
 hint:Int
 AB:Int
structure HG where
 m:Nat
 t:Nat
 a:Nat
 f:Nat
 sm:Nat
 cb:Nat->Nat
 ids:List Int
def aF(cb:Nat->Nat):List Value:=(List.range 64).map fun i=>.pointer (some ⟨cb i,0,none⟩)
def Bm(g:HG)(hint AB:Int):List Value:=.pointer (some ⟨g.m,0,none⟩):: .pointer (some ⟨g.t,0,none⟩):: .pointer (some ⟨g.a,0,none⟩):: .pointer (some ⟨g.f,0,none⟩):: .map (some g.sm)::(aF g.cb++[.int .u64 hint,.int .u64 AB])
def EG(sp:Int->Option (Nat×SI)):Int->Option Value:=fun id=>(sp id).map fun x=>.pointer (some ⟨x.1,0,none⟩)
def JF(E:Env)(sp:Int->Option (Nat×SI))(id:Int):Pr:=match sp id with
 | some x=>Ed E x.1 x.2
 | none=>YB
def CH(E:Env)(h:Nat)(S:HS)(g:HG):List Pr:=
 [Cells h E.Ae (Bm g S.hint S.AB),BR E g.m S.V,BI E g.t S.T,Bu E g.a S.ks S.own,GC E g.f S.fx,Ef g.sm .i64 (EG S.sp),Ap (JF E S.sp) g.ids,Ap (fun i:Nat=>A3 E (g.cb i) (S.ca i)) (List.range 64)]
structure XU(S:HS)(g:HG):Prop where
 nd:g.ids.Nodup
 mem: ∀id,id∈g.ids↔S.sp id≠none
def Aj(E:Env)(h:Nat)(S:HS):Pr:=Ex fun g:HG=>Jv (XU S g) (Qe (CH E h S g))
theorem Hk(cb:Nat->Nat):(aF cb).length=64:=by simp[aF]
theorem eX(g:HG)(x y:Int){i:Nat}(hi:i<64):(Bm g x y)[5+i]? =some (.pointer (some ⟨g.cb i,0,none⟩)):=by
 unfold Bm;rw[show 5+i=i+1+1+1+1+1 by omega];simp only[List.getElem?_cons_succ];rw[List.getElem?_append_left (by rw[Hk];exact hi)];simp[aF,hi]
theorem mH(g:HG)(x y:Int):(Bm g x y)[69]? =some (.int .u64 x):=by
 unfold Bm;rw[show 69=64+1+1+1+1+1 from rfl];simp only[List.getElem?_cons_succ];rw[List.getElem?_append_right (by rw[Hk];exact Nat.le_refl _),Hk];rfl
theorem eY(g:HG)(x y:Int):(Bm g x y)[70]? =some (.int .u64 y):=by
 unfold Bm;rw[show 70=65+1+1+1+1+1 from rfl];simp only[List.getElem?_cons_succ];rw[List.getElem?_append_right (by rw[Hk];decide),Hk];rfl
theorem XV(g:HG)(x y:Int):(Bm g x y).length=71:=by simp[Bm,Hk]
theorem XW(g:HG)(x y z:Int):(Bm g x y).set 69 (.int .u64 z)=Bm g z y:=by
 unfold Bm;rw[show 69=64+1+1+1+1+1 from rfl];simp only[List.set_cons_succ];rw[List.set_append_right _ _ (by rw[Hk];exact Nat.le_refl _),Hk];rfl
theorem PO(g:HG)(x y z:Int):(Bm g x y).set 70 (.int .u64 z)=Bm g x z:=by
 unfold Bm;rw[show 70=65+1+1+1+1+1 from rfl];simp only[List.set_cons_succ];rw[List.set_append_right _ _ (by rw[Hk];decide),Hk];rfl
section
variable{E:Env}{h:Nat}{S:HS}{Z:List Pr}{w:World}{g:HG}
theorem Sat.heap:Sat (Aj E h S::Z) w↔ ∃g,XU S g/\Sat (CH E h S g++Z) w:=by
 unfold Aj;rw[Sat.ex];constructor
 ·rintro⟨g,h⟩;rw[Sat.where,Sat.star]at h;exact⟨g,h⟩
 ·rintro⟨g,h⟩;refine⟨g,?_⟩;rw[Sat.where,Sat.star];exact h
theorem Ba(H:Sat (Cells h E.Ae (Bm g S.hint S.AB)::Z) w):
  w.cell? (Addr.mk h 0 none)=some (.pointer (some ⟨g.m,0,none⟩))/\w.cell? ((Addr.mk h 0 none).add 1)=some (.pointer (some ⟨g.t,0,none⟩))/\w.cell? ((Addr.mk h 0 none).add 2)=some (.pointer (some ⟨g.a,0,none⟩))/\
  w.cell? ((Addr.mk h 0 none).add 3)=some (.pointer (some ⟨g.f,0,none⟩))/\w.cell? ((Addr.mk h 0 none).add 4)=some (.map (some g.sm))/\w.cell? ((Addr.mk h 0 none).add 69)=some (.int .u64 S.hint)/\w.cell? ((Addr.mk h 0 none).add 70)=some (.int .u64 S.AB)/\
  ∀i,i<64->w.cell? ((Addr.mk h 0 none).add (i+5))=some (.pointer (some ⟨g.cb i,0,none⟩)):=
 ⟨H.A2 rfl,H.cell rfl,H.cell rfl,H.cell rfl,H.cell rfl,H.cell (by rw[Nat.zero_add];exact mH g _ _),H.cell (by rw[Nat.zero_add];exact eY g _ _),fun i hi=>H.cell (by rw[Nat.zero_add,Nat.add_comm];exact eX g _ _ hi)⟩
theorem RB(H:Sat (Aj E h S::Z) w){id:Int}{K:Option Addr->Int->World->Prop}(j:S.sp id=none->K none 35 w)(d: ∀x,S.sp id=some x->K (some ⟨x.1,0,none⟩) 0 w):F.E9 E (some ⟨h,0,none⟩) id K w:=by
 obtain⟨g,v,H⟩:=Sat.heap.1 H;unfold F.E9;simp only[AI];refine⟨_,(Ba (S:=S) (g:=g) H).2.2.2.2.1,Of (H.front 5 rfl) fun es _=> ?_⟩;unfold EG;cases hs:S.sp id with
 | none=>exact⟨none,rfl,AV rfl (j hs)⟩
 | some x=>exact⟨_,rfl,Ac rfl (d x hs)⟩
theorem Sat.eZ(H:Sat (Aj E h S::Z) w){id:Int}{x:Nat×SI}(j:S.sp id=some x): ∃R:List Pr,Sat (Ed E x.1 x.2::R) w/\ ∀{w'},Sat (Ed E x.1 x.2::R) w'->Sat (Aj E h S::Z) w':=by
 obtain⟨g,d,H⟩:=Sat.heap.1 H;have hm:id∈g.ids:=(d.mem id).2 (by rw[j];exact fun h=>by cases h);obtain⟨i,hi⟩:=List.mem_iff_getElem?.1 hm;have H1:=(H.front 6 rfl).Hs hi;have e:JF E S.sp id=Ed E x.1 x.2:=by unfold JF;rw[j]
 rw[e]at H1;refine⟨_,H1,fun{w'} h'=>Sat.heap.2 ⟨g,d,?_⟩⟩;rw[<-e]at h';have v:=Sat.Gq h' hi;exact Sat.back (Ps:=CH E h S g++Z) 6 v (by simp[CH])
theorem L9(H:Sat (Aj E h S::Z) w){x:Int}(h0:0<=x)(j:x<18446744073709551616){K:Int->World->Prop}(y: ∀w',Sat (Aj E h S::Z) w'->K (S.own (x/8192)) w'):F.Df E (some ⟨h,0,none⟩) x K w:=by
 obtain⟨g,d,H⟩:=Sat.heap.1 H;unfold F.Df T0.Df;simp only[AI];refine⟨_,(Ba (S:=S) (g:=g) H).2.2.1,mF (H.front 3 rfl) h0 j fun w' v=>y w' (Sat.heap.2 ⟨g,d,?_⟩)⟩;exact Sat.back (Ps:=CH E h S g++Z) 3 v (by simp[CH])
theorem Ma(H:Sat (Aj E h S::Z) w){K:Option Addr->World->Prop}(j: ∀m R,Sat (BR E m S.V::R) w->(∀{V':VS} {w'},Sat (BR E m V'::R) w'->Sat (Aj E h {S with V:=V'}::Z) w')->K (some ⟨m,0,none⟩) w):F.Ep E (some ⟨h,0,none⟩) K w:=by
 obtain⟨g,d,H⟩:=Sat.heap.1 H;unfold F.Ep;simp only[AI];refine⟨_,(Ba (S:=S) (g:=g) H).1,j g.m _ (H.front 1 rfl) fun{V' w'} h'=>Sat.heap.2 ⟨g,⟨d.nd,d.mem⟩,?_⟩⟩;exact Sat.back (Ps:=CH E h S g++Z) 1 h' (by simp[CH])
theorem Yy{p:Int}{K:Bool->World->Prop}(d:K (decide (0<=p/\p<64)) w):F.Kb E p K w:=by
 unfold F.Kb;refine AD (fun h=> ?_) fun h=> ?_
 ·have:decide (p<64)=decide (0<=p/\p<64):=decide_eq_decide.2 (by omega);rw[this];exact d
 ·rw[decide_eq_false (by omega)]at d;exact d
theorem mI{C:CS}(j:L4 C){r0 r1:Int}(h0:C.empty->r0=0/\r1=0)(h1: ¬C.empty->r0=C.base/\r1=W C.has){p:Int}(hp:0<=p)(v:p<34359738368){K:Bool->Prop}(d:K (C.own p)):
  CND (decide ((p:Int)≥r0)) (CND (decide (((u64 (p-r0)):Int)<64)) ((0:Int)<=(u64 (p-r0))/\K (((D8 .u64 0 (Int.fdiv r1 (2^(min (Int.toNat (u64 (p-r0))) (IntKind.bits .u64)))) 1):Int)==1)) (K false)) (K false):=by
 by_cases he:C.empty
 ·obtain⟨rfl,rfl⟩:=h0 he;have hf:C.own p=false:=by
   unfold CS.own;rw[he];simp
  rw[hf]at d;refine AD (fun _=>AD (fun h=>⟨by rw[AM];omega,?_⟩) fun _=>d) fun _=>d;rw[Int.zero_fdiv,show D8 .u64 0 0 1=0 by decide];exact d
 ·obtain⟨rfl,rfl⟩:=h1 he;have O:=j.b0;have T:=j.b1;have hf: ¬(C.base<=p/\p<C.base+64)->C.own p=false:=fun h=>by
   unfold CS.own;rw[Fg.2 h];rfl
  refine AD (fun y=> ?_) fun J=> ?_
  ·rw[AM (n:=p-C.base)];refine AD (fun h=>⟨by omega,?_⟩) fun h=> ?_
   ·rw[cI _ (by omega) h];have e:C.own p=C.has (p-C.base).toNat:=by
     unfold CS.own;rw[AR.2 (by omega)];rfl
    rw[e]at d;cases hh:C.has (p-C.base).toNat
    ·rw[hh]at d;exact d
    ·rw[hh]at d;exact d
   ·rw[hf (by omega)]at d;exact d
  ·rw[hf (by omega)]at d;exact d
theorem e9{C:CS}(v:L4 C){r0 r1:Int}(h0:C.empty->r0=0/\r1=0)(h1: ¬C.empty->r0=C.base/\r1=W C.has){p:Int}(hp:0<=p)(d:p<34359738368){A B:Prop}(y:CND (C.own p) A B):
  CND (decide ((p:Int)≥r0)) (CND (decide (((u64 (p-r0)):Int)<64)) ((0:Int)<=(u64 (p-r0))/\ ∀j:Nat->Value,CND (((D8 .u64 0 (Int.fdiv r1 (2^(min (Int.toNat (u64 (p-r0))) (IntKind.bits .u64)))) 1):Int)==1) A B) (∀j:Nat->Value,CND false A B)) (∀j:Nat->Value,CND false A B):=
 mI v h0 h1 hp d (K:=fun b=> ∀j:Nat->Value,CND b A B) fun _=>y
theorem Sat.Tw(H:Sat (CH E h S g++Z) w){i:Nat}(hi:i<64): ∃R,Sat (A3 E (g.cb i) (S.ca i)::R) w/\ ∀{w'},Sat (A3 E (g.cb i) (S.ca i)::R) w'->Sat (CH E h S g++Z) w':=by
 have d:(List.range 64)[i]? =some i:=List.getElem?_range hi;refine⟨_,(H.front 7 rfl).Hs d,fun{w'} h'=> ?_⟩;exact Sat.back (Ps:=CH E h S g++Z) 7 (Sat.Gq h' d) (by simp[CH])
theorem Sw(cb:Nat->Nat){i:Nat}(hi:i<64):List.getD ((List.range 64).map fun i=>some (Addr.mk (cb i) 0 none)) i none=some ⟨cb i,0,none⟩:=by
 rw[List.getD_eq_getElem?_getD,List.getElem?_map,List.getElem?_range hi];rfl
variable(hE:EnvA E)
include hE
theorem PQ(H:Sat (Aj E h S::Z) w){p:Int}(h0:0<=p)(hp:p<18446744073709551616){K:Int->Int->World->Prop}
  (O:(34359738368<=p∨ ¬mem S.ks (p/512))-> ∀w',Sat (Aj E h S::Z) w'->K 0 0 w')
  (aK:p<34359738368->mem S.ks (p/512)->0<S.own p-> ∀w',Sat (Aj E h S::Z) w'->K 3 (S.own p) w')
  (aM:p<34359738368->mem S.ks (p/512)-> ¬0<S.own p-> ∀i:Nat,i<64->(S.ca i).own p=true->(∀j,j<i->(S.ca j).own p=false)-> ∀w',Sat (Aj E h S::Z) w'->K 2 i w')
  (aE:p<34359738368->mem S.ks (p/512)-> ¬0<S.own p->(∀i,i<64->(S.ca i).own p=false)-> ∀w',Sat (Aj E h S::Z) w'->K 1 0 w'):F.CW E (some ⟨h,0,none⟩) p K w:=by
 obtain⟨g,hI,H⟩:=Sat.heap.1 H;have back: ∀{w'},Sat (CH E h S g++Z) w'->Sat (Aj E h S::Z) w':=fun h'=>Sat.heap.2 ⟨g,hI,h'⟩;unfold F.CW T0.CW;refine An (AD (fun aC j=>AV rfl (O (.inl aC) _ (back H))) fun aU=> ?_);rw[AM (n:=p*8192)];simp only[AI];refine⟨_,(Ba (S:=S) (g:=g) H).2.2.1,eS hE (H.front 3 rfl) (by omega) (by omega) fun w7 r hr aB j=> ?_⟩;rw[show p*8192/4194304=p/512 by omega]at hr;have H7:Sat (CH E h S g++Z) w7:=Sat.back (Ps:=CH E h S g++Z) 3 aB (by simp[CH]);cases r
 ·exact AV rfl (O (.inr fun hm=>by cases hr.2 hm) _ (back H7))
 have hm:=hr.1 rfl;refine Ac rfl (L9 (back H7) (by omega) (by omega) fun w9 aO=> ?_);rw[show p*8192/8192=p by omega];obtain⟨d,aG,H9⟩:=Sat.heap.1 aO;have back: ∀{w'},Sat (CH E h S d++Z) w'->Sat (Aj E h S::Z) w':=fun h'=>Sat.heap.2 ⟨d,aG,h'⟩;refine AD (fun T=>aK (by omega) hm T _ (back H9)) fun J=> ?_;have aA:=(Ba (S:=S) (g:=d) H9).2.2.2.2.2.2.2;simp only[add_add,Nat.reduceAdd]
 repeat (refine⟨_,aA _ (by decide),?_⟩)
 have hL: ∀i:Nat,i<64->List.getD ((List.range 64).map fun i=>some (Addr.mk (d.cb i) 0 none)) i none=some ⟨d.cb i,0,none⟩:=fun i hi=>Sw d.cb hi;refine AK (fun st w'=> ∃i:Nat,st.1=(i:Int)/\i<=64/\(∀j,j<i->(S.ca j).own p=false)/\Sat (CH E h S d++Z) w') (fun st _=>(64-st.1).toNat) ⟨0,rfl,by decide,fun j hj=>by omega,H9⟩ ?_;rintro⟨i',v⟩ _ a0 ⟨i,hi,aT,y,Y⟩;dsimp only at hi⊢;subst hi;refine AD (fun aH=>⟨⟨by omega,by omega⟩,?_⟩) fun aN=>aE (by omega) hm J (fun j hj=>y j (by omega)) _ (back Y);have hi:i<64:=by omega
 obtain⟨R,hc,hb⟩:=Y.Tw hi;rw[Int.toNat_natCast];have e:=hL i hi;refine(show _=_ from e)▸ ?_;refine RA hc fun r0 r1 r2 aW g0 g1 C=>An ?_;obtain⟨aF,_⟩:=Sat.cache.1 C;refine e9 aF (fun h=>⟨(g0 h).1,(g0 h).2.1⟩) (fun h=>⟨(g1 h).1,(g1 h).2.1⟩) h0 (by omega) ?_;refine AQ (fun e=>aM (by omega) hm J i hi e y _ (back (hb C))) fun e=> ?_;rw[AH (n:=(i:Int)+1)];refine⟨⟨i+1,by omega,by omega,fun j hj=> ?_,hb C⟩,by omega⟩;rcases Nat.lt_or_eq_of_le (Nat.le_of_lt_succ hj)with q|q
 ·exact y j q
 ·subst q;exact e
end
end Go.Sh
set_option linter.all false
set_option maxRecDepth 4000
set_option maxHeartbeats 1000000
namespace Go.Sh
theorem nS{u v z:Int->Bool}: ∀n:Nat,(∀k:Int,0<=k->k<n->z k=(u k||v k))->(∀k:Int,0<=k->k<n-> ¬(u k=true/\v k=true))->cu z n=cu u n+cu v n
 | 0,_,_=>rfl
 | n+1,h1,h2=>by
  simp only[cu];rw[nS n (fun k a b=>h1 k a (by omega)) fun k a b=>h2 k a (by omega),h1 n (by omega) (by omega)];have:=h2 n (by omega) (by omega);cases hu:u n<;>cases hv:v n
  ·simp
  ·simp;omega
  ·simp;omega
  ·exact absurd ⟨hu,hv⟩ this
theorem Vm{u v:Int->Bool}: ∀n:Nat,(∀k:Int,0<=k->k<n->u k=v k)->cu u n=cu v n
 | 0,_=>rfl
 | n+1,h=>by simp only[cu];rw[Vm n fun k a b=>h k a (by omega),h n (by omega) (by omega)]
def cP(f:Int->Bool):Int:=cr f 0 34359738368
theorem RC{f g:Int->Bool}(h: ∀p,0<=p->p<34359738368->f p=g p):cP f=cP g:=by
 unfold cP cr;exact Vm _ fun k a b=>h _ (by omega) (by omega)
theorem N6{f g h:Int->Bool}(j: ∀p,h p=(f p||g p))(d: ∀p,f p=true->g p=true->False):cP h=cP f+cP g:=by
 unfold cP cr;exact nS _ (fun k _ _=>j _) fun k _ _ e=>d _ e.1 e.2
theorem Jj(f:Int->Bool):0<=cP f/\cP f<=34359738368:=by
 unfold cP;exact vO f 0 (by decide)
theorem RD{f:Int->Bool}{l:Iv}(h:Ok l)(j: ∀p,mem l p↔f p=true)(d: ∀p,f p=true->p<34359738368):cP f=DE l:=by
 unfold cP;rw[XD h j (by decide)];exact Ju h.Wo fun n v=>⟨NZ h v,by have:=d n ((j n).1 v);omega⟩
theorem cP_NT{f:Int->Bool}{l:Iv}(h:Ok l)(j: ∀p,mem l p↔f p=true)(d: ∀p,f p=true->p<34359738368):NT f=cP f:=by
 rw[VE h j,RD h j d]
theorem N7{f:Int->Bool}(h: ∀p,f p=false):cP f=0:=by
 unfold cP;exact lZ fun m _ _=>h m
theorem Ov{x n:Int}(h0:0<=x)(j:0<=n)(v:x+n<=34359738368):cP (inr x n)=n:=by
 by_cases e:n=0
 ·subst e;exact N7 fun p=>Fg.2 (by omega)
 ·rw[RD (l:=[(x,x+n)]) ⟨h0,by show x<x+n;omega,by show x+n<_;omega,fun q d=>(by cases d),trivial⟩ (fun p=> ?_) fun p hp=>by have:=AR.1 hp;omega]
  ·show x+n-x+0=n;omega
  ·rw[AR,mem_cons];exact⟨fun h=>h.elim (fun h=>h) fun h=>absurd h (A9 p),fun h=>.inl h⟩
theorem Tx{f g:Int->Bool}(h: ∀p,f p=true->g p=true):cP f<=cP g:=by
 have e:cP g=cP f+cP (fun p=>g p&& !f p):=N6 (fun p=>by cases hf:f p<;>cases hg:g p<;>simp;exact absurd (h p hf) (by rw[hg];decide)) fun p a b=>by rw[a]at b;simp at b
 have:=Jj fun p=>g p&& !f p;omega
theorem vU{f:Int->Bool}{p:Int}(hp:f p=true)(h0:0<=p)(h1:p<34359738368):1<=cP f:=by
 have:=Tx (f:=inr p 1) (g:=f) fun q d=>by
  have:=AR.1 d;rw[show q=p by omega];exact hp
 rw[Ov h0 (by decide) (by omega)]at this;exact this
theorem fA{u:Nat->Bool}{B:Int}(h0:0<=B)(h1:B+64<=34359738368):cP (fun p=>inr B 64 p&&u (p-B).toNat)=cN u 64:=by
 have key: ∀n:Nat,n<=64->cP (fun p=>inr B n p&&u (p-B).toNat)=cN u n:=by
  intro n
  induction n with
  | zero=>intro _;exact N7 fun p=>by rw[Fg.2 (by omega)];rfl
  | succ n ih=>
   intro j;simp only[cN];rw[N6 (f:=fun p=>inr B n p&&u (p-B).toNat) (g:=fun p=>inr (B+n) 1 p&&u n) (fun p=> ?_) fun p a b=> ?_,ih (by omega)]
   ·have e:cP (fun p=>inr (B+n) 1 p&&u n)=((u n).toNat:Nat):=by
     cases hu:u n
     ·rw[N7 fun p=>by simp];rfl
     ·rw[show(fun p=>inr (B+n) 1 p&&true)=inr (B+n) 1 from funext fun p=>by simp,Ov (by omega) (by decide) (by omega)];rfl
    rw[e];simp
   ·have e:inr B ((n+1:Nat):Int) p=(inr B n p||inr (B+n) 1 p):=by rw[Bool.eq_iff_iff,Bool.or_eq_true,AR,AR,AR];omega
    rw[e];cases h1:inr B n p
    ·cases d:inr (B+n) 1 p
     ·rfl
     ·have:=AR.1 d;rw[show(p-B).toNat=n by omega];simp
    ·have:=AR.1 h1;rw[show inr (B+n) 1 p=false from Fg.2 (by omega)];simp
   ·rw[Bool.and_eq_true]at a b;have h1:=AR.1 a.1;have d:=AR.1 b.1;omega
 exact key 64 (Nat.le_refl _)
def NB:Iv->Iv
 | []=>[]
 | p::r=>(p.1*512,p.2*512)::NB r
theorem RE{q:Int×Int}: ∀{l:Iv},q∈NB l-> ∃p∈l,q=(p.1*512,p.2*512)
 | p::r,h=>by
  rcases List.mem_cons.1 h with h|h
  ·exact⟨p,List.mem_cons_self,h⟩
  ·obtain⟨j,h1,d⟩:=RE h;exact⟨j,List.mem_cons_of_mem _ h1,d⟩
theorem Sx: ∀{l:Iv},Ok l->(∀q∈l,q.2<=67108864)->Ok (NB l)
 | [],_,_=>trivial
 | p::r,h,hb=>by
  obtain⟨h0,h1,J,C,v⟩:=h;have:=hb p List.mem_cons_self;refine⟨by show 0<=p.1*512;omega,by show p.1*512<p.2*512;omega,by show p.2*512<_;omega,fun q d=> ?_,Sx v fun q d=>hb q (List.mem_cons_of_mem _ d)⟩;obtain⟨j,y,rfl⟩:=RE d;have:=C j y;show p.2*512<j.1*512;omega
theorem XX{l:Iv}{p:Int}:mem (NB l) p↔mem l (p/512):=by
 induction l with
 | nil=>exact⟨fun h=>absurd h (A9 _),fun h=>absurd h (A9 _)⟩
 | cons q r ih=>
  show mem ((q.1*512,q.2*512)::NB r) p↔_;rw[mem_cons,mem_cons,ih];show(q.1*512<=p/\p<q.2*512)∨_↔_;have:(q.1*512<=p/\p<q.2*512)↔(q.1<=p/512/\p/512<q.2):=by omega
  rw[this]
theorem XY(l:Iv):DE (NB l)=DE l*512:=by
 induction l with
 | nil=>rfl
 | cons q r ih=>
  show q.2*512-q.1*512+DE (NB r)=(q.2-q.1+DE r)*512;rw[ih];omega
theorem aG{ks:Iv}(h:Ok ks){f:Int->Bool}(hf: ∀p,mem ks (p/512)↔f p=true)(d: ∀p,f p=true->p<34359738368):cP f=DE ks*512:=by
 rw[<-XY];refine RD (Sx h fun q j=> ?_) (fun p=>XX.trans (hf p)) d;have h1:=h.mem j;have:=d ((q.2-1)*512) ((hf _).1 ⟨q,j,by omega,by omega⟩);omega
end Go.Sh
set_option linter.all false
set_option maxRecDepth 8000
set_option maxHeartbeats 2000000
namespace Go.Sh
def no:Int->Bool:=fun _=>false
theorem nT{f:Nat->Bool}:(List.range 64).any f=true↔ ∃i,i<64/\f i=true:=by
 rw[List.any_eq_true];exact⟨fun⟨i,h1,h2⟩=>⟨i,List.mem_range.1 h1,h2⟩,fun⟨i,h1,h2⟩=>⟨i,List.mem_range.2 h1,h2⟩⟩
def HS.MA(S:HS)(p:Int):Bool:=(List.range 64).any fun i=>(S.ca i).own p
def HS.gone(S:HS)(p:Int):Bool:=S.T.rl p||(List.range 64).any fun i=>(S.ca i).F3 p
theorem Dq{S:HS}{p:Int}:S.MA p=true↔ ∃i,i<64/\(S.ca i).own p=true:=nT
theorem Ea{S:HS}{p:Int}:S.gone p=true↔S.T.rl p=true∨ ∃i,i<64/\(S.ca i).F3 p=true:=by
 unfold HS.gone;rw[Bool.or_eq_true,nT]
structure HP(S:HS):Prop where
 tv:M6 S.T
 vv:Nv S.V
 ci: ∀i,i<64->L4 (S.ca i)
 ok:Ok S.ks
 fx:Vg S.fx
theorem Sat.Bi{E:Env}{h:Nat}{S:HS}{Z:List Pr}{w:World}(H:Sat (Aj E h S::Z) w):HP S:=by
 obtain⟨g,d,H⟩:=Sat.heap.1 H;refine⟨(H.front 2 rfl).tvok,(H.front 1 rfl).vok,fun i hi=> ?_,(H.front 3 rfl).mE,?_⟩
 ·obtain⟨R,h1,_⟩:=H.Tw hi;exact(Sat.cache.1 h1).1
 ·obtain⟨_,_,_,h1,_⟩:=Sat.fix.1 (H.front 4 rfl);exact h1
structure Al(S:HS)(fl:Int->Bool):Prop where
 cr: ∀i,i<64-> ∀p,(S.ca i).own p=true->S.T.GH p=true/\S.T.fr p=false/\S.own p=0/\fl p=false
 cd: ∀i j p,i<64->j<64->(S.ca i).own p=true->(S.ca j).own p=true->i=j
 fn: ∀p,S.T.fr p=true->S.own p=0/\fl p=false
 ow: ∀p,0<S.own p->S.T.GH p=true/\S.T.fr p=false/\fl p=false/\ ∃x,S.sp (S.own p)=some x/\x.2.base/8192<=p/\p<x.2.base/8192+x.2.AB
 o0: ∀p,0<=S.own p
 li: ∀p,fl p=true->S.T.GH p=true
 cv: ∀p,S.T.GH p=true->S.T.fr p=true∨S.MA p=true∨0<S.own p∨fl p=true
 ks: ∀p,mem S.ks (p/512)↔S.T.GH p=true
 la: ∀p,mem S.V.laid p↔S.T.GH p=true
 rd: ∀p,fl p=false->(mem S.V.ready p↔S.T.GH p=true/\S.gone p=false)
 sp: ∀id x,S.sp id=some x->0<id/\x.2.base %8192=0/\0<x.2.AB/\x.2.state≠0/\ ∀p,x.2.base/8192<=p->p<x.2.base/8192+x.2.AB->S.own p=id
 sf: ∀id,S.sp id≠none↔ ∃a:Nat,id=(a:Int)+1/\a<S.fx.n/\a∉S.fx.bk
 fb:S.fx.n<=34359738368
 pg:S.AB=cP fun p=>decide (0<S.own p)
 h0:0<=S.hint
 h1:S.hint<=34359738368
theorem Gl{C:CS}{p:Int}:C.own p=true↔(C.base<=p/\p<C.base+64)/\C.has (p-C.base).toNat=true:=by
 unfold CS.own;rw[Bool.and_eq_true,AR]
theorem N8{C:CS}{p:Int}:C.F3 p=true↔(C.base<=p/\p<C.base+64)/\C.rel (p-C.base).toNat=true:=by
 unfold CS.F3;rw[Bool.and_eq_true,AR]
theorem Jk{C:CS}(h:L4 C){p:Int}(hp:C.F3 p=true):C.own p=true:=by
 rw[N8]at hp;exact Gl.2 ⟨hp.1,h.rh _ hp.2⟩
theorem P8{C:CS}(h:C.empty)(p:Int):C.own p=false:=by
 unfold CS.own;rw[h];simp
theorem Tz(p:Int):CS.nil.own p=false:=P8 (fun _=>rfl) p
theorem fB(p:Int):CS.nil.F3 p=false:=by unfold CS.F3 CS.nil;simp
theorem Dg{b:Bool}(h: ¬b=true):b=false:=by cases b;rfl;exact absurd rfl h
theorem Cq{b:Bool}(h:b=false): ¬b=true:=by rw[h];decide
theorem K7{T:TV}{x n p:Int}:(T.take x n).fr p=true↔T.fr p=true/\ ¬(x<=p/\p<x+n):=by
 show(T.fr p&& !inr x n p)=true↔_;rw[Bool.and_eq_true,<-AR];cases inr x n p<;>simp
theorem N9{T:TV}{x n p:Int}:(T.take x n).rl p=true↔T.rl p=true/\ ¬(x<=p/\p<x+n):=by
 show(T.rl p&& !inr x n p)=true↔_;rw[Bool.and_eq_true,<-AR];cases inr x n p<;>simp
def filled(T:TV)(q:Int):CS:=⟨q/64*64,fun i=>decide (i<64)&&T.fr (q/64*64+i),fun i=>decide (i<64)&&T.rl (q/64*64+i)⟩
def HS.setca(S:HS)(i:Nat)(c:CS):HS:={S with ca:=fun j=>if j=i then c else S.ca j}
def HS.fill(S:HS)(i:Nat)(q:Int):HS:={S with T:=S.T.take (q/64*64) 64,ca:=fun j=>if j=i then filled S.T q else S.ca j}
theorem RF{T:TV}{q p:Int}:(filled T q).own p=true↔(q/64*64<=p/\p<q/64*64+64)/\T.fr p=true:=by
 rw[Gl];show(q/64*64<=p/\p<q/64*64+64)/\(decide _&&T.fr _)=true↔_;constructor
 ·rintro⟨h1,d⟩;rw[Bool.and_eq_true]at d;have j:=d.2;have e:q/64*64+((p-q/64*64).toNat:Int)=p:=by omega
  refine⟨h1,?_⟩;rw[<-e];exact j
 ·rintro⟨h1,d⟩;refine⟨h1,?_⟩;rw[Bool.and_eq_true];have e:q/64*64+((p-q/64*64).toNat:Int)=p:=by omega
  exact⟨decide_eq_true (show(p-q/64*64).toNat<64 by omega),by show T.fr (q/64*64+((p-q/64*64).toNat:Int))=true;rw[e];exact d⟩
theorem PR{T:TV}{q p:Int}:(filled T q).F3 p=true↔(q/64*64<=p/\p<q/64*64+64)/\T.rl p=true:=by
 rw[N8];show(q/64*64<=p/\p<q/64*64+64)/\(decide _&&T.rl _)=true↔_;constructor
 ·rintro⟨h1,d⟩;rw[Bool.and_eq_true]at d;have j:=d.2;have e:q/64*64+((p-q/64*64).toNat:Int)=p:=by omega
  refine⟨h1,?_⟩;rw[<-e];exact j
 ·rintro⟨h1,d⟩;refine⟨h1,?_⟩;rw[Bool.and_eq_true];have e:q/64*64+((p-q/64*64).toNat:Int)=p:=by omega
  exact⟨decide_eq_true (show(p-q/64*64).toNat<64 by omega),by show T.rl (q/64*64+((p-q/64*64).toNat:Int))=true;rw[e];exact d⟩
variable{S:HS}{fl:Int->Bool}
theorem Al.fill(d:Al S no)(hk:HP S){i:Nat}(hi:i<64)(he:(S.ca i).empty)(q:Int):Al (S.fill i q) no:=by
 have v: ∀p,(S.T.take (q/64*64) 64).fr p=true↔S.T.fr p=true/\ ¬(q/64*64<=p/\p<q/64*64+64):=fun p=>K7;have O: ∀p,(S.T.take (q/64*64) 64).rl p=true↔S.T.rl p=true/\ ¬(q/64*64<=p/\p<q/64*64+64):=fun p=>N9;have y: ∀j p,((S.fill i q).ca j).own p=true->(j=i/\(q/64*64<=p/\p<q/64*64+64)/\S.T.fr p=true)∨(j≠i/\(S.ca j).own p=true):=fun j p h=>by
  have h:(if j=i then filled S.T q else S.ca j).own p=true:=h;by_cases e:j=i
  ·rw[if_pos e]at h;exact .inl ⟨e,RF.1 h⟩
  ·rw[if_neg e]at h;exact .inr ⟨e,h⟩
 have e1:(S.fill i q).ca i=filled S.T q:=if_pos rfl;have e2: ∀j,j≠i->(S.fill i q).ca j=S.ca j:=fun j h=>if_neg h;refine⟨fun j C p hp=> ?_,fun a b p ha hb h1 Y=> ?_,fun p hp=>d.fn p ((v p).1 hp).1,fun p hp=> ?_,d.o0,fun p hp=>(by cases hp),fun p hp=> ?_,d.ks,d.la,fun p _=> ?_,d.sp,d.sf,d.fb,d.pg,d.h0,d.h1⟩
 ·rcases y j p hp with ⟨_,h1,Y⟩|⟨e,h1⟩
  ·exact⟨hk.tv.fi p Y,Dg fun h=>((v p).1 h).2 h1,(d.fn p Y).1,rfl⟩
  ·obtain⟨J,K,g3,g4⟩:=d.cr j C p h1;exact⟨J,Dg fun h=>(Cq K) ((v p).1 h).1,g3,g4⟩
 ·rcases y a p h1 with ⟨ea,J,K⟩|⟨ea,J⟩<;>rcases y b p Y with ⟨eb,k1,k2⟩|⟨eb,k1⟩
  ·omega
  ·exact absurd K (Cq (d.cr b hb p k1).2.1)
  ·exact absurd k2 (Cq (d.cr a ha p J).2.1)
  ·exact d.cd a b p ha hb J k1
 ·obtain⟨J,K,g3,g4⟩:=d.ow p hp;exact⟨J,Dg fun h=>(Cq K) ((v p).1 h).1,g3,g4⟩
 ·rcases d.cv p hp with h|h|h|h
  ·by_cases g:q/64*64<=p/\p<q/64*64+64
   ·refine .inr (.inl (Dq.2 ⟨i,hi,?_⟩));rw[e1];exact RF.2 ⟨g,h⟩
   ·exact .inl ((v p).2 ⟨h,g⟩)
  ·obtain⟨j,C,h⟩:=Dq.1 h;refine .inr (.inl (Dq.2 ⟨j,C,?_⟩));rw[e2 j fun e=>by rw[e,P8 he]at h;cases h];exact h
  ·exact .inr (.inr (.inl h))
  ·exact .inr (.inr (.inr h))
 ·have e0:=d.rd p rfl;have:(S.fill i q).gone p=S.gone p:=by
   rw[Bool.eq_iff_iff,Ea,Ea];constructor
   ·rintro(h|⟨j,C,h⟩)
    ·exact .inl ((O p).1 h).1
    ·by_cases e:j=i
     ·rw[e,e1]at h;exact .inl (PR.1 h).2
     ·rw[e2 j e]at h;exact .inr ⟨j,C,h⟩
   ·rintro(h|⟨j,C,h⟩)
    ·by_cases g:q/64*64<=p/\p<q/64*64+64
     ·refine .inr ⟨i,hi,?_⟩;rw[e1];exact PR.2 ⟨g,h⟩
     ·exact .inl ((O p).2 ⟨h,g⟩)
    ·refine .inr ⟨j,C,?_⟩;rw[e2 j fun e=>by have:=Jk (hk.ci j C) h;rw[e,P8 he]at this;cases this];exact h
  rw[this];exact e0
def HS.Gx(S:HS)(i k n:Nat):HS:=S.setca i ((S.ca i).alloc k n)
def HS.FC(S:HS)(page n:Int):HS:={S with T:=S.T.take page n}
theorem Sy{C:CS}{k n:Nat}{p:Int}(y:k+n<=64):(C.alloc k n).own p=true↔C.own p=true/\ ¬(C.base+k<=p/\p<C.base+k+n):=by
 rw[Gl,Gl];show(C.base<=p/\p<C.base+64)/\(C.has (p-C.base).toNat&& !(decide (k<=(p-C.base).toNat)&&decide ((p-C.base).toNat<k+n)))=true↔_;constructor
 ·rintro⟨h1,d⟩;rw[Bool.and_eq_true]at d;refine⟨⟨h1,d.1⟩,fun v=> ?_⟩;have j:=d.2;rw[decide_eq_true (show k<=(p-C.base).toNat by omega),decide_eq_true (show(p-C.base).toNat<k+n by omega)]at j;cases j
 ·rintro⟨⟨h1,d⟩,v⟩;refine⟨h1,?_⟩;rw[Bool.and_eq_true];refine⟨d,?_⟩;by_cases g:k<=(p-C.base).toNat
  ·rw[decide_eq_false (show ¬(p-C.base).toNat<k+n by omega)];simp
  ·rw[decide_eq_false g];rfl
theorem RH{C:CS}{k n:Nat}{p:Int}(y:k+n<=64):(C.alloc k n).F3 p=true↔C.F3 p=true/\ ¬(C.base+k<=p/\p<C.base+k+n):=by
 rw[N8,N8];show(C.base<=p/\p<C.base+64)/\(C.rel (p-C.base).toNat&& !(decide (k<=(p-C.base).toNat)&&decide ((p-C.base).toNat<k+n)))=true↔_;constructor
 ·rintro⟨h1,d⟩;rw[Bool.and_eq_true]at d;refine⟨⟨h1,d.1⟩,fun v=> ?_⟩;have j:=d.2;rw[decide_eq_true (show k<=(p-C.base).toNat by omega),decide_eq_true (show(p-C.base).toNat<k+n by omega)]at j;cases j
 ·rintro⟨⟨h1,d⟩,v⟩;refine⟨h1,?_⟩;rw[Bool.and_eq_true];refine⟨d,?_⟩;by_cases g:k<=(p-C.base).toNat
  ·rw[decide_eq_false (show ¬(p-C.base).toNat<k+n by omega)];simp
  ·rw[decide_eq_false g];rfl
theorem Al.Gx(d:Al S no)(hk:HP S){i:Nat}(hi:i<64){k n:Nat}(hr:IU (S.ca i).has k n)(y:k+n<=64):Al (S.Gx i k n) (inr ((S.ca i).base+k) n):=by
 have C: ∀p,(S.ca i).base+k<=p->p<(S.ca i).base+k+n->(S.ca i).own p=true:=fun p h1 O=>by
  refine Gl.2 ⟨by omega,?_⟩;have:=hr ((p-(S.ca i).base).toNat-k) (by omega);rwa[show k+((p-(S.ca i).base).toNat-k)=(p-(S.ca i).base).toNat by omega]at this
 have Y:(S.Gx i k n).ca i=(S.ca i).alloc k n:=if_pos rfl;have K: ∀j,j≠i->(S.Gx i k n).ca j=S.ca j:=fun j h=>if_neg h;have v: ∀j p,((S.Gx i k n).ca j).own p=true->(S.ca j).own p=true/\(j=i-> ¬((S.ca i).base+k<=p/\p<(S.ca i).base+k+n)):=fun j p h=>by
  by_cases e:j=i
  ·subst e;rw[Y,Sy y]at h;exact⟨h.1,fun _=>h.2⟩
  ·rw[K j e]at h;exact⟨h,fun g=>absurd g e⟩
 refine⟨fun j J p hp=> ?_,fun a b p ha hb h1 O=>d.cd a b p ha hb (v a p h1).1 (v b p O).1,fun p hp=> ?_,fun p hp=> ?_,d.o0,fun p hp=> ?_,fun p hp=> ?_,d.ks,d.la,fun p hp=> ?_,d.sp,d.sf,d.fb,d.pg,d.h0,d.h1⟩
 ·obtain⟨h1,O⟩:=v j p hp;obtain⟨g1,g2,g3,g4⟩:=d.cr j J p h1;refine⟨g1,g2,g3,Fg.2 fun h=> ?_⟩;have:=d.cd j i p J hi h1 (C p h.1 h.2);exact O this h
 ·exact⟨(d.fn p hp).1,Fg.2 fun h=>by have:=(d.cr i hi p (C p h.1 h.2)).2.1;rw[show S.T.fr p=true from hp]at this;cases this⟩
 ·obtain⟨g1,g2,g3,g4⟩:=d.ow p hp;exact⟨g1,g2,Fg.2 fun h=>by have:=(d.cr i hi p (C p h.1 h.2)).2.2.1;have hp:0<S.own p:=hp;omega,g4⟩
 ·have h:=AR.1 hp;exact(d.cr i hi p (C p h.1 h.2)).1
 ·rcases d.cv p hp with h|h|h|h
  ·exact .inl h
  ·obtain⟨j,J,h⟩:=Dq.1 h;by_cases g:(S.ca i).base+k<=p/\p<(S.ca i).base+k+n
   ·exact .inr (.inr (.inr (AR.2 g)))
   ·refine .inr (.inl (Dq.2 ⟨j,J,?_⟩));by_cases e:j=i
    ·subst e;rw[Y,Sy y];exact⟨h,g⟩
    ·rw[K j e];exact h
  ·exact .inr (.inr (.inl h))
  ·cases h
 ·have hp:=Fg.1 hp;have e:=d.rd p rfl;have:(S.Gx i k n).gone p=S.gone p:=by
   rw[Bool.eq_iff_iff,Ea,Ea];constructor
   ·rintro(h|⟨j,J,h⟩)
    ·exact .inl h
    ·refine .inr ⟨j,J,?_⟩;by_cases e:j=i
     ·subst e;rw[Y,RH y]at h;exact h.1
     ·rw[K j e]at h;exact h
   ·rintro(h|⟨j,J,h⟩)
    ·exact .inl h
    ·refine .inr ⟨j,J,?_⟩;by_cases e:j=i
     ·subst e;rw[Y,RH y];exact⟨h,hp⟩
     ·rw[K j e];exact h
  rw[this];exact e
theorem Al.FC(d:Al S no)(hk:HP S){page n:Int}(J:Im S.T.fr page n):Al (S.FC page n) (inr page n):=by
 have v: ∀p,(S.T.take page n).fr p=true↔S.T.fr p=true/\ ¬(page<=p/\p<page+n):=fun p=>K7;have C: ∀p,(S.T.take page n).rl p=true↔S.T.rl p=true/\ ¬(page<=p/\p<page+n):=fun p=>N9;refine⟨fun j hj p hp=> ?_,d.cd,fun p hp=> ?_,fun p hp=> ?_,d.o0,fun p hp=> ?_,fun p hp=> ?_,d.ks,d.la,fun p hp=> ?_,d.sp,d.sf,d.fb,d.pg,d.h0,d.h1⟩
 ·obtain⟨K,y,O,Y⟩:=d.cr j hj p hp;exact⟨K,Dg fun h=>(Cq y) ((v p).1 h).1,O,Fg.2 fun h=>(Cq y) (J p h.1 h.2)⟩
 ·obtain⟨h1,h2⟩:=(v p).1 hp;exact⟨(d.fn p h1).1,Fg.2 h2⟩
 ·obtain⟨K,y,O,Y⟩:=d.ow p hp;exact⟨K,Dg fun h=>(Cq y) ((v p).1 h).1,Fg.2 fun h=>(Cq y) (J p h.1 h.2),Y⟩
 ·have h:=AR.1 hp;exact hk.tv.fi p (J p h.1 h.2)
 ·rcases d.cv p hp with h|h|h|h
  ·by_cases g:page<=p/\p<page+n
   ·exact .inr (.inr (.inr (AR.2 g)))
   ·exact .inl ((v p).2 ⟨h,g⟩)
  ·exact .inr (.inl h)
  ·exact .inr (.inr (.inl h))
  ·cases h
 ·have hp:=Fg.1 hp;have e:=d.rd p rfl;have:(S.FC page n).gone p=S.gone p:=by
   rw[Bool.eq_iff_iff,Ea,Ea];constructor
   ·rintro(h|h)
    ·exact .inl ((C p).1 h).1
    ·exact .inr h
   ·rintro(h|h)
    ·exact .inl ((C p).2 ⟨h,hp⟩)
    ·exact .inr h
  rw[this];exact e
theorem Al.fC(d:Al S fl){V:VS}(h1:V.laid=S.V.laid)(j:V.ready=S.V.ready):Al {S with V:=V} fl:=
 ⟨d.cr,d.cd,d.fn,d.ow,d.o0,d.li,d.cv,d.ks,fun p=>by rw[<-d.la,<-h1],fun p hp=>(show _=_ from congrArg (fun l=>Go.Sh.mem l p) j)▸d.rd p hp,d.sp,d.sf,d.fb,d.pg,d.h0,d.h1⟩
theorem Al.ND(d:Al S fl)(y:HP S){page n:Int}(h0:0<=page)(C:0<n)(J:page+n<=34359738368)(j: ∀p,page<=p->p<page+n->fl p=true):Al {S with V:=HK S.V page n} fl:=by
 have v: ∀p,Go.Sh.mem (CX S.V.ready page (page+n)) p↔Go.Sh.mem S.V.ready p∨(page<=p/\p<page+n):=fun p=>Ca y.vv.KT (by omega) h0 (by omega) p;refine⟨d.cr,d.cd,d.fn,d.ow,d.o0,d.li,d.cv,d.ks,d.la,fun p hp=> ?_,d.sp,d.sf,d.fb,d.pg,d.h0,d.h1⟩;refine Iff.trans (v p) ?_;refine Iff.trans ⟨fun h=>h.elim (fun h=>h) fun h=> ?_,fun h=>.inl h⟩ (d.rd p hp);have:=j p h.1 h.2;rw[hp]at this;cases this
theorem T4(j:HP S){page n:Int}(h0:0<=page)(v:0<n)(y:page+n<=34359738368): ∀p,page<=p->p<page+n->mem (HK S.V page n).ready p:=fun p h1 d=>
 (Ca j.vv.KT (by omega) h0 (by omega) p).2 (.inr ⟨h1,d⟩)
def HS.grown(S:HS)(V:VS)(at_ N:Int):HS:={S with V:=V,T:=S.T.grow (at_/512) (N/512),ks:=CX S.ks (at_/512) ((at_+N)/512),hint:=at_+N}
theorem Al.grown(d:Al S no)(hk:HP S){V:VS}{at_ N:Int}(h0:0<=at_)(hn:0<N)(hb:at_+N<=34359738368)(m1:at_ %512=0)(m2:N %512=0)(J: ∀p,at_<=p->p<at_+N->S.T.GH p=false)
  (hl:V.laid=CX S.V.laid at_ (at_+N))(hr:V.ready=S.V.ready):Al (S.grown V at_ N) no:=by
 have ma: ∀p,Go.Sh.mem (CX S.V.laid at_ (at_+N)) p↔Go.Sh.mem S.V.laid p∨(at_<=p/\p<at_+N):=fun p=>Ca hk.vv.JA (by omega) h0 (by omega) p;have mk: ∀p,Go.Sh.mem (CX S.ks (at_/512) ((at_+N)/512)) p↔Go.Sh.mem S.ks p∨(at_/512<=p/\p<(at_+N)/512):=fun p=>Ca hk.ok (by omega) (by omega) (by omega) p;have e: ∀p,inr (at_/512*512) (N/512*512) p=true↔at_<=p/\p<at_+N:=fun p=>by rw[AR];omega
 have v: ∀p,(S.grown V at_ N).T.GH p=true↔S.T.GH p=true∨(at_<=p/\p<at_+N):=fun p=>by
  show(S.T.GH p||inr (at_/512*512) (N/512*512) p)=true↔_;rw[Bool.or_eq_true,e]
 have y: ∀p,(S.grown V at_ N).T.fr p=true↔S.T.fr p=true∨(at_<=p/\p<at_+N):=fun p=>by
  show(S.T.fr p||inr (at_/512*512) (N/512*512) p)=true↔_;rw[Bool.or_eq_true,e]
 have aA: ∀p,(S.grown V at_ N).T.rl p=true↔S.T.rl p=true∨(at_<=p/\p<at_+N):=fun p=>by
  show(S.T.rl p||inr (at_/512*512) (N/512*512) p)=true↔_;rw[Bool.or_eq_true,e]
 have C: ∀p,S.T.GH p=true-> ¬(at_<=p/\p<at_+N):=fun p h g=>by rw[J p g.1 g.2]at h;cases h
 refine⟨fun j hj p hp=> ?_,d.cd,fun p hp=> ?_,fun p hp=> ?_,d.o0,fun p hp=>(by cases hp),fun p hp=> ?_,fun p=> ?_,fun p=> ?_,fun p hp=> ?_,d.sp,d.sf,d.fb,d.pg,by show 0<=at_+N;omega,hb⟩
 ·obtain⟨K,O,Y,g4⟩:=d.cr j hj p hp;exact⟨(v p).2 (.inl K),Dg fun h=>((y p).1 h).elim (Cq O) (C p K),Y,g4⟩
 ·rcases(y p).1 hp with h|h
  ·exact d.fn p h
  ·refine⟨?_,rfl⟩;have:=d.o0 p;have: ¬0<S.own p:=fun g=>C p (d.ow p g).1 h;show S.own p=0;omega
 ·obtain⟨K,O,Y,g4⟩:=d.ow p hp;exact⟨(v p).2 (.inl K),Dg fun h=>((y p).1 h).elim (Cq O) (C p K),Y,g4⟩
 ·rcases(v p).1 hp with h|h
  ·rcases d.cv p h with h|h|h|h
   ·exact .inl ((y p).2 (.inl h))
   ·exact .inr (.inl h)
   ·exact .inr (.inr (.inl h))
   ·exact .inr (.inr (.inr h))
  ·exact .inl ((y p).2 (.inr h))
 ·rw[v,<-d.ks p];refine(mk (p/512)).trans ?_;have:(at_/512<=p/512/\p/512<(at_+N)/512)↔(at_<=p/\p<at_+N):=by omega
  rw[this]
 ·rw[v,<-d.la p];show Go.Sh.mem V.laid p↔_;rw[hl];exact ma p
 ·show Go.Sh.mem V.ready p↔_;rw[hr,d.rd p rfl,v];have key:(S.grown V at_ N).gone p=true↔S.gone p=true∨(at_<=p/\p<at_+N):=by
   rw[Ea,Ea,aA];exact⟨fun h=>h.elim (fun h=>h.elim (fun h=>.inl (.inl h)) .inr) fun h=>.inl (.inr h),fun h=>h.elim (fun h=>h.elim (fun h=>.inl (.inl h)) .inr) fun h=>.inl (.inr h)⟩
  constructor
  ·rintro⟨h1,h2⟩;exact⟨.inl h1,Dg fun h=>(key.1 h).elim (Cq h2) (C p h1)⟩
  ·rintro⟨h1,h2⟩;have h3:=fun h=>(Cq h2) (key.2 h);rcases h1 with h1|h1
   ·exact⟨h1,Dg fun h=>h3 (.inl h)⟩
   ·exact absurd (.inr h1) h3
end Go.Sh
set_option linter.all false
set_option maxRecDepth 8000
set_option maxHeartbeats 2000000
namespace Go.Sh
variable{S:HS}{fl:Int->Bool}
theorem Al.Mq(d:Al S fl)(v:HP S){p:Int}(hp:fl p=true):S.T.fr p=false/\S.T.rl p=false/\S.own p=0/\S.gone p=false/\S.MA p=false:=by
 have h1:S.T.fr p=false:=Dg fun h=>(Cq (d.fn p h).2) hp;have j:S.T.rl p=false:=Dg fun h=>(Cq h1) (v.tv.rf p h);have y:S.MA p=false:=Dg fun h=>by
  obtain⟨i,hi,h⟩:=Dq.1 h;exact(Cq (d.cr i hi p h).2.2.2) hp
 refine⟨h1,j,?_,Dg fun h=> ?_,y⟩
 ·have:=d.o0 p;have: ¬0<S.own p:=fun h=>(Cq (d.ow p h).2.2.1) hp;omega
 ·rcases Ea.1 h with h|⟨i,hi,h⟩
  ·exact(Cq j) h
  ·exact(Cq y) (Dq.2 ⟨i,hi,Jk (v.ci i hi) h⟩)
theorem Al.vV(d:Al S fl)(v:HP S){p:Int}(hp:0<S.own p):S.T.rl p=false/\S.gone p=false/\S.MA p=false:=by
 obtain⟨J,C,K,_⟩:=d.ow p hp;have j:S.T.rl p=false:=Dg fun h=>(Cq C) (v.tv.rf p h);have y:S.MA p=false:=Dg fun h=>by
  obtain⟨i,hi,h⟩:=Dq.1 h;have:=(d.cr i hi p h).2.2.1;omega
 refine⟨j,Dg fun h=> ?_,y⟩;rcases Ea.1 h with h|⟨i,hi,h⟩
 ·exact(Cq j) h
 ·exact(Cq y) (Dq.2 ⟨i,hi,Jk (v.ci i hi) h⟩)
theorem Al.ready(d:Al S fl)(v:HP S){p:Int}(hp:0<S.own p):mem S.V.ready p:=by
 obtain⟨j,C,y,_⟩:=d.ow p hp;exact(d.rd p y).2 ⟨j,(d.vV v hp).2.1⟩
def HS.EY(S:HS)(page n:Int):HS:={S with T:=⟨S.T.GH,fun p=>S.T.fr p||inr page n p,fun p=>S.T.rl p||(inr page n p&& !I9 S.V.ready p)⟩}
theorem Al.EY{page n:Int}(d:Al S (inr page n))(Y:HP S):Al (S.EY page n) no:=by
 have v: ∀p,(S.EY page n).T.fr p=true↔S.T.fr p=true∨inr page n p=true:=fun p=>by
  show(S.T.fr p||inr page n p)=true↔_;rw[Bool.or_eq_true]
 refine⟨fun j hj p hp=> ?_,d.cd,fun p hp=> ?_,fun p hp=> ?_,d.o0,fun p hp=>(by cases hp),fun p hp=> ?_,d.ks,d.la,fun p _=> ?_,d.sp,d.sf,d.fb,d.pg,d.h0,d.h1⟩
 ·obtain⟨K,C,J,O⟩:=d.cr j hj p hp;exact⟨K,Dg fun h=>((v p).1 h).elim (Cq C) (Cq O),J,rfl⟩
 ·rcases(v p).1 hp with h|h
  ·exact⟨(d.fn p h).1,rfl⟩
  ·exact⟨(d.Mq Y h).2.2.1,rfl⟩
 ·obtain⟨K,C,J,O⟩:=d.ow p hp;exact⟨K,Dg fun h=>((v p).1 h).elim (Cq C) (Cq J),rfl,O⟩
 ·rcases d.cv p hp with h|h|h|h
  ·exact .inl ((v p).2 (.inl h))
  ·exact .inr (.inl h)
  ·exact .inr (.inr (.inl h))
  ·exact .inl ((v p).2 (.inr h))
 ·have y:(S.EY page n).gone p=true↔S.gone p=true∨(inr page n p=true/\ ¬mem S.V.ready p):=by
   rw[Ea,Ea];show(S.T.rl p||(inr page n p&& !I9 S.V.ready p))=true∨_↔_;rw[Bool.or_eq_true,Bool.and_eq_true,Bool.not_eq_true',<-Az];have e:(I9 S.V.ready p=false)↔ ¬(I9 S.V.ready p=true):=by cases I9 S.V.ready p<;>simp
   rw[e];constructor
   ·rintro((h|h)|h)
    ·exact .inl (.inl h)
    ·exact .inr h
    ·exact .inl (.inr h)
   ·rintro((h|h)|h)
    ·exact .inl (.inl h)
    ·exact .inr h
    ·exact .inl (.inr h)
  show mem S.V.ready p↔S.T.GH p=true/\_;cases hf:inr page n p with
  | false=>
   rw[d.rd p hf];have:(S.EY page n).gone p=S.gone p:=by
    rw[Bool.eq_iff_iff,y,hf];exact⟨fun h=>h.elim (fun h=>h) fun h=>(by cases h.1),.inl⟩
   rw[this]
  | true=>
   have h2:=(d.Mq Y hf).2.2.2.1;rw[hf]at y;constructor
   ·intro h;exact⟨d.li p hf,Dg fun g=>(y.1 g).elim (Cq h2) fun g=>g.2 h⟩
   ·rintro⟨_,h⟩;exact Classical.byContradiction fun g=>(Cq h) (y.2 (.inr ⟨rfl,g⟩))
def HS.DP(S:HS)(id:Int)(x:Nat×SI)(page n:Int)(fx:FX):HS:=
 {S with fx:=fx,sp:=fun i=>if i=id then some x else S.sp i,own:=fun p=>if page<=p/\p<page+n then id else S.own p,AB:=S.AB+n}
def Next(S:HS)(id:Int)(fx:FX):Prop:=(S.fx.bk=[]/\id=(S.fx.n:Int)+1/\fx=⟨S.fx.n+1,[]⟩)∨ ∃a r,S.fx.bk=a::r/\id=(a:Int)+1/\fx=⟨S.fx.n,r⟩
theorem Al.many(d:Al S fl)(v:HP S)(y:S.fx.bk=[]): ∀k:Nat,k<=S.fx.n->(k:Int)<=cP fun p=>decide (0<S.own p/\S.own p<=k)
 | 0,_=>(Jj _).1
 | k+1,hkn=>by
  have ih:=d.many v y k (by omega);have j:S.sp ((k:Int)+1)≠none:=(d.sf _).2 ⟨k,rfl,by omega,by rw[y];exact fun h=>(by cases h)⟩;obtain⟨x,J⟩: ∃x,S.sp ((k:Int)+1)=some x:=by
   cases h:S.sp ((k:Int)+1)with
   | none=>exact absurd h j
   | some x=>exact⟨x,rfl⟩
  obtain⟨h1,h2,h3,T,K⟩:=d.sp _ x J;have O:=K (x.2.base/8192) (by omega) (by omega);have e:cP (fun p=>decide (0<S.own p/\S.own p<=((k+1:Nat):Int)))=cP (fun p=>decide (0<S.own p/\S.own p<=(k:Int)))+cP (fun p=>decide (S.own p=(k:Int)+1)):=by
   refine N6 (fun p=> ?_) fun p a b=> ?_
   ·rw[Bool.eq_iff_iff,Bool.or_eq_true,decide_eq_true_eq,decide_eq_true_eq,decide_eq_true_eq];omega
   ·have a:=of_decide_eq_true a;have b:=of_decide_eq_true b;omega
  obtain⟨C,Y,o3,o4⟩:=d.ow (x.2.base/8192) (by omega);have j:=v.tv.Gn _ C;have:1<=cP (fun p=>decide (S.own p=(k:Int)+1)):=vU (p:=x.2.base/8192) (decide_eq_true O) j.1 j.2;rw[e];omega
theorem Next.live{id:Int}{X:FX}(h:Next S id X)(K:HP S)(J:Al S fl):0<id/\S.sp id=none/\ ∀j:Int,(∃a:Nat,j=(a:Int)+1/\a<X.n/\a∉X.bk)↔j=id∨S.sp j≠none:=by
 rcases h with ⟨h1,rfl,rfl⟩|⟨a,r,h1,rfl,rfl⟩
 ·refine⟨by omega,Classical.byContradiction fun g=> ?_,fun j=> ?_⟩
  ·obtain⟨a,e,d,_⟩:=(J.sf _).1 g;omega
  ·rw[J.sf];constructor
   ·rintro⟨a,e,d,v⟩;have d:a<S.fx.n+1:=d;by_cases g:a=S.fx.n
    ·subst g;exact .inl e
    ·exact .inr ⟨a,e,by omega,by rw[h1];exact v⟩
   ·rintro(e|⟨a,e,d,v⟩)
    ·exact⟨S.fx.n,e,Nat.lt_succ_self _,fun h=>by cases h⟩
    ·exact⟨a,e,Nat.lt_succ_of_lt d,fun h=>by cases h⟩
 ·have C:=K.fx.nd;have y:=K.fx.lt;rw[h1]at C y;refine⟨by omega,Classical.byContradiction fun g=> ?_,fun j=> ?_⟩
  ·obtain⟨b,e,d,v⟩:=(J.sf _).1 g;have:b=a:=by omega
   subst this;rw[h1]at v;exact v List.mem_cons_self
  ·rw[J.sf];constructor
   ·rintro⟨b,e,d,v⟩;by_cases g:b=a
    ·subst g;exact .inl e
    ·exact .inr ⟨b,e,d,by rw[h1];exact fun h=>(List.mem_cons.1 h).elim g v⟩
   ·rintro(e|⟨b,e,d,v⟩)
    ·exact⟨a,e,y a List.mem_cons_self,(List.nodup_cons.1 C).1⟩
    ·rw[h1]at v;exact⟨b,e,d,fun h=>v (List.mem_cons_of_mem _ h)⟩
theorem Sz{S:HS}(f:Int->Int){id page n:Int}(We:0<id)(h0:0<=page)(d:0<=n)(j:page+n<=34359738368)(hz: ∀p,page<=p->p<page+n-> ¬0<f p):
  cP (fun p=>decide (0<if page<=p/\p<page+n then id else f p))=cP (fun p=>decide (0<f p))+n:=by
 rw[show cP (fun p=>decide (0<f p))+n=cP (fun p=>decide (0<f p))+cP (inr page n) by rw[Ov h0 d j]];refine N6 (fun p=> ?_) fun p a b=> ?_
 ·rw[Bool.eq_iff_iff,Bool.or_eq_true,decide_eq_true_eq,decide_eq_true_eq,AR];by_cases g:page<=p/\p<page+n
  ·rw[if_pos g];exact⟨fun _=>.inr g,fun _=>We⟩
  ·rw[if_neg g];exact⟨.inl,fun h=>h.elim (fun h=>h) fun h=>absurd h g⟩
 ·have b:=AR.1 b;exact hz p b.1 b.2 (of_decide_eq_true a)
theorem Al.DP{page n:Int}(d:Al S (inr page n))(Y:HP S)(h0:0<=page)(hn:0<n)(hb:page+n<=34359738368)(hr: ∀p,page<=p->p<page+n->mem S.V.ready p)
  {id:Int}{X:FX}(hX:Next S id X){x:Nat×SI}(x1:x.2.base=page*8192)(x2:x.2.AB=n)(x3:x.2.state≠0):Al (S.DP id x page n X) no:=by
 obtain⟨We,K,O⟩:=hX.live Y d;have v: ∀p,page<=p->p<page+n->inr page n p=true:=fun p a b=>AR.2 ⟨a,b⟩;have T: ∀p,S.own p=id->False:=fun p e=>by
  obtain⟨_,_,_,y,C,_⟩:=d.ow p (by omega);rw[e,K]at C;cases C
 have J: ∀p,(S.DP id x page n X).own p=if page<=p/\p<page+n then id else S.own p:=fun p=>rfl
 have hs: ∀i,(S.DP id x page n X).sp i=if i=id then some x else S.sp i:=fun p=>rfl
 refine⟨fun j hj p hp=> ?_,d.cd,fun p hp=> ?_,fun p hp=> ?_,fun p=> ?_,fun p hp=>(by cases hp),fun p hp=> ?_,d.ks,d.la,fun p _=> ?_,fun i y C=> ?_,fun i=> ?_,?_,?_,d.h0,d.h1⟩
 ·obtain⟨g1,g2,g3,g4⟩:=d.cr j hj p hp;refine⟨g1,g2,?_,rfl⟩;rw[J,if_neg (Fg.1 g4)];exact g3
 ·obtain⟨g1,g2⟩:=d.fn p hp;refine⟨?_,rfl⟩;rw[J,if_neg (Fg.1 g2)];exact g1
 ·rw[J]at hp⊢;by_cases g:page<=p/\p<page+n
  ·rw[if_pos g]at hp⊢;have hf:=v p g.1 g.2;refine⟨d.li p hf,(d.Mq Y hf).1,rfl,x,?_,by omega,by omega⟩;rw[hs,if_pos rfl]
  ·rw[if_neg g]at hp⊢;obtain⟨g1,g2,g3,y,g4,g5⟩:=d.ow p hp;refine⟨g1,g2,rfl,y,?_,g5⟩;rw[hs,if_neg fun e=>T p e];exact g4
 ·rw[J];have:=d.o0 p;split<;>omega
 ·rcases d.cv p hp with h|h|h|h
  ·exact .inl h
  ·exact .inr (.inl h)
  ·refine .inr (.inr (.inl ?_));rw[J];split<;>omega
  ·refine .inr (.inr (.inl ?_));rw[J,if_pos (AR.1 h)];exact We
 ·cases hf:inr page n p with
  | false=>exact d.rd p hf
  | true=>
   have aC:=AR.1 hf;exact⟨fun _=>⟨d.li p hf,(d.Mq Y hf).2.2.2.1⟩,fun _=>hr p aC.1 aC.2⟩
 ·rw[hs]at C;by_cases g:i=id
  ·rw[if_pos g]at C;cases C;subst g;refine⟨We,by omega,by omega,x3,fun p a b=> ?_⟩;rw[J,if_pos (by omega)]
  ·rw[if_neg g]at C;obtain⟨k1,k2,k3,k4,k5⟩:=d.sp i y C;refine⟨k1,k2,k3,k4,fun p a b=> ?_⟩;have h5:=k5 p a b;rw[J,if_neg fun h=> ?_]
   ·exact h5
   ·have:=(d.Mq Y (v p h.1 h.2)).2.2.1;omega
 ·rw[hs];rw[show(S.DP id x page n X).fx=X from rfl,O i];by_cases g:i=id
  ·rw[if_pos g];exact⟨fun _=>.inl g,fun _ h=>by cases h⟩
  ·rw[if_neg g];exact⟨.inr,fun h=>h.elim (fun h=>absurd h g) fun h=>h⟩
 ·show X.n<=34359738368;rcases hX with ⟨h1,rfl,rfl⟩|⟨a,r,h1,rfl,rfl⟩
  ·have h2:=d.many Y h1 S.fx.n (Nat.le_refl _);have h3:cP (fun p=>decide (0<S.own p/\S.own p<=(S.fx.n:Int))||inr page n p)=cP (fun p=>decide (0<S.own p/\S.own p<=(S.fx.n:Int)))+cP (inr page n):=N6 (fun p=>rfl) fun p a b=>by
    have a:=of_decide_eq_true a;have:=(d.Mq Y b).2.2.1;omega
   rw[Ov h0 (by omega) hb]at h3;have:=(Jj fun p=>decide (0<S.own p/\S.own p<=(S.fx.n:Int))||inr page n p).2;show S.fx.n+1<=_;omega
  ·exact d.fb
 ·show S.AB+n=cP fun p=>decide (0<if page<=p/\p<page+n then id else S.own p);rw[Sz (S:=S) S.own We h0 (by omega) hb fun p a b=>by have:=(d.Mq Y (v p a b)).2.2.1;omega,<-d.pg]
def HS.free(S:HS)(a:Nat)(page n:Int):HS:=
 {S with T:=S.T.JL page n,fx:=⟨S.fx.n,a::S.fx.bk⟩,sp:=fun i=>if i=(a:Int)+1 then none else S.sp i,own:=fun p=>if page<=p/\p<page+n then 0 else S.own p,AB:=S.AB-n}
theorem Al.free(d:Al S no)(hk:HP S){a:Nat}{x:Nat×SI}(hx:S.sp ((a:Int)+1)=some x):Al (S.free a (x.2.base/8192) x.2.AB) no:=by
 obtain⟨k1,k2,k3,k4,k5⟩:=d.sp _ x hx;generalize hpg:x.2.base/8192=page at *
 generalize hn:x.2.AB=n at *
 have J: ∀p,page<=p->p<page+n->0<S.own p:=fun p h1 C=>by rw[k5 p h1 C];exact k1
 have O: ∀p,S.own p=(a:Int)+1↔page<=p/\p<page+n:=fun p=>by
  refine⟨fun e=> ?_,fun h=>k5 p h.1 h.2⟩;obtain⟨_,_,_,y,h1,C,h3⟩:=d.ow p (by omega);rw[e,hx]at h1;cases h1;omega
 have K: ∀p,(S.free a page n).own p=if page<=p/\p<page+n then 0 else S.own p:=fun p=>rfl
 have hs: ∀i,(S.free a page n).sp i=if i=(a:Int)+1 then none else S.sp i:=fun p=>rfl
 have v: ∀p,(S.free a page n).T.fr p=true↔S.T.fr p=true∨(page<=p/\p<page+n):=fun p=>by
  show(S.T.fr p||inr page n p)=true↔_;rw[Bool.or_eq_true,AR]
 have aB:=hk.tv.Gn _ (d.ow page (J page (by omega) (by omega))).1;have aS:=hk.tv.Gn _ (d.ow (page+n-1) (J _ (by omega) (by omega))).1;refine⟨fun j hj p hp=> ?_,d.cd,fun p hp=> ?_,fun p hp=> ?_,fun p=> ?_,fun p hp=>(by cases hp),fun p hp=> ?_,d.ks,d.la,d.rd,fun i y Y=> ?_,fun i=> ?_,d.fb,?_,d.h0,d.h1⟩
 ·obtain⟨g1,g2,g3,g4⟩:=d.cr j hj p hp;refine⟨g1,Dg fun h=>((v p).1 h).elim (Cq g2) fun h=> ?_,?_,rfl⟩
  ·have:=J p h.1 h.2;omega
  ·rw[K];split
   ·rfl
   ·exact g3
 ·refine⟨?_,rfl⟩;rw[K];rcases(v p).1 hp with h|h
  ·split
   ·rfl
   ·exact(d.fn p h).1
  ·rw[if_pos h]
 ·rw[K]at hp⊢;by_cases g:page<=p/\p<page+n
  ·rw[if_pos g]at hp;omega
  ·rw[if_neg g]at hp⊢;obtain⟨g1,g2,g3,y,g4,g5⟩:=d.ow p hp;refine⟨g1,Dg fun h=>((v p).1 h).elim (Cq g2) g,rfl,y,?_,g5⟩;rw[hs,if_neg fun e=>g ((O p).1 e)];exact g4
 ·rw[K];split
  ·exact Int.le_refl 0
  ·exact d.o0 p
 ·by_cases g:page<=p/\p<page+n
  ·exact .inl ((v p).2 (.inr g))
  ·rcases d.cv p hp with h|h|h|h
   ·exact .inl ((v p).2 (.inl h))
   ·exact .inr (.inl h)
   ·refine .inr (.inr (.inl ?_));rw[K,if_neg g];exact h
   ·exact .inr (.inr (.inr h))
 ·rw[hs]at Y;by_cases g:i=(a:Int)+1
  ·rw[if_pos g]at Y;cases Y
  ·rw[if_neg g]at Y;obtain⟨q1,q2,q3,q4,q5⟩:=d.sp i y Y;refine⟨q1,q2,q3,q4,fun p h1 C=> ?_⟩;have h5:=q5 p h1 C;rw[K,if_neg fun h=> ?_]
   ·exact h5
   ·have:=k5 p h.1 h.2;omega
 ·rw[hs];have:=d.sf i;show _↔ ∃b:Nat,i=(b:Int)+1/\b<S.fx.n/\b∉a::S.fx.bk;by_cases g:i=(a:Int)+1
  ·rw[if_pos g];refine⟨fun h=>absurd rfl h,fun⟨b,e,_,h⟩=>absurd ?_ h⟩;rw[show b=a by omega];exact List.mem_cons_self
  ·rw[if_neg g,this];constructor
   ·rintro⟨b,e,h1,C⟩;exact⟨b,e,h1,fun h=>(List.mem_cons.1 h).elim (fun h=>g (by omega)) C⟩
   ·rintro⟨b,e,h1,C⟩;exact⟨b,e,h1,fun h=>C (List.mem_cons_of_mem _ h)⟩
 ·show S.AB-n=cP fun p=>decide (0<if page<=p/\p<page+n then 0 else S.own p);have e:=Sz (S:=S) (fun p=>if page<=p/\p<page+n then 0 else S.own p) (id:=(a:Int)+1) k1 aB.1 (by omega) (by omega) (page:=page) (n:=n) fun p h1 C=>by
   show ¬0<if page<=p/\p<page+n then(0:Int)else S.own p
   rw[if_pos ⟨h1,C⟩];omega
  have e2:cP (fun p=>decide (0<if page<=p/\p<page+n then(a:Int)+1 else if page<=p/\p<page+n then 0 else S.own p))=cP fun p=>decide (0<S.own p):=RC fun p _ _=>by
   by_cases g:page<=p/\p<page+n
   ·rw[if_pos g,k5 p g.1 g.2]
   ·rw[if_neg g,if_neg g]
  rw[e2]at e;have:=d.pg;omega
def HS.flush(S:HS)(i:Nat):HS:={S with T:=S.T.flush (S.ca i),ca:=fun j=>if j=i then CS.nil else S.ca j}
theorem Al.flush(d:Al S no)(hk:HP S){i:Nat}(hi:i<64):Al (S.flush i) no:=by
 have e1:(S.flush i).ca i=CS.nil:=if_pos rfl;have J: ∀j,j≠i->(S.flush i).ca j=S.ca j:=fun j h=>if_neg h;have y: ∀j p,((S.flush i).ca j).own p=true->j≠i/\(S.ca j).own p=true:=fun j p h=>by
  by_cases e:j=i
  ·rw[e,e1,Tz]at h;cases h
  ·rw[J j e]at h;exact⟨e,h⟩
 have v: ∀p,(S.flush i).T.fr p=true↔S.T.fr p=true∨(S.ca i).own p=true:=fun p=>by
  show(S.T.fr p||(S.ca i).own p)=true↔_;rw[Bool.or_eq_true]
 have aA: ∀p,(S.flush i).T.rl p=true↔S.T.rl p=true∨(S.ca i).F3 p=true:=fun p=>by
  show(S.T.rl p||(S.ca i).F3 p)=true↔_;rw[Bool.or_eq_true]
 refine⟨fun j C p hp=> ?_,fun a b p ha hb h1 K=>d.cd a b p ha hb (y a p h1).2 (y b p K).2,fun p hp=> ?_,fun p hp=> ?_,d.o0,fun p hp=>(by cases hp),fun p hp=> ?_,d.ks,d.la,fun p _=> ?_,d.sp,d.sf,d.fb,d.pg,d.h0,d.h1⟩
 ·obtain⟨h1,K⟩:=y j p hp;obtain⟨g1,O,Y,g4⟩:=d.cr j C p K;exact⟨g1,Dg fun h=>((v p).1 h).elim (Cq O) fun h=>h1 (d.cd j i p C hi K h),Y,g4⟩
 ·rcases(v p).1 hp with h|h
  ·exact d.fn p h
  ·exact⟨(d.cr i hi p h).2.2.1,rfl⟩
 ·obtain⟨g1,O,Y,g4⟩:=d.ow p hp;have hp:0<S.own p:=hp;exact⟨g1,Dg fun h=>((v p).1 h).elim (Cq O) fun h=>by have:=(d.cr i hi p h).2.2.1;omega,Y,g4⟩
 ·rcases d.cv p hp with h|h|h|h
  ·exact .inl ((v p).2 (.inl h))
  ·obtain⟨j,C,h⟩:=Dq.1 h;by_cases e:j=i
   ·subst e;exact .inl ((v p).2 (.inr h))
   ·refine .inr (.inl (Dq.2 ⟨j,C,?_⟩));rw[J j e];exact h
  ·exact .inr (.inr (.inl h))
  ·exact .inr (.inr (.inr h))
 ·have e0:=d.rd p rfl;have:(S.flush i).gone p=S.gone p:=by
   rw[Bool.eq_iff_iff,Ea,Ea,aA];constructor
   ·rintro((h|h)|⟨j,C,h⟩)
    ·exact .inl h
    ·exact .inr ⟨i,hi,h⟩
    ·by_cases e:j=i
     ·rw[e,e1,fB]at h;cases h
     ·rw[J j e]at h;exact .inr ⟨j,C,h⟩
   ·rintro(h|⟨j,C,h⟩)
    ·exact .inl (.inl h)
    ·by_cases e:j=i
     ·subst e;exact .inl (.inr h)
     ·refine .inr ⟨j,C,?_⟩;rw[J j e];exact h
  rw[this];exact e0
def HS.K3(S:HS)(p k:Int):HS:={S with T:=S.T.K3 p k,V:=Ga S.V p k}
theorem Al.idle(d:Al S no)(v:HP S){p:Int}(hp:S.T.idle p=true):S.T.fr p=true/\S.T.rl p=false/\mem S.V.ready p/\S.own p=0/\S.MA p=false:=by
 have hp:(S.T.fr p&& !S.T.rl p)=true:=hp;rw[Bool.and_eq_true,Bool.not_eq_true']at hp;have j:S.MA p=false:=Dg fun h=>by
  obtain⟨i,hi,h⟩:=Dq.1 h;exact(Cq (d.cr i hi p h).2.1) hp.1
 refine⟨hp.1,hp.2,(d.rd p rfl).2 ⟨v.tv.fi p hp.1,Dg fun h=> ?_⟩,(d.fn p hp.1).1,j⟩;rcases Ea.1 h with h|⟨i,hi,h⟩
 ·exact(Cq hp.2) h
 ·exact(Cq j) (Dq.2 ⟨i,hi,Jk (v.ci i hi) h⟩)
theorem Al.K3(d:Al S no)(O:HP S){x k:Int}(K:0<k)(Y:Im S.T.idle x k):Al (S.K3 x k) no:=by
 have y: ∀p,(S.K3 x k).T.rl p=true↔S.T.rl p=true∨(x<=p/\p<x+k):=fun p=>by
  show(S.T.rl p||inr x k p)=true↔_;rw[Bool.or_eq_true,AR]
 refine⟨d.cr,d.cd,d.fn,d.ow,d.o0,d.li,d.cv,d.ks,d.la,fun p _=> ?_,d.sp,d.sf,d.fb,d.pg,d.h0,d.h1⟩;have J:=d.rd p rfl;have C:(S.K3 x k).gone p=true↔S.gone p=true∨(x<=p/\p<x+k):=by
  rw[Ea,Ea,y];exact⟨fun h=>h.elim (fun h=>h.elim (fun h=>.inl (.inl h)) .inr) fun h=>.inl (.inr h),fun h=>h.elim (fun h=>h.elim (fun h=>.inl (.inl h)) .inr) fun h=>.inl (.inr h)⟩
 refine(Cw (by omega):mem (Cs S.V.ready x (x+k)) p↔_).trans ?_;rw[J];constructor
 ·rintro⟨⟨h1,v⟩,j⟩;exact⟨h1,Dg fun h=>(C.1 h).elim (Cq v) j⟩
 ·rintro⟨h1,v⟩;have j:=fun h=>(Cq v) (C.2 h);exact⟨⟨h1,Dg fun h=>j (.inl h)⟩,fun h=>j (.inr h)⟩
theorem Al.counts(j:Al S no)(d:HP S):cP S.T.GH=DE S.ks*512/\cP S.T.GH=DE S.V.ready+cP S.gone/\S.AB<=DE S.V.ready:=by
 have v: ∀p,S.T.GH p=true->p<34359738368:=fun p h=>(d.tv.Gn p h).2;have y: ∀p,S.gone p=true->S.T.GH p=true:=fun p h=>by
  rcases Ea.1 h with h|⟨i,hi,h⟩
  ·exact d.tv.fi p (d.tv.rf p h)
  ·exact(j.cr i hi p (Jk (d.ci i hi) h)).1
 have C:cP (I9 S.V.ready)=DE S.V.ready:=RD d.vv.KT (fun p=>Az.symm) fun p h=>by
  have:=d.vv.Gn p (d.vv.rl p (Az.1 h));omega
 refine⟨aG d.ok j.ks v,?_,?_⟩
 ·rw[<-C];refine N6 (fun p=> ?_) fun p a b=> ?_
  ·rw[Bool.eq_iff_iff,Bool.or_eq_true,Az,j.rd p rfl];constructor
   ·intro h;cases g:S.gone p with
    | false=>exact .inl ⟨h,rfl⟩
    | true=>exact .inr rfl
   ·rintro(h|h)
    ·exact h.1
    ·exact y p h
  ·rw[Az,j.rd p rfl]at a;exact(Cq a.2) b
 ·rw[<-C,j.pg];exact Tx fun p h=>Az.2 (j.ready d (of_decide_eq_true h))
end Go.Sh
set_option linter.all false
set_option maxRecDepth 8000
set_option maxHeartbeats 2000000
namespace Go.Sh
theorem Sat.rest{Ps Z:List Pr}{w:World}(H:Sat (Ps++Z) w):Sat Z w:=by
 induction Ps with
 | nil=>exact H
 | cons P Ps ih=>exact ih H.tail
section
variable{E:Env}{h:Nat}{S:HS}{Z:List Pr}{w:World}{g:HG}
theorem XU.same{S':HS}(d:XU S g)(e:S'.sp=S.sp):XU S' g:=⟨d.nd,fun id=>by rw[d.mem,e]⟩
theorem Sat.Ow(H:Sat (CH E h S g++Z) w){i:Nat}(hi:i<64): ∃R,(∀{w'},Sat R w'->Sat Z w')/\Sat (A3 E (g.cb i) (S.ca i)::BI E g.t S.T::R) w/\
  ∀{w' c' T'},Sat (A3 E (g.cb i) c'::BI E g.t T'::R) w'->Sat (CH E h {S with T:=T',ca:=fun j=>if j=i then c' else S.ca j} g++Z) w':=by
 have v:(List.range 64)[i]? =some i:=List.getElem?_range hi;have h1:=(H.front 7 rfl).Hs v;have C:=h1.DR 3 rfl;refine⟨_,fun{w'} q=> ?_,C,fun{w' c' T'} h'=> ?_⟩
 ·exact Sat.rest (Ps:=[Ap (fun i:Nat=>A3 E (g.cb i) (S.ca i)) ((List.range 64).eraseIdx i),Cells h E.Ae (Bm g S.hint S.AB),BR E g.m S.V,Bu E g.a S.ks S.own,GC E g.f S.fx,Ef g.sm .i64 (EG S.sp),Ap (JF E S.sp) g.ids]) q
 have b1:=Sat.Ng (P0:=A3 E (g.cb i) c') (Ps:=Ap (fun i:Nat=>A3 E (g.cb i) (S.ca i)) ((List.range 64).eraseIdx i)::((CH E h S g++Z).eraseIdx 7)) 3 h' (by simp[CH]);have d:Sat (A3 E (g.cb i) c'::Ap (fun i:Nat=>A3 E (g.cb i) (S.ca i)) ((List.range 64).eraseIdx i)::((CH E h {S with T:=T',ca:=fun j=>if j=i then c' else S.ca j} g++Z).eraseIdx 7)) w':=b1;have e:Ap (fun i:Nat=>A3 E (g.cb i) (S.ca i)) ((List.range 64).eraseIdx i)=Ap (fun j:Nat=>A3 E (g.cb j) (if j=i then c' else S.ca j)) ((List.range 64).eraseIdx i):=
  Ap.congr fun x y=>by rw[if_neg (Q7 hi y)]
 rw[e,show A3 E (g.cb i) c'=(fun j:Nat=>A3 E (g.cb j) (if j=i then c' else S.ca j)) i by show _=A3 E (g.cb i) (if i=i then c' else S.ca i);rw[if_pos rfl]]at d;exact Sat.back (Ps:=CH E h {S with T:=T',ca:=fun j=>if j=i then c' else S.ca j} g++Z) 7 (Sat.Gq d v) (by simp[CH])
theorem Yz{ca:Nat->CS}{i:Nat}:(fun j=>if j=i then ca i else ca j)=ca:=funext fun j=>by
 by_cases e:j=i
 ·rw[if_pos e,e]
 ·rw[if_neg e]
theorem Sat.P9(H:Sat (CH E h S g++Z) w): ∃R,(∀{w'},Sat R w'->Sat Z w')/\Sat (BI E g.t S.T::R) w/\ ∀{w' T'},Sat (BI E g.t T'::R) w'->Sat (CH E h {S with T:=T'} g++Z) w':=
 ⟨_,fun{w'} q=>Sat.rest (Ps:=[Cells h E.Ae (Bm g S.hint S.AB),BR E g.m S.V,Bu E g.a S.ks S.own,GC E g.f S.fx,Ef g.sm .i64 (EG S.sp),Ap (JF E S.sp) g.ids,Ap (fun i:Nat=>A3 E (g.cb i) (S.ca i)) (List.range 64)]) q,
  H.front 2 rfl,fun{w' T'} h'=>Sat.back (Ps:=CH E h S g++Z) 2 h' (by simp[CH])⟩
def HS.new(V:VS):HS:=⟨V,TV.nil,fun _=>CS.nil,[],fun _=>0,⟨0,[]⟩,fun _=>none,0,0⟩
theorem Al.new{V:VS}(h1:V.laid=[])(v:V.ready=[]):Al (HS.new V) no:=by
 have j: ∀p,¬mem ([]:Iv) p:=A9;refine⟨fun i hi p hp=> ?_,fun a b p C K d J=> ?_,fun p hp=>(by cases hp),fun p hp=>absurd hp (by show ¬(0:Int)<0;decide),fun _=>Int.le_refl 0,fun p hp=>(by cases hp),fun p hp=>(by cases hp),fun p=>⟨fun q=>absurd q (j _),fun q=>(by cases q)⟩,fun p=> ?_,fun p _=> ?_,fun id x y=>(by cases y),fun id=>⟨fun q=>absurd rfl q,fun⟨a,_,q,_⟩=>absurd q (Nat.not_lt_zero a)⟩,Nat.zero_le _,?_,Int.le_refl 0,by show(0:Int)<=_;decide⟩
 ·have hp:CS.nil.own p=true:=hp;rw[Tz]at hp;cases hp
 ·have d:CS.nil.own p=true:=d;rw[Tz]at d;cases d
 ·show mem V.laid p↔_;rw[h1];exact⟨fun q=>absurd q (j _),fun q=>(by cases q)⟩
 ·show mem V.ready p↔_;rw[v];exact⟨fun q=>absurd q (j _),fun q=>(by cases q.1)⟩
 ·exact(N7 fun p=>rfl).symm
theorem RI(n:Nat):List.range (n+1)=List.range n++[n]:=List.range_succ
theorem XZ(cb:Nat->Nat)(k:Nat)(x y:Value)(v0 v1 v2 j v4:Value)(b:Nat)(d:k<64):
  (v0::v1::v2::j::v4::(((List.range 64).map fun i=>Value.pointer (if i<k then some ⟨cb i,0,none⟩else none))++[x,y])).set (0+(5+k)) (.pointer (some ⟨b,0,none⟩))
   =v0::v1::v2::j::v4::(((List.range 64).map fun i=>Value.pointer (if i<k+1 then some ⟨if i=k then b else cb i,0,none⟩else none))++[x,y]):=by
 rw[show 0+(5+k)=k+1+1+1+1+1 by omega];simp only[List.set_cons_succ];rw[List.set_append_left _ _ (by simp;exact d)];have key:((List.range 64).map fun i=>Value.pointer (if i<k then some ⟨cb i,0,none⟩else none)).set k (.pointer (some ⟨b,0,none⟩))=(List.range 64).map fun i=>Value.pointer (if i<k+1 then some ⟨if i=k then b else cb i,0,none⟩else none):=by
  apply List.ext_getElem?;intro i;rw[List.getElem?_set];by_cases e:k=i
  ·subst e;rw[if_pos rfl,if_pos (by simp;exact d),List.getElem?_map,List.getElem?_range d];simp
  ·rw[if_neg e,List.getElem?_map,List.getElem?_map];by_cases g:i<64
   ·rw[List.getElem?_range g];simp only[Option.map_some,Option.some.injEq,Value.pointer.injEq];have:(i<k)↔(i<k+1):=by omega
    by_cases g2:i<k
    ·rw[if_pos g2,if_pos (this.1 g2),if_neg fun q=>e q.symm]
    ·rw[if_neg g2,if_neg fun q=>g2 (this.2 q)]
   ·rw[List.getElem?_eq_none (by simp;omega)];rfl
 rw[key]
theorem RJ{m:Nat}{V:VS}(H:Sat (BR E m V::Z) w){K:Option Addr->World->Prop}(hK: ∀h w',w'.cell? (Addr.mk h 0 none)=some (.pointer (some ⟨m,0,none⟩))->Sat (Aj E h (HS.new V)::Z) w'->K (some ⟨h,0,none⟩) w'):F.Gf E (some ⟨m,0,none⟩) K w:=by
 unfold F.Gf T0.Gf;refine eG H fun w2 t H2=>eR H2 fun w4 a H4=>cA H4 .i64 fun d w6 H6 _=> ?_;refine Ad (vs:=.pointer (some ⟨m,0,none⟩):: .pointer (some ⟨t,0,none⟩):: .pointer (some ⟨a,0,none⟩):: .pointer none:: .map (some d)::(((List.range 64).map fun i=>Value.pointer none)++[.int .u64 0,.int .u64 0])) H6 fun y w8 H8 _=> ?_;refine aB H8 fun f aO Y=> ?_;refine Ak (Y.front 1 rfl) (o:=0) (m:=3) rfl (by simp) fun aC J=> ?_;have O:Sat (Cells y E.Ae (.pointer (some ⟨m,0,none⟩):: .pointer (some ⟨t,0,none⟩):: .pointer (some ⟨a,0,none⟩):: .pointer (some ⟨f,0,none⟩):: .map (some d)::(((List.range 64).map fun i=>Value.pointer none)++[.int .u64 0,.int .u64 0]))::
   GC E f ⟨0,[]⟩::Ef d .i64 (fun _=>none)::Bu E a [] (fun _=>0)::BI E t TV.nil::BR E m V::Z) aC:=J
 clear J;refine AK (fun st w'=> ∃(k:Nat) (cb:Nat->Nat),st.1=(k:Int)/\k<=64/\Sat (Ap (fun i:Nat=>A3 E (cb i) CS.nil) (List.range k)::Cells y E.Ae (.pointer (some ⟨m,0,none⟩):: .pointer (some ⟨t,0,none⟩):: .pointer (some ⟨a,0,none⟩):: .pointer (some ⟨f,0,none⟩):: .map (some d)::(((List.range 64).map fun i=>Value.pointer (if i<k then some ⟨cb i,0,none⟩else none))++[.int .u64 0,.int .u64 0]))::
   GC E f ⟨0,[]⟩::Ef d .i64 (fun _=>none)::Bu E a [] (fun _=>0)::BI E t TV.nil::BR E m V::Z) w') (fun st _=>(64-st.1).toNat) ⟨0,fun _=>0,rfl,by decide,?_⟩ ?_
 ·exact O.MW _
 rintro⟨k',v⟩ _ aG ⟨k,cb,hk,aH,j⟩;dsimp only at hk⊢;subst hk;refine AD (fun aM=> ?_) fun aL=> ?_
 ·refine Zt j.drew fun aP c T=>⟨⟨by omega,by omega⟩,?_⟩;have aE:k<64:=by omega
  rw[Int.toNat_natCast,Nat.mul_one,add_add,AH (n:=(k:Int)+1)];refine Ak (T.front 2 rfl) (o:=0) (m:=5+k) rfl (by simp;omega) fun aA C=> ?_;rw[XZ cb k _ _ _ _ _ _ _ c aE]at C;refine⟨⟨k+1,fun i=>if i=k then c else cb i,by omega,by omega,?_⟩,by omega⟩;have h1:=C.DR 1 rfl;have h2:Sat (A3 E c CS.nil::Ap (fun i:Nat=>A3 E (cb i) CS.nil) (List.range k)::Cells y E.Ae (.pointer (some ⟨m,0,none⟩):: .pointer (some ⟨t,0,none⟩):: .pointer (some ⟨a,0,none⟩):: .pointer (some ⟨f,0,none⟩):: .map (some d)::(((List.range 64).map fun i=>Value.pointer (if i<k+1 then some ⟨if i=k then c else cb i,0,none⟩else none))++[.int .u64 0,.int .u64 0]))::
    GC E f ⟨0,[]⟩::Ef d .i64 (fun _=>none)::Bu E a [] (fun _=>0)::BI E t TV.nil::BR E m V::Z) aA:=C.perm (List.perm_middle (l₁:=[_,_])|>.symm)
  rw[RI];have e:Ap (fun i:Nat=>A3 E (cb i) CS.nil) (List.range k)=Ap (fun i:Nat=>A3 E (if i=k then c else cb i) CS.nil) (List.range k):=Ap.congr fun x hx=>by rw[if_neg (by have:=List.mem_range.1 hx;omega)]
  rw[e,show A3 E c CS.nil=(fun i:Nat=>A3 E (if i=k then c else cb i) CS.nil) k by show _=A3 E (if k=k then c else cb k) CS.nil;rw[if_pos rfl]]at h2;exact h2.Qh
 ·have e:k=64:=by omega
  subst e;refine hK y aG ((j.front 1 rfl).A2 rfl) (Sat.heap.2 ⟨⟨m,t,a,f,d,cb,[]⟩,⟨List.nodup_nil,fun id=>⟨fun q=>(by cases q),fun q=>absurd rfl q⟩⟩,?_⟩);have e:((List.range 64).map fun i=>Value.pointer (if i<64 then some ⟨cb i,0,none⟩else none))=aF cb:=by
   unfold aF;exact List.map_congr_left fun i hi=>by rw[if_pos (List.mem_range.1 hi)]
  rw[e]at j;have aD:=j.MW (JF E fun _=>none);refine aD.perm ?_;show List.Perm _ ((Cells y E.Ae (Bm ⟨m,t,a,f,d,cb,[]⟩ 0 0)::BR E m V::BI E t TV.nil::Bu E a [] (fun _=>0)::GC E f ⟨0,[]⟩::Ef d .i64 (fun _=>none)::Ap (JF E fun _=>none) []::Ap (fun i:Nat=>A3 E (cb i) CS.nil) (List.range 64)::[])++Z);refine List.Perm.append_right (l₁:=[Ap (JF E fun _=>none) [],Ap (fun i:Nat=>A3 E (cb i) CS.nil) (List.range 64),Cells y E.Ae (Bm ⟨m,t,a,f,d,cb,[]⟩ 0 0),GC E f ⟨0,[]⟩,Ef d .i64 (fun _=>none),Bu E a [] (fun _=>0),BI E t TV.nil,BR E m V]) Z ?_;exact(List.perm_append_comm (l₁:=[Ap (JF E fun _=>none) [],Ap (fun i:Nat=>A3 E (cb i) CS.nil) (List.range 64)]) (l₂:=[Cells y E.Ae (Bm ⟨m,t,a,f,d,cb,[]⟩ 0 0),GC E f ⟨0,[]⟩,Ef d .i64 (fun _=>none),Bu E a [] (fun _=>0),BI E t TV.nil,BR E m V])).trans (.cons _ ((List.reverse_perm [BR E m V,BI E t TV.nil,Bu E a [] (fun _=>0),Ef d .i64 (fun _=>none),GC E f ⟨0,[]⟩]).append_right _|>.trans (.cons _ (.cons _ (.cons _ (.swap _ _ _))))))
theorem aH{m:Nat}{V:VS}(H:Sat (BR E m V::Z) w){K:Option Addr->World->Prop}(d: ∀h w',Sat (Aj E h (HS.new V)::Z) w'->K (some ⟨h,0,none⟩) w'):F.Gf E (some ⟨m,0,none⟩) K w:=
 RJ H fun h w' _=>d h w'
end
end Go.Sh
set_option linter.all false
set_option maxRecDepth 8000
set_option maxHeartbeats 2000000
namespace Go.Sh
theorem mJ{x c:Nat}(h1:x.testBit c=true)(C: ∀i,i<c->x.testBit i=false)(i:Nat):(x&&&(x-1)).testBit i=(x.testBit i&& !(i==c)):=by
 have hm:x %2^(c+1)=2^c:=by
  apply Nat.eq_of_testBit_eq;intro j;rw[Nat.testBit_mod_two_pow,Nat.testBit_two_pow];by_cases e:c=j
  ·subst e;simp[h1]
  ·rw[decide_eq_false e];by_cases g:j<c
   ·rw[C j g];simp
   ·rw[decide_eq_false (show ¬j<c+1 by omega)];rfl
 have d:x=2^(c+1)*(x/2^(c+1))+2^c:=by
  have:=Nat.div_add_mod x (2^(c+1));rw[hm]at this;exact this.symm
 generalize hy:x/2^(c+1)=y at d;have J:2^c<2^(c+1):=Nat.pow_lt_pow_right (by decide) (by omega);have K:0<2^c:=Nat.pow_pos (by decide);have v:x-1=2^(c+1)*y+(2^c-1):=by omega
 rw[Nat.testBit_and,v]
 conv=>lhs;lhs;rw[d]
 conv=>rhs;lhs;rw[d]
 rw[Nat.testBit_two_pow_mul_add _ J,Nat.testBit_two_pow_mul_add _ (by omega:2^c-1<2^(c+1))];by_cases g:i<c+1
 ·rw[if_pos g,if_pos g,Nat.testBit_two_pow,Nat.testBit_two_pow_sub_one];by_cases e:c=i
  ·subst e;simp
  ·rw[decide_eq_false e];simp
 ·rw[if_neg g,if_neg g];have:(i==c)=false:=by simp;omega
  rw[this];simp
theorem Xa{u:Nat->Bool}{c:Nat}(v:c<64)(h1:u c=true)(y: ∀i,i<c->u i=false):D8 .u64 0 (W u) (u64 (W u-1))=W (fun i=>u i&& !(i==c)):=by
 have J:wN u 64<2^64:=LO u 64;have d:(wN u 64).testBit c=true:=by rw[Da,h1];simp[v]
 have hz:wN u 64≠0:=fun e=>by rw[e]at d;simp at d
 have e:u64 (W u-1)=((wN u 64-1:Nat):Int):=by
  unfold W;rw[AM];omega
 rw[e];unfold W;rw[vP (by omega) (by omega)];congr 1;apply Nat.eq_of_testBit_eq;intro i;rw[mJ d (fun j C=>by rw[Da,y j C];simp),Da,Da];cases decide (i<64)<;>simp
theorem fD{u:Nat->Bool}{c:Nat}(h1:u c=true): ∀n,(c<n->cN u n=cN (fun i=>u i&& !(i==c)) n+1)/\(n<=c->cN u n=cN (fun i=>u i&& !(i==c)) n)
 | 0=>⟨fun h=>absurd h (Nat.not_lt_zero c),fun _=>rfl⟩
 | n+1=>by
  obtain⟨i1,i2⟩:=fD h1 n;simp only[cN];refine⟨fun h=> ?_,fun h=> ?_⟩
  ·by_cases e:n=c
   ·subst e;rw[i2 (Nat.le_refl _),h1];simp
   ·rw[i1 (by omega)];have:(n==c)=false:=by simp[e]
    rw[this];simp;omega
  ·rw[i2 (by omega)];have:(n==c)=false:=by simp;omega
   rw[this];simp
theorem Vn{u:Nat->Bool}(h:W u≠0): ∃c,c<64/\u c=true/\ ∀i,i<c->u i=false:=by
 have hex: ∃c,c<64/\u c=true:=by
  refine Classical.byContradiction fun g=>h (Fh.2 fun i hi=> ?_);cases hu:u i with
  | false=>rfl
  | true=>exact absurd ⟨i,hi,hu⟩ g
 have key: ∀n:Nat,(∃c,c<n/\u c=true)-> ∃c,c<n/\u c=true/\ ∀i,i<c->u i=false:=by
  intro n
  induction n with
  | zero=>rintro⟨c,d,_⟩;omega
  | succ n ih=>
   rintro⟨c,d,hu⟩;by_cases g: ∃c,c<n/\u c=true
   ·obtain⟨v,h1,j,y⟩:=ih g;exact⟨v,by omega,j,y⟩
   ·have:c=n:=by
     refine Classical.byContradiction fun e=>g ⟨c,by omega,hu⟩
    subst this;refine⟨c,d,hu,fun i hi=> ?_⟩;cases hui:u i with
    | false=>rfl
    | true=>exact absurd ⟨i,hi,hui⟩ g
 exact key 64 hex
def KQ(ca:Nat->CS):Nat->Int
 | 0=>0
 | k+1=>KQ ca k+cN (ca k).rel 64
theorem Mb(ca:Nat->CS)(k:Nat): ∀m,KQ ca k<=KQ ca (k+m)
 | 0=>Int.le_refl _
 | m+1=>by
  show _<=KQ ca (k+m)+_;have:=Mb ca k m;omega
section
variable{E:Env}{h:Nat}{S:HS}{Z:List Pr}{w:World}{g:HG}
theorem Al.KQ(v:Al S no)(d:HP S):NT S.T.rl+Go.Sh.KQ S.ca 64=cP S.gone:=by
 have key: ∀k:Nat,k<=64->NT S.T.rl+Go.Sh.KQ S.ca k=cP (fun p=>S.T.rl p||(List.range k).any fun i=>(S.ca i).F3 p):=by
  intro k
  induction k with
  | zero=>
   intro _;obtain⟨l,h1,C⟩:=d.tv.cr;have e:(fun p=>S.T.rl p||(List.range 0).any fun i=>(S.ca i).F3 p)=S.T.rl:=funext fun p=>by simp
   rw[e,cP_NT h1 C fun p hp=>(d.tv.Gn p (d.tv.fi p (d.tv.rf p hp))).2];show cP S.T.rl+0=_;omega
  | succ k ih=>
   intro Y;have ci:=d.ci k (by omega);rw[N6 (f:=fun p=>S.T.rl p||(List.range k).any fun i=>(S.ca i).F3 p) (g:=(S.ca k).F3) (fun p=>by rw[RI,List.any_append];simp[Bool.or_assoc]) fun p a b=> ?_,<-ih (by omega)]
   ·have e:cP (S.ca k).F3=cN (S.ca k).rel 64:=by
     have j:=ci.b0;have J:=ci.b1;have:=ci.wZ;exact fA j (by omega)
    rw[e];show _+(Go.Sh.KQ S.ca k+_)=_;omega
   ·rw[Bool.or_eq_true]at a;have y:=Jk ci b;obtain⟨g1,K,g3,g4⟩:=v.cr k (by omega) p y;rcases a with a|a
    ·exact(Cq K) (d.tv.rf p a)
    ·rw[List.any_eq_true]at a;obtain⟨i,hi,O⟩:=a;have hi:=List.mem_range.1 hi;have:=v.cd i k p (by omega) (by omega) (Jk (d.ci i (by omega)) O) y;omega
 exact key 64 (Nat.le_refl _)
theorem PS(H:Sat (Aj E h S::Z) w)(hI:Al S no){K:Int->Int->Int->World->Prop}(hK: ∀w',Sat (Aj E h S::Z) w'->K (cP S.T.GH) S.AB (cP S.gone) w'):F.DL E (some ⟨h,0,none⟩) K w:=by
 have Bi:=H.Bi;have aA:=hI.KQ Bi;obtain⟨c1,c2,c3⟩:=hI.counts Bi;have a5:=Jj S.gone;have aQ:=Jj S.T.GH;have a2:0<=NT S.T.rl:=by
  obtain⟨l,h1,h2⟩:=Bi.tv.cr;rw[VE h1 h2];exact Ij h1
 obtain⟨g,aH,H⟩:=Sat.heap.1 H;unfold F.DL T0.DL;simp only[AI];refine⟨_,(Ba (S:=S) (g:=g) H).2.1,SE (H.front 2 rfl) ?_⟩;have aC:=(Ba (S:=S) (g:=g) H).2.2.2.2.2.2.2;simp only[add_add,Nat.reduceAdd]
 repeat (refine⟨_,aC _ (by decide),?_⟩)
 have hL: ∀i:Nat,i<64->List.getD ((List.range 64).map fun i=>some (Addr.mk (g.cb i) 0 none)) i none=some ⟨g.cb i,0,none⟩:=fun i hi=>Sw g.cb hi;refine AK (fun st w'=> ∃i:Nat,st.2.1=(i:Int)/\i<=64/\st.1=NT S.T.rl+Go.Sh.KQ S.ca i/\Sat (CH E h S g++Z) w') (fun st _=>(64-st.2.1).toNat) ⟨0,rfl,by decide,(Int.add_zero _).symm,H⟩ ?_;rintro⟨cnt,i',v⟩ _ a4 ⟨i,hi,aO,hc,aB⟩;dsimp only at hi hc⊢;subst hi;refine AD (fun aJ=>⟨⟨by omega,by omega⟩,?_⟩) fun aG=> ?_
 ·have hi:i<64:=by omega
  obtain⟨R,aI,hb⟩:=aB.Tw hi;rw[Int.toNat_natCast];have e:=hL i hi;refine(show _=_ from e)▸ ?_;refine RA aI fun r0 r1 r2 aR g0 g1 aF=> ?_;have ci:=Bi.ci i hi;have aL:r2=W (S.ca i).rel:=by
   by_cases he:(S.ca i).empty
   ·rw[(g0 he).2.2];refine(Fh.2 fun k _=>Dg fun q=> ?_).symm;have:=ci.rh k q;rw[he k]at this;cases this
   ·exact(g1 he).2.2
  subst aL;have a0:Go.Sh.KQ S.ca (i+1)=Go.Sh.KQ S.ca i+cN (S.ca i).rel 64:=rfl;have aE:=Mb S.ca (i+1) (64-(i+1));rw[show i+1+(64-(i+1))=64 by omega]at aE;have aY:0<=Go.Sh.KQ S.ca i:=by
   have:=Mb S.ca 0 i;rw[Nat.zero_add]at this;exact this
  refine AK (fun st w'=> ∃u,st.2.1=W u/\NT S.T.rl+Go.Sh.KQ S.ca i<=st.1/\st.1+cN u 64=NT S.T.rl+Go.Sh.KQ S.ca (i+1)/\Sat (CH E h S g++Z) w') (fun st _=>st.2.1.toNat) ⟨(S.ca i).rel,rfl,by show _<=cnt;omega,by show cnt+_=_;omega,hb aF⟩ ?_;rintro⟨j,r,v⟩ _ a6 ⟨u,hu,hle,aK,O⟩;dsimp only at hu hle aK⊢;subst hu;refine Cz (fun C=> ?_) fun hz=> ?_
  ·obtain⟨c,d,y,Y⟩:=Vn C;rw[Xa d y Y];have aT:=(fD y 64).1 d;refine AU fun aZ aD=> ?_;subst aD;rw[AM (n:=j+1)];refine⟨⟨_,rfl,by show _<=j+1;omega,by show j+1+_=_;omega,O⟩,?_⟩;show(W fun i=>u i&& !(i==c)).toNat<(W u).toNat;rw[<-Xa d y Y];have hb:=xK u;have hz:W u≠0:=C;have e:D8 .u64 0 (W u) (u64 (W u-1))=((wN u 64&&&(wN u 64-1):Nat):Int):=by
    have a1:wN u 64<2^64:=LO u 64;have e:u64 (W u-1)=((wN u 64-1:Nat):Int):=by
     unfold W at hz⊢;rw[AM];omega
    rw[e];unfold W;rw[vP (by omega) (by omega)]
   rw[e,Int.toNat_natCast];have:wN u 64&&&(wN u 64-1)<=wN u 64-1:=Nat.and_le_right;unfold W at hz⊢;rw[Int.toNat_natCast];omega
  ·have h0:cN u 64=0:=by
    have h1:=Fh.1 hz;have: ∀n,n<=64->cN u n=0:=by
     intro n
     induction n with
     | zero=>intro _;rfl
     | succ n ih=>intro hn;simp only[cN];rw[ih (by omega),h1 n (by omega)];rfl
    exact this 64 (Nat.le_refl _)
   rw[AH (n:=(i:Int)+1)];exact⟨⟨i+1,by omega,by omega,by show j=_;omega,O⟩,by show(64-((i:Int)+1)).toNat<(64-(i:Int)).toNat;omega⟩
 ·have e:i=64:=by omega
  subst e;have J:=aB.drew;refine⟨_,(Ba (S:=S) (g:=g) J).2.2.1,_,(Ba (S:=S) (g:=g) J).2.2.2.2.2.2.1,XN (J.front 3 rfl) ⟨(Ba (S:=S) (g:=g) J).2.2.2.2.2.2.1,?_⟩⟩;rw[AM (n:=DE S.ks*512),<-c1,hc,aA];exact hK _ (Sat.heap.2 ⟨g,aH,J⟩)
variable(hE:EnvS E)
include hE
theorem Vo(H:Sat (Aj E h S::Z) w)(y:Al S no){p:Int}{K:World->Prop}(C: ¬(0<=p/\p<64)-> ∀w',Sat (Aj E h S::Z) w'->K w')
  (d:0<=p->p<64-> ∀w',Al (S.flush p.toNat) no->Sat (Aj E h (S.flush p.toNat)::Z) w'->K w'):F.Dx E (some ⟨h,0,none⟩) p K w:=by
 have Bi:=H.Bi;unfold F.Dx T0.Dx;refine Yy (AD (fun hp=> ?_) fun hp=>C hp w H);simp only[AI];obtain⟨g,j,H⟩:=Sat.heap.1 H;have v:=H.drew;obtain⟨i,rfl⟩: ∃i:Nat,p=(i:Int):=⟨p.toNat,by omega⟩;have hi:i<64:=by omega
 rw[Int.toNat_natCast]at d⊢;refine⟨by omega,_,by rw[Nat.mul_one,add_add,Nat.add_comm];exact(Ba (S:=S) (g:=g) v).2.2.2.2.2.2.2 i hi,_,(Ba (S:=S) (g:=g) v).2.1,?_⟩;obtain⟨R,_,h1,T⟩:=v.Ow hi;exact VI hE h1 (fun q J=>⟨(y.cr i hi q J).1,(y.cr i hi q J).2.1⟩) fun w' O=>d hp.1 hp.2 w' (y.flush Bi hi) (Sat.heap.2 ⟨g,⟨j.nd,j.mem⟩,T O⟩)
end
end Go.Sh
set_option linter.all false
set_option maxRecDepth 8000
set_option maxHeartbeats 2000000
namespace Go.Sh
def GD(S:HS)(i:Nat)(S1:HS):Prop:=((S.ca i).empty/\ ∃q,Fz S.T 1 q/\S1=S.fill i q)∨((¬(S.ca i).empty∨ ∀q,S.T.fr q=false)/\S1=S)
def GM(S:HS)(p n:Int)(S1:HS):Prop:=(¬(0<=p/\p<64/\n<16)/\S1=S)∨ ∃i:Nat,i<64/\p=i/\n<16/\GD S i S1/\ ∀k,¬IU (S1.ca i).has k n.toNat
def Vp(S:HS)(p n page:Int)(S2:HS):Prop:=
 (∃S1,∃i k:Nat,i<64/\p=i/\n<16/\GD S i S1/\IU (S1.ca i).has k n.toNat/\(∀j,IU (S1.ca i).has j n.toNat->k<=j)/\k+n.toNat<=64/\page=(S1.ca i).base+k/\S2=S1.Gx i k n.toNat)∨
 ∃S1,GM S p n S1/\Fz S1.T n page/\S2=S1.FC page n
theorem GD.inv{S S1:HS}{i:Nat}(h:GD S i S1)(d:Al S no)(j:HP S)(hi:i<64):Al S1 no:=by
 rcases h with ⟨h1,q,v,rfl⟩|⟨h1,rfl⟩
 ·exact d.fill j hi h1 q
 ·exact d
theorem GM.inv{S S1:HS}{p n:Int}(h:GM S p n S1)(d:Al S no)(j:HP S):Al S1 no:=by
 rcases h with ⟨_,rfl⟩|⟨i,hi,_,_,h,_⟩
 ·exact d
 ·exact h.inv d j hi
section
variable{E:Env}{h:Nat}{S:HS}{Z:List Pr}{w:World}{g:HG}
theorem RK: ∀{l:Iv},Ok l->(l.length:Int)<=DE l
 | [],_=>Int.le_refl _
 | p::r,h=>by
  have:=RK h.tail;have:=h.2.1;show((r.length+1:Nat):Int)<=p.2-p.1+DE r;omega
variable(hE:EnvA E)
include hE
theorem aI(hT: ∀w',Sat Z w'->GV E.AP w')(H:Sat (Aj E h S::Z) w)(hI:Al S no){p n:Int}(n0:1<=n)(n1:n<=134217728){K:Int->Bool->World->Prop}
  (aM: ∀page S2,Vp S p n page S2->Al S2 (inr page n)->0<=page->page+n<=34359738368-> ∀w',Sat (Aj E h S2::Z) w'->K page true w')
  (aX: ∀S1,GM S p n S1->Al S1 no->(∀q,¬Im S1.T.fr q n)-> ∀w',Sat (Aj E h S1::Z) w'->K 0 false w'):F.Db E (some ⟨h,0,none⟩) p n K w:=by
 have Bi:=H.Bi;obtain⟨g,aQ,H⟩:=Sat.heap.1 H;unfold F.Db T0.Db;simp only[AI];have y: ∀S1 w3,GM S p n S1->Al S1 no->S1.sp=S.sp->S1.V=S.V->S1.ks=S.ks->S1.own=S.own->S1.fx=S.fx->S1.hint=S.hint->S1.AB=S.AB->Sat (CH E h S1 g++Z) w3->
   ∃Y:(Option Addr),w3.cell? ((Addr.mk h 0 none).add 1)=some (.pointer Y)/\F.BJ E Y n (fun aK aY aF aG=>K aK ((aF:Int)==0) aG) w3:=by
  intro S1 w3 ht aA e1 e2 e3 e4 e5 e6 e7 H3;have d:XU S1 g:=aQ.same e1;have C:=(Sat.heap.2 ⟨g,d,H3⟩:Sat (Aj E h S1::Z) w3).Bi;obtain⟨R,_,h1,hb⟩:=H3.P9;refine⟨_,(Ba (S:=S1) (g:=g) H3).2.1,Qv hE.toEnvS h1 (by omega) (by omega) (fun e=>by omega) (fun _ O w' H'=> ?_) fun _ page hf w' H'=> ?_⟩
  ·exact aX S1 ht aA O w' (Sat.heap.2 ⟨g,⟨d.nd,d.mem⟩,hb H'⟩)
  ·exact aM page (S1.FC page n) (.inr ⟨S1,ht,hf,rfl⟩) (aA.FC C hf.2.2.1) hf.1 hf.2.1 w' (Sat.heap.2 ⟨g,⟨d.nd,d.mem⟩,hb H'⟩)
 refine An (An (Yy (AD (fun hp j=>AD (fun hn=> ?_) fun hn j=> ?_) fun hp j=>Ac rfl fun j=> ?_)))
 ·obtain⟨i,rfl⟩: ∃i:Nat,p=(i:Int):=⟨p.toNat,by omega⟩;have hi:i<64:=by omega
  rw[Int.toNat_natCast];refine⟨by omega,_,by rw[Nat.mul_one,add_add,Nat.add_comm];exact(Ba (S:=S) (g:=g) H).2.2.2.2.2.2.2 i hi,?_⟩;have v: ∀S1 J,GD S i S1->Al S1 no->S1.sp=S.sp->S1.V=S.V->S1.ks=S.ks->S1.own=S.own->S1.fx=S.fx->S1.hint=S.hint->S1.AB=S.AB->Sat (CH E h S1 g++Z) J->
    F.Ci E (some ⟨g.cb i,0,none⟩) (i64 n) (fun aU bC a0 aH=>CND ((a0:Int)==0) (K aU true aH) (∀j:Nat->Value,∃Y:(Option Addr),aH.cell? ((Addr.mk h 0 none).add 1)=some (.pointer Y)/\F.BJ E Y n (fun aK aY aF aG=>K aK ((aF:Int)==0) aG) aH)) J:=by
   intro S1 J aS aA e1 e2 e3 e4 e5 e6 e7 aE;have d:XU S1 g:=aQ.same e1;have C:=(Sat.heap.2 ⟨g,d,aE⟩:Sat (Aj E h S1::Z) J).Bi;obtain⟨R,hR,h1,hb⟩:=aE.Ow hi;rw[AH (n:=n)];refine VH (hT _ (hR h1.tail.tail)) h1 (by omega) (by omega) (fun a4=>by omega) (fun _ _ O=>Ac rfl fun j=> ?_) fun _ _ k aD aN aR w' H'=>AV rfl ?_
   ·exact y S1 J (.inr ⟨i,hi,rfl,hn,aS,O⟩) aA e1 e2 e3 e4 e5 e6 e7 aE
   ·have aJ:=C.ci i hi;have q0:=aJ.b0;have q1:=aJ.b1;have q2:=aJ.wZ;have aC:=aA.Gx C hi aD aR;rw[show((n.toNat:Nat):Int)=n by omega]at aC;refine aM ((S1.ca i).base+k) (S1.Gx i k n.toNat) (.inl ⟨S1,i,k,hi,rfl,hn,aS,aD,aN,aR,rfl,rfl⟩) aC (by omega) (by omega) w' (Sat.heap.2 ⟨g,⟨d.nd,d.mem⟩,hb H'⟩)
  obtain⟨R,hR,h1,hb⟩:=H.Ow hi;refine An (J0 h1 (fun he=>AV rfl ⟨_,(Ba (S:=S) (g:=g) H).2.1,?_⟩) fun he=>Ac rfl fun j=> ?_)
  ·refine XG hE.toEnvS h1 (fun aV=>absurd he aV) (fun _ O w' H' j=> ?_) fun _ q hq w' H' j=> ?_
   ·have h2:=hb H';rw[Yz]at h2;exact v S w' (.inr ⟨.inr O,rfl⟩) hI rfl rfl rfl rfl rfl rfl rfl h2
   ·exact v (S.fill i q) w' (.inl ⟨he,q,hq,rfl⟩) (hI.fill Bi hi he q) rfl rfl rfl rfl rfl rfl rfl (hb H')
  ·exact v S w (.inr ⟨.inl he,rfl⟩) hI rfl rfl rfl rfl rfl rfl rfl H
 ·exact y S w (.inl ⟨by omega,rfl⟩) hI rfl rfl rfl rfl rfl rfl rfl H
 ·exact y S w (.inl ⟨by omega,rfl⟩) hI rfl rfl rfl rfl rfl rfl rfl H
def GN(n:Int):Int:=(n+511)/512*512
def SG(S:HS)(n:Int)(S1:HS):Prop:=(∀r,S.V.rf≠true::r)/\ ∃at_,Gv S.V S.hint (GN n) at_/\S1=S.grown {S.V with rf:=S.V.rf.tail,pl:=S.V.pl.tail,laid:=CX S.V.laid at_ (at_+GN n)} at_ (GN n)
def Ox(S:HS)(n:Int)(S1:HS):Prop:=(∃r,S.V.rf=true::r/\S1={S with V:={S.V with rf:=r}})∨((∀r,S.V.rf≠true::r)/\Ke S.V S.hint (GN n)/\S1={S with V:={S.V with rf:=S.V.rf.tail,pl:=S.V.pl.tail}})
theorem Xb(H:Sat (Aj E h S::Z) w)(Y:Al S no){n:Int}(n0:1<=n)(n1:n<=134217728){K:Int->World->Prop}
  (aJ: ∀S1,SG S n S1->Al S1 no->(∃at_,Im S1.T.fr at_ n)-> ∀w',Sat (Aj E h S1::Z) w'->K 0 w')(aD: ∀S1,Ox S n S1->Al S1 no-> ∀w',Sat (Aj E h S1::Z) w'->K 13 w'):
  F.DB E (some ⟨h,0,none⟩) n K w:=by
 have Bi:=H.Bi;have aM:=Y.h0;have aY:=Y.h1;obtain⟨g,d,H⟩:=Sat.heap.1 H;unfold F.DB T0.DB;refine⟨by decide,AU fun N hN=> ?_⟩;rw[AM (n:=n+512),AM (n:=n+512-1),Int.tdiv_eq_ediv_of_nonneg (by omega),AM (n:=(n+512-1)/512),AM]at hN;have hN:N=GN n:=by unfold GN;omega
 subst hN;have aQ:GN n %512=0/\n<=GN n/\GN n<=134217728:=by unfold GN;omega
 obtain⟨u1,u2,u3⟩:=aQ;have u4:GN n<n+512:=by unfold GN;omega
 simp only[AI];have Hd:=H.drew;refine⟨_,(Ba (S:=S) (g:=g) Hd).1,_,(Ba (S:=S) (g:=g) Hd).2.2.2.2.2.1,?_⟩;have bk: ∀{V':VS} {w'},Sat (BR E g.m V'::(CH E h S g++Z).eraseIdx 1) w'->Sat (CH E h {S with V:=V'} g++Z) w':=fun{V' w'} h'=>Sat.back (Ps:=CH E h S g++Z) 1 h' (by simp[CH]);refine Ts hE.toEnvS (Hd.front 1 rfl) aM (by omega) (by omega) (by omega) (fun v=>by omega) (fun _ r hr w' H'=>AV rfl ?_) (fun _ hr hu w' H'=>AV rfl ?_) fun _ hr at_ hc w8 H8=>Ac rfl ?_
 ·exact aD _ (.inl ⟨r,hr,rfl⟩) (Y.fC rfl rfl) w' (Sat.heap.2 ⟨g,⟨d.nd,d.mem⟩,bk H'⟩)
 ·exact aD _ (.inr ⟨hr,hu,rfl⟩) (Y.fC rfl rfl) w' (Sat.heap.2 ⟨g,⟨d.nd,d.mem⟩,bk H'⟩)
 obtain⟨f1,f2,f3,f4⟩:=hc.fits Bi.vv.JA (by omega);have a0:0<=at_:=by
  rcases hc with ⟨p,r,h1,h2,rfl⟩|⟨_,⟨_,h1,_⟩|⟨_,_,h1,_⟩⟩
  ·obtain⟨g',aN,_⟩:=Sat.KO.1 (Hd.front 1 rfl:Sat (BR E g.m S.V::_) _);exact(aN.Sg at_ (by rw[h1];exact List.mem_cons_self)).1
  ·have:=h1.low;omega
  ·have:=h1.low;omega
 have j: ∀p,at_<=p->p<at_+GN n->S.T.GH p=false:=fun p h1 h2=>Dg fun hp=>(C4 Bi.vv.JA (by omega)).1 f4 p h1 h2 ((Y.la p).2 hp);have H9:=bk H8;rw[AM (n:=at_+GN n)];refine Ak H9 (o:=0) (m:=69) rfl (by rw[XV];decide) fun aI J=> ?_;rw[Nat.zero_add,XW]at J;have C:Sat (CH E h {S with V:={S.V with rf:=S.V.rf.tail,pl:=S.V.pl.tail,laid:=CX S.V.laid at_ (at_+GN n)},hint:=at_+GN n} g++Z) aI:=J;clear J;rw[Int.tdiv_eq_ediv_of_nonneg (by omega),Int.tdiv_eq_ediv_of_nonneg (by omega),AM (n:=at_/512),AM (n:=GN n/512)];refine⟨_,(Ba (S:={S with V:={S.V with rf:=S.V.rf.tail,pl:=S.V.pl.tail,laid:=CX S.V.laid at_ (at_+GN n)},hint:=at_+GN n}) (g:=g) C).2.1,by decide,by decide,?_⟩;obtain⟨R,_,h1,hb⟩:=C.P9;refine Zq hE.toEnvS h1 (by omega) (by omega) (by omega) (by omega) (fun v=>by unfold Jz at v;omega) (fun _ hex=> ?_) fun _ _ aR aP=> ?_
 ·obtain⟨p,q1,q2,q3⟩:=hex;have:S.T.GH p=true:=q3;rw[j p (by omega) (by omega)]at this;cases this
 have aF:=(hb aP).drew;generalize hS3:({S with V:={S.V with rf:=S.V.rf.tail,pl:=S.V.pl.tail,laid:=CX S.V.laid at_ (at_+GN n)},hint:=at_+GN n,T:=S.T.grow (at_/512) (GN n/512)}:HS)=S3;have e3:S3.hint=at_+GN n:=by rw[<-hS3]
 have O:Sat (CH E h S3 g++Z) aR.drew:=by rw[<-hS3];exact aF
 clear aF;have aG:=(Ba (S:=S3) (g:=g) O).2.2.2.2.2.1;rw[e3]at aG;refine⟨_,(Ba (S:=S3) (g:=g) O).2.2.1,by decide,_,aG,by decide,?_⟩;rw[Int.tdiv_eq_ediv_of_nonneg (by omega),AM (n:=(at_+GN n)/512)];refine aA hE (O.front 3 rfl) (by omega) (by omega) (by omega) fun aE aS=> ?_;have aC:Sat (CH E h {S3 with ks:=CX S3.ks (at_/512) ((at_+GN n)/512)} g++Z) aE:=Sat.back (Ps:=CH E h S3 g++Z) 3 aS (by simp[CH]);have y:=(Ba (S:={S3 with ks:=CX S3.ks (at_/512) ((at_+GN n)/512)}) (g:=g) aC).2.2.2.2.2.1;have aT:({S3 with ks:=CX S3.ks (at_/512) ((at_+GN n)/512)}:HS).hint=at_+GN n:=e3;rw[aT]at y;refine⟨y,?_⟩;subst hS3;refine aJ _ ⟨hr,at_,hc,rfl⟩ (Y.grown Bi a0 (by omega) (by omega) f1 u1 j rfl rfl) ⟨at_,fun m q1 q2=> ?_⟩ aE (Sat.heap.2 ⟨g,⟨d.nd,d.mem⟩,aC⟩);show(S.T.fr m||inr (at_/512*512) (GN n/512*512) m)=true;rw[Bool.or_eq_true,AR];exact .inr (by omega)
def IY(S:HS)(page n:Int):TV:=⟨S.T.GH,fun p=>S.T.fr p||inr page n p,fun p=>S.T.rl p||(inr page n p&& !I9 S.V.ready p)⟩
omit hE in
theorem aJ{S:HS}{page x y:Int}(h1:page<=x)(j:x<=y)(d: ∀p,x<=p->p<y-> ¬mem S.V.ready p):(IY S page (x-page)).back x (y-x)=IY S page (y-page):=by
 have e: ∀p,inr page (y-page) p=(inr page (x-page) p||inr x (y-x) p):=fun p=>by rw[Bool.eq_iff_iff,Bool.or_eq_true,AR,AR,AR];omega
 unfold IY TV.back;refine(TV.mk.injEq ..).mpr ⟨rfl,funext fun p=> ?_,funext fun p=> ?_⟩
 ·show(S.T.fr p||inr page (x-page) p||inr x (y-x) p)=_;rw[e,Bool.or_assoc]
 ·show(S.T.rl p||(inr page (x-page) p&& !I9 S.V.ready p)||inr x (y-x) p)=_;rw[e];cases g:inr x (y-x) p
  ·simp
  ·have g:=AR.1 g;have:I9 S.V.ready p=false:=Dg fun q=>d p (by omega) (by omega) (Az.1 q);rw[this];simp
omit hE in
theorem aK{S:HS}{page x y:Int}(h1:page<=x)(j:x<=y)(d: ∀p,x<=p->p<y->mem S.V.ready p):(IY S page (x-page)).JL x (y-x)=IY S page (y-page):=by
 have e: ∀p,inr page (y-page) p=(inr page (x-page) p||inr x (y-x) p):=fun p=>by rw[Bool.eq_iff_iff,Bool.or_eq_true,AR,AR,AR];omega
 unfold IY TV.JL;refine(TV.mk.injEq ..).mpr ⟨rfl,funext fun p=> ?_,funext fun p=> ?_⟩
 ·show(S.T.fr p||inr page (x-page) p||inr x (y-x) p)=_;rw[e,Bool.or_assoc]
 ·show(S.T.rl p||(inr page (x-page) p&& !I9 S.V.ready p))=_;rw[e];cases g:inr x (y-x) p
  ·simp
  ·have g:=AR.1 g;rw[Az.2 (d p (by omega) (by omega))];simp
theorem Xc{page n:Int}(H:Sat (Aj E h S::Z) w)(hI:Al S (inr page n))(p0:0<=page)(n0:1<=n)(pb:page+n<=34359738368){K:World->Prop}(hK:Al (S.EY page n) no-> ∀w',Sat (Aj E h (S.EY page n)::Z) w'->K w'):
  F.DC E (some ⟨h,0,none⟩) page n K w:=by
 have Bi:=H.Bi;have a4:=hI.EY Bi;obtain⟨g,a3,H⟩:=Sat.heap.1 H;unfold F.DC T0.DC F.FW T0.FW;simp only[AI];rw[AM (n:=page+n)];refine⟨_,(Ba (S:=S) (g:=g) H).1,?_⟩;simp only[AI];rw[show(Addr.mk g.m 0 none).add 5=⟨g.m,5,none⟩ by rw[add_eq]];obtain⟨gv,bN,HV⟩:=Sat.KO.1 (H.front 1 rfl:Sat (BR E g.m S.V::_) w);refine Sk hE.toEnvS (HV.DR 1 rfl) (o:=5) rfl rfl p0 (by omega:page+n<18446744073709551616) fun s' w3 H3 _=> ?_;have aY:Sat (EK E g.m S.V gv++(Row E.AF 2 s' (flat (withinL S.V.ready page (page+n)))::(CH E h S g++Z).eraseIdx 1)) w3:=
  Sat.K4 (EK E g.m S.V gv) (H3.perm (.cons _ (.cons _ (Dm (i:=1) rfl).symm)))
 have H4:=Sat.KO.2 ⟨gv,bN,aY⟩;have H5:Sat (Row E.AF 2 s' (flat (withinL S.V.ready page (page+n)))::BR E g.m S.V::(CH E h S g++Z).eraseIdx 1) w3:=H4.perm (.swap _ _ _);have d:Sat (CH E h S g++(Row E.AF 2 s' (flat (withinL S.V.ready page (page+n)))::Z)) w3:=by
  have h1:Sat (Row E.AF 2 s' (flat (withinL S.V.ready page (page+n)))::(CH E h S g++Z)) w3:=H5.perm (.cons _ (Dm (i:=1) rfl).symm);exact Sat.K4 (CH E h S g) h1
 clear H5 H4 aY H3 HV;have C:=Qx Bi.vv.KT (a:=page) (b:=page+n) (by omega);have O: ∀q,mem (withinL S.V.ready page (page+n)) q↔mem S.V.ready q/\page<=q/\q<page+n:=fun q=>L6;have aS: ∀q∈withinL S.V.ready page (page+n),page<=q.1/\q.1<q.2/\q.2<=page+n:=M5 Bi.vv.KT (by omega);generalize hl:withinL S.V.ready page (page+n)=l at d C O aS;have hlen:s'.len=l.length:=by
  have:=((d.front 8 rfl:Sat (Row E.AF 2 s' (flat l)::_) _)).own.len;rw[Ez]at this;omega
 have bC:(l.length:Int)<=n:=by
  have h1:=RK C;have h2:=Ju C.Wo (a:=page) (b:=page+n) fun q hq=>((O q).1 hq).2;have h3:=Ec C (a:=page) (b:=page+n) (by omega);omega
 have a9: ∀p,page<=p->p<page+n->S.T.GH p=true:=fun p a b=>hI.li p (AR.2 ⟨a,b⟩);have aR: ∀{x y:Int},page<=x->x<y->y<=page+n->GL (IY S page (x-page)) x (y-x):=fun{x y} a b c=>⟨by omega,by omega,fun m q1 q2=>a9 m (by omega) (by omega)⟩;have aG: ∀{x y:Int},page<=x->y<=page+n-> ∀m,x<=m->m<x+(y-x)->(IY S page (x-page)).fr m=false:=fun{x y} a c m q1 q2=>by
  show(S.T.fr m||inr page (x-page) m)=false;rw[(hI.Mq Bi (AR.2 ⟨by omega,by omega⟩)).1,Fg.2 (by omega)];rfl
 have aH: ∀{x y:Int} {Y:List Pr} {w5:World} {K5:Int->World->Prop},page<=x->x<=y->y<=page+n->(∀p,x<=p->p<y-> ¬mem S.V.ready p)->Sat (CH E h {S with T:=IY S page (x-page)} g++Y) w5->
   (∀r w6,Sat (CH E h {S with T:=IY S page (y-page)} g++Y) w6->K5 r w6)->F.Co E (some ⟨g.t,0,none⟩) x (y-x) K5 w5:=by
  intro x y Y w5 K5 h1 h2 h3 bI H5 aI;obtain⟨R,_,q1,qb⟩:=H5.P9;refine Sf hE.toEnvS q1 (by omega) (by omega) (by omega) (by omega) (fun hb w6 d=> ?_) (fun _ hex w6 d=> ?_) fun _ _ w6 d=> ?_
  ·have:x=y:=Classical.byContradiction fun e=>hb (aR h1 (by omega) h3);subst this;exact aI _ _ (qb d)
  ·obtain⟨m,q1,q2,q3⟩:=hex;rw[aG h1 h3 m q1 q2]at q3;cases q3
  ·rw[aJ h1 h2 bI]at d;exact aI _ _ (qb d)
 have stepG: ∀{x y:Int} {Y:List Pr} {w5:World} {K5:Int->World->Prop},page<=x->x<y->y<=page+n->(∀p,x<=p->p<y->mem S.V.ready p)->Sat (CH E h {S with T:=IY S page (x-page)} g++Y) w5->
   (∀r w6,Sat (CH E h {S with T:=IY S page (y-page)} g++Y) w6->K5 r w6)->F.CT E (some ⟨g.t,0,none⟩) x (y-x) K5 w5:=by
  intro x y Y w5 K5 h1 h2 h3 a7 H5 aI;obtain⟨R,_,q1,qb⟩:=H5.P9;refine On hE.toEnvS q1 (by omega) (by omega) (by omega) (by omega) (fun hb w6 d=>absurd (aR h1 h2 h3) hb) (fun _ hex w6 d=> ?_) fun _ _ w6 d=> ?_
  ·obtain⟨m,q1,q2,q3⟩:=hex;rw[aG h1 h3 m q1 q2]at q3;cases q3
  ·rw[aK h1 (by omega) a7]at d;exact aI _ _ (qb d)
 refine AK (fun st w'=> ∃i:Nat,st.2.1=(i:Int)/\i<=l.length/\page<=st.1/\st.1<=page+n/\(∀j q,j<i->l[j]? =some q->q.2<=st.1)/\(∀j q,i<=j->l[j]? =some q->st.1<=q.1)/\
   Sat (CH E h {S with T:=IY S page (st.1-page)} g++(Row E.AF 2 s' (flat l)::Z)) w') (fun st _=>((l.length:Int)-st.2.1).toNat) ⟨0,rfl,Nat.zero_le _,Int.le_refl _,by show page<=_;omega,fun j q hj=>absurd hj (Nat.not_lt_zero j),fun j q _ hq=>(aS q (List.mem_of_getElem? hq)).1,?_⟩ ?_
 ·have e:IY S page (page-page)=S.T:=by
   unfold IY;have: ∀p,inr page (page-page) p=false:=fun p=>Fg.2 (by omega);simp only[this,Bool.or_false,Bool.false_and]
  show Sat (CH E h {S with T:=IY S page (page-page)} g++_) w3;rw[e];exact d
 rintro⟨at_,i',v⟩ _ w6 ⟨i,hi,a1,aU,aZ,aM,a5,d⟩;dsimp only at hi aU aZ aM a5 d⊢;subst hi;rw[hlen];refine AD (fun b7=> ?_) fun bW=> ?_
 ·have a1:i<l.length:=by omega
  obtain⟨x,hx⟩: ∃x,l[i]? =some x:=⟨_,List.getElem?_eq_getElem a1⟩;obtain⟨x1,x2,x3⟩:=aS x (List.mem_of_getElem? hx);have x4:=a5 i x (Nat.le_refl _) hx;obtain⟨bb,bJ,k1,k2⟩:=(d.front 8 rfl:Sat (Row E.AF 2 s' (flat l)::_) _).own.cells2 hx;rw[bJ];simp only[AI,Int.toNat_natCast];refine⟨⟨by omega,by omega⟩,x.1,by rw[add_eq,add_eq,Nat.zero_add,Nat.add_zero];exact k1,x.2,by rw[add_eq,add_eq,Nat.zero_add];exact k2,?_⟩;refine Ad (vs:=[.int .u64 0,.int .u64 0]) d fun aA bX bG _=> ?_;refine Jc (news:=[.int .u64 x.1,.int .u64 x.2]) bG rfl (by simp[Value.oneCell']) fun bZ bE=> ?_;have aP:=bE.drew;have hC: ∀{w'} {Y:List Pr},Sat (Cells aA E.AF [.int .u64 x.1,.int .u64 x.2]::Y) w'->w'.cell? (Addr.mk aA 0 none)=some (.int .u64 x.1)/\w'.cell? ((Addr.mk aA 0 none).add 1)=some (.int .u64 x.2):=fun h=>⟨h.A2 rfl,h.cell rfl⟩;have aF: ∀{w'} {S':HS},Sat (CH E h S' g++(Cells aA E.AF [.int .u64 x.1,.int .u64 x.2]::Row E.AF 2 s' (flat l)::Z)) w'->Sat (Cells aA E.AF [.int .u64 x.1,.int .u64 x.2]::(CH E h S' g++(Row E.AF 2 s' (flat l)::Z))) w':=fun{w' S'} h=>h.perm List.perm_middle;have bP: ∀{w'} {S':HS},Sat (Cells aA E.AF [.int .u64 x.1,.int .u64 x.2]::(CH E h S' g++(Row E.AF 2 s' (flat l)::Z))) w'->Sat (CH E h S' g++(Cells aA E.AF [.int .u64 x.1,.int .u64 x.2]::Row E.AF 2 s' (flat l)::Z)) w':=fun{w' S'} q=>Sat.K4 (CH E h S' g) q;have a8:=bP aP;refine⟨_,(Ba (S:={S with T:=IY S page (at_-page)}) (g:=g) a8).2.1,_,(hC aP).1,?_⟩;rw[AM (n:=x.1-at_)];refine aH aU x4 (by omega) (fun p q1 q2 hm=> ?_) a8 fun r b8 bA=> ?_
  ·obtain⟨y,hy,y1,y2⟩:=(O p).2 ⟨hm,by omega,by omega⟩;obtain⟨j,hj⟩:=List.mem_iff_getElem?.1 hy;rcases Nat.lt_trichotomy j i with g1|g1|g1
   ·have:=aM j y g1 hj;omega
   ·subst g1;rw[hx]at hj;cases hj;omega
   ·have:=C.lt g1 hx hj;omega
  have J:=bA.drew;refine⟨(hC (aF bA)).1,_,(Ba (S:={S with T:=IY S page (x.1-page)}) (g:=g) J).2.1,_,(hC (aF J)).1,_,(hC (aF J)).2,_,(hC (aF J)).1,?_⟩;rw[AM (n:=x.2-x.1)];refine stepG (by omega) x2 x3 (fun p q1 q2=>((O p).1 ⟨x,List.mem_of_getElem? hx,q1,q2⟩).1) J fun r b5 bL=> ?_;have aB:=aF bL;refine⟨(hC aB).1,(hC aB).2,_,(hC aB).2,?_⟩;rw[AH (n:=(i:Int)+1)];refine⟨⟨i+1,by omega,by omega,by show page<=x.2;omega,x3,fun j q hj hq=> ?_,fun j q hj hq=> ?_,aB.tail⟩,by show((l.length:Int)-((i:Int)+1)).toNat<((l.length:Int)-(i:Int)).toNat;omega⟩
  ·rcases Nat.lt_or_eq_of_le (Nat.le_of_lt_succ hj)with g1|g1
   ·have:=aM j q g1 hq;show q.2<=x.2;omega
   ·subst g1;rw[hx]at hq;cases hq;exact Int.le_refl _
  ·have:=C.lt (show i<j by omega) hx hq;show x.2<=q.1;omega
 ·have e:i=l.length:=by omega
  subst e;refine⟨_,(Ba (S:={S with T:=IY S page (at_-page)}) (g:=g) d).2.1,?_⟩;rw[AM (n:=page+n-at_)];refine aH aU aZ (Int.le_refl _) (fun p q1 q2 hm=> ?_) d fun r bM a6=> ?_
  ·obtain⟨y,hy,y1,y2⟩:=(O p).2 ⟨hm,by omega,by omega⟩;obtain⟨j,hj⟩:=List.mem_iff_getElem?.1 hy;have bF:j<l.length:=by
    obtain⟨h1,_⟩:=List.getElem?_eq_some_iff.1 hj;exact h1
   have:=aM j y bF hj;omega
  ·rw[show page+n-page=n by omega]at a6;exact hK a4 bM (Sat.heap.2 ⟨g,⟨a3.nd,a3.mem⟩,Sat.Nt (CH E h (S.EY page n) g) a6⟩)
end
end Go.Sh
set_option linter.all false
set_option maxRecDepth 8000
set_option maxHeartbeats 2000000
namespace Go.Sh
def MB(S:HS)(p n page:Int)(S1:HS):Prop:=
 Vp S p n page S1∨ ∃j d,GM S p n j/\(∀q,¬Im j.T.fr q n)/\SG j n d/\Fz d.T n page/\S1=d.FC page n
def IZ(S:HS)(page n:Int):Prop:= ∀q,page<=q->q<page+n->mem S.V.ready q
def Made(S1:HS)(page n:Int)(S2:HS):Prop:=(IZ S1 page n/\S2=S1)∨(¬IZ S1 page n/\(∀r,S1.V.rf≠true::r)/\S2={S1 with V:=HK S1.V page n})
def Found(S:HS)(p n page:Int)(S2:HS):Prop:= ∃S1,MB S p n page S1/\Made S1 page n S2
def NF(S:HS)(p n:Int)(S2:HS):Prop:=
 (∃d,GM S p n d/\(∀q,¬Im d.T.fr q n)/\Ox d n S2)∨
 ∃S1 page r,MB S p n page S1/\ ¬IZ S1 page n/\S1.V.rf=true::r/\S2=({S1 with V:={S1.V with rf:=r}}:HS).EY page n
section
variable{E:Env}{h:Nat}{S:HS}{Z:List Pr}{w:World}{g:HG}
theorem Al.pgs{S:HS}{fl:Int->Bool}(d:Al S fl):0<=S.AB/\S.AB<=34359738368:=by
 rw[d.pg];exact Jj _
theorem Sat.fE(H:Sat (Aj E h S::Z) w): ∃m R,w.cell? (Addr.mk h 0 none)=some (.pointer (some ⟨m,0,none⟩))/\Sat (BR E m S.V::R) w/\
  ∀{V':VS} {w'},Sat (BR E m V'::R) w'->Sat (Aj E h {S with V:=V'}::Z) w':=by
 obtain⟨g,d,H⟩:=Sat.heap.1 H;refine⟨g.m,_,(Ba (S:=S) (g:=g) H).1,H.front 1 rfl,fun{V' w'} h'=>Sat.heap.2 ⟨g,⟨d.nd,d.mem⟩,?_⟩⟩;exact Sat.back (Ps:=CH E h S g++Z) 1 h' (by simp[CH])
theorem Sat.Vq(H:Sat (Aj E h S::Z) w): ∃t R,w.cell? ((Addr.mk h 0 none).add 1)=some (.pointer (some ⟨t,0,none⟩))/\Sat (BI E t S.T::R) w/\
  ∀{j:TV} {w'},Sat (BI E t j::R) w'->Sat (Aj E h {S with T:=j}::Z) w':=by
 obtain⟨g,d,H⟩:=Sat.heap.1 H;refine⟨g.t,_,(Ba (S:=S) (g:=g) H).2.1,H.front 2 rfl,fun{V' w'} h'=>Sat.heap.2 ⟨g,⟨d.nd,d.mem⟩,?_⟩⟩;exact Sat.back (Ps:=CH E h S g++Z) 2 h' (by simp[CH])
variable(hE:EnvA E)
include hE
theorem RL(hT: ∀w',Sat Z w'->GV E.AP w')(H:Sat (Aj E h S::Z) w)(hI:Al S no){p n:Int}(n0:1<=n)(n1:n<=134217728){K:Int->Int->World->Prop}
  (bQ: ∀page S2,Found S p n page S2->Al S2 (inr page n)->0<=page->page+n<=34359738368->IZ S2 page n-> ∀w',Sat (Aj E h S2::Z) w'->K page 0 w')
  (bD: ∀S2,NF S p n S2->Al S2 no-> ∀w',Sat (Aj E h S2::Z) w'->K 0 13 w'):F.DD E (some ⟨h,0,none⟩) p n K w:=by
 unfold F.DD T0.DD;refine Ad (vs:=[.pointer (some ⟨h,0,none⟩)]) H fun b1 w2 H2 _=>Ad (vs:=[.int .u64 n]) H2 fun b3 w4 H4 _=>Ad (vs:=[.int .i64 0]) H4 fun O w6 H6 _=> ?_;have H7:=H6.front 3 rfl;have d: ∀{w'} {S':HS} {x:Int} {Y:List Pr},Sat (Aj E h S'::Cells O E.CK [.int .i64 x]::Cells b3 E.AJ [.int .u64 n]::Cells b1 E.BE [.pointer (some ⟨h,0,none⟩)]::Y) w'->
   w'.cell? (Addr.mk b1 0 none)=some (.pointer (some ⟨h,0,none⟩))/\w'.cell? (Addr.mk b3 0 none)=some (.int .u64 n)/\w'.cell? (Addr.mk O 0 none)=some (.int .i64 x):=fun q=>⟨(q.front 3 rfl).A2 rfl,(q.front 2 rfl).A2 rfl,(q.front 1 rfl).A2 rfl⟩
 have aT: ∀{w'} {S':HS} {x y:Int} {Y:List Pr} {K':World->Prop},Sat (Aj E h S'::Cells O E.CK [.int .i64 x]::Cells b3 E.AJ [.int .u64 n]::Cells b1 E.BE [.pointer (some ⟨h,0,none⟩)]::Y) w'->
   (∀aU,Sat (Aj E h S'::Cells O E.CK [.int .i64 y]::Cells b3 E.AJ [.int .u64 n]::Cells b1 E.BE [.pointer (some ⟨h,0,none⟩)]::Y) aU->K' aU)->stCells (Addr.mk O 0 none) 0 [.int .i64 y] w' K':=fun{w' S' x y Y K'} q hq=>by
  refine El (q.front 1 rfl) (o:=0) rfl (by simp) fun aU q'=>hq aU ?_;exact q'.perm (.swap _ _ _)
 have a2: ∀{w'} {S':HS} {x:Int},Sat (Aj E h S'::Cells O E.CK [.int .i64 x]::Cells b3 E.AJ [.int .u64 n]::Cells b1 E.BE [.pointer (some ⟨h,0,none⟩)]::Z) w'->Sat (Aj E h S'::Z) w':=fun{w' S' x} q=>by
  have q1:=(q.front 1 rfl).tail;have q2:=(q1.front 1 rfl).tail;exact(q2.front 1 rfl).tail
 have cF: ∀w',Sat (Cells O E.CK [.int .i64 0]::Cells b3 E.AJ [.int .u64 n]::Cells b1 E.BE [.pointer (some ⟨h,0,none⟩)]::Z) w'->GV E.AP w':=fun w' q=>hT w' q.tail.tail.tail;refine⟨_,(d H7).1,_,(d H7).2.1,?_⟩;have aJ: ∀page S1,MB S p n page S1->Al S1 (inr page n)->0<=page->page+n<=34359738368-> ∀x a3,Sat (Aj E h S1::Cells O E.CK [.int .i64 x]::Cells b3 E.AJ [.int .u64 n]::Cells b1 E.BE [.pointer (some ⟨h,0,none⟩)]::Z) a3->
  AL (.cells #[.int .u64 0] E.AJ) a3 fun J bH=>
  stCells (Addr.mk J 0 none) 0 [.int .u64 page] bH fun aG=>
  ∃aZ:(Option Addr),aG.drew.cell? (Addr.mk b1 0 none)=some (.pointer aZ)/\
  NC aZ fun bP=>
  ∃bK:(Option Addr),aG.drew.cell? bP=some (.pointer bK)/\
  ∃bC:Int,aG.drew.cell? (Addr.mk b3 0 none)=some (.int .u64 bC)/\
  F.Cn E bK page bC (fun b0 v=>
  v.cell? (Addr.mk b1 0 none)=some (.pointer aZ)/\
  CND ((b0:Int) !=0) (
   stCells (Addr.mk O 0 none) 0 [.int .i64 13] v fun b8=>
   F.BB E (some (Addr.mk O 0 none)) (some (Addr.mk b1 0 none)) (some (Addr.mk J 0 none)) (some (Addr.mk b3 0 none)) (fun a0=>
    ∃bJ:Int,a0.cell? (Addr.mk O 0 none)=some (.int .i64 bJ)/\
    K 0 bJ a0
   ) b8
  ) (
   stCells (Addr.mk O 0 none) 0 [.int .i64 0] v fun aP=>
   F.BB E (some (Addr.mk O 0 none)) (some (Addr.mk b1 0 none)) (some (Addr.mk J 0 none)) (some (Addr.mk b3 0 none)) (fun aN=>
    ∃aQ:Int,aN.cell? (Addr.mk O 0 none)=some (.int .i64 aQ)/\
    K page aQ aN
   ) aP
  )
  ) aG.drew:=by
  intro page S1 hk aA q0 q1 x a3 bL;have T:=bL.Bi;refine Ad (vs:=[.int .u64 0]) bL fun J bH bY _=>El bY (o:=0) rfl (by simp) fun aG b9=> ?_;have bS:Sat (Aj E h S1::Cells O E.CK [.int .i64 x]::Cells b3 E.AJ [.int .u64 n]::Cells b1 E.BE [.pointer (some ⟨h,0,none⟩)]::Cells J E.AJ [.int .u64 page]::Z) aG:=b9.perm ((Dm (l:=Aj E h S1::Cells O E.CK [.int .i64 x]::Cells b3 E.AJ [.int .u64 n]::Cells b1 E.BE [.pointer (some ⟨h,0,none⟩)]::Cells J E.AJ [.int .u64 page]::Z) (i:=4) rfl).symm);have aV:=bS.drew;obtain⟨m,R,c0,hm,hb⟩:=aV.fE;refine⟨_,(d aV).1,?_⟩;simp only[AI];refine⟨_,c0,_,(d aV).2.1,?_⟩;have a6: ∀{w'} {S':HS} {x:Int},Sat (Aj E h S'::Cells O E.CK [.int .i64 x]::Cells b3 E.AJ [.int .u64 n]::Cells b1 E.BE [.pointer (some ⟨h,0,none⟩)]::Cells J E.AJ [.int .u64 page]::Z) w'->w'.cell? (Addr.mk J 0 none)=some (.int .u64 page):=fun q=>(q.front 4 rfl).A2 rfl;have aF: ∀{w'} {S':HS} {x:Int},Sat (Aj E h S'::Cells O E.CK [.int .i64 x]::Cells b3 E.AJ [.int .u64 n]::Cells b1 E.BE [.pointer (some ⟨h,0,none⟩)]::Cells J E.AJ [.int .u64 page]::Z) w'->Sat (Aj E h S'::Z) w':=fun{w' S' x} q=>by
   have q1:=(q.front 1 rfl).tail;have q2:=(q1.front 1 rfl).tail;have q3:=(q2.front 1 rfl).tail;exact(q3.front 1 rfl).tail
  have bM: ∀q,page<=q->q<page+n->inr page n q=true:=fun q a b=>AR.2 ⟨a,b⟩;have aW:cnt S1.V.laid page (page+n)=n:=by
   have:=(DM T.vv.JA (a:=page) (b:=page+n) (by omega)).2 fun q a b=>(aA.la q).2 (aA.li q (bM q a b));omega
  have aK:=DM T.vv.KT (a:=page) (b:=page+n) (by omega);have C:cnt S1.V.ready page (page+n)=n↔IZ S1 page n:=⟨fun e=>aK.1 (by omega),fun e=>by have:=aK.2 e;omega⟩;have same:({S1 with V:=S1.V}:HS)=S1:=rfl;have aM: ∀S2 v,Made S1 page n S2->Al S2 (inr page n)->IZ S2 page n->Sat (Aj E h S2::Cells O E.CK [.int .i64 x]::Cells b3 E.AJ [.int .u64 n]::Cells b1 E.BE [.pointer (some ⟨h,0,none⟩)]::Cells J E.AJ [.int .u64 page]::Z) v->
    stCells (Addr.mk O 0 none) 0 [.int .i64 0] v fun aP=>
    F.BB E (some (Addr.mk O 0 none)) (some (Addr.mk b1 0 none)) (some (Addr.mk J 0 none)) (some (Addr.mk b3 0 none)) (fun aN=>
     ∃aQ:Int,aN.cell? (Addr.mk O 0 none)=some (.int .i64 aQ)/\
     K page aQ aN) aP:=by
   intro S2 v cG aD cD aB;refine aT aB fun aP aY=> ?_;unfold F.BB T0.BB;simp only[AI];exact⟨_,(d aY).2.2,Ac rfl ⟨_,(d aY).2.2,bQ page S2 ⟨S1,hk,cG⟩ aD q0 q1 cD aP (aF aY)⟩⟩
  refine VO hE.toEnvS hm q0 (by omega) (by omega) (by omega) (fun bE=>absurd ⟨by omega,q1⟩ bE) (fun _ hl=>absurd aW hl) (fun _ _ hr v bG=> ?_) (fun _ _ hr r a1 v aB=> ?_) fun _ _ hr a1 v aB=> ?_
  ·have aB:=aV.nothing bG;exact⟨(d aB).1,Ac rfl (aM S1 v (.inl ⟨C.1 hr,rfl⟩) aA (C.1 hr) aB)⟩
  ·have aR:=hb aB;refine⟨(d aR).1,AV rfl (aT aR fun a0 aL=> ?_)⟩;unfold F.BB T0.BB;simp only[AI];refine⟨_,(d aL).2.2,AV rfl ⟨_,(d aL).1,_,a6 aL,_,(d aL).2.1,?_⟩⟩;have aD:Al {S1 with V:={S1.V with rf:=r}} (inr page n):=aA.fC rfl rfl;refine Xc hE aL aD q0 n0 q1 fun cA cE a9=>⟨_,(d a9).2.2,?_⟩;exact bD _ (.inr ⟨S1,page,r,hk,fun e=>hr (C.2 e),a1,rfl⟩) cA cE (aF a9)
  ·have aR:=hb aB;have aD:Al {S1 with V:=HK S1.V page n} (inr page n):=aA.ND T q0 (by omega) q1 bM;exact⟨(d aR).1,Ac rfl (aM _ v (.inr ⟨fun e=>hr (C.2 e),a1,rfl⟩) aD (T4 T q0 (by omega) q1) aR)⟩
 refine aI hE cF H7 hI n0 n1 (fun page S1 hg aA q0 q1 bI aO=>An (Ac rfl fun j=>aJ page S1 (.inl hg) aA q0 q1 0 bI aO)) fun S0 ht bR bB bI aO=>An (AV rfl ⟨_,(d aO).1,_,(d aO).2.1,?_⟩);refine Xb hE aO bR n0 n1 (fun a8 hg aA bN b2 a4=> ?_) fun S2 b6 aD b2 a4=> ?_
 ·refine aT a4 fun bW aS=>⟨_,(d aS).2.2,Ac rfl ?_⟩;have aE:=aS.drew;have T:=aE.Bi;obtain⟨t,R,c1,bV,hb⟩:=aE.Vq;refine⟨_,(d aE).1,?_⟩;simp only[AI];refine⟨_,c1,_,(d aE).2.1,?_⟩;refine Qv hE.toEnvS bV (by omega) (by omega) (fun e=>by omega) (fun _ bF w' H'=> ?_) fun _ page hf b4 bZ=> ?_
  ·obtain⟨a,ha⟩:=bN;exact absurd ha (bF a)
  ·have a7:=hb bZ;exact⟨(d a7).1,fun j=>aJ page (a8.FC page n) (.inr ⟨S0,a8,ht,bB,hg,hf,rfl⟩) (aA.FC T hf.2.2.1) hf.1 hf.2.1 0 b4 a7⟩
 ·refine aT a4 fun bW aS=>⟨_,(d aS).2.2,AV rfl ?_⟩;have aE:=aS.drew;refine⟨_,(d aE).2.2,aT aE fun bX bA=>⟨_,(d bA).2.2,?_⟩⟩;exact bD S2 (.inl ⟨S0,ht,bB,b6⟩) aD bX (a2 bA)
theorem RM{page n:Int}{b:Nat}{I:SI}(H:Sat (Ed E b I::Aj E h S::Z) w)(hI:Al S (inr page n))(p0:0<=page)(n0:1<=n)(pb:page+n<=34359738368)(hr:IZ S page n)
  (i1:I.base=page*8192)(i2:I.AB=n)(i3:I.state≠0){K:Int->World->Prop}
  (hK: ∀id X,Next S id X->Al (S.DP id (b,I) page n X) no-> ∀w',Sat (Aj E h (S.DP id (b,I) page n X)::Z) w'->K id w'):F.Di E (some ⟨h,0,none⟩) (some ⟨b,0,none⟩) K w:=by
 have Bi:=(H.front 1 rfl:Sat (Aj E h S::_) w).Bi;have bQ:=hI.fb;obtain⟨g,aE,H0⟩:=Sat.heap.1 (H.front 1 rfl:Sat (Aj E h S::Ed E b I::Z) w);unfold F.Di T0.Di;simp only[AI];refine⟨_,(Ba (S:=S) (g:=g) H0).2.2.2.1,?_⟩;have y: ∀id X,Next S id X-> ∀w4,Sat (CH E h {S with fx:=X} g++(Ed E b I::Z)) w4->
   ∃x6:(Option Nat),w4.cell? ((Addr.mk h 0 none).add 4)=some (.map x6)/\
   R5 .i64 id (.pointer (some ⟨b,0,none⟩)) x6 w4 fun w7=>
   F.Dd E (some ⟨b,0,none⟩) (fun r8 r9 aW a7 aY a6 bB aZ a3 bC aS=>
   AL (.cells #[.int .u64 0,.int .i64 0,.int .i64 0,.int .i64 0,.bool false,.int .i64 0,.int .i64 0,.int .i64 0,.bool false,.bool false] E.E8) aS fun d aU=>
   stCells (Addr.mk d 0 none) 0 [.int .u64 r8,.int .i64 r9,.int .i64 aW,.int .i64 a7,.bool aY,.int .i64 a6,.int .i64 bB,.int .i64 aZ,.bool a3,.bool bC] aU fun v=>
   ∃aP:(Option Addr),v.drew.cell? ((Addr.mk h 0 none).add 2)=some (.pointer aP)/\
   ∃aC:Int,v.drew.cell? (Addr.mk d 0 none)=some (.int .u64 aC)/\
   8192≠(0:Int)/\
   ∃aD:Int,v.drew.cell? ((Addr.mk d 0 none).add 1)=some (.int .i64 aD)/\
   F.De E aP (u64 (Int.tdiv aC 8192)) (u64 (aD)) id (fun bT j=>
   j.cell? ((Addr.mk d 0 none).add 1)=some (.int .i64 aD)/\
   j.cell? (Addr.mk d 0 none)=some (.int .u64 aC)/\
   ∃aO:Int,j.drew.cell? ((Addr.mk h 0 none).add 70)=some (.int .u64 aO)/\
   ∃aT:Int,j.drew.cell? ((Addr.mk d 0 none).add 1)=some (.int .i64 aT)/\
   stCells ((Addr.mk h 0 none).add 70) 0 [.int .u64 (u64 (aO+(u64 (aT))))] j.drew fun aH=>
   K id aH
   ) v.drew
   ) w7:=by
  intro id X hX w4 H4;obtain⟨We,aG,a0⟩:=hX.live Bi hI;refine⟨_,(Ba (S:={S with fx:=X}) (g:=g) H4).2.2.2.2.1,Ta (H4.front 5 rfl) fun w7 H7=> ?_⟩;have e:(fun i=>if i=id then some (Value.pointer (some ⟨b,0,none⟩))else EG S.sp i)=EG fun i=>if i=id then some (b,I)else S.sp i:=funext fun i=>by
   unfold EG;by_cases q:i=id
   ·dsimp only;rw[if_pos q,if_pos q];rfl
   ·dsimp only;rw[if_neg q,if_neg q]
  have aQ:Sat (Ef g.sm .i64 (fun i=>if i=id then some (Value.pointer (some ⟨b,0,none⟩))else EG S.sp i)::(CH E h {S with fx:=X} g++(Ed E b I::Z)).eraseIdx 5) w7:=H7;rw[e]at aQ;have H8:Sat (Ed E b I::Ef g.sm .i64 (EG fun i=>if i=id then some (b,I)else S.sp i)::[Cells h E.Ae (Bm g S.hint S.AB),BR E g.m S.V,BI E g.t S.T,Bu E g.a S.ks S.own,GC E g.f X,Ap (JF E S.sp) g.ids,Ap (fun i:Nat=>A3 E (g.cb i) (S.ca i)) (List.range 64)]++Z) w7:=
   aQ.front 8 rfl
  refine KF H8 fun aS bD=> ?_;refine Ad (vs:=[.int .u64 0,.int .i64 0,.int .i64 0,.int .i64 0,.bool false,.int .i64 0,.int .i64 0,.int .i64 0,.bool false,.bool false]) bD fun d aU a2 _=> ?_;refine Jc (news:=[.int .u64 I.base,.int .i64 I.AB,.int .i64 I.state,.int .i64 I.cls,.bool I.I7,.int .i64 I.elem,.int .i64 I.Ar,.int .i64 I.used,.bool I.f8,.bool I.f9]) a2 rfl (by simp[Value.oneCell']) fun v aJ=> ?_;have aA:id∉g.ids:=fun q=>(aE.mem id).1 q aG;have C:Ap (JF E S.sp) g.ids=Ap (JF E fun i=>if i=id then some (b,I)else S.sp i) g.ids:=Ap.congr fun i hi=>by
   unfold JF;dsimp only;rw[if_neg fun q=>aA (by rw[<-q];exact hi)]
  have O:Ed E b I=JF E (fun i=>if i=id then some (b,I)else S.sp i) id:=by unfold JF;dsimp only;rw[if_pos rfl]
  generalize hsp:(fun i=>if i=id then some (b,I)else S.sp i)=sp' at aJ C O;have a4:Sat (Cells d E.E8 [.int .u64 I.base,.int .i64 I.AB,.int .i64 I.state,.int .i64 I.cls,.bool I.I7,.int .i64 I.elem,.int .i64 I.Ar,.int .i64 I.used,.bool I.f8,.bool I.f9]::(CH E h {S with fx:=X,sp:=sp'} {g with ids:=id::g.ids}++Z)) v:=by
   rw[C,O]at aJ;have q1:Sat (JF E sp' id::Ap (JF E sp') g.ids::[Cells d E.E8 [.int .u64 I.base,.int .i64 I.AB,.int .i64 I.state,.int .i64 I.cls,.bool I.I7,.int .i64 I.elem,.int .i64 I.Ar,.int .i64 I.used,.bool I.f8,.bool I.f9],Ef g.sm .i64 (EG sp'),Cells h E.Ae (Bm g S.hint S.AB),BR E g.m S.V,BI E g.t S.T,Bu E g.a S.ks S.own,GC E g.f X,Ap (fun i:Nat=>A3 E (g.cb i) (S.ca i)) (List.range 64)]++Z) v:=
    (aJ.front 1 rfl).DR 7 rfl
   have q2:=Sat.Lt.2 q1;refine q2.perm ?_;show List.Perm _ (Cells d E.E8 [.int .u64 I.base,.int .i64 I.AB,.int .i64 I.state,.int .i64 I.cls,.bool I.I7,.int .i64 I.elem,.int .i64 I.Ar,.int .i64 I.used,.bool I.f8,.bool I.f9]::([Cells h E.Ae (Bm g S.hint S.AB),BR E g.m S.V,BI E g.t S.T,Bu E g.a S.ks S.own,GC E g.f X,Ef g.sm .i64 (EG sp'),Ap (JF E sp') (id::g.ids),Ap (fun i:Nat=>A3 E (g.cb i) (S.ca i)) (List.range 64)]++Z));refine List.Perm.trans (.swap _ _ _) (.cons _ ?_);refine List.Perm.append_right (l₁:=[Ap (JF E sp') (id::g.ids),Ef g.sm .i64 (EG sp'),Cells h E.Ae (Bm g S.hint S.AB),BR E g.m S.V,BI E g.t S.T,Bu E g.a S.ks S.own,GC E g.f X,Ap (fun i:Nat=>A3 E (g.cb i) (S.ca i)) (List.range 64)]) Z ?_;refine List.Perm.trans (.swap _ _ _) ?_;refine List.Perm.trans (List.perm_middle (a:=Ef g.sm .i64 (EG sp')) (l₁:=[])|>.symm) ?_;have p1:List.Perm (Ef g.sm .i64 (EG sp')::Ap (JF E sp') (id::g.ids)::([Cells h E.Ae (Bm g S.hint S.AB),BR E g.m S.V,BI E g.t S.T,Bu E g.a S.ks S.own,GC E g.f X]++[Ap (fun i:Nat=>A3 E (g.cb i) (S.ca i)) (List.range 64)])) ([Cells h E.Ae (Bm g S.hint S.AB),BR E g.m S.V,BI E g.t S.T,Bu E g.a S.ks S.own,GC E g.f X]++(Ef g.sm .i64 (EG sp')::Ap (JF E sp') (id::g.ids)::[Ap (fun i:Nat=>A3 E (g.cb i) (S.ca i)) (List.range 64)])):=by
    refine List.Perm.trans (.cons _ List.perm_middle.symm) ?_;exact List.perm_middle.symm
   exact p1
  have J:=a4.drew;have hB: ∀{w'} {Y:List Pr},Sat (Cells d E.E8 [.int .u64 I.base,.int .i64 I.AB,.int .i64 I.state,.int .i64 I.cls,.bool I.I7,.int .i64 I.elem,.int .i64 I.Ar,.int .i64 I.used,.bool I.f8,.bool I.f9]::Y) w'->w'.cell? (Addr.mk d 0 none)=some (.int .u64 I.base)/\w'.cell? ((Addr.mk d 0 none).add 1)=some (.int .i64 I.AB):=fun q=>⟨q.A2 rfl,q.cell rfl⟩;have hA:=(Ba (S:={S with fx:=X,sp:=sp'}) (g:={g with ids:=id::g.ids}) J.tail).2.2.1;refine⟨_,hA,_,(hB J).1,by decide,_,(hB J).2,?_⟩;have e1:u64 (Int.tdiv I.base 8192)=page:=by rw[i1,Int.tdiv_eq_ediv_of_nonneg (by omega),show page*8192/8192=page by omega,AM]
  have e2:u64 I.AB=n:=by rw[i2,AM]
  rw[e1,e2];have aX:=J.front 4 rfl;refine Vc hE aX p0 (by omega) (by omega) (by omega) ⟨by omega,by omega,pb,fun q q1 q2=>(hI.ks q).2 (hI.li q (AR.2 ⟨q1,q2⟩))⟩ fun j a5=> ?_;have aF:Sat (Cells d E.E8 [.int .u64 I.base,.int .i64 I.AB,.int .i64 I.state,.int .i64 I.cls,.bool I.I7,.int .i64 I.elem,.int .i64 I.Ar,.int .i64 I.used,.bool I.f8,.bool I.f9]::(CH E h {S with fx:=X,sp:=sp',own:=fun p=>if page<=p/\p<page+n then id else S.own p} {g with ids:=id::g.ids}++Z)) j:=
   Sat.back (Ps:=Cells d E.E8 [.int .u64 I.base,.int .i64 I.AB,.int .i64 I.state,.int .i64 I.cls,.bool I.I7,.int .i64 I.elem,.int .i64 I.Ar,.int .i64 I.used,.bool I.f8,.bool I.f9]::(CH E h {S with fx:=X,sp:=sp'} {g with ids:=id::g.ids}++Z)) 4 a5 (by simp[CH])
  have aI:=aF.drew;have hP:=(Ba (S:={S with fx:=X,sp:=sp',own:=fun p=>if page<=p/\p<page+n then id else S.own p}) (g:={g with ids:=id::g.ids}) aI.tail).2.2.2.2.2.2.1;refine⟨(hB aF).2,(hB aF).1,_,hP,_,(hB aI).2,?_⟩;rw[e2];have bK:=hI.pg;have bP:=Jj fun p=>decide (0<S.own p);show stCells _ 0 [.int .u64 (u64 (S.AB+n))] _ _;rw[AM (n:=S.AB+n)];refine Ak aI.tail (o:=0) (m:=70) rfl (by rw[XV];decide) fun aH aM=> ?_;rw[Nat.zero_add,PO]at aM;have aR:=hI.DP Bi p0 (by omega) pb hr hX (x:=(b,I)) i1 i2 i3;refine hK id X hX aR aH (Sat.heap.2 ⟨{g with ids:=id::g.ids},⟨List.nodup_cons.2 ⟨aA,aE.nd⟩,fun i=> ?_⟩,?_⟩)
  ·show i∈id::g.ids↔(if i=id then some (b,I)else S.sp i)≠none;rw[List.mem_cons,aE.mem];by_cases q:i=id
   ·rw[if_pos q];exact⟨fun _ h=>(by cases h),fun _=>.inl q⟩
   ·rw[if_neg q];exact⟨fun h=>h.elim (fun h=>absurd h q) fun h=>h,.inr⟩
  ·subst hsp;exact aM
 have bk: ∀{X:FX} {w'},Sat (GC E g.f X::(CH E h S g++(Ed E b I::Z)).eraseIdx 4) w'->Sat (CH E h {S with fx:=X} g++(Ed E b I::Z)) w':=fun{X w'} q=>Sat.back (Ps:=CH E h S g++(Ed E b I::Z)) 4 q (by simp[CH]);refine XO (H0.front 4 rfl) (by omega) (fun hb w4 H4=> ?_) fun a r hb w4 H4=> ?_
 ·exact y _ _ (.inl ⟨hb,rfl,rfl⟩) w4 (bk H4)
 ·exact y _ _ (.inr ⟨a,r,hb,rfl,rfl⟩) w4 (bk H4)
theorem PT(hT: ∀w',Sat Z w'->GV E.AP w')(H:Sat (Aj E h S::Z) w)(hI:Al S no){p n c:Int}{np:Bool}(n0:0<=n)(n1:n<18446744073709551616){K:Int->Int->World->Prop}
  (aA:E7 0 n c-> ∀w',Sat (Aj E h S::Z) w'->K 0 1 w')
  (y: ¬E7 0 n c-> ∀S2,NF S p n S2->Al S2 no-> ∀w',Sat (Aj E h S2::Z) w'->K 0 13 w')
  (aC: ¬E7 0 n c-> ∀page S2 b id X,Found S p n page S2->Al S2 (inr page n)->0<=page->page+n<=34359738368->Next S2 id X->Al (S2.DP id (b,IX page n c np) page n X) no-> ∀w',Sat (Aj E h (S2.DP id (b,IX page n c np) page n X)::Z) w'->K id 0 w'):
  F.Ct E (some ⟨h,0,none⟩) p n c np K w:=by
 unfold F.Ct T0.Ct;refine Q9 H (by decide) n0 n1 (fun O w' H'=>AV rfl (aA O w' H')) fun d b0 w3 H3=>Ac rfl ?_;have hg:=d;unfold E7 at hg;have Y:1<=n/\n<=134217728:=by
  by_cases e:c=0
  ·omega
  ·have aJ:=KE (c:=c) (by omega) (by omega);omega
 refine RL hE hT H3.tail hI Y.1 Y.2 (fun page S2 hf j C q1 hr w6 H6=>Ac rfl ?_) fun S2 hl j w6 H6=>AV rfl (y d S2 hl j w6 H6);refine Q9 H6 C n0 n1 (fun O w' H'=> ?_) fun _ b w9 H9=> ?_
 ·exfalso;unfold E7 at O;omega
 ·refine RM hE H9 j C Y.1 q1 hr rfl rfl (by show(1:Int)≠0;decide) fun id X hX T J v=>aC d page S2 b id X hf j C q1 hX T J v
theorem Xd(H:Sat (Aj E h S::Z) w)(v:Al S no){id:Int}{K:Int->World->Prop}(a0:S.sp id=none->K 35 w)(aW: ∀x,S.sp id=some x->0<x.2.used->K 33 w)
  (a7: ∀x,∀a:Nat,S.sp id=some x-> ¬0<x.2.used->id=(a:Int)+1->Al (S.free a (x.2.base/8192) x.2.AB) no-> ∀w',Sat (Aj E h (S.free a (x.2.base/8192) x.2.AB)::Z) w'->K 0 w'):
  F.ER E (some ⟨h,0,none⟩) id K w:=by
 have Bi:=H.Bi;obtain⟨g,y,H⟩:=Sat.heap.1 H;unfold F.ER T0.ER;simp only[AI];refine⟨_,(Ba (S:=S) (g:=g) H).2.2.2.2.1,Of (H.front 5 rfl) fun es _=> ?_⟩;unfold EG;cases hs:S.sp id with
 | none=>exact⟨none,rfl,AV rfl (a0 hs)⟩
 | some x=>
  refine⟨some ⟨x.1,0,none⟩,rfl,Ac rfl ?_⟩;obtain⟨a,rfl,aT,a3⟩:=(v.sf id).1 (by rw[hs];exact fun h=>(by cases h));obtain⟨k1,k2,k3,k4,k5⟩:=v.sp _ x hs;have O:=v.free Bi hs;have hm:(a:Int)+1∈g.ids:=(y.mem _).2 (by rw[hs];exact fun h=>(by cases h));obtain⟨i,hi⟩:=List.mem_iff_getElem?.1 hm;have H1:=(H.front 6 rfl).Hs hi;have e:JF E S.sp ((a:Int)+1)=Ed E x.1 x.2:=by unfold JF;rw[hs]
  rw[e]at H1;refine XT H1 (fun aK=> ?_) fun aA w8 H8=>Ac rfl ?_
  ·rcases aK with q|q
   ·exact absurd q k4
   ·exact AV rfl (aW x hs q)
  refine KF H8 fun a2 a9=> ?_;have aI:=a9.tail;have d: ∀q,x.2.base/8192<=q->q<x.2.base/8192+x.2.AB->S.own q=(a:Int)+1:=k5;have aN:=v.ow (x.2.base/8192) (by rw[d _ (by omega) (by omega)];exact k1);have aB:=v.ow (x.2.base/8192+x.2.AB-1) (by rw[d _ (by omega) (by omega)];exact k1);have l0:=Bi.tv.Gn _ aN.1;have l1:=Bi.tv.Gn _ aB.1;generalize hsp:(fun i=>if i=(a:Int)+1 then none else S.sp i)=sp';have C:(a:Int)+1∉g.ids.eraseIdx i:=fun q=>by
   have C:=(Dm hi).nodup_iff.1 y.nd;exact(List.nodup_cons.1 C).1 q
  have aD:Ap (JF E S.sp) (g.ids.eraseIdx i)=Ap (JF E sp') (g.ids.eraseIdx i):=Ap.congr fun j hj=>by
   rw[<-hsp];unfold JF;dsimp only;rw[if_neg fun q=>C (by rw[<-q];exact hj)]
  rw[aD]at aI;have aE:Sat ([Cells h E.Ae (Bm g S.hint S.AB),BR E g.m S.V,BI E g.t S.T,Bu E g.a S.ks S.own,GC E g.f S.fx,Ef g.sm .i64 (EG S.sp),Ap (JF E sp') (g.ids.eraseIdx i),Ap (fun i:Nat=>A3 E (g.cb i) (S.ca i)) (List.range 64)]++Z) a2:=
   Sat.back (Ps:=[Cells h E.Ae (Bm g S.hint S.AB),BR E g.m S.V,BI E g.t S.T,Bu E g.a S.ks S.own,GC E g.f S.fx,Ef g.sm .i64 (EG S.sp),YB,Ap (fun i:Nat=>A3 E (g.cb i) (S.ca i)) (List.range 64)]++Z) 6 aI (by simp)
  refine Ad (vs:=[.int .u64 0,.int .i64 0,.int .i64 0,.int .i64 0,.bool false,.int .i64 0,.int .i64 0,.int .i64 0,.bool false,.bool false]) aE fun bH bC aE _=> ?_;refine Jc (news:=[.int .u64 x.2.base,.int .i64 x.2.AB,.int .i64 0,.int .i64 x.2.cls,.bool x.2.I7,.int .i64 x.2.elem,.int .i64 x.2.Ar,.int .i64 0,.bool x.2.f8,.bool x.2.f9]) aE rfl (by simp[Value.oneCell']) fun bE aZ=> ?_;have J:=aZ.drew;have hh: ∀{w'} {S':HS} {Y:List Pr},Sat (Cells h E.Ae (Bm g S'.hint S'.AB)::Y) w'->w'.cell? ((Addr.mk h 0 none).add 1)=some (.pointer (some ⟨g.t,0,none⟩))/\w'.cell? ((Addr.mk h 0 none).add 2)=some (.pointer (some ⟨g.a,0,none⟩))/\w'.cell? ((Addr.mk h 0 none).add 3)=some (.pointer (some ⟨g.f,0,none⟩))/\w'.cell? ((Addr.mk h 0 none).add 4)=some (.map (some g.sm))/\w'.cell? ((Addr.mk h 0 none).add 70)=some (.int .u64 S'.AB):=fun{w' S' Y} q=>
   ⟨(Ba (S:=S') (g:=g) q).2.1,(Ba (S:=S') (g:=g) q).2.2.1,(Ba (S:=S') (g:=g) q).2.2.2.1,(Ba (S:=S') (g:=g) q).2.2.2.2.1,(Ba (S:=S') (g:=g) q).2.2.2.2.2.2.1⟩
  refine⟨_,J.A2 rfl,by decide,_,J.cell rfl,_,(hh (S':=S) J.tail).2.1,?_⟩;have e1:u64 (Int.tdiv x.2.base 8192)=x.2.base/8192:=by rw[Int.tdiv_eq_ediv_of_nonneg (by omega),AM]
  have e2:u64 x.2.AB=x.2.AB:=AM;simp only[e1,e2];generalize hpg:x.2.base/8192=page at *
  generalize hn:x.2.AB=n at *
  have aU:=J.tail;refine Vc hE (aU.front 3 rfl) l0.1 (by omega) (by omega) (by omega) ⟨by omega,Int.le_refl 0,by omega,fun q q1 q2=>(v.ks q).2 (v.ow q (by rw[d q q1 q2];exact k1)).1⟩ fun a1 a4=> ?_;have aM:Sat ([Cells h E.Ae (Bm g S.hint S.AB),BR E g.m S.V,BI E g.t S.T,Bu E g.a S.ks (fun p=>if page<=p/\p<page+n then 0 else S.own p),GC E g.f S.fx,Ef g.sm .i64 (EG S.sp),Ap (JF E sp') (g.ids.eraseIdx i),Ap (fun i:Nat=>A3 E (g.cb i) (S.ca i)) (List.range 64)]++Z) a1:=
   Sat.back (Ps:=[Cells h E.Ae (Bm g S.hint S.AB),BR E g.m S.V,BI E g.t S.T,Bu E g.a S.ks S.own,GC E g.f S.fx,Ef g.sm .i64 (EG S.sp),Ap (JF E sp') (g.ids.eraseIdx i),Ap (fun i:Nat=>A3 E (g.cb i) (S.ca i)) (List.range 64)]++Z) 3 a4 (by simp)
  refine⟨_,(hh (S':=S) aM).1,?_⟩;refine On hE.toEnvS (aM.front 2 rfl) l0.1 (by omega) (by omega) (by omega) (fun hb w' H'=> ?_) (fun _ hex w' H'=> ?_) fun _ _ a5 aV=> ?_
  ·exact absurd ⟨by omega,by omega,fun m q1 q2=>(v.ow m (by rw[d m q1 q2];exact k1)).1⟩ hb
  ·obtain⟨m,q1,q2,q3⟩:=hex;have:=(v.ow m (by rw[d m q1 q2];exact k1)).2.1;rw[this]at q3;cases q3
  have aL:Sat ([Cells h E.Ae (Bm g S.hint S.AB),BR E g.m S.V,BI E g.t (S.T.JL page n),Bu E g.a S.ks (fun p=>if page<=p/\p<page+n then 0 else S.own p),GC E g.f S.fx,Ef g.sm .i64 (EG S.sp),Ap (JF E sp') (g.ids.eraseIdx i),Ap (fun i:Nat=>A3 E (g.cb i) (S.ca i)) (List.range 64)]++Z) a5:=
   Sat.back (Ps:=[Cells h E.Ae (Bm g S.hint S.AB),BR E g.m S.V,BI E g.t S.T,Bu E g.a S.ks (fun p=>if page<=p/\p<page+n then 0 else S.own p),GC E g.f S.fx,Ef g.sm .i64 (EG S.sp),Ap (JF E sp') (g.ids.eraseIdx i),Ap (fun i:Nat=>A3 E (g.cb i) (S.ca i)) (List.range 64)]++Z) 2 aV (by simp)
  refine⟨_,(hh (S':=S) aL).2.2.1,XP (aL.front 4 rfl) aT a3 fun aX a8=> ?_⟩;have aH:Sat ([Cells h E.Ae (Bm g S.hint S.AB),BR E g.m S.V,BI E g.t (S.T.JL page n),Bu E g.a S.ks (fun p=>if page<=p/\p<page+n then 0 else S.own p),GC E g.f ⟨S.fx.n,a::S.fx.bk⟩,Ef g.sm .i64 (EG S.sp),Ap (JF E sp') (g.ids.eraseIdx i),Ap (fun i:Nat=>A3 E (g.cb i) (S.ca i)) (List.range 64)]++Z) aX:=
   Sat.back (Ps:=[Cells h E.Ae (Bm g S.hint S.AB),BR E g.m S.V,BI E g.t (S.T.JL page n),Bu E g.a S.ks (fun p=>if page<=p/\p<page+n then 0 else S.own p),GC E g.f S.fx,Ef g.sm .i64 (EG S.sp),Ap (JF E sp') (g.ids.eraseIdx i),Ap (fun i:Nat=>A3 E (g.cb i) (S.ca i)) (List.range 64)]++Z) 4 a8 (by simp)
  have aO:0<=S.AB-n/\S.AB-n<18446744073709551616:=by
   have h1:=O.pgs;rw[show(S.free a page n).AB=S.AB-n from rfl]at h1;omega
  refine⟨_,(hh (S':=S) aH).2.2.2.2,?_⟩;rw[AM (n:=S.AB-n) aO.1 aO.2];refine Ak aH (o:=0) (m:=70) rfl (by rw[XV];decide) fun bJ aC=> ?_;rw[Nat.zero_add,PO]at aC;refine⟨_,(hh (S':={S with AB:=S.AB-n}) aC).2.2.2.1,Tb (aC.front 5 rfl) fun aR aY=> ?_⟩;have aP:=a7 x a hs (fun q=>aA (.inr q)) rfl;rw[hpg,hn]at aP;refine aP O aR (Sat.heap.2 ⟨{g with ids:=g.ids.eraseIdx i},⟨?_,fun j=> ?_⟩,?_⟩)
  ·exact(List.nodup_cons.1 ((Dm hi).nodup_iff.1 y.nd)).2
  ·show j∈g.ids.eraseIdx i↔(if j=(a:Int)+1 then none else S.sp j)≠none;by_cases q:j=(a:Int)+1
   ·rw[if_pos q,q];exact⟨fun h=>absurd h C,fun h=>absurd rfl h⟩
   ·rw[if_neg q,<-y.mem];have:=(Dm hi).mem_iff (a:=j);rw[this,List.mem_cons];exact⟨.inr,fun h=>h.elim (fun h=>absurd h q) fun h=>h⟩
  ·have em:(fun i=>if i=(a:Int)+1 then none else EG S.sp i)=EG sp':=funext fun j=>by
    rw[<-hsp];unfold EG;by_cases q:j=(a:Int)+1
    ·dsimp only;rw[if_pos q,if_pos q];rfl
    ·dsimp only;rw[if_neg q,if_neg q]
   have aJ:Sat (Ef g.sm .i64 (fun i=>if i=(a:Int)+1 then none else EG S.sp i)::([Cells h E.Ae (Bm g S.hint (S.AB-n)),BR E g.m S.V,BI E g.t (S.T.JL page n),Bu E g.a S.ks (fun p=>if page<=p/\p<page+n then 0 else S.own p),GC E g.f ⟨S.fx.n,a::S.fx.bk⟩,Ef g.sm .i64 (EG S.sp),Ap (JF E sp') (g.ids.eraseIdx i),Ap (fun i:Nat=>A3 E (g.cb i) (S.ca i)) (List.range 64)]++Z).eraseIdx 5) aR:=aY;rw[em]at aJ;have a6:=Sat.back (Ps:=[Cells h E.Ae (Bm g S.hint (S.AB-n)),BR E g.m S.V,BI E g.t (S.T.JL page n),Bu E g.a S.ks (fun p=>if page<=p/\p<page+n then 0 else S.own p),GC E g.f ⟨S.fx.n,a::S.fx.bk⟩,Ef g.sm .i64 (EG S.sp),Ap (JF E sp') (g.ids.eraseIdx i),Ap (fun i:Nat=>A3 E (g.cb i) (S.ca i)) (List.range 64)]++Z) 5 aJ (by simp);subst hsp;exact a6
end
end Go.Sh

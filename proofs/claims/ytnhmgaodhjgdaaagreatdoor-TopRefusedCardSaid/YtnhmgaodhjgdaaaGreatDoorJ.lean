/- What the law's functions do. No further condition. -/
import Derived.Test.YtnhmgaodhjgdaaaGreatDoorK
import Derived.Test.YtnhmgaodhjgdaaaGreatDoorA
import Derived.Test.YtnhmgaodhjgdaaaGreatDoorL
import Derived.Test.YtnhmgaodhjgdaaaGreatDoorQ
import Derived.Test.YtnhmgaodhjgdaaaGreatDoorH
set_option linter.all false
set_option maxRecDepth 50000
set_option maxHeartbeats 16000000
namespace Go.Sh
structure FN(E:Env):Prop extends EnvK E where
 of1: ∀x p1 p2 K w,F.Gc E x p1 p2 K w->E.call E.Kw #[.int .i64 x,.pointer p1,.pointer p2] w (λr w'=> ∃b,r= .bool b/\K b w') EW
 yH: ∀p (R:Value->World->Prop) w,F.Hx E p (λb w'=>R (.bool b) w') w->E.call E.Io #[.pointer p] w R EW
 rQ: ∀p (R:Value->World->Prop) w,F.Hh E p (λb w'=>R (.bool b) w') w->E.call E.Je #[.pointer p] w R EW
 Zr: ∀r t (R:Value->World->Prop) w,F.Ej E r t (λw'=>R (.tuple ⟨[]⟩) w') w->E.call E.Ep #[.pointer r,.pointer t] w R EW
 eA: ∀r t (R:Value->World->Prop) w,F.D5 E r t (λw'=>R (.tuple ⟨[]⟩) w') w->E.call E.GD #[.pointer r,.pointer t] w R EW
 rR: ∀r t (R:Value->World->Prop) w,F.FT E r t (λw'=>R (.tuple ⟨[]⟩) w') w->E.call E.Gr #[.pointer r,.pointer t] w R EW
 rT: ∀r t (R:Value->World->Prop) w,F.Ek E r t (λw'=>R (.tuple ⟨[]⟩) w') w->E.call E.Gs #[.pointer r,.pointer t] w R EW
 iM: ∀r t (R:Value->World->Prop) w,F.FU E r t (λw'=>R (.tuple ⟨[]⟩) w') w->E.call E.Fs #[.pointer r,.pointer t] w R EW
 yI: ∀r t (R:Value->World->Prop) w,F.El E r t (λw'=>R (.tuple ⟨[]⟩) w') w->E.call E.II #[.pointer r,.pointer t] w R EW
 one1: ∀r t (R:Value->World->Prop) w,F.Ff E r t (λw'=>R (.tuple ⟨[]⟩) w') EW w->E.call E.Iy #[.pointer r,.pointer t] w R EW
 yJ: ∀r t (R:Value->World->Prop) w,F.Ib E r t (λw'=>R (.tuple ⟨[]⟩) w') w->E.call E.IJ #[.pointer r,.pointer t] w R EW
 wt1: ∀r t (R:Value->World->Prop) w,F.Ic E r t (λw'=>R (.tuple ⟨[]⟩) w') w->E.call E.IK #[.pointer r,.pointer t] w R EW
 rU: ∀r t (R:Value->World->Prop) w,F.D7 E r t (λw'=>R (.tuple ⟨[]⟩) w') w->E.call E.Hb #[.pointer r,.pointer t] w R EW
 yK: ∀r t (R:Value->World->Prop) w,F.FV E r t (λw'=>R (.tuple ⟨[]⟩) w') w->E.call E.IL #[.pointer r,.pointer t] w R EW
def OU(l:List Nat)(f:Int):Nat:=(l.findIdx? λi:Nat=>decide ((i:Int)≥f)).getD 0
def Mk(S:Cr):Bool:=S.L.any λx=> !x.2.done
def NF(S:Cr):Bool:= !Mk S&&(S.ho== -1&& !S.T.any λx=>decide (x.2.tr>0))
section
variable{E:Env}{rb:Nat}{g:NW}{S:Cr}{Z:List Pr}{w:World}
def JR{P:Pr}(H:Sat (P::(AA E rb g S++Z)) w):Sat (AA E rb g S++P::Z) w:=H.perm (List.perm_middle (l₁:=AA E rb g S) (l₂:=Z)).symm
def QE{P:Pr}(H:Sat (AA E rb g S++P::Z) w):Sat (P::(AA E rb g S++Z)) w:=H.perm (List.perm_middle (l₁:=AA E rb g S) (l₂:=Z))
def Sq(H:Sat (AA E rb g S++Z) w)(hI:FM S){f:Int}{K:Int->Bool->World->Prop}(hK: ∀w',Sat (AA E rb g S++Z) w'->K (OU (TT S) f) (decide (((TT S).length:Int)>0)) w'):
  F.D9 E (some ⟨rb,0,none⟩) f K w:=by
 unfold F.D9 T0.D9;refine OT H hI λs w2 Y=> ?_;have aB:(TT S).length=s.len:=by
  have:=Y.Bs;rw[ints,List.length_map,List.length_map,Nat.mul_one]at this;exact this
 have hf:=hI.NN;have hle:(TT S).length<=S.T.length:=Nat.le_trans (List.length_filter_le ..) (by rw[List.length_range];exact Nat.le_refl _);refine AM (λst w'=> ∃k:Nat,st.1=(k:Int)/\k<=(TT S).length/\(∀(j i:Nat),(TT S)[j]? =some i->j<k->(i:Int)<f)/\w'=w2) (λst _=>(((TT S).length:Int)-st.1).toNat) ⟨0,rfl,Nat.zero_le _,λ_ _ _ c=>by omega,rfl⟩ ?_;rintro⟨k',u⟩ _ w3 ⟨k,hk,aG,hb,hw⟩;dsimp only at hk⊢;subst hk hw;refine AG (λaH=> ?_) λaF=> ?_
 .have J:k<(TT S).length:=by omega
  obtain⟨i,hi⟩: ∃i,(TT S)[k]? =some i:=⟨_,List.getElem?_eq_getElem J⟩;refine Y.Ol (j:=k) (v:=.int .i64 (i:Int)) (by rw[ints,List.getElem?_map,List.getElem?_map,hi];rfl) λa ha hc=>⟨⟨by omega,by omega⟩,_,by rw[Int.toNat_natCast,Nat.mul_one];exact hc,AG (λc=> ?_) λc=> ?_⟩
  .have:=hK _ Y.tail;rw[decide_eq_true (by omega)]at this;have e:OU (TT S) f=k:=by
    unfold OU;rw[List.findIdx?_eq_some_iff_getElem.2 ⟨J,?_,?_⟩]
    .rfl
    .rw[List.getElem?_eq_getElem J]at hi;rw[Option.some.inj hi];exact decide_eq_true c
    .intro j O;have:=hb j _ (List.getElem?_eq_getElem (by omega)) O;rw[decide_eq_false (by omega)];decide
   rwa[e]at this
  .rw[AI];refine⟨⟨k+1,rfl,by omega,λj m hm O=> ?_,rfl⟩,by omega⟩;rcases Nat.lt_or_ge j k with d|d
   .exact hb j m hm d
   .obtain rfl:j=k:=by omega
    rw[hi]at hm;cases hm;omega
 .have:=hK _ Y.tail;have e:OU (TT S) f=0:=by
   unfold OU;rw[List.findIdx?_eq_none_iff.2 ?_]
   .rfl
   .intro i hi;obtain⟨j,O⟩:=List.mem_iff_getElem?.1 hi;have:=hb j i O (by have:=(List.getElem?_eq_some_iff.1 O).1;omega);exact decide_eq_false (by omega)
  rw[e,aB]at this;exact this
variable(hE:FN E)
include hE
theorem VB(H:Sat (AA E rb g S++Z) w)(hI:FM S){K:Bool->World->Prop}(J:K (Mk S) w):F.Bl E (some ⟨rb,0,none⟩) K w:=by
 unfold F.Bl T0.Bl F.Aq T0.Aq F.DC;have hl:=(dZ H).Jp;have hf:=hI.NN;refine AH ⟨_,MM H (k:=4) rfl,AM (λst w'=> ∃k:Nat,st.1=(k:Int)/\k<=S.L.length/\(∀j x,S.L[j]? =some x->j<k->x.2.done=true)/\w'=w) (λst _=>((S.L.length:Int)-st.1).toNat) ⟨0,rfl,Nat.zero_le _,λ_ _ _ c=>by omega,rfl⟩ ?_⟩;rintro⟨k',u⟩ _ w3 ⟨k,hk,aE,Y,hw⟩;dsimp only at hk⊢;subst hk hw;refine AG (λaF=> ?_) λaD=> ?_
 .have v:k<S.L.length:=by omega
  obtain⟨x,m⟩: ∃x,S.L[k]? =some x:=⟨_,List.getElem?_eq_getElem v⟩;obtain⟨a,ha,hc⟩:=(dZ H).Ke m;refine E5 ha ⟨⟨by omega,by omega⟩,_,by rw[Int.toNat_natCast,Nat.mul_one];exact hc,hE.yH _ _ _ ?_⟩;unfold F.Hx;refine AH ⟨_,QD H m (k:=13) rfl,_,rfl,AY (λc=> ?_) λc=> ?_⟩
  .have e:Mk S=true:=List.any_eq_true.2 ⟨x,List.mem_of_getElem? m,c⟩;rw[e]at J;rw[decide_eq_true (by omega)];exact J
  .rw[AI];refine⟨⟨k+1,rfl,by omega,λj y T O=> ?_,rfl⟩,by omega⟩;rcases Nat.lt_or_ge j k with d|d
   .exact Y j y T d
   .obtain rfl:j=k:=by omega
    rw[m]at T;cases T;simpa using c
 .have e:Mk S=false:=List.any_eq_false.2 λx m=>by
   obtain⟨j,O⟩:=List.mem_iff_getElem?.1 m;rw[Y j x O (by have:=(List.getElem?_eq_some_iff.1 O).1;omega)];decide
  rw[e]at J;exact J
theorem Jr(H:Sat (AA E rb g S++Z) w)(hI:FM S){K:Bool->World->Prop}(e:K (NF S) w):F.Dz E (some ⟨rb,0,none⟩) K w:=by
 unfold F.Dz T0.Dz F.Am T0.Am F.Cn;unfold NF at e;refine VB hE H hI (AY (λc=> ?_) λc=> ?_)
 .rw[c,Bool.true_and]at e;refine AH ⟨_,MM H (k:=6) rfl,AY (λc2=> ?_) λc2=> ?_⟩
  .rw[show(S.ho== -1)=true from c2,Bool.true_and]at e;have hl:=(Xl H).Jp;have hf:=hI.NN;refine AH ⟨_,MM H (k:=2) rfl,AM (λst w'=> ∃k:Nat,st.1=(k:Int)/\k<=S.T.length/\(∀j x,S.T[j]? =some x->j<k->decide (x.2.tr>0)=false)/\w'=w) (λst _=>((S.T.length:Int)-st.1).toNat) ⟨0,rfl,Nat.zero_le _,λ_ _ _ c=>by omega,rfl⟩ ?_⟩;rintro⟨k',u⟩ _ w3 ⟨k,hk,aE,Y,hw⟩;dsimp only at hk⊢;subst hk hw;refine AG (λaF=> ?_) λaD=> ?_
   .have v:k<S.T.length:=by omega
    obtain⟨x,m⟩: ∃x,S.T[k]? =some x:=⟨_,List.getElem?_eq_getElem v⟩;obtain⟨a,ha,hc⟩:=(Xl H).Ke m;refine E5 ha ⟨⟨by omega,by omega⟩,_,by rw[Int.toNat_natCast,Nat.mul_one];exact hc,hE.rQ _ _ _ ?_⟩;unfold F.Hh;refine AH ⟨_,K6 H m (k:=3) rfl,_,rfl,AY (λc=> ?_) λc=> ?_⟩
    .rw[List.any_eq_true.2 ⟨x,List.mem_of_getElem? m,c⟩]at e;rw[decide_eq_true (by omega)];exact e
    .rw[AI];refine⟨⟨k+1,rfl,by omega,λj y O J=> ?_,rfl⟩,by omega⟩;rcases Nat.lt_or_ge j k with d|d
     .exact Y j y O d
     .obtain rfl:j=k:=by omega
      rw[m]at O;cases O;exact c
   .rw[List.any_eq_false.2 λx m=>by
     obtain⟨j,J⟩:=List.mem_iff_getElem?.1 m;rw[Y j x J (by have:=(List.getElem?_eq_some_iff.1 J).1;omega)];decide]at e
    exact e
  .rw[show(S.ho== -1)=false from c2,Bool.false_and]at e;exact e
 .rw[c,Bool.false_and]at e;exact e
end
def Cr.tk(S:Cr)(i:Nat)(x:Nat×Tk):Cr:={S with T:=S.T.set i x}
def Ak.rep(a:Ak)(ad nn co:Int):Ak:={a with ad:=ad,nn:=nn,co:=co,done:=true}
def Cr.done(S:Cr)(i:Nat)(x:Nat×Tk)(k:Nat)(y:Nat×Ak)(ad nn co:Int):Cr:=
 {S with T:=S.T.set i (x.1,{x.2 with step:=0}),L:=S.L.set k (y.1,y.2.rep ad nn co),ord:=S.ord++[(k:Int)]}
section
variable{E:Env}{rb:Nat}{g:NW}{S:Cr}{Z:List Pr}{w:World}
def Fy(H:Sat (AA E rb g S++Z) w){i:Nat}{x:Nat×Tk}(O:S.T[i]? =some x){m:Nat}{v:Value}(t':Tk)(u:(MC x.2).set m v=MC t')(J:m<9)(ho:v.oneCell'=true){K:World->Prop}
  (e: ∀w',Sat (AA E rb g (S.tk i (x.1,t'))++Z) w'->K w'):stCells ((Addr.mk x.1 0 none).add m) 0 [v] w K:=by
 obtain⟨Q,h1,_,d⟩:=(Xl H).wR O;refine rK h1 ho (by simpa[MC]using J) λw' a=>e w' ?_;rw[u]at a;exact Sat.back (Ps:=AA E rb g S++Z) 1 (d a) (by simp[AA])
def VC(H:Sat (AA E rb g S++Z) w){m:Nat}{v:Value}(e:m<11)(ho:v.oneCell'=true){K:World->Prop}
  (d: ∀w',Sat (Cells rb E.EY ((Ih g S.ho S.wo).set m v)::(AA E rb g S++Z).eraseIdx 0) w'->K w'):stCells ((Addr.mk rb 0 none).add m) 0 [v] w K:=by
 have H:Sat (Cells rb E.EY (Ih g S.ho S.wo)::(AA E rb g S++Z).eraseIdx 0) w:=H;exact Ah H ho (by simpa[Ih]using e) λw' a=>by rw[Nat.zero_add]at a;exact d w' a
def JS(H:Sat (AA E rb g S++Z) w){i k:Nat}{x:Nat×Tk}{y:Nat×Ak}(hx:S.T[i]? =some x)(hk:x.2.ask=(k:Int))(e:S.L[k]? =some y){K:Int->Int->Int->Int->Int->Int->Bool->Int->AW->AW->World->Prop}
  (hK: ∀w',Sat (AA E rb g S++Z) w'->K y.2.op y.2.p y.2.n 0 0 0 false 0 ⟨none,0,0⟩ y.2.set w'):F.FP E (some ⟨rb,0,none⟩) (some ⟨x.1,0,none⟩) K w:=by
 unfold F.FP;refine AJ (vs:=[.int .i64 0,.int .i64 0,.int .u64 0,.int .u64 0,.int .i64 0,.int .u64 0,.bool false,.int .i64 0,.slice none 0 0,.slice none 0 0]) H λb1 w2 Y _=> ?_;have J:=Y.drew;have d:=JR J;have hl:=(dZ H).Jp;have aE:=(List.getElem?_eq_some_iff.1 e).1;obtain⟨a,ha,hc⟩:=(dZ d).Ke e;refine AH ⟨_,MM d (k:=4) rfl,AH ⟨_,K6 d hx (k:=1) rfl,?_⟩⟩;rw[hk];refine E5 ha ⟨⟨by omega,by omega⟩,_,by rw[Int.toNat_natCast,Nat.mul_one];exact hc,AH ⟨_,QD d e (k:=0) rfl,_,QD d e (k:=1) rfl,_,QD d e (k:=2) rfl,_,QD d e (k:=3) rfl,_,QD d e (k:=4) rfl,_,QD d e (k:=5) rfl,_,QD d e (k:=6) rfl,_,QD d e (k:=7) rfl,⟨none,0,0⟩,QD d e (k:=8) rfl,y.2.set,QD d e (k:=9) rfl,?_⟩⟩;refine CN (news:=[.int .i64 y.2.op,.int .i64 y.2.p,.int .u64 y.2.n,.int .u64 0,.int .i64 0,.int .u64 0,.bool false,.int .i64 0,.slice none 0 0,FJ y.2.set]) J rfl (by intro v O;simp only[List.mem_cons,List.not_mem_nil,or_false]at O;rcases O with rfl|rfl|rfl|rfl|rfl|rfl|rfl|rfl|rfl|rfl<;>rfl) λw3 u=> ?_;exact⟨_,u.cell (o:=0) (m:=0) rfl,_,u.cell (o:=0) (m:=1) rfl,_,u.cell (o:=0) (m:=2) rfl,_,u.cell (o:=0) (m:=3) rfl,_,u.cell (o:=0) (m:=4) rfl,_,u.cell (o:=0) (m:=5) rfl,_,u.cell (o:=0) (m:=6) rfl,_,u.cell (o:=0) (m:=7) rfl,⟨none,0,0⟩,u.cell (o:=0) (m:=8) rfl,y.2.set,u.cell (o:=0) (m:=9) rfl,hK w3 u.tail⟩
def Js(H:Sat (AA E rb g S++Z) w)(aI:S.ord.length<1000000){i k:Nat}{x:Nat×Tk}{y:Nat×Ak}(hx:S.T[i]? =some x)(hk:x.2.ask=(k:Int))(hy:S.L[k]? =some y){ad nn co:Int}{K:World->Prop}
  (hK: ∀g' w',Sat (AA E rb g' (S.done i x k y ad nn co)++Z) w'->K w'):F.C6 E (some ⟨rb,0,none⟩) (some ⟨x.1,0,none⟩) ad nn co K w:=by
 unfold F.C6;refine AJ (vs:=[.int .u64 ad,.int .u64 nn,.int .i64 co]) H λb1 w2 H2 _=> ?_;have e:=H2.drew;have u:=JR e;have hl:=(dZ H).Jp;have aU:=(List.getElem?_eq_some_iff.1 hy).1;obtain⟨a,ha,hc⟩:=(dZ u).Ke hy;refine AH ⟨_,MM u (k:=4) rfl,AH ⟨_,K6 u hx (k:=1) rfl,?_⟩⟩;rw[hk];refine E5 ha ⟨⟨by omega,by omega⟩,_,by rw[Int.toNat_natCast,Nat.mul_one];exact hc,?_⟩;refine⟨_,e.cell (o:=0) (m:=0) rfl,_,e.cell (o:=0) (m:=1) rfl,_,e.cell (o:=0) (m:=2) rfl,AH ?_⟩;obtain⟨Q,h1,_,h2⟩:=(dZ (QE u).tail).wR hy;refine Qa [.int .u64 ad,.int .u64 nn,.int .i64 co] 10 0 h1 (by simp[ND]) (by intro v hv;simp only[List.mem_cons,List.not_mem_nil,or_false]at hv;rcases hv with rfl|rfl|rfl<;>rfl) λw3 H3=>AH (Ah H3 (o:=0) (m:=13) rfl (by simp[ND]) λw4 H4=> ?_);have d:Sat (AA E rb g {S with L:=S.L.set k (y.1,y.2.rep ad nn co)}++Z) w4.drew:=(Sat.back (Ps:=AA E rb g S++Z) 3 (h2 (y:=y.2.rep ad nn co) H4) (by simp[AA])).drew;refine AH ⟨_,MM d (k:=5) rfl,AH ⟨_,K6 d hx (k:=1) rfl,?_⟩⟩;refine AJ (vs:=[.int .i64 x.2.ask]) d λb6 w6 H6 _=>⟨MM (JR H6) (k:=5) rfl,?_⟩;have H7:=H6.Bh 4 rfl;have aA:=(d.front 4 rfl:Sat (Row E.Ag 1 g.os (ints .i64 S.ord)::_) _).Bs;rw[ints,List.length_map,Nat.mul_one]at aA;refine GJ (news:=[.int .i64 x.2.ask]) H7 rfl rfl (by simp[Value.oneCell']) (by omega) (by omega) λs8 w8 H8 _=>AH ?_;rw[hk,show ints .i64 S.ord++[Value.int .i64 (k:Int)]=ints .i64 (S.ord++[(k:Int)]) by simp[ints]]at H8;have H9:=Sat.back (Ps:=AA E rb g {S with L:=S.L.set k (y.1,y.2.rep ad nn co)}++Z) 4 H8 (by simp[AA]);refine Ah (b:=rb) (t:=E.EY) (vs:=Ih g S.ho S.wo) (F:=(AA E rb {g with os:=s8} {S with L:=S.L.set k (y.1,y.2.rep ad nn co),ord:=S.ord++[(k:Int)]}++Z).eraseIdx 0) (o:=0) (m:=5) H9 rfl (by simp[Ih]) λaD J=>AH ?_;have O:Sat (AA E rb {g with os:=s8} {S with L:=S.L.set k (y.1,y.2.rep ad nn co),ord:=S.ord++[(k:Int)]}++Z) aD:=J;exact Fy O hx (m:=2) {x.2 with step:=0} rfl (by decide) rfl λaE Y=>hK _ aE Y
end
def Cr.wV(S:Cr)(i:Nat)(x:Nat×Tk)(a:Nat)(s':AW)(l:List Int)(st:Int):Cr:=
 {S with T:=S.T.set i (x.1,{x.2 with ask:=(a:Int),sw:=0,step:=st}),Q:=S.Q.set i (s',l)}
def Beg(S:Cr)(i:Nat)(x:Nat×Tk)(S1:Cr):Prop:=(x.2.step≠0/\S1=S)∨(x.2.step=0/\ ∃s s' a l y,S.Q[i]? =some (s,((a:Nat):Int)::l)/\S.L[a]? =some y/\S1=S.wV i x a s' l (Gl y.2.op))
section
variable{E:Env}{rb:Nat}{g:NW}{S:Cr}{Z:List Pr}{w:World}
def VD{α β:Type}(f:α->β)(l:List α)(i:Nat)(y:α):(l.set i y).map f=(l.map f).set i (f y):=by simp[List.map_set]
def rnQ(H:Sat (AA E rb g S++Z) w){i:Nat}{x:AW×List Int}(a:S.Q[i]? =some x):
  Sat (NV E.Ag x.1 (ints .i64 x.2)::Row E.Jc 1 g.qs (S.Q.map λx=>FJ x.1)::Al (λx:AW×List Int=>NV E.Ag x.1 (ints .i64 x.2)) (S.Q.eraseIdx i)::(AA E rb g S++Z).eraseIdx 2) w:=by
 have h:=(Sat.star.1 (H.front 2 rfl:Sat (QL E g.qs S.Q::_) w)).front 1 rfl;exact(Sat.FO (R:=λx:AW×List Int=>NV E.Ag x.1 (ints .i64 x.2)) h a).Bh 1 rfl
def iN{i:Nat}{y:AW×List Int}(hi:i<S.Q.length)
  (H:Sat (NV E.Ag y.1 (ints .i64 y.2)::Row E.Jc 1 g.qs ((S.Q.set i y).map λx=>FJ x.1)::Al (λx:AW×List Int=>NV E.Ag x.1 (ints .i64 x.2)) (S.Q.eraseIdx i)::(AA E rb g S++Z).eraseIdx 2) w):Sat (AA E rb g {S with Q:=S.Q.set i y}++Z) w:=by
 have h1:=(Sat.Wq (R:=λx:AW×List Int=>NV E.Ag x.1 (ints .i64 x.2)) (y:=y) (H.Bh 1 rfl) hi).perm (.swap _ _ _);exact Sat.back (Ps:=AA E rb g S++Z) 2 (Sat.star.2 h1:Sat (QL E g.qs (S.Q.set i y)::_) w) (by simp[AA])
def rn_stQ(H:Sat (AA E rb g S++Z) w){i:Nat}{s:AW}{v:Int}{l:List Int}(d:S.Q[i]? =some (s,v::l)){a:Addr}(O:g.qs.base=some a){K:World->Prop}
  (J: ∀w',Sat (AA E rb g {S with Q:=S.Q.set i (⟨KH s.base s.cap 1 1,s.len-1,s.cap-1⟩,l)}++Z) w'->K w'):stCells (a.add (i*1)) 0 [.slice (KH s.base s.cap 1 1) (s.len-1) (s.cap-1)] w K:=by
 have hi:=(List.getElem?_eq_some_iff.1 d).1;have h1:=(rnQ H d).front 1 rfl;rw[Nat.mul_one];refine Km h1 (by rfl) (by rw[List.length_map];exact hi) O λe m=>J e ?_;have u:Sat (NV E.Ag s (.int .i64 v::ints .i64 l)::_) e:=m.front 1 rfl;refine iN hi (u.rM.perm ?_);rw[VD];exact List.Perm.refl _
def Xp(H:Sat (AA E rb g S++Z) w)(hI:FM S){i:Nat}{x:Nat×Tk}(d:S.T[i]? =some x){s:AW}{a:Nat}{l:List Int}(Y:S.Q[i]? =some (s,(a:Int)::l)){y:Nat×Ak}(hy:S.L[a]? =some y){K:World->Prop}
  (hK: ∀s' w',Sat (AA E rb g (S.wV i x a s' l (Gl y.2.op))++Z) w'->K w'):F.DW E (some ⟨rb,0,none⟩) (some ⟨x.1,0,none⟩) K w:=by
 unfold F.DW T0.DW;have hi:=(List.getElem?_eq_some_iff.1 Y).1;have hf:=hI.NN;have hn:=hI.tn;obtain⟨u,hu⟩: ∃y,S.T[S.Q.length]? =some y:=⟨_,List.getElem?_eq_getElem (by omega)⟩;obtain⟨z,hz⟩: ∃z,S.T[S.Q.length+1]? =some z:=⟨_,List.getElem?_eq_getElem (by omega)⟩;refine Jq H hu λw1 H1=>U9 H1 d hu (AO (lJ H1 d hu (by omega)) ?_);refine Sp H1 hI hz λw2 H2=>U9 H2 d hz (AO (lJ H2 d hz (by omega)) ?_);have v:=H2.drew;have J:=hI.ti i x d;have aM:=QC v;obtain⟨p,hp,hc⟩:=Xm v Y;obtain⟨aN,p0,aC,aB⟩:=Xn v Y;refine AH ⟨_,MM v (k:=3) rfl,AH ⟨_,Ll v d,AH ⟨_,MM v (k:=3) rfl,AH ⟨_,Ll v d,?_⟩⟩⟩⟩;rw[J];refine E5 hp ⟨⟨by omega,by omega⟩,s,by rw[Int.toNat_natCast,Nat.mul_one];exact hc,E5 aC ⟨⟨by decide,by omega⟩,_,aB,?_⟩⟩;refine AH ⟨_,MM v (k:=3) rfl,AH ⟨_,Ll v d,?_⟩⟩;rw[J];refine E5 hp ⟨⟨by omega,by omega⟩,s,by rw[Int.toNat_natCast,Nat.mul_one];exact hc,⟨by decide,by omega⟩,AH ?_⟩;refine Fy v d (m:=1) {x.2 with ask:=(a:Int)} rfl (by decide) rfl λw3 H3=> ?_;have aD:(S.tk i (x.1,{x.2 with ask:=(a:Int)})).T[i]? =some (x.1,{x.2 with ask:=(a:Int)}):=by
  show(S.T.set i _)[i]? =_;rw[List.getElem?_set_self (List.getElem?_eq_some_iff.1 d).1]
 refine E5 hp ⟨⟨by omega,by omega⟩,?_⟩;rw[Int.toNat_natCast];refine rn_stQ (S:=S.tk i (x.1,{x.2 with ask:=(a:Int)})) H3 Y hp λw4 H4=>AH ?_;refine Fy H4 aD (m:=8) {x.2 with ask:=(a:Int),sw:=0} rfl (by decide) rfl λw5 H5=> ?_;have O:(Cr.tk {S.tk i (x.1,{x.2 with ask:=(a:Int)})with Q:=S.Q.set i (⟨KH s.base s.cap 1 1,s.len-1,s.cap-1⟩,l)} i (x.1,{x.2 with ask:=(a:Int),sw:=0})).T[i]? =some (x.1,{x.2 with ask:=(a:Int),sw:=0}):=by
  show((S.T.set i _).set i _)[i]? =_;rw[List.getElem?_set_self (by rw[List.length_set];exact(List.getElem?_eq_some_iff.1 d).1)]
 refine JS H5 O (k:=a) rfl hy λw6 H6=>U8 (AH ?_);refine Fy H6 O (m:=2) {x.2 with ask:=(a:Int),sw:=0,step:=Gl y.2.op} rfl (by decide) rfl λw7 H7=>hK ⟨KH s.base s.cap 1 1,s.len-1,s.cap-1⟩ w7 ?_;have e:Cr.tk (Cr.tk {S.tk i (x.1,{x.2 with ask:=(a:Int)})with Q:=S.Q.set i (⟨KH s.base s.cap 1 1,s.len-1,s.cap-1⟩,l)} i (x.1,{x.2 with ask:=(a:Int),sw:=0})) i (x.1,{x.2 with ask:=(a:Int),sw:=0,step:=Gl y.2.op})=S.wV i x a ⟨KH s.base s.cap 1 1,s.len-1,s.cap-1⟩ l (Gl y.2.op):=by
  simp[Cr.tk,Cr.wV]
 exact(congrArg (λs=>Sat (AA E rb g s++Z) w7) e).mp H7
def Zs(E:Env)(rb:Nat)(g:NW)(Z:List Pr)(S1:Cr)(p:Nat)(st:Int)(d:Cr->Prop):Prop:= ∃f,(st,f)∈Im E/\ ∀(R:Value->World->Prop) Z' w',(∀w',Sat Z' w'->Sat Z w')->Sat (AA E rb g S1++Z') w'->
 (∀e S' a,d S'->Sat (AA E rb e S'++Z') a->R (.tuple ⟨[]⟩) a)->E.call f #[.pointer (some ⟨rb,0,none⟩),.pointer (some ⟨p,0,none⟩)] w' R EW
def WS(hE:FN E)(H:Sat (AA E rb g S++Z) w)(hI:FM S){pick:Int}{i j:Nat}(hj:(TT S)[j]? =some i)(hp:Int.tmod (i64 (Int.tmod pick ((TT S).length:Int)+((TT S).length:Int))) ((TT S).length:Int)=(j:Int)){x:Nat×Tk}(hx:S.T[i]? =some x)
  (aG:x.2.step=0-> ∃s a l y,S.Q[i]? =some (s,((a:Nat):Int)::l)/\S.L[a]? =some y)(O:Cr->Prop)(hR: ∀S',O S'-> ∃t',S'.T[i]? =some (x.1,t')/\t'.n=(i:Int))
  (aA: ∀S1 u,Beg S i x S1->S1.T[i]? =some u->u.1=x.1->Zs E rb g Z S1 x.1 u.2.step O){K:Int->Int->World->Prop}
  (hK: ∀g' S' w',O S'->Sat (AA E rb g' S'++Z) w'->K i 0 w'):F.FB E (some ⟨rb,0,none⟩) pick K w:=by
 unfold F.FB T0.FB;have bK:=hI.ti i x hx;have aZ:=(List.getElem?_eq_some_iff.1 hx).1;have bJ:=(List.getElem?_eq_some_iff.1 hj).1;refine AJ (vs:=[.pointer (some ⟨rb,0,none⟩)]) H λb1 w2 H2 _=>AJ (vs:=[.int .i64 0]) H2 λb3 w4 H4 _=>⟨_,(H4.front 1 rfl:Sat (Cells b1 E.Cu [.pointer (some ⟨rb,0,none⟩)]::_) w4).AU rfl,?_⟩;have mv: ∀{A B:Pr} {L Y:List Pr} {w'},Sat (A::B::(L++Y)) w'->Sat (L++A::B::Y) w':=λh=>h.perm ((List.perm_middle.trans (List.perm_middle.cons _)).symm);have H5:Sat (AA E rb g S++Cells b3 E.Ag [.int .i64 0]::Cells b1 E.Cu [.pointer (some ⟨rb,0,none⟩)]::Z) w4:=mv H4;have sub: ∀w',Sat (Cells b3 E.Ag [.int .i64 0]::Cells b1 E.Cu [.pointer (some ⟨rb,0,none⟩)]::Z) w'->Sat Z w':=λw' h=>h.tail.tail;refine OT H5 hI λs w6 H6=> ?_;have H7:=JR H6;have a1:(TT S).length=s.len:=by
  have:=H6.Bs;rw[ints,List.length_map,List.length_map,Nat.mul_one]at this;exact this
 refine⟨_,(H7.front 14 rfl:Sat (Cells b1 E.Cu [.pointer (some ⟨rb,0,none⟩)]::_) w6).AU rfl,AH ⟨_,G7 H7,Kf (H7.front 6 rfl) (AO rfl ?_)⟩⟩;have aI:((((s.len:Nat):Int):Int)==0)=false:=by simp;omega
 refine AZ (AO aI λjj=>AO rfl (AO aI ?_));have Hd:=H7.drew;refine⟨_,(Hd.front 14 rfl:Sat (Cells b1 E.Cu [.pointer (some ⟨rb,0,none⟩)]::_) _).AU rfl,AH ⟨_,MM Hd (k:=2) rfl,by omega,by omega,?_⟩⟩;rw[<-a1,hp];have v:=QE Hd;obtain⟨a,ha⟩:=v.own.Gj (by omega);have hv:(ints .i64 ((TT S).map λi:Nat=>(i:Int)))[j]? =some (.int .i64 (i:Int)):=by rw[ints,List.getElem?_map,List.getElem?_map,hj];rfl
 obtain⟨q,hq,aV⟩:=(Xl Hd).Ke hx;have hl:=(Xl Hd).Jp;refine E5 ha ⟨⟨by omega,by omega⟩,_,by rw[Int.toNat_natCast,Nat.mul_one];exact v.own.cell ha hv,E5 hq ⟨⟨by omega,by omega⟩,_,by rw[Int.toNat_natCast,Nat.mul_one];exact aV,?_⟩⟩;refine AJ (vs:=[.pointer none]) Hd λm w8 H8 _=> ?_;have H9:=JR H8;obtain⟨q',aJ,aH⟩:=(Xl H9).Ke hx;rw[hq]at aJ;cases aJ;refine⟨by rw[Int.toNat_natCast,Nat.mul_one];exact aH,by rw[Int.toNat_natCast,Nat.mul_one];exact(H9.front 13 rfl:Sat (Row E.Ag 1 s _::_) w8).own.cell ha hv,MM H9 (k:=2) rfl,(H9.front 15 rfl:Sat (Cells b1 E.Cu [.pointer (some ⟨rb,0,none⟩)]::_) _).AU rfl,?_⟩;refine BT (H9.front 12 rfl) rfl (by decide) λaO aR=> ?_;have e:Sat (AA E rb g S++Cells m E.CI [.pointer (some ⟨x.1,0,none⟩)]::Cells b3 E.Ag [.int .i64 0]::Cells b1 E.Cu [.pointer (some ⟨rb,0,none⟩)]::Z) aO:=(JR aR|>λh=>h.perm (List.Perm.refl _):Sat (AA E rb g S++Cells m E.CI [.pointer (some ⟨x.1,0,none⟩)]::Row E.Ag 1 s _::Cells b3 E.Ag [.int .i64 0]::Cells b1 E.Cu [.pointer (some ⟨rb,0,none⟩)]::Z) aO)|>λh=>(h.front 13 rfl).tail;have aN: ∀w',Sat (Cells m E.CI [.pointer (some ⟨x.1,0,none⟩)]::Cells b3 E.Ag [.int .i64 0]::Cells b1 E.Cu [.pointer (some ⟨rb,0,none⟩)]::Z) w'->Sat Z w':=λw' h=>h.tail.tail.tail;refine AV (λ_ w'=> ∃S1 u,Beg S i x S1/\S1.T[i]? =some u/\u.1=x.1/\Sat (AA E rb g S1++Cells m E.CI [.pointer (some ⟨x.1,0,none⟩)]::Cells b3 E.Ag [.int .i64 0]::Cells b1 E.Cu [.pointer (some ⟨rb,0,none⟩)]::Z) w') ?_ ?_
 .refine⟨_,(e.front 12 rfl:Sat (Cells m E.CI [.pointer (some ⟨x.1,0,none⟩)]::_) _).AU rfl,AH ⟨_,K6 e hx (k:=2) rfl,Cj (λc=> ?_) λc=>⟨S,x,.inl ⟨c,rfl⟩,hx,rfl,e⟩⟩⟩;obtain⟨s0,a0,l0,y0,aK,aM⟩:=aG c;refine⟨_,(e.front 14 rfl:Sat (Cells b1 E.Cu [.pointer (some ⟨rb,0,none⟩)]::_) _).AU rfl,_,(e.front 12 rfl:Sat (Cells m E.CI [.pointer (some ⟨x.1,0,none⟩)]::_) _).AU rfl,?_⟩;refine Xp e hI hx aK aM λs' w' H'=>⟨_,_,.inr ⟨c,s0,s',a0,l0,y0,aK,aM,rfl⟩,List.getElem?_set_self aZ,rfl,H'⟩
 .rintro _ _ bM ⟨S1,u,hb,aL,he,aS⟩;have d:=aS.drew;obtain⟨f,hf,aA⟩:=aA S1 u hb aL he;have a2:=(Sat.ex.1 (d.front 5 rfl:Sat (WR E g.sm::_) _));obtain⟨gg,aX⟩:=a2;obtain⟨aW,aY⟩:=Sat.where.1 aX;refine⟨_,(d.front 14 rfl:Sat (Cells b1 E.Cu [.pointer (some ⟨rb,0,none⟩)]::_) _).AU rfl,AH ⟨_,MM d (k:=10) rfl,_,(d.front 12 rfl:Sat (Cells m E.CI [.pointer (some ⟨x.1,0,none⟩)]::_) _).AU rfl,AH ⟨u.2.step,by rw[<-he];exact K6 d aL (k:=2) rfl,MG aY λes _=> ?_⟩⟩⟩;rw[aW _ hf];refine⟨_,rfl,_,(d.front 14 rfl:Sat (Cells b1 E.Cu [.pointer (some ⟨rb,0,none⟩)]::_) _).AU rfl,_,(d.front 12 rfl:Sat (Cells m E.CI [.pointer (some ⟨x.1,0,none⟩)]::_) _).AU rfl,?_⟩;refine aA _ (Cells m E.CI [.pointer (some ⟨x.1,0,none⟩)]::Cells b3 E.Ag [.int .i64 0]::Cells b1 E.Cu [.pointer (some ⟨rb,0,none⟩)]::Z) _ aN d λg' S' bL Bz J=>⟨rfl,?_⟩;obtain⟨t',a3,a4⟩:=hR S' Bz;refine⟨_,(J.front 12 rfl:Sat (Cells m E.CI [.pointer (some ⟨x.1,0,none⟩)]::_) _).AU rfl,AH ⟨_,Ll (x:=(x.1,t')) J a3,?_⟩⟩;refine BT (J.front 13 rfl) rfl (by decide) λaC aE=> ?_;unfold F.FQ T0.FQ;refine⟨rfl,Aa rfl ⟨_,aE.AU rfl,?_⟩⟩;show K t'.n 0 aC;rw[a4];have aT:Sat (AA E rb g' S'++Cells m E.CI [.pointer (some ⟨x.1,0,none⟩)]::Cells b1 E.Cu [.pointer (some ⟨rb,0,none⟩)]::Z) aC:=aE.tail;exact hK g' S' aC Bz ((aT.front 12 rfl).tail.front 12 rfl).tail
end
def Ak.new(op p n:Int)(set:AW):Ak:=⟨op,p,n,set,0,0,0,false⟩
def Cr.asked(S:Cr)(i:Nat)(s':AW)(l:List Int)(b:Nat)(a:Ak):Cr:={S with L:=S.L++[(b,a)],Q:=S.Q.set i (s',l++[(S.L.length:Int)])}
section
variable{E:Env}{rb:Nat}{g:NW}{S:Cr}{Z:List Pr}{w:World}
def PX{K:AW->World->Prop}(a:K ⟨none,0,0⟩ w):F.As E ⟨none,0,0⟩ K w:=by
 unfold F.As;exact Aa rfl a
def Ve{Y:List Pr}(H:Sat Y w){a:AW}(J:a.base.isNone=false){vs:List Int}(hr: ∀w',Sat Y w'->rowAt w' a.base (a.len*1) (ints .u64 vs))(O:vs.length=a.len)(T:a.len<=1000000){K:AW->World->Prop}(u: ∀s' w',Sat (Row E.AE 1 s' (ints .u64 vs)::Y) w'->K s' w'):F.As E a K w:=by
 unfold F.As;refine AO J (Lw (t:=E.AE) (n:=0) (z:=1) (vs:=[]) H rfl (by decide) λb1 w2 d=> ?_);refine Om d rfl (hr w2 d.tail) (by rw[ints,List.length_map,O,Nat.mul_one]) (by intro v e;rw[ints,List.mem_map]at e;obtain⟨x,_,rfl⟩:=e;rfl) (by show(0+a.len)*8<=_;omega) (by show 0+a.len<=_;omega) λs' w' m _=>u s' w' m
def QF(H:Sat (AA E rb g S++Z) w)(hI:FM S){op p n:Int}{set:AW}{i:Nat}(hp:p=(i:Int)){q:AW×List Int}(hq:S.Q[i]? =some q)(a6:1<=op/\op<=9)(hf:S.L.length<999999/\q.2.length<999999)(X:AW->List Pr)
  (aT: ∀(Y:List Pr) (w':World) (K:AW->World->Prop),Sat (Y++Z) w'->(∀s' aF,Sat (Y++(X s'++Z)) aF->K s' aF)->F.As E set K w'){K:Int->Int->World->Prop}
  (hK: ∀g' s1 s' b w',FM (S.asked i s' q.2 b (.new op p n s1))->Sat (AA E rb g' (S.asked i s' q.2 b (.new op p n s1))++(X s1++Z)) w'->K (S.L.length:Int) 0 w'):F.Es E (some ⟨rb,0,none⟩) op p n 0 0 0 false 0 ⟨none,0,0⟩ set K w:=by
 subst hp;unfold F.Es T0.Es;have hi:=(List.getElem?_eq_some_iff.1 hq).1;have a7:=QC H;have a5:=(dZ H).Jp;have aY:=hI.NN;refine AJ (vs:=[.int .i64 op,.int .i64 (i:Int),.int .u64 n,.int .u64 0,.int .i64 0,.int .u64 0,.bool false,.int .i64 0,.slice none 0 0,FJ set]) H λb1 w2 H2 _=>AH ⟨_,G7 (JR H2),Kf ((JR H2).front 6 rfl) (AO rfl ?_)⟩;have J:=H2.drew;refine AZ ⟨_,J.cell (o:=0) (m:=1) rfl,AO (decide_eq_false (by omega)) ⟨_,J.cell (o:=0) (m:=1) rfl,AH ⟨_,MM (JR J) (k:=3) rfl,AO (decide_eq_false (by omega)) ⟨_,J.AU (o:=0) rfl,AO (decide_eq_false (by omega)) ⟨_,J.AU (o:=0) rfl,λjj=> ?_⟩⟩⟩⟩⟩;refine AO (decide_eq_false (by omega)) ⟨⟨none,0,0⟩,by rw[add_add];exact J.cell (o:=0) (m:=8) rfl,?_⟩;unfold F.CM;refine Aa rfl ?_;rw[add_add];refine Ah J (o:=0) (m:=8) (v:=.slice none 0 0) rfl (by simp) λw3 H3=> ?_;refine⟨set,H3.cell (o:=0) (m:=9) rfl,aT (Cells b1 E.Bu _::AA E rb g S) w3 _ H3 λs1 w4 H4=> ?_⟩;refine Ah H4 (o:=0) (m:=9) (v:=.slice s1.base s1.len s1.cap) rfl (by simp) λw5 u=> ?_;have u:Sat (Cells b1 E.Bu [.int .i64 op,.int .i64 (i:Int),.int .u64 n,.int .u64 0,.int .i64 0,.int .u64 0,.bool false,.int .i64 0,.slice none 0 0,FJ s1]::(AA E rb g S++(X s1++Z))) w5.drew:=u.drew;refine AH ⟨_,MM (JR u) (k:=4) rfl,_,u.cell (o:=0) (m:=0) rfl,_,u.cell (o:=0) (m:=1) rfl,_,u.cell (o:=0) (m:=2) rfl,_,u.cell (o:=0) (m:=3) rfl,_,u.cell (o:=0) (m:=4) rfl,_,u.cell (o:=0) (m:=5) rfl,_,u.cell (o:=0) (m:=6) rfl,_,u.cell (o:=0) (m:=7) rfl,⟨none,0,0⟩,u.cell (o:=0) (m:=8) rfl,s1,u.cell (o:=0) (m:=9) rfl,?_⟩;have cells: ∀{Y:List Pr} {w'},Sat (Cells b1 E.Bu [.int .i64 op,.int .i64 (i:Int),.int .u64 n,.int .u64 0,.int .i64 0,.int .u64 0,.bool false,.int .i64 0,.slice none 0 0,FJ s1]::Y) w'->
  (w'.cell? ((Addr.mk b1 0 none).add 0)=some (.int .i64 op)/\(w'.cell? ((Addr.mk b1 0 none).add 1)=some (.int .i64 (i:Int))/\(w'.cell? ((Addr.mk b1 0 none).add 2)=some (.int .u64 n)/\(w'.cell? ((Addr.mk b1 0 none).add 3)=some (.int .u64 0)/\(w'.cell? ((Addr.mk b1 0 none).add 4)=some (.int .i64 0)/\(w'.cell? ((Addr.mk b1 0 none).add 5)=some (.int .u64 0)/\(w'.cell? ((Addr.mk b1 0 none).add 6)=some (.bool false)/\(w'.cell? ((Addr.mk b1 0 none).add 7)=some (.int .i64 0)/\(w'.cell? ((Addr.mk b1 0 none).add 8)=some (.slice none 0 0)/\(w'.cell? ((Addr.mk b1 0 none).add 9)=some (.slice s1.base s1.len s1.cap)/\True)))))))))):=λh=>
  ⟨h.cell (o:=0) (m:=0) rfl,h.cell (o:=0) (m:=1) rfl,h.cell (o:=0) (m:=2) rfl,h.cell (o:=0) (m:=3) rfl,h.cell (o:=0) (m:=4) rfl,h.cell (o:=0) (m:=5) rfl,h.cell (o:=0) (m:=6) rfl,h.cell (o:=0) (m:=7) rfl,h.cell (o:=0) (m:=8) rfl,h.cell (o:=0) (m:=9) rfl,trivial⟩
 refine AJ (vs:=ND (.new op (i:Int) n s1)) u λb6 w6 H6 _=> ?_;refine⟨cells (H6.front 1 rfl),MM H6.tail.tail (k:=4) rfl,?_⟩;refine AJ (vs:=[pv b6]) H6 λb7 w7 H7 _=> ?_;refine⟨cells (H7.front 2 rfl),MM H7.tail.tail.tail (k:=4) rfl,?_⟩;have H8:=(H7.front 6 rfl).perm ((List.Perm.swap _ _ _).trans ((List.Perm.swap _ _ _).cons _));refine dY (R:=λb a=>Cells b E.MY (ND a)) (y:=.new op (i:Int) n s1) H8 rfl (by omega) λs9 w9 H9=> ?_;refine⟨cells (H9.front 1 rfl),AH ?_⟩;have aU:=H9.Jp;rw[List.length_append,List.length_singleton]at aU;refine Ah (b:=rb) (t:=E.EY) (vs:=Ih g S.ho S.wo) (o:=0) (m:=4) (v:=.slice s9.base s9.len s9.cap) (H9.front 2 rfl) rfl (by simp[Ih]) λaW aJ=>AH ?_;have aC:Sat (Cells b1 E.Bu [.int .i64 op,.int .i64 (i:Int),.int .u64 n,.int .u64 0,.int .i64 0,.int .u64 0,.bool false,.int .i64 0,.slice none 0 0,FJ s1]::(AA E rb {g with ks:=s9} {S with L:=S.L++[(b6,Ak.new op (i:Int) n s1)]}++(X s1++Z))) aW:=
  Sat.back (Ps:=Cells b1 E.Bu [.int .i64 op,.int .i64 (i:Int),.int .u64 n,.int .u64 0,.int .i64 0,.int .u64 0,.bool false,.int .i64 0,.slice none 0 0,FJ s1]::(AA E rb {g with ks:=s9} S++(X s1++Z))) 4 (aJ.perm ((List.Perm.swap _ _ _).trans ((List.Perm.swap _ _ _).cons _))) (by simp[AA])
 refine⟨_,MM aC.tail (k:=4) rfl,Ac λN hN=>AH ?_⟩;have hN:N=(S.L.length:Int):=by
  rw[hN];show i64 (((s9.len:Nat):Int)-1)=_;rw[AI];omega
 subst hN;have J:=aC.drew;obtain⟨a,ha,hc⟩:=Xm J.tail hq;refine⟨_,MM J.tail (k:=3) rfl,_,J.cell (o:=0) (m:=1) rfl,AH ⟨_,MM J.tail (k:=3) rfl,_,J.cell (o:=0) (m:=1) rfl,E5 ha ⟨⟨by omega,by show(i:Int)<(g.qs.len:Nat);omega⟩,q.1,by rw[Int.toNat_natCast,Nat.mul_one];exact hc,?_⟩⟩⟩;refine AJ (vs:=[.int .i64 (S.L.length:Int)]) J λa1 a8 d _=> ?_;obtain⟨a',aD,aS⟩:=Xm d.tail.tail hq;rw[show g.qs.base=some a from ha]at aD;cases aD;refine⟨by rw[Int.toNat_natCast,Nat.mul_one];exact aS,(d.front 1 rfl).cell (o:=0) (m:=1) rfl,MM d.tail.tail (k:=3) rfl,(d.front 1 rfl).cell (o:=0) (m:=1) rfl,MM d.tail.tail (k:=3) rfl,?_⟩;have mv: ∀{A B:Pr} {L Y:List Pr} {w'},Sat (A::B::(L++Y)) w'->Sat (L++A::B::Y) w':=λh=>h.perm ((List.perm_middle.trans (List.perm_middle.cons _)).symm);have aK:=(rnQ (mv d) hq).front 14 rfl;have aV:=(rnQ (mv d) hq).wT.1.1;rw[ints,List.length_map]at aV;refine rN (t:=E.Ag) (v:=.int .i64 (S.L.length:Int)) aK rfl rfl (by omega) (by omega) λMt aA O=> ?_;refine⟨(O.front 14 rfl:Sat (Cells b1 E.Bu [.int .i64 op,.int .i64 (i:Int),.int .u64 n,.int .u64 0,.int .i64 0,.int .u64 0,.bool false,.int .i64 0,.slice none 0 0,FJ s1]::_) aA).cell (o:=0) (m:=1) rfl,(O.front 3 rfl:Sat (Cells rb E.EY (Ih {g with ks:=s9} S.ho S.wo)::_) aA).cell (o:=0) (m:=3) rfl,(O.front 14 rfl:Sat (Cells b1 E.Bu [.int .i64 op,.int .i64 (i:Int),.int .u64 n,.int .u64 0,.int .i64 0,.int .u64 0,.bool false,.int .i64 0,.slice none 0 0,FJ s1]::_) aA).cell (o:=0) (m:=1) rfl,(O.front 3 rfl:Sat (Cells rb E.EY (Ih {g with ks:=s9} S.ho S.wo)::_) aA).cell (o:=0) (m:=3) rfl,E5 ha ⟨⟨by omega,by show(i:Int)<(g.qs.len:Nat);omega⟩,?_⟩⟩;rw[Int.toNat_natCast,Nat.mul_one];refine Km (v:=.slice Mt.base Mt.len Mt.cap) (O.front 1 rfl) rfl (by rw[List.length_map];exact hi) ha λaG aL=> ?_;have aM:=iN (E:=E) (rb:=rb) (g:={g with ks:=s9}) (S:={S with L:=S.L++[(b6,Ak.new op (i:Int) n s1)]}) (Z:=Cells b1 E.Bu [.int .i64 op,.int .i64 (i:Int),.int .u64 n,.int .u64 0,.int .i64 0,.int .u64 0,.bool false,.int .i64 0,.slice none 0 0,FJ s1]::(X s1++Z)) (y:=(Mt,q.2++[(S.L.length:Int)])) hi (w:=aG) (by
  rw[VD,ints,List.map_append];exact aL.front 1 rfl)
 refine hK {g with ks:=s9} s1 Mt b6 aG ⟨?_,hI.ti,λj z hz c aE=> ?_,⟨hI.NN.1,by show(S.L++[_]).length<_;rw[List.length_append,List.length_singleton];omega⟩⟩ (aM.front 12 rfl).tail
 .show S.T.length=(S.Q.set i _).length+2;rw[List.length_set];exact hI.tn
 .show 0<=c/\c<((S.L++[_]).length:Nat);rw[List.length_append,List.length_singleton];have hz:(S.Q.set i (Mt,q.2++[(S.L.length:Int)]))[j]? =some z:=hz;rw[List.getElem?_set]at hz;by_cases e:i=j
  .subst e;rw[if_pos rfl,if_pos hi]at hz;cases hz;rcases List.mem_append.1 aE with h|h
   .have:=hI.qa i q hq c h;omega
   .have:=List.mem_singleton.1 h;omega
  .rw[if_neg e]at hz;have:=hI.qa j z hz c aE;omega
def Jt(H:Sat (AA E rb g S++Z) w){k:Nat}{y:Nat×Ak}(e:S.L[k]? =some y)(hd:y.2.done=true){K:Int->Int->Int->Bool->World->Prop}
  (hK: ∀w',Sat (AA E rb g S++Z) w'->K y.2.ad y.2.nn y.2.co true w'):F.Ht E (some ⟨rb,0,none⟩) (k:Int) K w:=by
 unfold F.Ht;have hl:=(dZ H).Jp;have aB:=(List.getElem?_eq_some_iff.1 e).1;refine AJ (vs:=[.int .u64 0,.int .u64 0,.int .i64 0]) H λb1 w2 O _=> ?_;have d:=JR O;obtain⟨a,J,T⟩:=(dZ d).Ke e;have J:g.ks.base=some a:=J;refine AZ (AO (decide_eq_false (by omega)) (AH ⟨_,MM d (k:=4) rfl,AO (decide_eq_false (by omega)) (AH ⟨_,MM d (k:=4) rfl,E5 J ⟨⟨by omega,by omega⟩,_,by rw[Int.toNat_natCast,Nat.mul_one];exact T,AH ⟨_,QD d e (k:=13) rfl,λjj=> ?_⟩⟩⟩)⟩));rw[hd];refine AO rfl (AH ⟨_,MM d (k:=4) rfl,E5 J ⟨⟨by omega,by omega⟩,_,by rw[Int.toNat_natCast,Nat.mul_one];exact T,AH ?_⟩⟩);refine⟨_,by rw[add_add];exact QD d e (k:=10) rfl,_,by rw[add_add];exact QD d e (k:=11) rfl,_,by rw[add_add];exact QD d e (k:=12) rfl,?_⟩;refine CN (news:=[.int .u64 y.2.ad,.int .u64 y.2.nn,.int .i64 y.2.co]) O rfl (by intro v Y;simp only[List.mem_cons,List.not_mem_nil,or_false]at Y;rcases Y with rfl|rfl|rfl<;>rfl) λw3 u=> ?_;exact⟨_,u.cell (o:=0) (m:=0) rfl,_,u.cell (o:=0) (m:=1) rfl,_,u.cell (o:=0) (m:=2) rfl,hK w3 u.tail⟩
def Xq(H:Sat (AA E rb g S++Z) w)(hl:S.ord.length<1000000){K:AW->World->Prop}(m: ∀s' w',Sat (Row E.Ag 1 s' (ints .i64 S.ord)::(AA E rb g S++Z)) w'->K s' w'):F.Fc E (some ⟨rb,0,none⟩) K w:=by
 unfold F.Fc T0.Fc F.Gw;refine AH ⟨_,MM H (k:=5) rfl,?_⟩;have d:=(H.front 4 rfl:Sat (Row E.Ag 1 g.os (ints .i64 S.ord)::_) _).Bs;rw[ints,List.length_map,Nat.mul_one]at d;refine AY (λc=> ?_) λc=> ?_
 .have T:g.os.base=none:=by
   cases h:g.os.base with
   | none=>rfl
   | some a=>rw[h]at c;cases c
  have h0:S.ord=[]:=by
   have:=(H.front 4 rfl:Sat (Row E.Ag 1 g.os (ints .i64 S.ord)::_) _).own.Gj;refine List.eq_nil_of_length_eq_zero ?_;refine Classical.byContradiction λY=> ?_;obtain⟨b,u⟩:=this (by omega);rw[T]at u;cases u
  have:=m ⟨none,0,0⟩ w;rw[h0]at this;exact this (H.nil E.Ag 1)
 .refine Lw (t:=E.Ag) (n:=0) (z:=1) (vs:=[]) H rfl (by decide) λb1 w2 e=> ?_;refine Om e rfl (e.front 5 rfl:Sat (Row E.Ag 1 g.os (ints .i64 S.ord)::_) _).KE (by rw[ints,List.length_map,d,Nat.mul_one]) (by intro v J;rw[ints,List.mem_map]at J;obtain⟨x,_,rfl⟩:=J;rfl) (by show(0+g.os.len)*8<=_;omega) (by show 0+g.os.len<=_;omega) λs' w' O _=>m s' w' O
end
def clsp16:((List.range 68).all λc=>decide ((Au c).2.1<=16))=true:=by decide+kernel
def wW{c:Int}(h0:0<=c)(h1:c<68):(Au c).2.1<=16:=by
 have:=List.all_eq_true.1 clsp16 c.toNat (List.mem_range.2 (by omega));rwa[decide_eq_true_eq,show((c.toNat:Nat):Int)=c by omega]at this
section
variable{E:Env}{w:World}{Z:List Pr}(hE:EnvC E)
include hE
end
def Sat.OV{P0 a:Pr}{Ps:List Pr}{w:World}{P:Pr}(i:Nat)(H:Sat (P0::a::Ps) w)(hi:Ps[i]? =some P):Sat (P0::a::P::Ps.eraseIdx i) w:=H.perm (((D8 hi).cons a).cons P0)
def Sat.yL{P0 a P':Pr}{Ps:List Pr}{w:World}(i:Nat)(H:Sat (P0::a::P'::Ps.eraseIdx i) w)(hi:i<Ps.length:=by simp):Sat (P0::a::Ps.set i P') w:=H.perm (((MU hi).cons a).cons P0)
def Cr.mw(S:Cr)(ma:Int)(W:SW):Cr:={S with ma:=ma,W:=W}
def Cr.cw(S:Cr)(i:Nat)(c:Nat×KS)(W:SW):Cr:={S with C:=S.C.set i c,W:=W}
section
variable{E:Env}{rb:Nat}{g:NW}{S:Cr}{Z:List Pr}{w:World}
def OW(H:Sat (AA E rb g S++Z) w): ∃R,Sat (MK E g.a false S.ma S.cy::AQ E g.a.b g.a.h g.a.s g.a.r S.W::IW E g.a.mq::R) w/\(∀{w'},Sat R w'->Sat Z w')/\
  ∀{ma:Int} {W':SW} {w'},Sat (MK E g.a false ma S.cy::AQ E g.a.b g.a.h g.a.s g.a.r W'::IW E g.a.mq::R) w'->Sat (AA E rb g (S.mw ma W')++Z) w':=by
 have h1:Sat (MK E g.a false S.ma S.cy::AQ E g.a.b g.a.h g.a.s g.a.r S.W::IW E g.a.mq::_) w:=((H.front 6 rfl).Bh 10 rfl).OV 8 rfl;refine⟨_,h1,λh=>h.tail.tail.tail.tail.tail.tail.tail.tail.tail,λ{ma W' w'} h=> ?_⟩;have d:=Sat.yL (Ps:=((AA E rb g S++Z).eraseIdx 6).eraseIdx 10) (P':=IW E g.a.mq) 8 h (by simp[AA]);have e:=Sat.Qc (Ps:=(AA E rb g S++Z).eraseIdx 6) 10 d (by simp[AA]);have m:Sat (MK E g.a false ma S.cy::(AA E rb g (S.mw ma W')++Z).eraseIdx 6) w':=e;exact Sat.back (Ps:=AA E rb g (S.mw ma W')++Z) 6 m (by simp[AA])
def TU(H:Sat (AA E rb g S++Z) w){i:Nat}{c:Nat×KS}(v:S.C[i]? =some c): ∃R,Sat (Ee E c.1 g.a.cb c.2::FL E g.a.cb g.a.b g.a.h g.a.s g.a.r S.W::R) w/\(∀{w'},Sat R w'->Sat Z w')/\
  ∀{d:KS} {W':SW} {w'},Sat (Ee E c.1 g.a.cb d::FL E g.a.cb g.a.b g.a.h g.a.s g.a.r W'::R) w'->Sat (AA E rb g (S.cw i (c.1,d) W')++Z) w':=by
 have h1:Sat (AQ E g.a.b g.a.h g.a.s g.a.r S.W::Cells g.a.cb E.A0 [pv g.a.b]::aF E g.a.cb g.a.cs S.C::(((AA E rb g S++Z).eraseIdx 11).eraseIdx 10).eraseIdx 7) w:=((H.front 11 rfl).Bh 10 rfl).OV 7 rfl;have J:=(h1.Uz).front 1 rfl;have hp: ∃m,Sat (Ee E c.1 g.a.cb c.2::FL E g.a.cb g.a.b g.a.h g.a.s g.a.r S.W::m) w/\(∀{w'},Sat m w'->Sat Z w')/\ ∀{d:KS} {W':SW} {w'},Sat (Ee E c.1 g.a.cb d::FL E g.a.cb g.a.b g.a.h g.a.s g.a.r W'::m) w'->Sat (AA E rb g (S.cw i (c.1,d) W')++Z) w':=by
  have K:=(Sat.pl.1 J).front 1 rfl;have O:=((K.FO v).Bh 2 rfl);refine⟨_,O,λh=>h.tail.tail.tail.tail.tail.tail.tail.tail.tail.tail.tail,λ{d W' w'} h=> ?_⟩;have T:=(List.getElem?_eq_some_iff.1 v).1;have Y:=(Sat.Wq (R:=λx:Nat×KS=>Ee E x.1 g.a.cb x.2) (y:=(c.1,d)) (h.Bh 1 rfl) T);have g1:=Y.front 2 rfl;have e:(S.C.set i (c.1,d)).map (λx=>pv x.1)=S.C.map λx=>pv x.1:=by
   rw[VD];exact U6 (by rw[List.getElem?_map,v];rfl)
  rw[<-e]at g1;have g2:=(Sat.pl (tp:=E.Gn) (R:=λc C=>Ee E c g.a.cb C) (s:=g.a.cs) (L:=S.C.set i (c.1,d))).2 g1;have g3:=(g2.perm (.swap _ _ _)).Uy;have g4:=Sat.yL (Ps:=((AA E rb g S++Z).eraseIdx 11).eraseIdx 10) (P':=aF E g.a.cb g.a.cs (S.C.set i (c.1,d))) 7 g3 (by simp[AA]);have u:Sat (AQ E g.a.b g.a.h g.a.s g.a.r W'::Cells g.a.cb E.A0 [pv g.a.b]::((AA E rb g (S.cw i (c.1,d) W')++Z).eraseIdx 11).eraseIdx 10) w':=g4;have g5:=Sat.Qc (Ps:=(AA E rb g (S.cw i (c.1,d) W')++Z).eraseIdx 11) 10 u (by simp[AA]);exact Sat.back (Ps:=AA E rb g (S.cw i (c.1,d) W')++Z) 11 g5 (by simp[AA])
 exact hp
def eC(H:Sat (AA E rb g S++Z) w): ∃R,Sat (GB E g.a.s S.W.L::R) w/\ ∀{L' w'},Sat (GB E g.a.s L'::R) w'->Sat (AA E rb g {S with W:={S.W with L:=L'}}++Z) w':=by
 obtain⟨R,h1,_,d⟩:=(H.front 11 rfl:Sat (AQ E g.a.b g.a.h g.a.s g.a.r S.W::_) w).P7;exact⟨R,h1,λ{L' w'} h=>Sat.back (Ps:=AA E rb g S++Z) 11 (d h) (by simp[AA])⟩
def RK(H:Sat (AA E rb g S++Z) w){i:Nat}{x:Nat×Tk}(Y:S.T[i]? =some x)(hr:S.W.Jv=0)(J:0<=S.W.Fw){K:World->Prop}
  (O: ∀w',Sat (AA E rb g (S.tk i (x.1,{x.2 with step:=if x.2.cls=0 then 6 else 4}))++Z) w'->K w'):F.D5 E (some ⟨rb,0,none⟩) (some ⟨x.1,0,none⟩) K w:=by
 unfold F.D5 T0.D5;have v:=(List.getElem?_eq_some_iff.1 Y).1;refine AZ (AH ⟨_,G7 H,AH ⟨_,VN H (k:=3) rfl,?_⟩⟩);refine Zl (H.front 11 rfl:Sat (AQ E g.a.b g.a.h g.a.s g.a.r S.W::_) w) J λw2 H2=> ?_;have e:S.W.wI=0:=by
  unfold SW.wI;rw[hr,dB];omega
 rw[e];have H3:Sat (AA E rb g S++Z) w2:=Sat.back (Ps:=AA E rb g S++Z) 11 H2 (by simp[AA]);refine AO rfl λjj=>AH ?_;refine Fy H3 Y (m:=2) {x.2 with step:=4} rfl (by decide) rfl λw4 u=>AH ?_;have d:(S.tk i (x.1,{x.2 with step:=4})).T[i]? =some (x.1,{x.2 with step:=4}):=List.getElem?_set_self v;refine⟨_,K6 u d (k:=4) rfl,Cj (λc=>AH ?_) λc=> ?_⟩
 .refine Fy u d (m:=2) {x.2 with step:=6} rfl (by decide) rfl λw5 H5=> ?_;have:=O w5;rw[if_pos c]at this;refine this ?_;have e2:Cr.tk (S.tk i (x.1,{x.2 with step:=4})) i (x.1,{x.2 with step:=6})=S.tk i (x.1,{x.2 with step:=6}):=by simp[Cr.tk]
  exact(congrArg (λs=>Sat (AA E rb g s++Z) w5) e2).mp H5
 .have:=O w4;rw[if_neg c]at this;exact this u
def Sr(H:Sat (AA E rb g S++Z) w)(hI:FM S){i k:Nat}{x:Nat×Tk}{y:Nat×Ak}(u:S.T[i]? =some x)(hi:i<S.Q.length)(hk:x.2.ask=(k:Int))(hy:S.L[k]? =some y)(O:y.2.op=1){K:World->Prop}
  (hK: ∀w',Sat (AA E rb g {S.tk i (x.1,{x.2 with step:=7})with ho:=(i:Int)}++Z) w'->K w'):F.Ek E (some ⟨rb,0,none⟩) (some ⟨x.1,0,none⟩) K w:=by
 unfold F.Ek T0.Ek;have J:=(List.getElem?_eq_some_iff.1 u).1;have d:=hI.ti i x u;refine AH ⟨_,Ll H u,AH ?_⟩;rw[d];refine VC H (m:=6) (by decide) rfl λw2 H2=>AH ?_;have H3:Sat (AA E rb g {S with ho:=(i:Int)}++Z) w2:=H2;refine Fy (S:={S with ho:=(i:Int)}) H3 u (m:=2) {x.2 with step:=8} rfl (by decide) rfl λw4 H4=> ?_;have e:=H4.drew;have a:(Cr.tk {S with ho:=(i:Int)} i (x.1,{x.2 with step:=8})).T[i]? =some (x.1,{x.2 with step:=8}):=List.getElem?_set_self J;have Y:=QC e;refine AZ (AH ⟨_,Ll (x:=(x.1,{x.2 with step:=8})) e a,AH ⟨_,MM e (k:=3) rfl,Aa (decide_eq_true (by show x.2.n<_;rw[d];have:S.Q.length=g.qs.len:=Y;omega)) ?_⟩⟩);refine JS e a (k:=k) hk hy λw5 v=>⟨MM v (k:=3) rfl,Ll (x:=(x.1,{x.2 with step:=8})) v a,λjj=> ?_⟩;rw[O];refine Aa rfl (AH ?_);refine Fy v a (m:=2) {x.2 with step:=7} rfl (by decide) rfl λw6 H6=>hK w6 ?_;have e2:Cr.tk (Cr.tk {S with ho:=(i:Int)} i (x.1,{x.2 with step:=8})) i (x.1,{x.2 with step:=7})={S.tk i (x.1,{x.2 with step:=7})with ho:=(i:Int)}:=by simp[Cr.tk]
 exact(congrArg (λs=>Sat (AA E rb g s++Z) w6) e2).mp H6
def Ss(hW:EnvW E)(H:Sat (AA E rb g S++Z) w){i:Nat}{x:Nat×Tk}(O:S.T[i]? =some x)(h0:FW S.W.L (x.2.cls,x.2.np,false,true)=[])(aF: ∀z∈S.W.L,z.HD=true/\z.kd.2.2.2=true){K:World->Prop}
  (hK: ∀w',Sat (AA E rb g (S.tk i (x.1,{x.2 with step:=6}))++Z) w'->K w'):F.FT E (some ⟨rb,0,none⟩) (some ⟨x.1,0,none⟩) K w:=by
 unfold F.FT T0.FT;refine AH ⟨_,by rw[add_add];exact K6 H O (k:=4) rfl,_,by rw[add_add];exact K6 H O (k:=5) rfl,_,by rw[add_add];exact K6 H O (k:=6) rfl,_,by rw[add_add];exact K6 H O (k:=7) rfl,?_⟩;refine AJ (vs:=[.int .i64 0,.bool false,.bool false,.int .u64 0]) H λb6 w2 H2 _=>CN (news:=[.int .i64 x.2.cls,.bool x.2.np,.bool x.2.ti,.int .u64 x.2.pg]) H2 rfl (by intro v hv;simp only[List.mem_cons,List.not_mem_nil,or_false]at hv;rcases hv with rfl|rfl|rfl|rfl<;>rfl) λw3 H3=> ?_;have Hd:=H3.drew;have Hr:=JR Hd;refine AH ⟨_,G7 Hr,AH ⟨_,VN Hr (k:=1) rfl,_,Hd.AU (o:=0) rfl,_,Hd.cell (o:=0) (m:=1) rfl,?_⟩⟩;obtain⟨R,hs,hb⟩:=eC Hr;have none_: ∀(full:Bool),FW S.W.L (x.2.cls,x.2.np,full,false)=[]:=λfull=>by
  refine List.eq_nil_iff_forall_not_mem.2 λz hz=> ?_;obtain⟨h1,h2⟩:=E9.1 hz;have:=(aF z h1).2;rw[h2]at this;cases this
 refine Sg hW (k:=(x.2.cls,x.2.np,false,true)) hs (λ_=>⟨G7 Hr,AO rfl ?_⟩) λz r hz=>by rw[h0]at hz;cases hz
 refine AJ (vs:=[.bool false,.bool true]) Hd λe w5 H5 _=> ?_;refine AM (λst w'=>(st.1=0∨st.1=1∨st.1=2)/\Sat (Cells e E.Bb [.bool false,.bool true]::Cells b6 E.Bv [.int .i64 x.2.cls,.bool x.2.np,.bool x.2.ti,.int .u64 x.2.pg]::(AA E rb g S++Z)) w') (λst _=>(2-st.1).toNat) ⟨.inl rfl,H5⟩ ?_;rintro⟨k,u⟩ _ w6 ⟨hk,J⟩;dsimp only at hk⊢;have body: ∀(m:Nat) (bb:Bool),k=(m:Int)->m<2->([.bool false,.bool true]:List Value)[m]? =some (.bool bb)-> ∃Y:Bool,w6.cell? ((Addr.mk e 0 none).add (Int.toNat k*1))=some (.bool Y)/\(Y=bb):=λm bb hm aT hv=>⟨bb,by rw[hm,Int.toNat_natCast,Nat.mul_one];exact J.cell (by rw[Nat.zero_add];exact hv),rfl⟩;refine AG (λaS=> ?_) λaR=>AH (Fy J.tail.tail O (m:=2) {x.2 with step:=6} rfl (by decide) rfl λw7 H7=>hK w7 H7);obtain⟨bb,aD⟩: ∃bb:Bool,w6.cell? ((Addr.mk e 0 none).add (Int.toNat k*1))=some (.bool bb):=by
  rcases hk with rfl|rfl|rfl
  .exact⟨_,J.cell (o:=0) (m:=0) rfl⟩
  .exact⟨_,J.cell (o:=0) (m:=1) rfl⟩
  .omega
 have a:=J.drew;have d:=JR a.tail;obtain⟨R6,aE,aQ⟩:=eC d;refine⟨⟨by omega,by omega⟩,bb,aD,AH ⟨_,G7 d,AH ⟨_,VN d (k:=1) rfl,_,(a.front 1 rfl).AU (o:=0) rfl,_,(a.front 1 rfl).cell (o:=0) (m:=1) rfl,?_⟩⟩⟩;refine Sg hW (k:=(x.2.cls,x.2.np,bb,false)) aE (λ_=>⟨G7 d,AO rfl ?_⟩) λz r hz=>by rw[none_]at hz;cases hz
 refine⟨⟨?_,a⟩,?_⟩
 .show i64 (k+1)=0∨i64 (k+1)=1∨i64 (k+1)=2;rw[AI];omega
 .show(2-i64 (k+1)).toNat<(2-k).toNat;rw[AI];omega
end
def Fz(n cls pg:Int):Prop:=(n<=32768/\IsC n cls/\pg=(Au cls).2.1)∨(32768<n/\cls=0/\pg=(n+8191)/8192)
def Ii(n cls:Int):Int:=if cls=0 then(n+8191)/8192*8192 else(Au cls).1
section
variable{E:Env}{w:World}{Z:List Pr}(hE:FN E)(hS:EnvS E)
include hE hS
theorem eD(H:Sat Z w){p n:Int}{set:AW}(h0:16<=n)(h1:n<=1000000){K:Int->Bool->Bool->Int->Int->World->Prop}(hK: ∀cls pg,Fz n cls pg-> ∀w',Sat Z w'->K cls true false pg 0 w'):
  F.GR E 1 p n 0 0 0 false 0 ⟨none,0,0⟩ set K w:=by
 unfold F.GR T0.GR;refine AJ (vs:=[.int .i64 1,.int .i64 p,.int .u64 n,.int .u64 0,.int .i64 0,.int .u64 0,.bool false,.int .i64 0,.slice none 0 0,FJ set]) H λb1 w2 H2 _=>AJ (vs:=[.int .i64 0,.bool false,.bool false,.int .u64 0]) H2 λb3 w4 J _=> ?_;have C: ∀{X:List Pr} {w'},Sat (Cells b3 E.Bv [.int .i64 0,.bool false,.bool false,.int .u64 0]::Cells b1 E.Bu [.int .i64 1,.int .i64 p,.int .u64 n,.int .u64 0,.int .i64 0,.int .u64 0,.bool false,.int .i64 0,.slice none 0 0,FJ set]::X) w'->w'.cell? ((Addr.mk b1 0 none).add 2)=some (.int .u64 n)/\w'.cell? ((Addr.mk b1 0 none).add 7)=some (.int .i64 0)/\w'.cell? (((Addr.mk b1 0 none).add 7).add 1)=some (.slice none 0 0):=λh=>
  ⟨(h.front 1 rfl).cell (o:=0) (m:=2) rfl,(h.front 1 rfl).cell (o:=0) (m:=7) rfl,by rw[add_add];exact(h.front 1 rfl).cell (o:=0) (m:=8) rfl⟩
 have J:Sat (Cells b3 E.Bv [.int .i64 0,.bool false,.bool false,.int .u64 0]::Cells b1 E.Bu [.int .i64 1,.int .i64 p,.int .u64 n,.int .u64 0,.int .i64 0,.int .u64 0,.bool false,.int .i64 0,.slice none 0 0,FJ set]::Z) w4:=J;refine⟨_,(C J).2.1,AZ ⟨_,(C J).1,AO (by simp;omega) ⟨_,(C J).1,AO (decide_eq_false (by omega)) ⟨_,(C J).2.1,AO rfl (AO (by decide) ⟨⟨none,0,0⟩,(C J).2.2,_,(C J).2.1,AO rfl ⟨_,(C J).1,λjj=>AO (decide_eq_false (by show ¬(u64 (8*u64 (MO 0 0))>n);rw[show u64 (8*u64 (MO 0 0))=0 by decide];omega)) ?_⟩⟩)⟩⟩⟩⟩;refine AJ (vs:=[.int .i64 0,.bool false,.bool false,.int .u64 0]) J λb5 w6 H6 _=>CN (news:=[.int .i64 0,.bool true,.bool false,.int .u64 0]) H6 rfl (by intro v T;simp only[List.mem_cons,List.not_mem_nil,or_false]at T;rcases T with rfl|rfl|rfl|rfl<;>rfl) λw7 O=> ?_;refine⟨⟨none,0,0⟩,(C O.tail).2.2,AM (λst w'=>st=(0,())/\w'=w7) (λ_ _=>0) ⟨rfl,rfl⟩ ?_⟩;rintro _ _ _ ⟨rfl,rfl⟩;refine AO rfl (AZ (AZ ⟨_,O.cell (o:=0) (m:=1) rfl,Aa rfl ⟨_,(C O.tail).1,λjj=>AO (decide_eq_false (by omega)) ⟨_,(C O.tail).1,AG (λhle=> ?_) λaL=> ?_⟩⟩⟩))
 .obtain⟨k,hk⟩:=isC_ex hle;have aM:=hk.k0;have aA:=hk.k1;refine⟨_,(C O.tail).1,?_⟩;rw[AI (n:=n)];refine RI hS hE.of1 O (by omega) hle hk λw8 H8=> ?_;refine BT H8 (o:=0) rfl (by simp) λw9 H9 jj=>⟨_,H9.drew.AU (o:=0) rfl,?_⟩;refine M4 H9.drew λr aO u=>⟨(u.front 1 rfl).AU (o:=0) rfl,?_⟩;have hl:=u.JJ (by decide) BW;rw[K1]at hl;obtain⟨x,hx⟩:=u.L9 (by decide) BW (i:=(k:Int).toNat) (by rw[K1];omega);have aK:=Q5 (c:=k) (by omega) aA;rw[hx];refine AH ⟨⟨by omega,by omega⟩,_,by rw[add_add];exact u.Gk BW hx (Lb (by omega) aA) (j:=1) rfl,?_⟩;rw[AR (n:=(Au (k:Int)).2.1)];refine Ah (u.front 1 rfl) (o:=0) (m:=3) rfl (by simp) λaC a=> ?_;refine⟨_,a.cell (o:=0) (m:=0) rfl,_,a.cell (o:=0) (m:=1) rfl,_,a.cell (o:=0) (m:=2) rfl,_,a.cell (o:=0) (m:=3) rfl,?_⟩;refine CN (news:=[.int .i64 (k:Int),.bool true,.bool false,.int .u64 (Au (k:Int)).2.1]) (a.front 2 rfl) rfl (by intro v T;simp only[List.mem_cons,List.not_mem_nil,or_false]at T;rcases T with rfl|rfl|rfl|rfl<;>rfl) λY d=> ?_;exact⟨_,d.cell (o:=0) (m:=0) rfl,_,d.cell (o:=0) (m:=1) rfl,_,d.cell (o:=0) (m:=2) rfl,_,d.cell (o:=0) (m:=3) rfl,hK _ _ (.inl ⟨hle,hk,rfl⟩) Y d.tail.tail.tail.tail⟩
 .have e:u64 (Int.tdiv (u64 ((u64 (n+8192))-1)) 8192)=(n+8191)/8192:=by
   rw[AR (n:=n+8192),AR (n:=n+8192-1),Int.tdiv_eq_ediv_of_nonneg (by omega),AR,show n+8192-1=n+8191 by omega]
  refine⟨_,(C O.tail).1,by decide,?_⟩;rw[e];refine Ah O (o:=0) (m:=3) rfl (by simp) λaC a=> ?_;refine⟨_,a.cell (o:=0) (m:=0) rfl,_,a.cell (o:=0) (m:=1) rfl,_,a.cell (o:=0) (m:=2) rfl,_,a.cell (o:=0) (m:=3) rfl,?_⟩;refine CN (news:=[.int .i64 0,.bool true,.bool false,.int .u64 ((n+8191)/8192)]) (a.front 1 rfl) rfl (by intro v T;simp only[List.mem_cons,List.not_mem_nil,or_false]at T;rcases T with rfl|rfl|rfl|rfl<;>rfl) λY d=> ?_;exact⟨_,d.cell (o:=0) (m:=0) rfl,_,d.cell (o:=0) (m:=1) rfl,_,d.cell (o:=0) (m:=2) rfl,_,d.cell (o:=0) (m:=3) rfl,hK _ _ (.inr ⟨by omega,rfl,rfl⟩) Y d.tail.tail.tail⟩
theorem eE(H:Sat Z w){n cls pg:Int}(h0:16<=n)(h1:n<=1000000)(hw:Fz n cls pg){K:Int->Int->World->Prop}(d: ∀w',Sat Z w'->K (Ii n cls) 0 w'):F.HB E n K w:=by
 unfold F.HB T0.HB F.Pm T0.Pm;unfold Ii at d;refine AO (decide_eq_false (by omega)) (AG (λaA=> ?_) λhle=> ?_)
 .rcases hw with ⟨g,_⟩|⟨g,rfl,rfl⟩
  .omega
  rw[if_pos rfl]at d;unfold F.UH F.EK Wl;have T:u64 (n-Int.tmod n 8192)=n/8192*8192:=by
   rw[Int.tmod_eq_emod_of_nonneg (by omega),AR];omega
  refine AO rfl ⟨by decide,Ac λN v=>AO rfl ?_⟩;rw[T]at v;subst v;refine Cj (λc=> ?_) λc=> ?_
  .have:=d w H;rwa[show(n+8191)/8192*8192=n by omega]at this
  .have:=d w H;rw[show(n+8191)/8192*8192=n/8192*8192+8192 by omega]at this;refine⟨⟨by omega,by decide,by decide,by decide⟩,?_⟩;have q1:(n/8192*8192+8192+0)/18446744073709551616=0:=Int.ediv_eq_zero_of_lt (by omega) (by omega);have q2:(n/8192*8192+8192+0) %18446744073709551616=n/8192*8192+8192:=by rw[Int.emod_eq_of_lt (by omega) (by omega)];omega
   rw[q1,q2];exact AO rfl this
 .rcases hw with ⟨g,m,rfl⟩|⟨g,rfl,rfl⟩
  .have aB:=m.k0;have e:=m.k1;rw[if_neg (by omega)]at d;rw[AI (n:=n)];refine RI hS hE.of1 H (by omega) g m λw8 O=>M4 O λr u a=> ?_;have hl:=a.JJ (by decide) BW;rw[K1]at hl;obtain⟨x,J⟩:=a.L9 (by decide) BW (i:=cls.toNat) (by rw[K1];omega);have Y:=Li (c:=cls) (by omega) e;rw[J];refine AH ⟨⟨by omega,by omega⟩,_,a.Gk BW J (Lb (by omega) e) (j:=0) rfl,?_⟩;rw[AR (n:=(Au cls).1)];exact d u a.tail
  .omega
end
def P6.elem8{x:SI}(h:P6 x):x.elem %8=0:=by
 have:=h.el;by_cases e:x.cls=0
 .rw[if_pos e]at this;omega
 .rw[if_neg e]at this;have a:=h.cls;have:=Li (c:=x.cls) (by omega) (by omega);omega
section
variable{E:Env}{w:World}{Z:List Pr}{W:SW}{U M:BA}{A:sV}{dead:Bool}{ma cy:Int}
def iL.at8{id:Int}{n:Nat}{x:Nat×SI}(h:iL W U id n x)(hI:Ai W U M):(0<=x.2.base+n*x.2.elem/\(x.2.base+n*x.2.elem) %8=0)/\(x.2.elem %8=0/\0<x.2.elem/\x.2.elem<=1099511627776)/\x.2.base+n*x.2.elem+x.2.elem<=281474976710656:=by
 have d:=(hI.sp id x h.sp).1;have O:=d.size;have e:=d.elem8;have J:=d.ba;obtain⟨h1,m,u,v⟩:=rE.W9 d h.lt (a:=x.2.base+n*x.2.elem+x.2.elem-1) ⟨by omega,by omega⟩;have hm:(n*x.2.elem:Int) %8=0:=by rw[Int.mul_emod,e,Int.mul_zero];rfl
 have K:0<=(n*x.2.elem:Int):=Int.mul_nonneg (by omega) (by omega);refine⟨⟨by omega,by omega⟩,⟨e,by omega,by omega⟩,by omega⟩
def RL(hS:EnvS E)(H:Sat (MK E A dead ma cy::AQ E A.b A.h A.s A.r W::IW E A.mq::Z) w)(hI:Ai W U M){id:Int}{n:Nat}{x:Nat×SI}(T:iL W U id n x){op p nn cls pg:Int}{set:AW}{K:Int->Int->Int->World->Prop}
  (hK: ∀w',Sat (MK E A dead (u64 (ma+1)) cy::AQ E A.b A.h A.s A.r W::IW E A.mq::Z) w'->K (x.2.base+n*x.2.elem) x.2.elem 0 w'):F.Bo E (some ⟨A.m,0,none⟩) op p nn 0 0 0 false 0 ⟨none,0,0⟩ set cls true false pg (x.2.base+n*x.2.elem) K w:=by
 unfold F.Bo T0.Bo;obtain⟨⟨a0,a8⟩,⟨e8,e0,e1⟩,hb⟩:=T.at8 hI;refine AJ (vs:=[.int .i64 op,.int .i64 p,.int .u64 nn,.int .u64 0,.int .i64 0,.int .u64 0,.bool false,.int .i64 0,.slice none 0 0,FJ set]) H λb1 w2 H2 _=>AJ (vs:=[.int .i64 cls,.bool true,.bool false,.int .u64 pg]) H2 λb3 w4 H4 _=>AJ (vs:=[.int .u64 0,.int .u64 0,.int .i64 0]) H4 λO w6 H6 _=> ?_;have J:Sat (MK E A dead ma cy::AQ E A.b A.h A.s A.r W::IW E A.mq::Cells O E.Aj [.int .u64 0,.int .u64 0,.int .i64 0]::Cells b3 E.Bv [.int .i64 cls,.bool true,.bool false,.int .u64 pg]::Cells b1 E.Bu [.int .i64 op,.int .i64 p,.int .u64 nn,.int .u64 0,.int .i64 0,.int .u64 0,.bool false,.int .i64 0,.slice none 0 0,FJ set]::Z) w6:=
  ((H6.front 3 rfl).Bh 3 rfl).OV 3 rfl
 refine AH ⟨_,J.cell (o:=0) (m:=10) rfl,AH (Ah J (o:=0) (m:=10) rfl (by simp[K4]) λw7 e=> ?_)⟩;have e:Sat (MK E A dead (u64 (ma+1)) cy::AQ E A.b A.h A.s A.r W::IW E A.mq::Cells O E.Aj [.int .u64 0,.int .u64 0,.int .i64 0]::Cells b3 E.Bv [.int .i64 cls,.bool true,.bool false,.int .u64 pg]::Cells b1 E.Bu [.int .i64 op,.int .i64 p,.int .u64 nn,.int .u64 0,.int .i64 0,.int .u64 0,.bool false,.int .i64 0,.slice none 0 0,FJ set]::Z) w7:=e;refine Sn e hI T ⟨by omega,by omega⟩ λw8 d=> ?_;refine AZ (AZ ⟨_,(d.front 5 rfl).cell (o:=0) (m:=6) rfl,AO rfl ⟨_,(d.front 4 rfl).cell (o:=0) (m:=2) rfl,λjj=>AO rfl λjk=> ?_⟩⟩);refine AZ ⟨_,(d.front 4 rfl).cell (o:=0) (m:=1) rfl,Aa rfl (AH ⟨_,d.cell (o:=0) (m:=7) rfl,?_⟩)⟩;refine U5 hS (d.front 2 rfl) a0 a8 e8 e0 e1 hb λw9 H9 jj=> ?_;refine CN (news:=[.int .u64 (x.2.base+n*x.2.elem),.int .u64 x.2.elem,.int .i64 0]) (H9.front 3 rfl) rfl (by intro v Y;simp only[List.mem_cons,List.not_mem_nil,or_false]at Y;rcases Y with rfl|rfl|rfl<;>rfl) λu a=> ?_;refine⟨_,a.cell (o:=0) (m:=0) rfl,_,a.cell (o:=0) (m:=1) rfl,_,a.cell (o:=0) (m:=2) rfl,hK u ?_⟩;have h:=a.tail;exact(((((h.front 3 rfl).tail).front 3 rfl).tail).front 1 rfl).Bh 1 rfl
end
def Zt(W:SW)(C:KS):Prop:= ∀k np,C.held k np=0∨(0<C.held k np/\(∃y,W.S.sp (C.held k np)=some y/\y.2.cls=k/\y.2.E3=np)/\ ∀x∈W.L,x.id≠C.held k np)
structure wX(W:SW):Prop where
 sw: ∀x∈W.L,x.HD=true
 kd: ∀x∈W.L,∃y,W.S.sp x.id=some y/\x.kd=(y.2.cls,y.2.E3,y.2.used==y.2.AP,true)
 Jv:W.Jv=0
 rp:0<=W.Fw
 ch:0<=W.Br/\W.Br<18446744073709551616
def wX.letd{W d:SW}{C:KS}{k:Int}{np:Bool}(h:wX W)(e:PA W C k np d):wX d:=by
 rcases e with ⟨_,rfl⟩|⟨_,y,EU,u,m,rfl⟩
 .exact h
 .refine⟨λx a=> ?_,λx a=> ?_,h.Jv,h.rp,h.ch⟩
  .rcases(Dd).1 a with rfl|a
   .rfl
   .exact h.sw x a
  .rcases(Dd).1 a with rfl|a
   .grind
   .exact h.kd x a
section
variable{E:Env}{w:World}{Z:List Pr}{c cb b h s r:Nat}{C:KS}{W:SW}{U M:BA}
variable(hE:EnvK E)
include hE
end
def SW.take(W:SW)(id:Int)(x:Nat×SI)(uw:List Int)(n:Nat):SW:={W with S:=W.S.put id (x.1,{x.2 with uw:=uw,used:=x.2.used+1,look:=(n:Int)+1})}
def BA.take(U:BA)(id:Int)(n:Nat):BA:=U.set id λi=>U id i||i==n
def Zt.eF{W:SW}{C:KS}(h:Zt W C)(k:Int)(np:Bool):SC W C k np:=by
 rcases h k np with h0|⟨h1,⟨y,d,_⟩,a⟩
 .exact .inl h0
 .exact .inr ⟨h1,y,d,a⟩
def wY{S:SI}{U M:Nat->Bool}(h:Rd S U M)(a: ∀i:Nat,(i:Int)<S.AP->U i=true):S.used=S.AP:=by
 have:=h.sl;rw[h.cnt,pZ λi hi=>a i (by omega)];omega
def eG{W a:SW}{C:KS}{k:Int}{np:Bool}(h:PA W C k np a):a.S=W.S/\a.Jv=W.Jv/\a.Br=W.Br/\a.Fw=W.Fw/\a.R=W.R:=by
 rcases h with ⟨_,rfl⟩|⟨_,y,EU,e,d,rfl⟩<;>exact⟨rfl,rfl,rfl,rfl,rfl⟩
section
variable{E:Env}{w:World}{Z:List Pr}{c cb b h s r:Nat}{C:KS}{W:SW}{U M:BA}
variable(hE:EnvK E)
include hE
end
def KS.iO(C:KS):KS:={C with qY:=0,Vb:=0}
def eH{C:KS}{k:Int}{np:Bool}(a:0<k/\k<68)(h0:C.held k np=0):C.hold k np 0=C:=by
 unfold KS.hold;have:(λi=>if i=iJ k np then 0 else C.hd i)=C.hd:=by
  funext i;split
  .rename_i e;unfold KS.held at h0
   grind
  .rfl
 rw[this]
section
variable{E:Env}{w:World}{Z:List Pr}{c cb b h s r:Nat}{C:KS}{W:SW}{U M:BA}
def Zu(H:Sat (Ee E c cb C::Z) w){k:Int}{np:Bool}(h0:C.held k np=0){K:World->Prop}(d: ∀w',Sat (Ee E c cb C::Z) w'->K w'):F.BY E (some ⟨c,0,none⟩) k np K w:=by
 unfold F.BY T0.BY;refine OS H λe a=> ?_;rw[h0];exact AO rfl (d e a)
variable(hE:EnvK E)
include hE
theorem RM{k0:Int}{np0:Bool}(hk:0<k0/\k0<68)(H:Sat (Ee E c cb C::FL E cb b h s r W::Z) w)(hI:Ai W U M)(hf:W.L.length<1099511627776)(ho: ∀k np,¬(k=k0/\np=np0)->C.held k np=0)(hH:SC W C k0 np0){K:Int->World->Prop}
  (hK: ∀a,PA W C k0 np0 a->Ai a U M-> ∀w',Sat (Ee E c cb (C.hold k0 np0 0).iO::FL E cb b h s r a::Z) w'->K 0 w'):F.DP E (some ⟨c,0,none⟩) K w:=by
 unfold F.DP T0.DP
 let Q:Prop->World->List Pr->Prop:=λp w' Y=> ∃a d,((p/\PA W C k0 np0 a/\d=C.hold k0 np0 0)∨(¬p/\a=W/\d=C))/\Ai a U M/\Sat (Ee E c cb d::FL E cb b h s r a::Y) w'
 have v: ∀{p q:Prop} {a:SW} {d:KS},(p↔q)->((p/\PA W C k0 np0 a/\d=C.hold k0 np0 0)∨(¬p/\a=W/\d=C))->((q/\PA W C k0 np0 a/\d=C.hold k0 np0 0)∨(¬q/\a=W/\d=C)):=λh hq=>by grind
 refine AM (λst w'=> ∃i:Nat,st.1=(i:Int)/\i<=68/\Q (k0<(i:Int)) w' Z) (λst _=>(68-st.1).toNat) ⟨0,rfl,by decide,W,C,.inr ⟨by omega,rfl,rfl⟩,hI,H⟩ ?_;rintro⟨i',u⟩ _ w2 ⟨i,hi,aZ,a,d,hq,aA,H0⟩;dsimp only at hi⊢;subst hi;refine AG (λa4=> ?_) λaY=> ?_
 .refine AJ (vs:=[.bool false,.bool true]) H0 λb4 w5 H5 _=> ?_;refine AM (λst w'=> ∃j:Nat,st.1=(j:Int)/\j<=2/\Q (k0<(i:Int)∨(k0=(i:Int)/\(if np0=true then 1 else 0)<j)) w' (Cells b4 E.Bb [.bool false,.bool true]::Z)) (λst _=>(2-st.1).toNat) ⟨0,rfl,by decide,a,d,v (by omega) hq,aA,(H5.front 2 rfl).front 2 rfl⟩ ?_;rintro⟨j',u⟩ _ w7 ⟨j,hj,a0,W1,C1,m,J,H7⟩;dsimp only at hj⊢;subst hj;refine AG (λaP=> ?_) λaM=> ?_
  .have hx: ∃np:Bool,[Value.bool false,.bool true][j]? =some (.bool np)/\j=(if np=true then 1 else 0):=by grind
   obtain⟨np,a6,a1⟩:=hx;refine⟨⟨by omega,by omega⟩,np,by rw[Int.toNat_natCast,Nat.mul_one];exact(H7.front 2 rfl).cell (by grind),?_⟩;have aG:i64 ((j:Int)+1)=((j+1:Nat):Int):=by rw[AI];rfl
   have same: ∀{w'},¬((i:Int)=k0/\np=np0)->Sat (Ee E c cb C1::FL E cb b h s r W1::Cells b4 E.Bb [.bool false,.bool true]::Z) w'->(∃O:Nat,i64 ((j:Int)+1)=(O:Int)/\O<=2/\Q (k0<(i:Int)∨(k0=(i:Int)/\(if np0=true then 1 else 0)<O)) w' (Cells b4 E.Bb [.bool false,.bool true]::Z))/\(2-i64 ((j:Int)+1)).toNat<(2-(j:Int)).toNat:=λ{w'} hne h'=>by
    rw[aG];refine⟨⟨j+1,rfl,by omega,W1,C1,v ?_ m,J,h'⟩,by omega⟩
    grind
   by_cases e:(i:Int)=k0/\np=np0
   .obtain⟨e1,e2⟩:=e;subst e2;rcases m with ⟨hp,_⟩|⟨_,rfl,rfl⟩
    .omega
    .rw[e1];refine U1 hE H7 J hk hf hH λW2 a3 aV w8 H8=> ?_
     grind
   .have h0:C1.held i np=0:=by
     rcases m with ⟨_,_,rfl⟩|⟨_,_,rfl⟩
     .rw[NB C hk.1 (λg=>e g)]
      grind
     grind
    exact Zu H7 h0 λw8 H8=>same e H8
  .have aF:i64 ((i:Int)+1)=((i+1:Nat):Int):=by rw[AI];rfl
   rw[aF];refine⟨⟨i+1,rfl,by omega,W1,C1,v ?_ m,J,((H7.front 2 rfl).tail)⟩,by omega⟩
   grind
 .rcases hq with ⟨_,hl,rfl⟩|⟨a5,_⟩
  .have H':Sat (Cells c E.GZ (EE cb (C.hold k0 np0 0))::FL E cb b h s r a::Z) w2:=H0;refine AH (Ah H' (o:=0) rfl (by rw[dU];decide) λw9 H9=>AH ?_);rw[Nat.zero_add,dV]at H9;refine Ah H9 (o:=0) rfl (by rw[dU];decide) λaI T=> ?_;rw[Nat.zero_add,dW]at T;exact hK a hl aA aI T
  omega
end
def iP{x:SI}(h:P6 x){n:Nat}(e:(n:Int)<x.AP):0<=(n:Int)*x.elem/\(n:Int)*x.elem+x.elem<=x.AF*8192:=by
 have m:=h.size;have h1:((n:Int)+1)*x.elem<=x.AP*x.elem:=Int.mul_le_mul_of_nonneg_right (by omega) (by omega);have a:((n:Int)+1)*x.elem=n*x.elem+x.elem:=by rw[Int.add_mul,Int.one_mul]
 have d:0<=(n:Int)*x.elem:=Int.mul_nonneg (by omega) (by omega);rw[Int.mul_comm x.AP]at h1;omega
def Zv{W:SW}{U M:BA}(hI:Ai W U M){i j:Int}{x y:Nat×SI}(u:W.S.sp i=some x)(a:W.S.sp j=some y){n m:Nat}(O:(n:Int)<x.2.AP)(hm:(m:Int)<y.2.AP)(d: ¬(i=j/\n=m)):
  x.2.base+n*x.2.elem+x.2.elem<=y.2.base+m*y.2.elem∨y.2.base+m*y.2.elem+y.2.elem<=x.2.base+n*x.2.elem:=by
 have K:=(hI.sp i x u).1;have T:=(hI.sp j y a).1;by_cases e:i=j
 .subst e;rw[u]at a;cases a;have hs:=K.size;rcases Nat.lt_or_gt_of_ne (λe=>d ⟨rfl,e⟩)with g|g
  .have h1:((n:Int)+1)*x.2.elem<=m*x.2.elem:=Int.mul_le_mul_of_nonneg_right (by omega) (by omega);rw[Int.add_mul,Int.one_mul]at h1;omega
  .have h1:((m:Int)+1)*x.2.elem<=n*x.2.elem:=Int.mul_le_mul_of_nonneg_right (by omega) (by omega);rw[Int.add_mul,Int.one_mul]at h1;omega
 .have s1:=iP K O;have s2:=iP T hm;obtain⟨_,a2,Y,_,v⟩:=hI.hI.sp i x u;obtain⟨_,b2,b3,_,J⟩:=hI.hI.sp j y a;rcases Int.lt_or_le y.2.base (x.2.base+x.2.AF*8192)with g|g
  .rcases Int.lt_or_le x.2.base (y.2.base+y.2.AF*8192)with g2|g2
   .exfalso;rcases Int.le_total x.2.base y.2.base with q|q
    .exact e ((v (y.2.base/8192) (by omega) (by omega)).symm.trans (J (y.2.base/8192) (by omega) (by omega)))
    .exact e ((v (x.2.base/8192) (by omega) (by omega)).symm.trans (J (x.2.base/8192) (by omega) (by omega)))
   .omega
  .omega
def Zt.ne{W:SW}{C D:KS}(h:Zt W C)(O:Zt W D){k K:Int}{np a:Bool}(d: ¬(K=k/\a=np))(h0:C.held k np≠0):D.held K a≠C.held k np:=by
 intro e;rcases h k np with g|⟨_,⟨y,T,m,u⟩,_⟩
 .exact h0 g
 rcases O K a with g|⟨_,⟨z,hz,v,J⟩,_⟩
 .exact h0 (e▸g)
 .rw[e,T]at hz;cases hz;exact d ⟨v.symm.trans m,J.symm.trans u⟩
section
variable{E:Env}{w:World}{Z:List Pr}{c cb b h s r:Nat}{C D:KS}{W:SW}{U M:BA}
variable(hE:EnvK E)
include hE
end
def TW{p:Addr}{i:Nat}{v:Value}{r:List Value}{w:World}{K:World->Prop}(h:stCells (p.add i) 0 [v] w λw'=>stCells p (i+1) r w' K):stCells p i (v::r) w K:=by
 simp only[stCells,add_zero]at h⊢;exact h
def SW.NQ(W:SW)(id:Int)(x:Nat×SI)(uw:List Int)(EU:Nat):SW:={W.take id x uw 0 with L:=G5 W.L ⟨EU,id,x.2.base,(x.2.cls,x.2.E3,x.2.used+1==x.2.AP,true)⟩}
def Tk.want(t:Tk)(cls pg st:Int):Tk:={t with cls:=cls,np:=true,ti:=false,pg:=pg,step:=st}
section
variable{E:Env}{w:World}{Z:List Pr}{W:SW}{U M:BA}{A:sV}{dead:Bool}{ma cy:Int}
def eI(hS:EnvW E)(hT: ∀w',Sat Z w'->DJ E.AB w')(H:Sat (MK E A dead ma cy::AQ E A.b A.h A.s A.r W::Z) w)(hI:Ai W U M){id:Int}{x:Nat×SI}(hx:W.S.sp id=some x)(hs:x.2.AP=1)(hu:U id 0=false)(T: ∀y∈W.L,y.id≠id)(hf:W.L.length<1099511627776){K:Int->World->Prop}
  (hK: ∀uw EU,Ai (W.NQ id x uw EU) (U.take id 0) M-> ∀w',Sat (MK E A dead ma cy::AQ E A.b A.h A.s A.r (W.NQ id x uw EU)::Z) w'->K x.2.base w'):F.C2 E (some ⟨A.m,0,none⟩) id K w:=by
 unfold F.C2 T0.C2;have O: ∀w',Sat (MK E A dead ma cy::Z) w'->DJ E.AB w':=λw' h=>hT w' h.tail;refine AH ⟨_,H.AU rfl,OR (H.front 1 rfl) (λd=>by rw[hx]at d;cases d) λy hy=> ?_⟩;obtain rfl:y=x:=Option.some.inj (hy.symm.trans hx);refine Sk O (H.front 1 rfl) hI hy (λu=>by rw[u 0 (by omega)]at hu;cases hu) λn uw d _ _ v w3 Y=> ?_;obtain rfl:n=0:=by omega
 have a:(W.S.put id (y.1,{y.2 with uw:=uw,used:=y.2.used+1,look:=((0:Nat):Int)+1})).sp id=some (y.1,{y.2 with uw:=uw,used:=y.2.used+1,look:=((0:Nat):Int)+1}):=HS.Fv;refine AH ⟨_,(Y.front 1 rfl:Sat (MK E A dead ma cy::_) _).cell (o:=0) (m:=3) rfl,?_⟩;refine P9 hS Y v hf (λd=>by rw[a]at d;cases d) (λ_ ⟨z,hz,e⟩=>absurd e (T z hz)) λz hz _ EU J w4 H4=> ?_;rw[a]at hz;cases hz;refine Kc H4 (x:=(y.1,{y.2 with uw:=uw,used:=y.2.used+1,look:=((0:Nat):Int)+1})) a λw5 H5=>hK uw EU J w5 (H5.front 1 rfl)
end
section
variable{E:Env}{rb:Nat}{g:NW}{S:Cr}{Z:List Pr}{w:World}
def wZ(H:Sat (AA E rb g S++Z) w){i:Nat}{x:Nat×Tk}(d:S.T[i]? =some x){cls pg:Int}{K:World->Prop}
  (hK: ∀w',Sat (AA E rb g (S.tk i (x.1,x.2.want cls pg x.2.step))++Z) w'->K w'):stCells ((Addr.mk x.1 0 none).add 4) 0 [.int .i64 cls,.bool true,.bool false,.int .u64 pg] w K:=by
 have a:=(List.getElem?_eq_some_iff.1 d).1;refine TW ?_;rw[add_add];refine Fy H d (m:=4) {x.2 with cls:=cls} rfl (by decide) rfl λw2 v=>TW ?_;rw[add_add];refine Fy v (x:=(x.1,{x.2 with cls:=cls})) (List.getElem?_set_self a) (m:=5) {x.2 with cls:=cls,np:=true} rfl (by decide) rfl λw3 J=>TW ?_;rw[add_add];refine Fy J (x:=(x.1,{x.2 with cls:=cls,np:=true})) (List.getElem?_set_self (by simpa[Cr.tk]using a)) (m:=6) {x.2 with cls:=cls,np:=true,ti:=false} rfl (by decide) rfl λw4 O=>TW ?_;rw[add_add];refine Fy O (x:=(x.1,{x.2 with cls:=cls,np:=true,ti:=false})) (List.getElem?_set_self (by simpa[Cr.tk]using a)) (m:=7) {x.2 with cls:=cls,np:=true,ti:=false,pg:=pg} rfl (by decide) rfl λu Y=>dQ (hK u ?_);have e:Cr.tk (Cr.tk (Cr.tk (Cr.tk S i (x.1,{x.2 with cls:=cls})) i (x.1,{x.2 with cls:=cls,np:=true})) i (x.1,{x.2 with cls:=cls,np:=true,ti:=false})) i (x.1,{x.2 with cls:=cls,np:=true,ti:=false,pg:=pg})=S.tk i (x.1,x.2.want cls pg x.2.step):=by simp[Cr.tk,Tk.want]
 exact(congrArg (λs=>Sat (AA E rb g s++Z) u) e).mp Y
end
def Xr(S:Cr)(U M:BA)(i:Nat)(c:Nat×KS)(cls:Int)(a:SW)(d:List (Nat×KS)):Prop:=(cls=0/\a=S.W/\d=S.C)∨
 (0<cls/\(∀z,S.W.S.sp (c.2.held cls true)=some z-> ∀j:Nat,(j:Int)<z.2.AP->U (c.2.held cls true) j=true)/\PA S.W c.2 cls true a/\Ai a U M/\d=S.C.set i (c.1,c.2.hold cls true 0))
def SW.I6(W:SW)(n:Int):SW:={W with Br:=Lk W.Br n}
section
variable{E:Env}{rb:Nat}{g:NW}{S:Cr}{Z:List Pr}{w:World}{U M:BA}
def FN.toS(hE:FN E):EnvS E:=hE.toEnvK.toEnvC.toEnvW.toEnvA.toEnvS
def Fz.W9{n cls pg:Int}(h:Fz n cls pg)(h0:16<=n)(h1:n<=1000000):(0<=cls/\cls<68)/\1<=pg/\pg<=130:=by
 rcases h with ⟨_,a,rfl⟩|⟨g,rfl,rfl⟩
 .have h0:=a.k0;have h1:=a.k1;have d:=Li (c:=cls) (by omega) h1;have e:=wW (c:=cls) (by omega) h1;omega
 .omega
def MD(hE:FN E)(hT: ∀w',Sat Z w'->DJ E.AB w')(H:Sat (AA E rb g S++Z) w)(bD:FM S){i k:Nat}{x:Nat×Tk}{y:Nat×Ak}{c:Nat×KS}(hx:S.T[i]? =some x)(hk:x.2.ask=(k:Int))(hy:S.L[k]? =some y)(bL:y.2.op=1)
  (h0:16<=y.2.n)(h1:y.2.n<=1000000)(hc:S.C[i]? =some c)(hI:Ai S.W U M)(bG:0<=S.W.Br/\S.W.Br<18446744073709551616)(hf:S.W.L.length<1099511627776)(hH: ∀k,SC S.W c.2 k true)(aT:S.ord.length<1000000){K:World->Prop}
  (hA: ∀cls pg,Fz y.2.n cls pg->0<cls-> ∀z (m:Nat) uw,S.W.S.sp (c.2.held cls true)=some z->(m:Int)<z.2.AP->U (c.2.held cls true) m=false->Ai (S.W.take (c.2.held cls true) z uw m) (U.take (c.2.held cls true) m) M->
   ∀g' w',Sat (AA E rb g' (((S.tk i (x.1,x.2.want cls pg x.2.step)).mw (u64 (S.ma+1)) (S.W.take (c.2.held cls true) z uw m)).done i (x.1,x.2.want cls pg x.2.step) k y (z.2.base+m*z.2.elem) z.2.elem 0)++Z) w'->K w')
  (hB: ∀cls pg d Cl,Fz y.2.n cls pg->Xr S U M i c cls d Cl-> ∀w',Sat (AA E rb g {S.tk i (x.1,x.2.want cls pg 2)with C:=Cl,W:=d.I6 (pg*8192)}++Z) w'->K w'):
  F.Ej E (some ⟨rb,0,none⟩) (some ⟨x.1,0,none⟩) K w:=by
 unfold F.Ej T0.Ej;have bJ:=(List.getElem?_eq_some_iff.1 hx).1;have bK:=bD.ti i x hx;refine JS H hx hk hy λw2 H2=> ?_;rw[bL];refine AJ (vs:=[.int .i64 0,.int .i64 0,.int .u64 0,.int .u64 0,.int .i64 0,.int .u64 0,.bool false,.int .i64 0,.slice none 0 0,.slice none 0 0]) H2 λa9 w3 H3 _=> ?_;refine CN (news:=[.int .i64 1,.int .i64 y.2.p,.int .u64 y.2.n,.int .u64 0,.int .i64 0,.int .u64 0,.bool false,.int .i64 0,.slice none 0 0,FJ y.2.set]) H3 rfl (by intro v hv;simp only[List.mem_cons,List.not_mem_nil,or_false]at hv;rcases hv with rfl|rfl|rfl|rfl|rfl|rfl|rfl|rfl|rfl|rfl<;>rfl) λw4 H4=> ?_;refine⟨_,H4.cell (o:=0) (m:=0) rfl,_,H4.cell (o:=0) (m:=1) rfl,_,H4.cell (o:=0) (m:=2) rfl,_,H4.cell (o:=0) (m:=3) rfl,_,H4.cell (o:=0) (m:=4) rfl,_,H4.cell (o:=0) (m:=5) rfl,_,H4.cell (o:=0) (m:=6) rfl,_,H4.cell (o:=0) (m:=7) rfl,⟨none,0,0⟩,H4.cell (o:=0) (m:=8) rfl,y.2.set,H4.cell (o:=0) (m:=9) rfl,?_⟩;refine eD hE hE.toS H4 h0 h1 λcls pg hw w5 H5=> ?_;obtain⟨⟨c0,c1⟩,p0,p1⟩:=hw.W9 h0 h1;refine AJ (vs:=[.int .i64 0,.bool false,.bool false,.int .u64 0]) H5 λaK w6 H6 _=> ?_;refine CN (news:=[.int .i64 cls,.bool true,.bool false,.int .u64 pg]) H6 rfl (by intro v hv;simp only[List.mem_cons,List.not_mem_nil,or_false]at hv;rcases hv with rfl|rfl|rfl|rfl<;>rfl) λw7 H7=>AO rfl ?_;refine⟨_,H7.cell (o:=0) (m:=0) rfl,_,H7.cell (o:=0) (m:=1) rfl,_,H7.cell (o:=0) (m:=2) rfl,_,H7.cell (o:=0) (m:=3) rfl,AH ?_⟩;have mv: ∀{A B:Pr} {L Y:List Pr} {w'},Sat (A::B::(L++Y)) w'->Sat (L++A::B::Y) w':=λh=>h.perm ((List.perm_middle.trans (List.perm_middle.cons _)).symm)
 let WA:Pr:=Cells aK E.Bv [.int .i64 cls,.bool true,.bool false,.int .u64 pg]
 let CA:Pr:=Cells a9 E.Bu [.int .i64 1,.int .i64 y.2.p,.int .u64 y.2.n,.int .u64 0,.int .i64 0,.int .u64 0,.bool false,.int .i64 0,.slice none 0 0,FJ y.2.set]
 have bE: ∀{R:List Pr},(∀{w'},Sat R w'->Sat (WA::CA::Z) w')-> ∀w',Sat R w'->DJ E.AB w':=λh w' h'=>hT w' (h h').tail.tail;have H8:Sat (AA E rb g S++WA::CA::Z) w7:=mv H7;refine wZ H8 hx λw8 H9=> ?_;have aM:(S.tk i (x.1,x.2.want cls pg x.2.step)).T[i]? =some (x.1,x.2.want cls pg x.2.step):=List.getElem?_set_self bJ;have Hd:=H9.drew;obtain⟨q,hq,bH⟩:=(Hd.front 7 rfl:Sat (aF E g.a.cb g.a.cs S.C::_) _).Ke hc;have b8:=(Hd.front 7 rfl:Sat (aF E g.a.cb g.a.cs S.C::_) _).Jp;have bR:=(List.getElem?_eq_some_iff.1 hc).1;refine AH ⟨_,G7 Hd,AH ⟨_,VN Hd (k:=4) rfl,AH ⟨x.2.n,Ll (x:=(x.1,x.2.want cls pg x.2.step)) Hd aM,?_⟩⟩⟩;rw[bK];refine E5 hq ⟨⟨by omega,by omega⟩,_,by rw[Int.toNat_natCast,Nat.mul_one];exact bH,?_⟩;refine AZ ⟨_,(Hd.front 12 rfl:Sat (WA::_) _).cell (o:=0) (m:=2) rfl,AO rfl λjj=> ?_⟩;refine AV (λ_ w'=> ∃d Cl,Xr S U M i c cls d Cl/\Sat (AA E rb g {S.tk i (x.1,x.2.want cls pg x.2.step)with C:=Cl,W:=d}++WA::CA::Z) w') ?_ ?_
 .refine⟨_,(Hd.front 12 rfl:Sat (WA::_) _).AU (o:=0) rfl,AG (λaD=> ?_) λbT=>⟨S.W,S.C,.inl ⟨by omega,rfl,rfl⟩,Hd⟩⟩;refine⟨_,(Hd.front 12 rfl:Sat (WA::_) _).AU (o:=0) rfl,_,(Hd.front 12 rfl:Sat (WA::_) _).cell (o:=0) (m:=1) rfl,?_⟩;obtain⟨R,HR,aU,O⟩:=TU Hd hc;have none_:(∀z,S.W.S.sp (c.2.held cls true)=some z-> ∀j:Nat,(j:Int)<z.2.AP->U (c.2.held cls true) j=true)-> ∀w',Sat (Ee E c.1 g.a.cb c.2::FL E g.a.cb g.a.b g.a.h g.a.s g.a.r S.W::R) w'->
    ∃aX:Int,w'.cell? (Addr.mk aK 0 none)=some (.int .i64 aX)/\ ∃aY:Bool,w'.cell? ((Addr.mk aK 0 none).add 1)=some (.bool aY)/\
    F.BY E (some ⟨c.1,0,none⟩) aX aY (λbP=> ∃d Cl,Xr S U M i c cls d Cl/\Sat (AA E rb g {S.tk i (x.1,x.2.want cls pg x.2.step)with C:=Cl,W:=d}++WA::CA::Z) bP) w':=λaS w' H'=>by
   have Hc:=O H';refine⟨_,(Hc.front 12 rfl:Sat (WA::_) _).AU (o:=0) rfl,_,(Hc.front 12 rfl:Sat (WA::_) _).cell (o:=0) (m:=1) rfl,?_⟩;refine U1 hE.toEnvK H' hI ⟨aD,c1⟩ hf (hH cls) λd hl bC cC a2=>⟨d,_,.inr ⟨aD,aS,hl,bC,rfl⟩,O a2⟩
  refine Zn (bE aU) HR hI (λhn w' H'=>AO rfl (none_ (λz hz=>by have h:=hz.symm.trans hn;cases h) w' H')) (λz hz aR w' H'=>AO rfl (none_ (λz' bM=>by have h:=bM.symm.trans hz;cases h;exact aR) w' H')) λz m uw hz hm hu _ aQ w' H'=>Aa rfl ?_;have Hc:=O H';have aL:S.C.set i (c.1,c.2)=S.C:=U6 hc;have aP:Sat (AA E rb g ((S.tk i (x.1,x.2.want cls pg x.2.step)).mw S.ma (S.W.take (c.2.held cls true) z uw m))++WA::CA::Z) w':=by
   have e:Cr.cw (S.tk i (x.1,x.2.want cls pg x.2.step)) i (c.1,c.2) (S.W.take (c.2.held cls true) z uw m)=(S.tk i (x.1,x.2.want cls pg x.2.step)).mw S.ma (S.W.take (c.2.held cls true) z uw m):=by
    unfold Cr.cw Cr.mw Cr.tk;simp only;rw[aL]
   exact(congrArg (λs=>Sat (AA E rb g s++WA::CA::Z) w') e).mp Hc
  refine AZ ⟨_,(aP.front 12 rfl:Sat (WA::_) _).cell (o:=0) (m:=2) rfl,AO rfl λjk=>AH ?_⟩;have u:=aP.drew;have CC:=λ(m:Nat) (v:Value) (h:[Value.int .i64 1,.int .i64 y.2.p,.int .u64 y.2.n,.int .u64 0,.int .i64 0,.int .u64 0,.bool false,.int .i64 0,.slice none 0 0,FJ y.2.set][0+m]? =some v)=>(u.front 13 rfl:Sat (CA::_) _).cell (o:=0) (m:=m) h;refine⟨_,G7 u,_,CC 0 _ rfl,_,CC 1 _ rfl,_,CC 2 _ rfl,_,CC 3 _ rfl,_,CC 4 _ rfl,_,CC 5 _ rfl,_,CC 6 _ rfl,_,CC 7 _ rfl,⟨none,0,0⟩,CC 8 _ rfl,y.2.set,CC 9 _ rfl,?_⟩;refine⟨_,(u.front 12 rfl:Sat (WA::_) _).cell (o:=0) (m:=0) rfl,_,(u.front 12 rfl:Sat (WA::_) _).cell (o:=0) (m:=1) rfl,_,(u.front 12 rfl:Sat (WA::_) _).cell (o:=0) (m:=2) rfl,_,(u.front 12 rfl:Sat (WA::_) _).cell (o:=0) (m:=3) rfl,?_⟩;obtain⟨R3,a8,_,aH⟩:=OW u;have hB:iL (S.W.take (c.2.held cls true) z uw m) (U.take (c.2.held cls true) m) (c.2.held cls true) m (z.1,{z.2 with uw:=uw,used:=z.2.used+1,look:=(m:Int)+1}):=⟨HS.Fv,hm,by unfold BA.take;rw[BA.Ir];simp⟩;refine RL hE.toS a8 aQ hB λw9 H9=> ?_;refine Js (aH H9) aT (x:=(x.1,x.2.want cls pg x.2.step)) aM hk hy λg' bN aJ=> ?_;exact hA cls pg hw aD z m uw hz hm hu aQ g' bN ((aJ.front 12 rfl).tail.front 12 rfl).tail
 .rintro _ _ w9 ⟨d,Cl,hL,aJ⟩;have J:=aJ.drew;refine AH ⟨_,G7 J,AH ⟨_,VN J (k:=3) rfl,_,(J.front 12 rfl:Sat (WA::_) _).cell (o:=0) (m:=0) rfl,_,(J.front 12 rfl:Sat (WA::_) _).cell (o:=0) (m:=1) rfl,_,(J.front 12 rfl:Sat (WA::_) _).cell (o:=0) (m:=2) rfl,_,(J.front 12 rfl:Sat (WA::_) _).cell (o:=0) (m:=3) rfl,?_⟩⟩;unfold F.JG;refine AJ (vs:=[.int .i64 cls,.bool true,.bool false,.int .u64 pg]) J λb3 cD aG _=>⟨_,aG.cell (o:=0) (m:=3) rfl,VN aG.tail (k:=3) rfl,G7 aG.tail,?_⟩;rw[AR (n:=pg*8192)];have bF:d.Br=S.W.Br:=by
   rcases hL with ⟨_,rfl,_⟩|⟨_,_,hl,_⟩
   .rfl
   .exact(eG hl).2.2.1
  have a3:=aG.tail;refine Vd (a3.front 11 rfl:Sat (AQ E g.a.b g.a.h g.a.s g.a.r d::_) _) (by rw[bF];exact bG) (by omega) λbO a4=> ?_;have aN:Sat (AA E rb g {S.tk i (x.1,x.2.want cls pg x.2.step)with C:=Cl,W:=d.I6 (pg*8192)}++WA::CA::Z) bO:=Sat.back (Ps:=AA E rb g {S.tk i (x.1,x.2.want cls pg x.2.step)with C:=Cl,W:=d}++WA::CA::Z) 11 a4 (by simp[AA]);refine⟨G7 aN,AH ?_⟩;refine Fy (x:=(x.1,x.2.want cls pg x.2.step)) aN aM (m:=2) (x.2.want cls pg 2) rfl (by decide) rfl λaW a5=>hB cls pg d Cl hw hL aW ?_;have e:Cr.tk {S.tk i (x.1,x.2.want cls pg x.2.step)with C:=Cl,W:=d.I6 (pg*8192)} i (x.1,x.2.want cls pg 2)={S.tk i (x.1,x.2.want cls pg 2)with C:=Cl,W:=d.I6 (pg*8192)}:=by simp[Cr.tk]
  have a6:=(congrArg (λs=>Sat (AA E rb g s++WA::CA::Z) aW) e).mp a5;exact((a6.front 12 rfl).tail.front 12 rfl).tail
end
section
variable{S S1 S2:HS}{p n page b:Int}
def HS.clrV(h:S2.V=S.V):S2.aD.V=S.aD.V:=by unfold HS.aD;simp only;rw[h]
def GA.RN(h:GA S.aD b)(a:S2.V=S.V)(d:S2.hint=S.hint):GA S2.aD b:=h.gX (HS.clrV a) d
structure rV(S S2:HS)(n b:Int):Prop where
 la: ∃b',(b'=b∨b'=b+Le n)/\GA S2.aD b'
 sp:S2.sp=S.sp
 own:S2.own=S.own
def OX{i:Nat}(h:Px S i S1):S1.sp=S.sp/\S1.own=S.own:=by
 rcases h with ⟨_,q,_,rfl⟩|⟨_,rfl⟩<;>exact⟨rfl,rfl⟩
def JM(h:PS S p n S1):S1.sp=S.sp/\S1.own=S.own:=by
 rcases h with ⟨_,rfl⟩|⟨i,_,_,_,a,_⟩
 .exact⟨rfl,rfl⟩
 .exact OX a
def Su(h:gW S p n page S1)(J:GA S.aD b)(hk:SZ S)(hn:1<=n)(O:b+Le n<=34359738368):rV S S1 n b/\S1.V.wd=S.V.wd/\S1.V.rf.length<=S.V.rf.length:=by
 rcases h with (⟨a,i,k,hi,_,_,v,_,_,_,_,rfl⟩|⟨a,d,_,rfl⟩)|⟨a,K,d,_,⟨hr,at_,T,rfl⟩,_,rfl⟩
 .have e:=v.V;have m:=OX v;have u:(a.Lc i k n.toNat).V=S.V:=e.1;exact⟨⟨⟨b,.inl rfl,J.RN u e.2⟩,m.1,m.2⟩,by rw[u],by rw[u];exact Nat.le_refl _⟩
 .have e:=d.V;have m:=JM d;have u:(a.Ld page n).V=S.V:=e.1;exact⟨⟨⟨b,.inl rfl,J.RN u e.2⟩,m.1,m.2⟩,by rw[u],by rw[u];exact Nat.le_refl _⟩
 .have e:=d.V;have m:=JM d;have h0:GA a.aD b:=J.RN e.1 e.2;have Y:vS a.aD n ((a.grown {a.V with rf:=a.V.rf.tail,pl:=a.V.pl.tail,laid:=ES a.V.laid at_ (at_+Le n)} at_ (Le n)).aD):=⟨(λr (e:([]:List Bool)=true::r)=>nomatch e),at_,T,rfl⟩;obtain⟨h1,_⟩:=h0.grew' (show Ok a.V.laid from hk.pS d) hn Y O;refine⟨⟨⟨b+Le n,.inr rfl,h1.gX rfl rfl⟩,m.1,m.2⟩,?_,?_⟩
  .show a.V.wd=_;rw[e.1]
  .show a.V.rf.tail.length<=_;rw[e.1,List.length_tail];omega
def Zw(h:Found S p n page S2)(u:GA S.aD b)(J:SZ S)(K:1<=n)(v:b+Le n<=34359738368):rV S S2 n b/\(∀q,¬(page<=q/\q<page+n)->S2.V.wd q=S.V.wd q)/\S2.V.rf.length<=S.V.rf.length:=by
 obtain⟨S1,Y,hm⟩:=h;obtain⟨k,e,T⟩:=Su Y u J K v;rcases hm with ⟨_,rfl⟩|⟨_,_,rfl⟩
 .exact⟨k,λq _=>by rw[e],T⟩
 .obtain⟨m,d,a⟩:=k.la;refine⟨⟨⟨m,d,⟨a.la,a.b0,a.b1,a.h0,a.h1,a.pl,rfl⟩⟩,k.sp,k.own⟩,λq O=> ?_,?_⟩
  .funext j;show(if page<=q/\q<page+n/\V2 S1.V.rel q=true then LZ S1.V page q else S1.V.wd q j)=_;rw[if_neg (λc=>O ⟨c.1,c.2.1⟩),e]
  .show S1.V.rf.tail.length<=_;rw[List.length_tail];omega
def eJ(h:kZ S p n S2)(O:GA S.aD b)(hk:SZ S)(hn:1<=n)(T:b+Le n<=34359738368):rV S S2 n b/\S2.V.wd=S.V.wd/\S2.V.rf.length<S.V.rf.length:=by
 have hu:=pQ n;rcases h with ⟨J,a,_,hg⟩|⟨S1,page,r,a,_,u,rfl⟩
 .have e:=a.V;have K:=JM a;have h0:GA J.aD b:=O.RN e.1 e.2;rcases hg with ⟨r,u,rfl⟩|⟨_,v,rfl⟩
  .refine⟨⟨⟨b,.inl rfl,h0⟩,K.1,K.2⟩,by show J.V.wd=_;rw[e.1],?_⟩;show r.length<_;rw[<-e.1,u,List.length_cons];omega
  .exact(h0.pR (by omega) T v).elim
 .obtain⟨k,e,hl⟩:=Su a O hk hn T;obtain⟨Y,d,m⟩:=k.la;refine⟨⟨⟨Y,d,m.gX rfl rfl⟩,k.sp,k.own⟩,e,?_⟩;show r.length<_;rw[u,List.length_cons]at hl;omega
def xA(h:kZ S p n S2):S2.sp=S.sp:=by
 rcases h with ⟨e,d,_,⟨r,_,rfl⟩|⟨_,_,rfl⟩⟩|⟨S1,page,r,d,_,_,rfl⟩
 .exact(JM d).1
 .exact(JM d).1
 .rcases d with (⟨e,i,k,hi,_,_,m,_,_,_,_,rfl⟩|⟨e,a,_,rfl⟩)|⟨e,u,a,_,⟨J,at_,v,rfl⟩,_,rfl⟩
  .exact(OX m).1
  .exact(JM a).1
  .exact(JM a).1
end
def SW.fresh(W:SW)(S2:HS)(bl:Nat)(id page pg cls:Int)(X:FX):SW:={W with S:=S2.GW id (bl,JV page pg cls true) page pg X}
structure iQ(W:SW)(p:Int)(S2:HS)(bl:Nat)(id page pg cls:Int)(X:FX):Prop where
 fd:Found W.S p pg page S2
 ok:SZ W.S
 inv:CF S2 (inr page pg)
 nx:Next S2 id X
 no:W.S.sp id=none
 p0:0<=page
 p1:page+pg<=34359738368
def Fz.cF{n cls pg:Int}(h:Fz n cls pg)(h0:16<=n)(h1:n<=1000000): ¬KY 0 pg cls:=by
 obtain⟨⟨c0,c1⟩,p0,p1⟩:=h.W9 h0 h1;unfold KY;rcases h with ⟨_,a,rfl⟩|⟨g,rfl,rfl⟩
 .have:=a.k0;omega
 .omega
section
variable{E:Env}{rb:Nat}{g:NW}{S:Cr}{Z:List Pr}{w:World}{U M:BA}
def rnM0(H:Sat (AA E rb g S++Z) w):w.cell? (Addr.mk g.a.m 0 none)=some (pv g.a.h):=
 Sat.AU (F:=(AA E rb g S++Z).eraseIdx 6) (H.front 6 rfl) rfl
def OY(hE:FN E)(hT: ∀w',Sat Z w'->DJ E.AB w')(H:Sat (AA E rb g S++Z) w)(bE:FM S){i k:Nat}{x:Nat×Tk}{y:Nat×Ak}{c:Nat×KS}(O:S.T[i]? =some x)(hk:x.2.ask=(k:Int))(hy:S.L[k]? =some y)(bL:y.2.op=1)
  (h0:16<=y.2.n)(h1:y.2.n<=1000000)(hw:Fz y.2.n x.2.cls x.2.pg)(bK:x.2.np=true)(bM:x.2.ti=false)(hc:S.C[i]? =some c)(hI:Ai S.W U M)(hf:S.W.L.length<1099511627776)(bJ: ∀z∈S.W.L,∃u,S.W.S.sp z.id=some u)(aJ:S.ord.length<1000000){K:World->Prop}
  (hL: ∀S2,kZ S.W.S i x.2.pg S2->SZ S.W.S->Ai {S.W with S:=S2} U M-> ∀g' w',Sat (AA E rb g' (Cr.done {S with ho:= -1,W:={S.W with S:=S2}} i x k y 0 0 13)++Z) w'->K w')
  (hA: ∀S2 bl id page X,iQ S.W i S2 bl id page x.2.pg x.2.cls X->0<x.2.cls->Ai (S.W.fresh S2 bl id page x.2.pg x.2.cls X) (U.set id FK) (M.set id FK)->
   ∀w',Sat (AA E rb g {S.tk i (x.1,{x.2 with step:=1})with ho:= -1,C:=S.C.set i (c.1,c.2.hold x.2.cls true id),W:=S.W.fresh S2 bl id page x.2.pg x.2.cls X}++Z) w'->K w')
  (hB: ∀S2 bl id page X uw EU,iQ S.W i S2 bl id page x.2.pg x.2.cls X->x.2.cls=0->Ai (S.W.fresh S2 bl id page x.2.pg 0 X) (U.set id FK) (M.set id FK)->Ai ((S.W.fresh S2 bl id page x.2.pg 0 X).NQ id (bl,JV page x.2.pg 0 true) uw EU) ((U.set id FK).take id 0) (M.set id FK)->
   ∀g' w',Sat (AA E rb g' (Cr.done {S with ho:= -1,ma:=u64 (S.ma+1),W:=(S.W.fresh S2 bl id page x.2.pg 0 X).NQ id (bl,JV page x.2.pg 0 true) uw EU} i x k y (page*8192) (x.2.pg*8192) 0)++Z) w'->K w'):
  F.FU E (some ⟨rb,0,none⟩) (some ⟨x.1,0,none⟩) K w:=by
 unfold F.FU T0.FU;have cC:=(List.getElem?_eq_some_iff.1 O).1;have aP:=bE.ti i x O;have aB:=hw.cF h0 h1;obtain⟨⟨c0,c1⟩,p0,p1⟩:=hw.W9 h0 h1;refine AH ⟨_,by rw[add_add];exact K6 H O (k:=4) rfl,_,by rw[add_add];exact K6 H O (k:=5) rfl,_,by rw[add_add];exact K6 H O (k:=6) rfl,_,by rw[add_add];exact K6 H O (k:=7) rfl,?_⟩;refine AJ (vs:=[.int .i64 0,.bool false,.bool false,.int .u64 0]) H λb6 w2 H2 _=>CN (news:=[.int .i64 x.2.cls,.bool x.2.np,.bool x.2.ti,.int .u64 x.2.pg]) H2 rfl (by intro v hv;simp only[List.mem_cons,List.not_mem_nil,or_false]at hv;rcases hv with rfl|rfl|rfl|rfl<;>rfl) λw3 H3=> ?_;rw[bK,bM]at H3
 let WA:Pr:=Cells b6 E.Bv [.int .i64 x.2.cls,.bool true,.bool false,.int .u64 x.2.pg]
 have Hd:Sat (AA E rb g S++WA::Z) w3.drew:=JR H3.drew;have b8: ∀{R:List Pr},(∀{w'},Sat R w'->Sat (WA::Z) w')-> ∀w',Sat R w'->DJ E.AB w':=λh w' h'=>hT w' (h h').tail;refine AH ⟨_,G7 Hd,AH ⟨_,rnM0 Hd,AH ⟨_,Ll Hd O,_,(Hd.front 12 rfl:Sat (WA::_) _).cell (o:=0) (m:=3) rfl,_,(Hd.front 12 rfl:Sat (WA::_) _).AU (o:=0) rfl,_,(Hd.front 12 rfl:Sat (WA::_) _).cell (o:=0) (m:=1) rfl,?_⟩⟩⟩;rw[aP];obtain⟨R,HH,hz,hb⟩:=(Hd.front 11 rfl:Sat (AQ E g.a.b g.a.h g.a.s g.a.r S.W::_) _).Gf;have BU:=HH.BU;have a1: ∀{w'},Sat R w'->Sat Z w':=λh=>((hz h).front 11 rfl).tail.tail.tail.tail.tail.tail.tail.tail.tail.tail.tail.tail;have aA: ∀{S':HS} {w'},Sat (BF E g.a.h S'::R) w'->Sat (AA E rb g {S with W:={S.W with S:=S'}}++WA::Z) w':=λh=>Sat.back (Ps:=AA E rb g S++WA::Z) 11 (hb h) (by simp[AA]);refine ZJ hE.toEnvK.toEnvC.toEnvW.toEnvA (λw' h'=>hT w' (a1 h')) HH hI.hI (by omega) (by omega) (λh=>absurd h aB) (λ_ S2 aC aN w4 H4=> ?_) λ_ page S2 bl id X aZ aN q0 q1 hX bC w4 H4=> ?_
 .have H5:=aA H4;refine⟨G7 H5,AH ?_⟩;refine VC H5 (m:=6) (by decide) rfl λw6 H6=>Aa rfl ?_;have H7:Sat (AA E rb g {S with ho:= -1,W:={S.W with S:=S2}}++WA::Z) w6:=H6;have a0:=xA aC;have bD:Ai {S.W with S:=S2} U M:=⟨aN,λj z hz=>hI.sp j z (by rw[<-a0];exact hz),λit aO=>by
   obtain⟨z,g1,g2⟩:=hI.it it aO;exact⟨z,by show S2.sp _=_;rw[a0];exact g1,g2⟩⟩
  refine Js H7 aJ O hk hy λg' w8 H8=>hL S2 aC BU bD g' w8 (H8.front 12 rfl).tail
 .have H5:=aA H4;obtain⟨aE,aD⟩:=hI.GW aZ hX q0 q1 aB (by omega) bC;have hN:iQ S.W i S2 bl id page x.2.pg x.2.cls X:=⟨aZ,BU,aN,hX,aD,q0,q1⟩;refine⟨G7 H5,AH ?_⟩;refine VC H5 (m:=6) (by decide) rfl λw6 H6=>AO rfl ?_;have H7:Sat (AA E rb g {S with ho:= -1,W:=S.W.fresh S2 bl id page x.2.pg x.2.cls X}++WA::Z) w6:=H6;refine⟨_,(H7.front 12 rfl:Sat (WA::_) _).AU (o:=0) rfl,AG (λaK=> ?_) λbW=> ?_⟩
  .have d:=H7.drew;obtain⟨q,hq,bH⟩:=(d.front 7 rfl:Sat (aF E g.a.cb g.a.cs S.C::_) _).Ke hc;have cA:=(d.front 7 rfl:Sat (aF E g.a.cb g.a.cs S.C::_) _).Jp;have bV:=(List.getElem?_eq_some_iff.1 hc).1;refine AH ⟨_,G7 d,AH ⟨_,VN d (k:=4) rfl,AH ⟨_,Ll d O,?_⟩⟩⟩;rw[aP];refine E5 hq ⟨⟨by omega,by omega⟩,_,by rw[Int.toNat_natCast,Nat.mul_one];exact bH,_,(d.front 12 rfl:Sat (WA::_) _).AU (o:=0) rfl,_,(d.front 12 rfl:Sat (WA::_) _).cell (o:=0) (m:=1) rfl,?_⟩;obtain⟨R3,aL,_,J⟩:=TU (S:={S with ho:= -1,W:=S.W.fresh S2 bl id page x.2.pg x.2.cls X}) d hc;refine Sl aL ⟨aK,c1⟩ λw8 H8=> ?_;have H9:=J H8;rw[<-aP];refine⟨Ll H9 O,VN H9 (k:=4) rfl,G7 H9,AH ?_⟩;refine Fy H9 O (m:=2) {x.2 with step:=1} rfl (by decide) rfl λbO Y=>hA S2 bl id page X hN aK aE bO ?_;exact(Y.front 12 rfl).tail
  .have aR:x.2.cls=0:=by omega
   have d:=H7.drew;refine AH ⟨_,G7 d,_,(d.front 12 rfl:Sat (WA::_) _).cell (o:=0) (m:=0) rfl,_,(d.front 12 rfl:Sat (WA::_) _).cell (o:=0) (m:=1) rfl,_,(d.front 12 rfl:Sat (WA::_) _).cell (o:=0) (m:=2) rfl,_,(d.front 12 rfl:Sat (WA::_) _).cell (o:=0) (m:=3) rfl,AH ⟨_,G7 d,?_⟩⟩;refine JS d O hk hy λw8 H8=> ?_;have wa: ∀{S':Cr} {w'},Sat (AA E rb g S'++WA::Z) w'->(w'.cell? ((Addr.mk b6 0 none).add 0)=some (.int .i64 x.2.cls)/\(w'.cell? ((Addr.mk b6 0 none).add 1)=some (.bool true)/\(w'.cell? ((Addr.mk b6 0 none).add 2)=some (.bool false)/\(w'.cell? ((Addr.mk b6 0 none).add 3)=some (.int .u64 x.2.pg)/\True)))):=λh=>
    ⟨(h.front 12 rfl:Sat (WA::_) _).cell (o:=0) (m:=0) rfl,(h.front 12 rfl:Sat (WA::_) _).cell (o:=0) (m:=1) rfl,(h.front 12 rfl:Sat (WA::_) _).cell (o:=0) (m:=2) rfl,(h.front 12 rfl:Sat (WA::_) _).cell (o:=0) (m:=3) rfl,trivial⟩
   refine⟨G7 H8,wa H8,G7 H8,?_⟩;obtain⟨R3,aL,aQ,J⟩:=OW H8;have a2:(S.W.fresh S2 bl id page x.2.pg x.2.cls X).S.sp id=some (bl,JV page x.2.pg x.2.cls true):=if_pos rfl;rw[aR]at a2 aE;have aX:Sat (MK E g.a false S.ma S.cy::AQ E g.a.b g.a.h g.a.s g.a.r (S.W.fresh S2 bl id page x.2.pg 0 X)::IW E g.a.mq::R3) w8:=by
    have:=aL;rw[show(Cr.W {S with ho:= -1,W:=S.W.fresh S2 bl id page x.2.pg x.2.cls X})=S.W.fresh S2 bl id page x.2.pg x.2.cls X from rfl,aR]at this;exact this
   refine eI hE.toEnvK.toEnvC.toEnvW (λw' h'=>hT w' (aQ h'.tail).tail) aX aE a2 rfl (by rw[BA.Ir];rfl) (λit aO e=> ?_) hf λuw EU aY w9 H9=> ?_
   .obtain⟨u,hu⟩:=bJ it aO;rw[e,aD]at hu;cases hu
   have Y:=J H9;refine⟨wa Y,G7 Y,?_⟩;obtain⟨R4,a9,_,aG⟩:=OW Y;have bB:iL ((S.W.fresh S2 bl id page x.2.pg 0 X).NQ id (bl,JV page x.2.pg 0 true) uw EU) ((U.set id FK).take id 0) id 0 (bl,{JV page x.2.pg 0 true with uw:=uw,used:=(JV page x.2.pg 0 true).used+1,look:=((0:Nat):Int)+1}):=⟨HS.Fv,by show((0:Nat):Int)<(JV page x.2.pg 0 true).AP;unfold JV;simp,by unfold BA.take;rw[BA.Ir];simp⟩;rw[show(JV page x.2.pg 0 true).base=page*8192+((0:Nat):Int)*(x.2.pg*8192) by show page*8192=_;omega,bL];refine RL hE.toS a9 aY bB λcE a5=> ?_;refine Js (aG a5) aJ O hk hy λg' a3 a6=> ?_;have:=hB S2 bl id page X uw EU hN aR aE aY g' a3;have bA:(JV page x.2.pg 0 true).base+((0:Nat):Int)*(JV page x.2.pg 0 true).elem=page*8192:=by
    rw[show((0:Nat):Int)=0 from rfl,Int.zero_mul,Int.add_zero];rfl
   refine this ((congrArg (λa=>Sat (AA E rb g' (Cr.done {S with ho:= -1,ma:=u64 (S.ma+1),W:=(S.W.fresh S2 bl id page x.2.pg 0 X).NQ id (bl,JV page x.2.pg 0 true) uw EU} i x k y a (x.2.pg*8192) 0)++Z) a3) bA).mp ?_);exact(a6.front 12 rfl).tail
end
structure Bk where
 id:Int
 m:Nat
 a:Int
 z:Int
def keyOf(p:Bk):Int×Nat:=(p.id,p.m)
noncomputable def x9(a:Int):Int:=DQ .u64 2 a 9
def Xs(W:SW)(a:Int):Int:=W.S.V.wd ((a+8)/8192) ((a+8) %8192/8)
structure ID(W:SW)(CL:List (Nat×KS))(U M:BA)(n:Nat)(B Bw:List Bk):Prop where
 inv:Ai W U M
 F6:wX W
 full: ∀x∈W.L,∀y,W.S.sp x.id=some y->y.2.used=y.2.AP
 la: ∃b,GA W.S.aD b/\b<=512+512*(n:Int)
 len:W.L.length<=n
 own: ∀(i:Nat) c,CL[i]? =some c->Zt W c.2
 ap: ∀(i j:Nat) c d,CL[i]? =some c->CL[j]? =some d->i≠j-> ∀k np,c.2.held k np≠0->c.2.held k np≠d.2.held k np
 nd:(B.map keyOf).Nodup
 bl: ∀id x (m:Nat),W.S.sp id=some x->(m:Int)<x.2.AP->(U id m=true↔(id,m)∈B.map keyOf)
 bs: ∀p∈B,∃x,W.S.sp p.id=some x/\(p.m:Int)<x.2.AP/\p.a=x.2.base+p.m*x.2.elem/\p.z=x.2.elem
 sub: ∀p∈Bw,p∈B
 wd: ∀p∈Bw,Xs W p.a=x9 p.a
section
variable{W:SW}{CL:List (Nat×KS)}{U M:BA}{n:Nat}{B Bw:List Bk}
def ID.isB(h:ID W CL U M n B Bw){p:Bk}(hp:p∈B): ∃x,iL W U p.id p.m x/\p.a=x.2.base+p.m*x.2.elem/\p.z=x.2.elem:=by
 obtain⟨x,h1,d,e,u⟩:=h.bs p hp;exact⟨x,⟨h1,d,(h.bl p.id x p.m h1 d).2 (List.mem_map.2 ⟨p,hp,rfl⟩)⟩,e,u⟩
def ID.page(h:ID W CL U M n B Bw){p:Bk}(hp:p∈B):W.S.own ((p.a+8)/8192)=p.id/\0<p.id∨p.z<16:=by
 obtain⟨x,d,m,hz⟩:=h.isB hp;have e:=(h.inv.sp p.id x d.sp).1.size;by_cases g:p.z<16
 .exact .inr g
 .refine .inl ⟨(d.own h.inv (a:=p.a+8) ⟨by omega,by omega⟩).1,(h.inv.hI.sp p.id x d.sp).1⟩
def ID.mono(h:ID W CL U M n B Bw){m:Nat}(hm:n<=m):ID W CL U M m B Bw:=by
 obtain⟨b,h1,a⟩:=h.la;exact⟨h.inv,h.F6,h.full,⟨b,h1,by omega⟩,Nat.le_trans h.len hm,h.own,h.ap,h.nd,h.bl,h.bs,h.sub,h.wd⟩
def ID.held(h:ID W CL U M n B Bw){i:Nat}{c:Nat×KS}(d:CL[i]? =some c){k:Int}{np:Bool}{z:Nat×SI}(hz:W.S.sp (c.2.held k np)=some z): ∀x∈W.L,x.id≠c.2.held k np:=by
 rcases h.own i c d k np with h0|⟨_,_,a⟩
 .rw[h0,iK h.inv]at hz;cases hz
 .exact a
def ID.take(h:ID W CL U M n B Bw){id:Int}(J: ∀x∈W.L,x.id≠id){z:Nat×SI}{m:Nat}{uw:List Int}(hz:W.S.sp id=some z)(hm:(m:Int)<z.2.AP)(hu:U id m=false)(hI:Ai (W.take id z uw m) (U.take id m) M):
  ID (W.take id z uw m) CL (U.take id m) M n (⟨id,m,z.2.base+m*z.2.elem,z.2.elem⟩::B) Bw:=by
 have T: ∀j y,(W.take id z uw m).S.sp j=some y->(j≠id/\W.S.sp j=some y)∨(j=id/\y=(z.1,{z.2 with uw:=uw,used:=z.2.used+1,look:=(m:Int)+1})):=λj y a=>by
  by_cases e:j=id
  .subst e;have:(W.S.put j (z.1,{z.2 with uw:=uw,used:=z.2.used+1,look:=(m:Int)+1})).sp j=some y:=a;rw[HS.Fv]at this;exact .inr ⟨rfl,(Option.some.inj this).symm⟩
  .exact .inl ⟨e,(HS.HU e).symm.trans a⟩
 have O: ∀j y,W.S.sp j=some y-> ∃d,(W.take id z uw m).S.sp j=some d/\d.2.base=y.2.base/\d.2.elem=y.2.elem/\d.2.AP=y.2.AP/\d.2.cls=y.2.cls/\d.2.E3=y.2.E3/\(j≠id->d=y):=λj y a=>by
  by_cases e:j=id
  .subst e;rw[hz]at a;cases a;exact⟨_,HS.Fv,rfl,rfl,rfl,rfl,rfl,λc=>absurd rfl c⟩
  .exact⟨y,(HS.HU e).trans a,rfl,rfl,rfl,rfl,rfl,λ_=>rfl⟩
 have v:(id,m)∉B.map keyOf:=λc=>by rw[(h.bl id z m hz hm).2 c]at hu;cases hu
 obtain⟨b,Y,aA⟩:=h.la;refine⟨hI,⟨h.F6.sw,λx K=> ?_,h.F6.Jv,h.F6.rp,h.F6.ch⟩,λx K y a=> ?_,⟨b,Y.RN rfl rfl,aA⟩,h.len,λi c hc k np=> ?_,h.ap,List.nodup_cons.2 ⟨v,h.nd⟩,λj y k a hk=> ?_,λp hp=> ?_,λp hp=>List.mem_cons_of_mem _ (h.sub p hp),h.wd⟩
 .obtain⟨y,a,u⟩:=h.F6.kd x K;exact⟨y,(HS.HU (J x K)).trans a,u⟩
 .rcases T x.id y a with ⟨_,a⟩|⟨e,_⟩
  .exact h.full x K y a
  .exact absurd e (J x K)
 .rcases h.own i c hc k np with g|⟨g1,⟨y,a,aB,u⟩,g3⟩
  .exact .inl g
  .obtain⟨d,q1,_,_,_,q5,q6,_⟩:=O _ y a;exact .inr ⟨g1,⟨d,q1,q5.trans aB,q6.trans u⟩,g3⟩
 .rw[List.map_cons,List.mem_cons];show U.take id m j k=true↔(j,k)=(id,m)∨_;rcases T j y a with ⟨e,a⟩|⟨rfl,rfl⟩
  .have:U.take id m j k=U j k:=by unfold BA.take BA.set;rw[if_neg e]
   rw[this,h.bl j y k a hk];exact⟨λg=>.inr g,λg=>g.elim (λc=>absurd (Prod.mk.inj c).1 e) λg=>g⟩
  .have:U.take j m j k=(U j k||k==m):=by unfold BA.take;rw[BA.Ir]
   rw[this,Bool.or_eq_true,h.bl j z k hz hk,beq_iff_eq];constructor
   .rintro(g|rfl)
    .exact .inr g
    .exact .inl rfl
   .rintro(g|g)
    .exact .inr (Prod.mk.inj g).2
    .exact .inl g
 .rcases List.mem_cons.1 hp with rfl|hp
  .exact⟨_,HS.Fv,hm,rfl,rfl⟩
  .obtain⟨y,h1,h2,h3,h4⟩:=h.bs p hp;obtain⟨d,q1,q2,q3,q4,_⟩:=O _ y h1;exact⟨d,q1,by rw[q4];exact h2,by rw[q2,q3];exact h3,by rw[q3];exact h4⟩
def xB{W:SW}(h:0<=W.Br/\W.Br<18446744073709551616){k:Int}(k0:0<=k):0<=(W.I6 k).Br/\(W.I6 k).Br<18446744073709551616:=by
 show 0<=Lk _ _/\Lk _ _<_;unfold Lk;omega
def ID.I6(h:ID W CL U M n B Bw){k:Int}(k0:0<=k):ID (W.I6 k) CL U M n B Bw:=
 ⟨⟨h.inv.hI,h.inv.sp,h.inv.it⟩,⟨h.F6.sw,h.F6.kd,h.F6.Jv,h.F6.rp,xB h.F6.ch k0⟩,h.full,h.la,h.len,h.own,h.ap,h.nd,h.bl,h.bs,h.sub,h.wd⟩
def ID.letd{W0:SW}(h:ID W CL U M n B Bw){i:Nat}{c:Nat×KS}(J:CL[i]? =some c){k:Int}{np:Bool}(hk:0<k/\k<68)(hl:PA W c.2 k np W0)(hI:Ai W0 U M)(hd: ∀z,W.S.sp (c.2.held k np)=some z-> ∀j:Nat,(j:Int)<z.2.AP->U (c.2.held k np) j=true):
  ID W0 (CL.set i (c.1,c.2.hold k np 0)) U M (n+1) B Bw:=by
 have aK:=h.F6.letd hl;have eS:=(eG hl).1;have hh: ∀m a,(c.2.hold k np 0).held m a=if m=k/\a=np then 0 else c.2.held m a:=λm a=>by
  by_cases e:m=k/\a=np
  .rw[if_pos e,e.1,e.2];exact LD c.2 hk.1 hk.2 0
  .rw[if_neg e];exact NB c.2 hk.1 e 0
 have aN:=(List.getElem?_eq_some_iff.1 J).1;have at_: ∀{j:Nat} {d},(CL.set i (c.1,c.2.hold k np 0))[j]? =some d->(j=i/\d=(c.1,c.2.hold k np 0))∨(j≠i/\CL[j]? =some d):=λ{j d} hd=>by
  rw[List.getElem?_set]at hd;by_cases e:i=j
  .subst e;rw[if_pos rfl,if_pos aN]at hd;exact .inl ⟨rfl,(Option.some.inj hd).symm⟩
  .rw[if_neg e]at hd;exact .inr ⟨λc=>e c.symm,hd⟩
 have u: ∀x∈W0.L,x∈W.L∨(x.id=c.2.held k np/\0<c.2.held k np/\ ∃y,W.S.sp x.id=some y):=λx Y=>by
  rcases hl with ⟨_,rfl⟩|⟨hp,y,EU,hy,aY,rfl⟩
  .exact .inl Y
  .rcases Dd.1 Y with rfl|Y
   .exact .inr ⟨rfl,hp,y,hy⟩
   .exact .inl Y
 have nl: ∀{X:KS},Zt W X-> ∀m a,X.held m a≠0->X.held m a≠c.2.held k np-> ∀it∈W0.L,it.id≠X.held m a:=λ{X} hX m a g0 g1 it aB=>by
  rcases u it aB with aB|⟨e,_⟩
  .rcases hX m a with q|⟨_,_,q⟩
   .exact absurd q g0
   .exact q it aB
  .rw[e];exact λe=>g1 e.symm
 have K: ∀(j:Nat) d,CL[j]? =some d->j≠i-> ∀m a,d.2.held m a≠0->d.2.held m a≠c.2.held k np:=λj d v O m a g0=>by
  by_cases e:m=k/\a=np
  .rw[e.1,e.2]at g0⊢;exact h.ap j i d c v J O k np g0
  .intro g;have g1:c.2.held k np≠0:=by rw[<-g];exact g0
   exact(h.own i c J).ne (h.own j d v) e g1 g
 have aH: ∀{X:KS},(∀m a,X.held m a=0∨(0<X.held m a/\(∃y,W.S.sp (X.held m a)=some y/\y.2.cls=m/\y.2.E3=a)/\ ∀x∈W0.L,x.id≠X.held m a))->Zt W0 X:=λ{X} hX m a=>by
  rw[eS];exact hX m a
 obtain⟨b,aM,aX⟩:=h.la;refine⟨hI,aK,λx Y y hy=> ?_,⟨b,by rw[eS];exact aM,by omega⟩,?_,λj d v=> ?_,λj j' d d' v aF T m a=> ?_,h.nd,by rw[eS];exact h.bl,by rw[eS];exact h.bs,h.sub,λp hp=>by have:=h.wd p hp;unfold Xs at this⊢;rw[eS];exact this⟩
 .rw[eS]at hy;rcases u x Y with Y|⟨e,_,_⟩
  .exact h.full x Y y hy
  .rw[e]at hy;exact wY (h.inv.sp _ y hy).2 (hd y hy)
 .rcases hl with ⟨_,rfl⟩|⟨_,y,EU,_,_,rfl⟩
  .have:=h.len;omega
  .rw[show(SW.L _)=G5 W.L _ from rfl,(G6 W.L _).length_eq];show W.L.length+1<=n+1;have:=h.len;omega
 .refine aH λm a=> ?_;rcases at_ v with ⟨_,rfl⟩|⟨O,v⟩
  .rw[hh];by_cases e:m=k/\a=np
   .rw[if_pos e];exact .inl rfl
   .rw[if_neg e];rcases h.own i c J m a with q|⟨q1,q2,q3⟩
    .exact .inl q
    .refine .inr ⟨q1,q2,nl (h.own i c J) m a (by omega) λg=> ?_⟩;exact(h.own i c J).ne (h.own i c J) e (by rw[<-g];omega) g
  .rcases h.own j d v m a with q|⟨q1,q2,q3⟩
   .exact .inl q
   .exact .inr ⟨q1,q2,nl (h.own j d v) m a (by omega) (K j d v O m a (by omega))⟩
 .rcases at_ v with ⟨e1,e2⟩|⟨O,aG⟩
  .rcases at_ aF with ⟨e3,_⟩|⟨_,aC⟩
   .exact absurd (e1.trans e3.symm) T
   .rw[e2,hh];by_cases e:m=k/\a=np
    .rw[if_pos e];exact λg=>absurd rfl g
    .rw[if_neg e];exact h.ap j j' c d' (by rw[e1];exact J) aC T m a
  .rcases at_ aF with ⟨e3,e4⟩|⟨_,aC⟩
   .intro g0;rw[e4,hh];by_cases e:m=k/\a=np
    .rw[if_pos e];exact g0
    .rw[if_neg e];exact h.ap j j' d c aG (by rw[e3];exact J) T m a g0
   .exact h.ap j j' d d' aG aC T m a
def iR{pg:Int}(p0:1<=pg)(p1:pg<=130):Le pg=512:=by unfold Le;omega
def ID.lost(h:ID W CL U M n B Bw){p pg:Int}{S2:HS}(Y:kZ W.S p pg S2)(BU:SZ W.S)(p0:1<=pg)(p1:pg<=130)(hn:n<=60000)(hI:Ai {W with S:=S2} U M):
  ID {W with S:=S2} CL U M (n+1) B Bw/\S2.V.rf.length<W.S.V.rf.length:=by
 obtain⟨b,d,O⟩:=h.la;have hu:=iR p0 p1;obtain⟨⟨⟨v,K,J⟩,a,aA⟩,u,e⟩:=eJ Y d BU p0 (by omega);refine⟨⟨hI,⟨h.F6.sw,λx hx=> ?_,h.F6.Jv,h.F6.rp,h.F6.ch⟩,?_,⟨v,J,by omega⟩,Nat.le_succ_of_le h.len,λi c T k np=> ?_,h.ap,h.nd,?_,?_,h.sub,λp hp=> ?_⟩,e⟩
 .show ∃y,S2.sp x.id=some y/\_;rw[a];exact h.F6.kd x hx
 .show ∀x∈W.L,∀y,S2.sp x.id=some y->_;rw[a];exact h.full
 .show _∨(_/\(∃y,S2.sp _=some y/\_)/\_);rw[a];exact h.own i c T k np
 .show ∀id x (m:Nat),S2.sp id=some x->_;rw[a];exact h.bl
 .show ∀p∈B,∃x,S2.sp p.id=some x/\_;rw[a];exact h.bs
 .show S2.V.wd _ _=_;rw[u];exact h.wd p hp
def ID.fresh(h:ID W CL U M n B Bw){p page pg id cls:Int}{S2:HS}{bl:Nat}{X:FX}(K:iQ W p S2 bl id page pg cls X)(p0:1<=pg)(p1:pg<=130)(hn:n<=60000)(VL: ∀q∈Bw,16<=q.z)(hI:Ai (W.fresh S2 bl id page pg cls X) (U.set id FK) (M.set id FK)):
  ID (W.fresh S2 bl id page pg cls X) CL (U.set id FK) (M.set id FK) (n+1) B Bw/\S2.V.rf.length<=W.S.V.rf.length/\(W.fresh S2 bl id page pg cls X).S.sp id=some (bl,JV page pg cls true)/\ ∀j,j≠id->(W.fresh S2 bl id page pg cls X).S.sp j=W.S.sp j:=by
 obtain⟨b,aB,aN⟩:=h.la;have hu:=iR p0 p1;obtain⟨⟨⟨b',aM,hL⟩,aF,aD⟩,aG,aE⟩:=Zw K.fd aB K.ok p0 (by omega);have e1:(W.fresh S2 bl id page pg cls X).S.sp id=some (bl,JV page pg cls true):=if_pos rfl;have e2: ∀j,j≠id->(W.fresh S2 bl id page pg cls X).S.sp j=W.S.sp j:=λj hj=>by
  show(if j=id then _ else S2.sp j)=_;rw[if_neg hj,aF]
 have Y: ∀{j y},W.S.sp j=some y->(W.fresh S2 bl id page pg cls X).S.sp j=some y:=λ{j y} d=>by
  rw[e2 j (λe=>by rw[e,K.no]at d;cases d)];exact d
 refine⟨⟨hI,⟨h.F6.sw,λx u=> ?_,h.F6.Jv,h.F6.rp,h.F6.ch⟩,λx u y d=> ?_,⟨b',(hL.GW id (bl,JV page pg cls true) page pg X).gX rfl rfl,by omega⟩,Nat.le_succ_of_le h.len,λi c hc k np=> ?_,h.ap,h.nd,λj y m d hm=> ?_,λq v=> ?_,h.sub,λq v=> ?_⟩,aE,e1,e2⟩
 .obtain⟨y,d,J⟩:=h.F6.kd x u;exact⟨y,Y d,J⟩
 .obtain⟨y',T,_⟩:=h.F6.kd x u;have:=(Y T).symm.trans d;cases this;exact h.full x u _ T
 .rcases h.own i c hc k np with g|⟨g1,⟨y,d,J⟩,g3⟩
  .exact .inl g
  .exact .inr ⟨g1,⟨y,Y d,J⟩,g3⟩
 .by_cases e:j=id
  .subst e;rw[BA.Ir];refine⟨λc=>(by cases c),λc=> ?_⟩;obtain⟨q,v,hk⟩:=List.mem_map.1 c;obtain⟨x,u,_⟩:=h.bs q v;have:q.id=j:=(Prod.mk.inj hk).1;rw[this,K.no]at u;cases u
  .rw[show U.set id FK j=U j from if_neg e];exact h.bl j y m (by rw[<-e2 j e];exact d) hm
 .obtain⟨x,u,aH⟩:=h.bs q v;exact⟨x,Y u,aH⟩
 .have hz:=VL q v;rcases h.page (h.sub q v)with ⟨g1,g2⟩|g
  .have O: ¬(page<=(q.a+8)/8192/\(q.a+8)/8192<page+pg):=λhc=>by
    have:=K.inv.ow ((q.a+8)/8192) (by rw[aD,g1];exact g2);have h2:=this.2.2.1;rw[show inr page pg ((q.a+8)/8192)=true from BE.2 hc]at h2;cases h2
   show S2.V.wd _ _=_;rw[aG _ O];exact h.wd q v
  .omega
end
section
variable{W:SW}{CL:List (Nat×KS)}{U M:BA}{n:Nat}{B Bw:List Bk}
def K7{α:Type}{l:List α}{i j:Nat}{a d:α}(hi:i<l.length)(hd:(l.set i a)[j]? =some d):(j=i/\d=a)∨(j≠i/\l[j]? =some d):=by
 rw[List.getElem?_set]at hd;by_cases e:i=j
 .subst e;rw[if_pos rfl,if_pos hi]at hd;exact .inl ⟨rfl,(Option.some.inj hd).symm⟩
 .rw[if_neg e]at hd;exact .inr ⟨λc=>e c.symm,hd⟩
def ID.hold(h:ID W CL U M n B Bw){i:Nat}{c:Nat×KS}(hc:CL[i]? =some c){k:Int}{np:Bool}(hk:0<k/\k<68){id:Int}{y:Nat×SI}(hy:W.S.sp id=some y)(O:y.2.cls=k/\y.2.E3=np)(Nd:0<id)
  (aG: ∀x∈W.L,x.id≠id)(u: ∀(j:Nat) d,CL[j]? =some d-> ∀m a,d.2.held m a≠id):ID W (CL.set i (c.1,c.2.hold k np id)) U M n B Bw:=by
 have hi:=(List.getElem?_eq_some_iff.1 hc).1;have hh: ∀m a,(c.2.hold k np id).held m a=if m=k/\a=np then id else c.2.held m a:=λm a=>by
  by_cases e:m=k/\a=np
  .rw[if_pos e,e.1,e.2];exact LD c.2 hk.1 hk.2 _
  .rw[if_neg e];exact NB c.2 hk.1 e _
 refine⟨h.inv,h.F6,h.full,h.la,h.len,λj d T m a=> ?_,λj j' d d' T Y J m a=> ?_,h.nd,h.bl,h.bs,h.sub,h.wd⟩
 .rcases K7 hi T with ⟨_,rfl⟩|⟨_,T⟩
  .rw[hh];by_cases e:m=k/\a=np
   .rw[if_pos e];exact .inr ⟨Nd,⟨y,hy,O.1.trans e.1.symm,O.2.trans e.2.symm⟩,aG⟩
   .rw[if_neg e];exact h.own i c hc m a
  .exact h.own j d T m a
 .rcases K7 hi T with ⟨e1,e2⟩|⟨_,K⟩
  .rcases K7 hi Y with ⟨e3,_⟩|⟨_,v⟩
   .exact absurd (e1.trans e3.symm) J
   .rw[e2,hh];by_cases e:m=k/\a=np
    .rw[if_pos e];exact λ_ g=>u j' d' v m a g.symm
    .rw[if_neg e];exact h.ap j j' c d' (by rw[e1];exact hc) v J m a
  .rcases K7 hi Y with ⟨e3,e4⟩|⟨_,v⟩
   .intro g0;rw[e4,hh];by_cases e:m=k/\a=np
    .rw[if_pos e];exact u j d K m a
    .rw[if_neg e];exact h.ap j j' d c K (by rw[e3];exact hc) J m a g0
   .exact h.ap j j' d d' K v J m a
def ID.Xt(h:ID W CL U M n B Bw){id:Int}(J:W.S.sp id=none)(Nd:0<id): ∀(j:Nat) d,CL[j]? =some d-> ∀m a,d.2.held m a≠id:=λj d v m a e=>by
 rcases h.own j d v m a with g|⟨_,⟨y,u,_⟩,_⟩
 .omega
 .rw[e,J]at u;cases u
def ID.TX(h:ID W CL U M n B Bw){id:Int}(d:W.S.sp id=none): ∀x∈W.L,x.id≠id:=λx m e=>by
 obtain⟨y,a,_⟩:=h.F6.kd x m;rw[e,d]at a;cases a
def ID.file(h:ID W CL U M n B Bw){id:Int}{y:Nat×SI}{EU:Nat}{bs:Int}(O:W.S.sp id=some y)(u:y.2.used=y.2.AP)(m: ∀(j:Nat) d,CL[j]? =some d-> ∀Y J,d.2.held Y J≠id)
  (hI:Ai {W with L:=G5 W.L ⟨EU,id,bs,(y.2.cls,y.2.E3,y.2.used==y.2.AP,true)⟩} U M):
  ID {W with L:=G5 W.L ⟨EU,id,bs,(y.2.cls,y.2.E3,y.2.used==y.2.AP,true)⟩} CL U M (n+1) B Bw:=by
 obtain⟨b,v,T⟩:=h.la;refine⟨hI,⟨λx a=> ?_,λx a=> ?_,h.F6.Jv,h.F6.rp,h.F6.ch⟩,λx a z hz=> ?_,⟨b,v,by omega⟩,?_,λi c K k np=> ?_,h.ap,h.nd,h.bl,h.bs,h.sub,h.wd⟩
 .rcases Dd.1 a with rfl|a
  .rfl
  .exact h.F6.sw x a
 .rcases Dd.1 a with rfl|a
  .exact⟨y,O,rfl⟩
  .exact h.F6.kd x a
 .rcases Dd.1 a with rfl|a
  .have:W.S.sp id=some z:=hz;rw[O]at this;cases this;exact u
  .exact h.full x a z hz
 .rw[show(SW.L _)=G5 W.L _ from rfl,(G6 W.L _).length_eq];show W.L.length+1<=n+1;have:=h.len;omega
 .rcases h.own i c K k np with g|⟨g1,g2,g3⟩
  .exact .inl g
  .refine .inr ⟨g1,g2,λx a=> ?_⟩;rcases Dd.1 a with rfl|a
   .exact λe=>m i c K k np e.symm
   .exact g3 x a
def ID.NQ(h:ID W CL U M n B Bw){id:Int}{y:Nat×SI}{uw:List Int}{EU:Nat}(Y:W.S.sp id=some y)(hs:y.2.AP=1)(hu:y.2.used=0)(O:U id 0=false)(v: ∀x∈W.L,x.id≠id)(a: ∀(j:Nat) d,CL[j]? =some d-> ∀k' J,d.2.held k' J≠id)
  (hI:Ai (W.NQ id y uw EU) (U.take id 0) M):ID (W.NQ id y uw EU) CL (U.take id 0) M (n+1) (⟨id,0,y.2.base,y.2.elem⟩::B) Bw:=by
 have hL: ∀x∈G5 W.L ⟨EU,id,y.2.base,(y.2.cls,y.2.E3,y.2.used+1==y.2.AP,true)⟩,x∈G5 W.L ⟨EU,id,y.2.base,(y.2.cls,y.2.E3,y.2.used+1==y.2.AP,true)⟩:=λ_ h=>h;have u:Ai (W.take id y uw 0) (U.take id 0) M:=⟨hI.hI,hI.sp,λx T=>hI.it x (Dd.2 (.inr T))⟩;have K:=h.take v (m:=0) Y (by omega) O u;have e:y.2.base+((0:Nat):Int)*y.2.elem=y.2.base:=by rw[show((0:Nat):Int)=0 from rfl,Int.zero_mul,Int.add_zero]
 rw[e]at K;exact K.file (y:=(y.1,{y.2 with uw:=uw,used:=y.2.used+1,look:=((0:Nat):Int)+1})) HS.Fv (by show y.2.used+1=y.2.AP;omega) a hI
def ID.store(h:ID W CL U M n B Bw){q:Bk}(u:q∈B)(m: ∀p∈B,0<=p.a/\p.a %8=0)(hI:Ai {W with S:=W.S.U4 (EC W.S.V (q.a+8) (x9 q.a))} U M)(Y:mem W.S.V.ready ((q.a+8)/8192)):
  ID {W with S:=W.S.U4 (EC W.S.V (q.a+8) (x9 q.a))} CL U M n B (q::Bw):=by
 have K:(EC W.S.V (q.a+8) (x9 q.a)).laid=W.S.V.laid/\(EC W.S.V (q.a+8) (x9 q.a)).pl=W.S.V.pl:=by unfold EC;split<;>exact⟨rfl,rfl⟩
 have J: ∀p j,(EC W.S.V (q.a+8) (x9 q.a)).wd p j=if p=(q.a+8)/8192/\j=(q.a+8) %8192/8 then x9 q.a else W.S.V.wd p j:=λp j=>by
  have:=(m q u).2;have e:La W.S.V (q.a+8)=0:=by unfold La;rw[if_neg (λc=>c (by omega)),if_pos (Ig.2 Y)]
  unfold EC;rw[if_pos e]
 obtain⟨b,d,v⟩:=h.la;refine⟨hI,⟨h.F6.sw,h.F6.kd,h.F6.Jv,h.F6.rp,h.F6.ch⟩,h.full,⟨b,⟨λp=>by rw[show(HS.aD (W.S.U4 (EC W.S.V (q.a+8) (x9 q.a)))).V.laid=(EC W.S.V (q.a+8) (x9 q.a)).laid from rfl,K.1];exact d.la p,d.b0,d.b1,d.h0,d.h1,K.2.trans d.pl,rfl⟩,v⟩,h.len,h.own,h.ap,h.nd,h.bl,h.bs,λp hp=> ?_,λp hp=> ?_⟩
 .rcases List.mem_cons.1 hp with rfl|hp
  .exact u
  .exact h.sub p hp
 .unfold Xs;rw[show(SW.S {W with S:=W.S.U4 (EC W.S.V (q.a+8) (x9 q.a))}).V.wd=(EC W.S.V (q.a+8) (x9 q.a)).wd from rfl,J];split
  .rename_i e;have O:0<=p.a/\p.a %8=0:=by
    rcases List.mem_cons.1 hp with rfl|hp
    .exact m p u
    .exact m p (h.sub p hp)
   have T:=m q u;rw[show p.a=q.a by omega]
  .rename_i e;rcases List.mem_cons.1 hp with rfl|hp
   .exact absurd ⟨rfl,rfl⟩ e
   .exact h.wd p hp
def ID.at8(h:ID W CL U M n B Bw){p:Bk}(hp:p∈B):(0<=p.a/\p.a %8=0)/\(p.z %8=0/\0<p.z)/\p.a+p.z<=281474976710656:=by
 obtain⟨x,u,m,hz⟩:=h.isB hp;obtain⟨h1,d,e⟩:=u.at8 h.inv;rw[<-m]at h1 e;rw[<-hz]at d e;exact⟨h1,⟨d.1,d.2.1⟩,e⟩
def ID.apart(h:ID W CL U M n B Bw){p q:Bk}(hp:p∈B)(K:q∈B)(d:keyOf p≠keyOf q):p.a+p.z<=q.a∨q.a+q.z<=p.a:=by
 obtain⟨x,m,v,hz⟩:=h.isB hp;obtain⟨y,u,J,hw⟩:=h.isB K;have:=Zv h.inv m.sp u.sp m.lt u.lt (λe=>d (by unfold keyOf;rw[e.1,e.2]));rw[<-v,<-J,<-hz,<-hw]at this;omega
end
def upto(n:Nat):List Int:=(List.range n).map λj:Nat=>(j:Int)
structure Rest(S:Cr):Prop where
  ok:FM S
  idle: ∀(j:Nat) z,S.T[j]? =some z->z.2.step=0/\z.2.tr=0
  q: ∀(j:Nat) z,S.Q[j]? =some z->z.2=[]
  wo:S.wo= -1
  ho:S.ho= -1
  dn: ∀(j:Nat) z,S.L[j]? =some z->z.2.done=true
  or:S.ord=upto S.L.length
  cl:S.C.length=S.Q.length
structure PB(S:Cr)(i k:Nat)(x:Nat×Tk)(y:Nat×Ak):Prop where
  ok:FM S
  ix:i<S.Q.length
  tx:S.T[i]? =some x
  idle: ∀(j:Nat) z,S.T[j]? =some z->j≠i->z.2.step=0
  tr: ∀(j:Nat) z,S.T[j]? =some z->z.2.tr=0
  q: ∀(j:Nat) z,S.Q[j]? =some z->j≠i->z.2=[]
  wo:S.wo= -1
  ak:S.L[k]? =some y
  op:y.2.op=1
  nd:y.2.done=false
  n0:16<=y.2.n
  n1:y.2.n<=1000000
  dn: ∀(j:Nat) z,S.L[j]? =some z->j≠k->z.2.done=true
  len:S.L.length=k+1
  or:S.ord=upto k
  cl:S.C.length=S.Q.length
def Zx(n:Nat):(upto n).length=n:=by simp[upto]
section
variable{S S':Cr}{i k:Nat}{x:Nat×Tk}{y:Nat×Ak}
def PB.c(h:PB S i k x y): ∃c,S.C[i]? =some c:=⟨_,List.getElem?_eq_getElem (by rw[h.cl];exact h.ix)⟩
def PB.NN(h:PB S i k x y):S.ord.length<1000000:=by
  rw[h.or,Zx];have:=h.len;have:=h.ok.NN;omega
def PB.JT(h:PB S i k x y){t':Tk}(hT:S'.T=S.T.set i (x.1,t'))(hn:t'.n=x.2.n)(aC:t'.tr=0)(hQ:S'.Q=S.Q∨ ∃s',S'.Q=S.Q.set i (s',[]))(u:S'.L=S.L)(Y:S'.ord=S.ord)(aD:S'.wo=S.wo)(hC:S'.C.length=S.C.length):PB S' i k (x.1,t') y:=by
  have O:=(List.getElem?_eq_some_iff.1 h.tx).1;have m:S'.Q.length=S.Q.length:=by rcases hQ with e|⟨s',e⟩<;>rw[e];rw[List.length_set]
  have d: ∀{j:Nat} {z},S'.T[j]? =some z->(j=i/\z=(x.1,t'))∨(j≠i/\S.T[j]? =some z):=λ{j z} hz=>K7 O (by rw[<-hT];exact hz);have v: ∀{j:Nat} {z},S'.Q[j]? =some z->(j=i/\(z.2=[]∨S.Q[j]? =some z))∨(j≠i/\S.Q[j]? =some z):=λ{j z} hz=>by
    rcases hQ with e|⟨s',e⟩
    . rw[e]at hz;by_cases g:j=i
      . exact .inl ⟨g,.inr hz⟩
      . exact .inr ⟨g,hz⟩
    . rw[e]at hz;rcases K7 h.ix hz with ⟨g,rfl⟩|⟨g,hz⟩
      . exact .inl ⟨g,.inl rfl⟩
      . exact .inr ⟨g,hz⟩
  have J:S'.T.length=S.T.length:=by rw[hT,List.length_set]
  refine⟨⟨by rw[J,m];exact h.ok.tn,λj z hz=> ?_,λj z hz a ha=> ?_,by rw[J,u];exact h.ok.NN⟩,by rw[m];exact h.ix,by rw[hT];exact List.getElem?_set_self O,λj z hz K=> ?_,λj z hz=> ?_,λj z hz K=> ?_,aD.trans h.wo,by rw[u];exact h.ak,h.op,h.nd,h.n0,h.n1,by rw[u];exact h.dn,by rw[u];exact h.len,Y.trans h.or,by rw[hC,m];exact h.cl⟩
  . rcases d hz with ⟨rfl,rfl⟩|⟨_,hz⟩
    . exact hn.trans (h.ok.ti _ x h.tx)
    . exact h.ok.ti j z hz
  . rw[u];rcases v hz with ⟨_,e|hz⟩|⟨_,hz⟩
    . rw[e]at ha;cases ha
    . exact h.ok.qa j z hz a ha
    . exact h.ok.qa j z hz a ha
  . rcases d hz with ⟨e,_⟩|⟨_,hz⟩
    . exact absurd e K
    . exact h.idle j z hz K
  . rcases d hz with ⟨_,rfl⟩|⟨_,hz⟩
    . exact aC
    . exact h.tr j z hz
  . rcases v hz with ⟨e,_⟩|⟨_,hz⟩
    . exact absurd e K
    . exact h.q j z hz K
def PB.fin(h:PB S i k x y){t':Tk}{ad nn co:Int}(hT:S'.T=S.T.set i (x.1,t'))(hn:t'.n=x.2.n)(aD:t'.tr=0)(aC:t'.step=0)(Y:S'.Q=S.Q){s:AW}(hq:S.Q[i]? =some (s,[]))(O:S'.L=S.L.set k (y.1,y.2.rep ad nn co))(K:S'.ord=S.ord++[(k:Int)])(aE:S'.wo=S.wo)(aA:S'.ho= -1)(hC:S'.C.length=S.C.length):
    Rest S'/\S'.L.length=k+1/\S'.L[k]? =some (y.1,y.2.rep ad nn co):=by
  have aB:=(List.getElem?_eq_some_iff.1 h.tx).1;have J:=(List.getElem?_eq_some_iff.1 h.ak).1;have u: ∀{j:Nat} {z},S'.T[j]? =some z->(j=i/\z=(x.1,t'))∨(j≠i/\S.T[j]? =some z):=λ{j z} hz=>K7 aB (by rw[<-hT];exact hz);have v:S'.T.length=S.T.length:=by rw[hT,List.length_set]
  have d:S'.L.length=S.L.length:=by rw[O,List.length_set]
  have m: ∀{j:Nat} {z},S'.Q[j]? =some z->z.2=[]:=λ{j z} hz=>by
    rw[Y]at hz;by_cases e:j=i
    . subst e;rw[hq]at hz;cases hz;rfl
    . exact h.q j z hz e
  refine⟨⟨⟨by rw[v,Y];exact h.ok.tn,λj z hz=> ?_,λj z hz a ha=>(by rw[m hz]at ha;cases ha),by rw[v,d];exact h.ok.NN⟩,λj z hz=> ?_,λj z hz=>m hz,aE.trans h.wo,aA,λj z hz=> ?_,?_,by rw[hC,Y];exact h.cl⟩,d.trans h.len,by rw[O];exact List.getElem?_set_self J⟩
  . rcases u hz with ⟨rfl,rfl⟩|⟨_,hz⟩
    . exact hn.trans (h.ok.ti _ x h.tx)
    . exact h.ok.ti j z hz
  . rcases u hz with ⟨_,rfl⟩|⟨e,hz⟩
    . exact⟨aC,aD⟩
    . exact⟨h.idle j z hz e,h.tr j z hz⟩
  . rw[O]at hz;rcases K7 J hz with ⟨_,rfl⟩|⟨e,hz⟩
    . rfl
    . exact h.dn j z hz e
  . rw[K,h.or,d,h.len];simp[upto,List.range_succ]
def Wt(x:Nat×Tk)(y:Nat×Ak):Prop:=Fz y.2.n x.2.cls x.2.pg/\x.2.np=true/\x.2.ti=false
def Phase(S:Cr)(U:BA)(i k:Nat)(x:Nat×Tk)(y:Nat×Ak)(μ:Nat):Prop:=
  (μ=10/\x.2.step=0/\S.ho= -1/\ ∃s,S.Q[i]? =some (s,[(k:Int)]))∨
  ((∃s,S.Q[i]? =some (s,[]))/\x.2.ask=(k:Int)/\
    ((μ=8/\x.2.step=2/\S.ho= -1/\Wt x y)∨(μ=7/\x.2.step=4/\S.ho= -1/\Wt x y)∨(μ=6/\x.2.step=6/\S.ho= -1/\Wt x y)∨(μ=5/\x.2.step=7/\S.ho=(i:Int)/\Wt x y)∨
     (μ=4/\x.2.step=1/\S.ho= -1/\ ∀cls pg,Fz y.2.n cls pg-> ∃c z,0<cls/\S.C[i]? =some c/\S.W.S.sp (c.2.held cls true)=some z/\0<z.2.AP/\U (c.2.held cls true) 0=false)))
def filter_one: ∀{n i:Nat} {f:Nat->Bool},i<n->f i=true->(∀j,j<n->j≠i->f j=false)->(List.range n).filter f=[i]
  | 0,i,f,hi,_,_=>by omega
  | n+1,i,f,hi,ht,hf=>by
    rw[List.range_succ,List.filter_append];by_cases e:i=n
    . subst e;have h0:(List.range i).filter f=[]:=List.filter_eq_nil_iff.2 λj d=>by
        have:=List.mem_range.1 d;rw[hf j (by omega) (by omega)];decide
      rw[h0,List.filter_cons,ht,List.filter_nil];rfl
    . rw[filter_one (by omega) ht λj d a=>hf j (by omega) a,List.filter_cons,hf n (by omega) (λc=>e c.symm),List.filter_nil];rfl
def PB.en(h:PB S i k x y){U:BA}{μ:Nat}(hp:Phase S U i k x y μ):TT S=[i]:=by
  have d:=(List.getElem?_eq_some_iff.1 h.tx).1;refine filter_one d ?_ λj J a=> ?_
  . unfold lU;rw[h.tx];show sW S i x=true;unfold sW;rcases hp with ⟨_,h0,h1,s,m⟩|⟨_,_,v⟩
    . rw[if_neg (λc=>c h0),if_neg (λc=>c h.wo),m];show(!ML S x.1 (Gl (lI S (k:Int))))=true;have:lI S (k:Int)=1:=by unfold lI;rw[Int.toNat_natCast,h.ak];exact h.op
      rw[this];rfl
    . have K:S.ho= -1->ML S x.1 6=false:=λe=>by unfold ML;rw[if_pos rfl,e];rfl
      rcases v with ⟨_,e,_⟩|⟨_,e,_⟩|⟨_,e,g,_⟩|⟨_,e,_⟩|⟨_,e,_⟩
      all_goals rw[e,if_pos (by decide)]
      . rfl
      . rfl
      . rw[K g];rfl
      . rfl
      . rfl
  . obtain⟨z,hz⟩: ∃z,S.T[j]? =some z:=⟨_,List.getElem?_eq_getElem J⟩;unfold lU;rw[hz];show sW S j z=false;unfold sW;rw[if_neg (λc=>c (h.idle j z hz a)),if_neg (λc=>c h.wo)];cases m:S.Q[j]? with
    | none=>rfl
    | some u=>
      have:=h.q j u m a;obtain⟨s,l⟩:=u;have:l=[]:=this;subst this;rfl
def PB.loud(h:PB S i k x y):NF S=false:=by
  have:Mk S=true:=List.any_eq_true.2 ⟨y,List.mem_of_getElem? h.ak,by rw[h.nd];rfl⟩;unfold NF;rw[this];rfl
def Rest.quiet(h:Rest S):NF S=true:=by
  have h1:Mk S=false:=List.any_eq_false.2 λz hz=>by
    obtain⟨j,a⟩:=List.mem_iff_getElem?.1 hz;rw[h.dn j z a];decide
  have d:(S.T.any λx=>decide (x.2.tr>0))=false:=List.any_eq_false.2 λz hz=>by
    obtain⟨j,a⟩:=List.mem_iff_getElem?.1 hz;rw[(h.idle j z a).2];decide
  unfold NF;rw[h1,d,h.ho];rfl
end
structure lK(S:Cr)(U M:BA)(B Bw:List Bk)(n0 r0 μ i k:Nat)(x:Nat×Tk)(y:Nat×Ak):Prop where
 s:PB S i k x y
 t:ID S.W S.C U M (n0+(10-μ)) B Bw
 ph:Phase S U i k x y μ
 rf:S.W.S.V.rf.length<=r0
def rW(S':Cr)(B Bw:List Bk)(n0 r0 k P:Nat)(y:Nat×Ak):Prop:=Rest S'/\S'.L.length=k+1/\S'.Q.length=P/\ ∃U' M',
 (∃q cls pg,Fz y.2.n cls pg/\q.z=Ii y.2.n cls/\S'.L[k]? =some (y.1,y.2.rep q.a q.z 0)/\ID S'.W S'.C U' M' (n0+10) (q::B) Bw/\S'.W.S.V.rf.length<=r0)∨
 (S'.L[k]? =some (y.1,y.2.rep 0 0 13)/\ID S'.W S'.C U' M' (n0+10) B Bw/\S'.W.S.V.rf.length<r0)
section
variable{E:Env}{rb:Nat}{g:NW}{S:Cr}{Z:List Pr}{w:World}{U M:BA}{B Bw:List Bk}{n0 r0 i k:Nat}{x:Nat×Tk}{y:Nat×Ak}
def iS(hE:FN E)(hT: ∀w',Sat Z w'->DJ E.AB w'){n:Nat}(hn:n<=n0+10)(aS:n<=60000)(d:PB S i k x y)(e:ID S.W S.C U M n B Bw){s:AW}(hq:S.Q[i]? =some (s,[]))(J:x.2.ask=(k:Int))(aD:S.ho= -1)(aF:S.W.S.V.rf.length<=r0){c:Nat×KS}(hc:S.C[i]? =some c){v:Cr->Prop}
  (hA: ∀S' t',S'.T[i]? =some (x.1,t')->rW S' B Bw n0 r0 k S.Q.length y->v S')
  (hB: ∀cls pg W0 Y,Fz y.2.n cls pg->Xr S U M i c cls W0 Y->v {S.tk i (x.1,x.2.want cls pg 2)with C:=Y,W:=W0.I6 (pg*8192)}):Zs E rb g Z S x.1 1 v:=by
 have aE:=(List.getElem?_eq_some_iff.1 d.tx).1;refine⟨E.Ep,by simp[Im],λR Z' w' K H' hK=>hE.Zr _ _ R w' ?_⟩;refine MD hE (λa h=>hT a (K a h)) H' d.ok d.tx J d.ak d.op d.n0 d.n1 hc e.inv e.F6.ch (by have:=e.len;omega) (λj=>(e.own i c hc).eF j true) d.NN ?_ λcls pg W0 Y hw hl a u=>hK _ _ a (hB cls pg W0 Y hw hl) u;intro cls pg hw aJ z m uw hz hm hu aC g' a u;refine hK _ _ a (hA _ {x.2.want cls pg x.2.step with step:=0} ?_ ?_) u
 .show((S.T.set i _).set i _)[i]? =_;exact List.getElem?_set_self (by rw[List.length_set];exact aE)
 .have aG:=e.take (e.held hc hz) hz hm hu aC;obtain⟨h1,h2,h3⟩:=d.fin (S':=((S.tk i (x.1,x.2.want cls pg x.2.step)).mw (u64 (S.ma+1)) (S.W.take (c.2.held cls true) z uw m)).done i (x.1,x.2.want cls pg x.2.step) k y (z.2.base+m*z.2.elem) z.2.elem 0) (t':={x.2.want cls pg x.2.step with step:=0}) (by simp[Cr.done,Cr.mw,Cr.tk]) rfl (d.tr i x d.tx) rfl rfl hq rfl rfl rfl aD rfl;refine⟨h1,h2,rfl,_,_,.inl ⟨⟨c.2.held cls true,m,z.2.base+m*z.2.elem,z.2.elem⟩,cls,pg,hw,?_,h3,aG.mono hn,aF⟩⟩;rcases e.own i c hc cls true with g0|⟨_,⟨z',O,aH,_⟩,_⟩
  .rw[g0,iK e.inv]at hz;cases hz
  .rw[hz]at O;cases O;have:=(e.inv.sp _ z hz).1.el;show z.2.elem=_;unfold Ii;rw[if_neg (by omega)];rw[if_neg (by omega),aH]at this;exact this
def ID.none_{W:SW}{CL:List (Nat×KS)}{n:Nat}(h:ID W CL U M n B Bw)(cls:Int)(np:Bool):FW W.L (cls,np,false,true)=[]:=by
 refine List.eq_nil_iff_forall_not_mem.2 λz hz=> ?_;obtain⟨h1,e⟩:=E9.1 hz;obtain⟨u,hu,a⟩:=h.F6.kd z h1;have:=h.full z h1 u hu;rw[e]at a;have d:false=(u.2.used==u.2.AP):=(Prod.mk.inj (Prod.mk.inj (Prod.mk.inj a).2).2).1;rw[this]at d;simp at d
def ID.swept_{W:SW}{CL:List (Nat×KS)}{n:Nat}(h:ID W CL U M n B Bw): ∀z∈W.L,z.HD=true/\z.kd.2.2.2=true:=λz hz=>by
 obtain⟨u,hu,a⟩:=h.F6.kd z hz;exact⟨h.F6.sw z hz,by rw[a]⟩
def Fz.uniq{n c p d e:Int}(h:Fz n c p)(u:Fz n d e):c=d/\p=e:=by
 rcases h with ⟨g,v,rfl⟩|⟨g,rfl,rfl⟩<;>rcases u with ⟨m,a,rfl⟩|⟨m,rfl,rfl⟩
 .have:=v.uniq a;subst this;exact⟨rfl,rfl⟩
 .omega
 .omega
 .exact⟨rfl,rfl⟩
def rX(hE:FN E)(hT: ∀w',Sat Z w'->DJ E.AB w'){μ:Nat}(hn:n0<=50000)(VL: ∀q∈Bw,16<=q.z)(H:Sat (AA E rb g S++Z) w)(hI:lK S U M B Bw n0 r0 μ i k x y){pick:Int}{K:Int->Int->World->Prop}
  (bD: ∀g' S' U' M' μ' x',μ'<μ->S'.Q.length=S.Q.length->lK S' U' M' B Bw n0 r0 μ' i k x' y-> ∀w',Sat (AA E rb g' S'++Z) w'->K i 0 w')
  (bE: ∀g' S',rW S' B Bw n0 r0 k S.Q.length y-> ∀w',Sat (AA E rb g' S'++Z) w'->K i 0 w'):F.FB E (some ⟨rb,0,none⟩) pick K w:=by
 obtain⟨d,ht,aZ,aE⟩:=hI;have a4:=d.en aZ;have aY:=(List.getElem?_eq_some_iff.1 d.tx).1;obtain⟨c,hc⟩:=d.c;have bT:ID S.W S.C U M (n0+(10-μ)) B Bw:=ht;refine WS (i:=i) (j:=0) hE H d.ok (by rw[a4];rfl) (by rw[a4];show Int.tmod (i64 (Int.tmod pick 1+1)) 1=0;rw[Int.tmod_one]) d.tx (λh0=> ?_) (λS'=>(∃U' M' μ' x',μ'<μ/\x'.1=x.1/\S'.Q.length=S.Q.length/\lK S' U' M' B Bw n0 r0 μ' i k x' y)∨(rW S' B Bw n0 r0 k S.Q.length y/\ ∃t',S'.T[i]? =some (x.1,t'))) (λS' hr=> ?_) (λS1 x1 hb aS he=> ?_) λg' S' w' hr H'=> ?_
 .rcases aZ with ⟨_,_,_,s,hq⟩|⟨_,_,h2⟩
  .exact⟨s,k,[],y,hq,d.ak⟩
  .omega
 .rcases hr with ⟨U',M',μ',x',_,he,_,aM⟩|⟨J,t',aK⟩
  .exact⟨x'.2,by rw[<-he];exact aM.s.tx,aM.s.ok.ti i x' aM.s.tx⟩
  .exact⟨t',aK,J.1.ok.ti i _ aK⟩
 .rcases aZ with ⟨rfl,h0,aA,s,hq⟩|⟨⟨s,hq⟩,v,h2⟩
  .-- the call begins, and looks
   rcases hb with ⟨c0,_⟩|⟨_,s1,s',a,l,y1,a6,bA,rfl⟩
   .exact absurd h0 c0
   rw[hq]at a6;obtain⟨rfl,e2⟩:=Prod.mk.inj (Option.some.inj a6);obtain⟨e3,rfl⟩:=List.cons.inj e2;obtain rfl:k=a:=by omega
   rw[d.ak]at bA;cases bA;have a9:(S.wV i x k s' [] (Gl y.2.op)).T[i]? =some (x.1,{x.2 with ask:=(k:Int),sw:=0,step:=Gl y.2.op}):=List.getElem?_set_self aY;rw[a9]at aS;cases aS;have e1:Gl y.2.op=1:=by rw[d.op];rfl
   rw[e1];have bJ:PB (S.wV i x k s' [] 1) i k (x.1,{x.2 with ask:=(k:Int),sw:=0,step:=1}) y:=d.JT rfl rfl (d.tr i x d.tx) (.inr ⟨s',rfl⟩) rfl rfl rfl rfl;have aR:(S.wV i x k s' [] 1).Q.length=S.Q.length:=List.length_set ..;refine iS (x:=(x.1,{x.2 with ask:=(k:Int),sw:=0,step:=1})) hE hT (n:=n0) (n0:=n0) (by omega) (by omega) bJ ht (s:=s') (List.getElem?_set_self d.ix) rfl aA aE hc (λS' t' aK J=>.inr ⟨by rw[aR]at J;exact J,t',aK⟩) λcls pg W0 Cl hw hl=> ?_;obtain⟨⟨c0,c1⟩,p0,p1⟩:=hw.W9 d.n0 d.n1;refine .inl ⟨U,M,8,(x.1,({x.2 with ask:=(k:Int),sw:=0,step:=1}:Tk).want cls pg 2),by omega,rfl,aR,⟨d.JT (by simp[Cr.wV,Cr.tk]) rfl (d.tr i x d.tx) (.inr ⟨s',rfl⟩) rfl rfl rfl ?_,?_,.inr ⟨⟨s',List.getElem?_set_self d.ix⟩,rfl,.inl ⟨rfl,rfl,aA,hw,rfl,rfl⟩⟩,?_⟩⟩
   .rcases hl with ⟨_,_,rfl⟩|⟨_,_,_,_,rfl⟩
    .rfl
    .exact List.length_set ..
   .rcases hl with ⟨_,rfl,rfl⟩|⟨O,aG,hl,a1,rfl⟩
    .exact(ht.I6 (by omega)).mono (by omega)
    .exact((ht.letd hc ⟨O,c1⟩ hl a1 aG).I6 (by omega)).mono (by omega)
   .rcases hl with ⟨_,rfl,rfl⟩|⟨O,aG,hl,a1,rfl⟩
    .exact aE
    .show W0.S.V.rf.length<=_;rw[(eG hl).1];exact aE
  .have bG:S1=S:=by
    rcases hb with ⟨_,e⟩|⟨e,_⟩
    .exact e
    .omega
   subst bG;rw[d.tx]at aS;cases aS;rcases h2 with ⟨rfl,aC,aA,hw,aD,aF⟩|⟨rfl,aC,aA,hw,aD,aF⟩|⟨rfl,aC,aA,hw,aD,aF⟩|⟨rfl,aC,aA,hw,aD,aF⟩|⟨rfl,aC,aA,bI⟩
   .-- repay
    rw[aC];refine⟨E.GD,by simp[Im],λR Z' w' aH H' hK=>hE.eA _ _ R w' (RK H' d.tx ht.F6.Jv ht.F6.rp λm Y=>hK _ _ m ?_ Y)⟩;by_cases e:x.2.cls=0
    .rw[if_pos e];exact .inl ⟨U,M,6,(x.1,{x.2 with step:=6}),by omega,rfl,rfl,⟨d.JT rfl rfl (d.tr i x d.tx) (.inl rfl) rfl rfl rfl rfl,ht.mono (by omega),.inr ⟨⟨s,hq⟩,v,.inr (.inr (.inl ⟨rfl,rfl,aA,hw,aD,aF⟩))⟩,aE⟩⟩
    .rw[if_neg e];exact .inl ⟨U,M,7,(x.1,{x.2 with step:=4}),by omega,rfl,rfl,⟨d.JT rfl rfl (d.tr i x d.tx) (.inl rfl) rfl rfl rfl rfl,ht.mono (by omega),.inr ⟨⟨s,hq⟩,v,.inr (.inl ⟨rfl,rfl,aA,hw,aD,aF⟩)⟩,aE⟩⟩
   .-- take
    rw[aC];refine⟨E.Gr,by simp[Im],λR Z' w' aH H' hK=>hE.rR _ _ R w' (Ss hE.toEnvK.toEnvC.toEnvW H' d.tx (ht.none_ _ _) ht.swept_ λm Y=>hK _ _ m ?_ Y)⟩;exact .inl ⟨U,M,6,(x.1,{x.2 with step:=6}),by omega,rfl,rfl,⟨d.JT rfl rfl (d.tr i x d.tx) (.inl rfl) rfl rfl rfl rfl,ht.mono (by omega),.inr ⟨⟨s,hq⟩,v,.inr (.inr (.inl ⟨rfl,rfl,aA,hw,aD,aF⟩))⟩,aE⟩⟩
   .-- lock
    rw[aC];refine⟨E.Gs,by simp[Im],λR Z' w' aH H' hK=>hE.rT _ _ R w' (Sr H' d.ok d.tx d.ix v d.ak d.op λm Y=>hK _ _ m ?_ Y)⟩;exact .inl ⟨U,M,5,(x.1,{x.2 with step:=7}),by omega,rfl,rfl,⟨d.JT rfl rfl (d.tr i x d.tx) (.inl rfl) rfl rfl rfl rfl,ht.mono (by omega),.inr ⟨⟨s,hq⟩,v,.inr (.inr (.inr (.inl ⟨rfl,rfl,rfl,hw,aD,aF⟩)))⟩,aE⟩⟩
   .-- grow
    rw[aC];obtain⟨⟨c0,c1⟩,p0,p1⟩:=hw.W9 d.n0 d.n1;refine⟨E.Fs,by simp[Im],λR Z' w' aH H' hK=>hE.iM _ _ R w' ?_⟩;refine OY hE (λm h=>hT m (aH m h)) H' d.ok d.tx v d.ak d.op d.n0 d.n1 hw aD aF hc ht.inv (by have:=ht.len;omega) (λz hz=> ?_) d.NN (λS2 hl BU aI g' m Y=> ?_) (λS2 bl id page X hN O aI m Y=> ?_) λS2 bl id page X uw EU hN h0 a2 aI g' m Y=> ?_
    .obtain⟨u,hu,_⟩:=ht.F6.kd z hz;exact⟨u,hu⟩
    .obtain⟨aO,a7⟩:=ht.lost hl BU p0 p1 (by omega) aI;refine hK _ _ m (.inr ⟨?_,_,List.getElem?_set_self aY⟩) Y;obtain⟨h1,h2,h3⟩:=d.fin (S':=Cr.done {S1 with ho:= -1,W:={S1.W with S:=S2}} i x k y 0 0 13) rfl rfl (d.tr i x d.tx) rfl rfl hq rfl rfl rfl rfl rfl;exact⟨h1,h2,rfl,U,M,.inr ⟨h3,aO.mono (by omega),by show S2.V.rf.length<_;omega⟩⟩
    .obtain⟨aO,a7,aJ,a8⟩:=ht.fresh hN p0 p1 (by omega) VL aI;have Nd:=(aI.hI.sp id _ aJ).1;refine hK _ {S1.tk i (x.1,{x.2 with step:=1})with ho:= -1,C:=S1.C.set i (c.1,c.2.hold x.2.cls true id),W:=S1.W.fresh S2 bl id page x.2.pg x.2.cls X} m (.inl ⟨_,_,4,(x.1,{x.2 with step:=1}),by omega,rfl,rfl,⟨d.JT (S':={S1.tk i (x.1,{x.2 with step:=1})with ho:= -1,C:=S1.C.set i (c.1,c.2.hold x.2.cls true id),W:=S1.W.fresh S2 bl id page x.2.pg x.2.cls X}) rfl rfl (d.tr i x d.tx) (.inl rfl) rfl rfl rfl (List.length_set ..),(aO.hold hc ⟨O,c1⟩ aJ ⟨rfl,rfl⟩ Nd (ht.TX hN.no) (ht.Xt hN.no Nd)).mono (by omega),.inr ⟨⟨s,hq⟩,v,.inr (.inr (.inr (.inr ⟨rfl,rfl,rfl,λcls pg bL=> ?_⟩)))⟩,by show S2.V.rf.length<=_;omega⟩⟩) Y;obtain⟨rfl,rfl⟩:=bL.uniq hw;refine⟨(c.1,c.2.hold x.2.cls true id),(bl,JV page x.2.pg x.2.cls true),O,List.getElem?_set_self (List.getElem?_eq_some_iff.1 hc).1,?_,?_,?_⟩
     .rw[LD c.2 O c1];exact aJ
     .have:=Li (c:=x.2.cls) (by omega) c1;show 0<if x.2.cls=0 then(1:Int)else(Au x.2.cls).2.2.1
      rw[if_neg (by omega)];omega
     .rw[LD c.2 O c1,BA.Ir];rfl
    .rw[h0]at hN;obtain⟨aO,a7,aJ,a8⟩:=ht.fresh hN p0 p1 (by omega) VL a2;have Nd:=(a2.hI.sp id _ aJ).1;have bK:=aO.NQ aJ rfl rfl (by rw[BA.Ir];rfl) (ht.TX hN.no) (ht.Xt hN.no Nd) aI;refine hK _ _ m (.inr ⟨?_,_,List.getElem?_set_self aY⟩) Y;obtain⟨h1,h2,h3⟩:=d.fin (S':=Cr.done {S1 with ho:= -1,ma:=u64 (S1.ma+1),W:=(S1.W.fresh S2 bl id page x.2.pg 0 X).NQ id (bl,JV page x.2.pg 0 true) uw EU} i x k y (page*8192) (x.2.pg*8192) 0) rfl rfl (d.tr i x d.tx) rfl rfl hq rfl rfl rfl rfl rfl;refine⟨h1,h2,rfl,_,_,.inl ⟨⟨id,0,page*8192,x.2.pg*8192⟩,x.2.cls,x.2.pg,hw,?_,h3,bK.mono (by omega),by show S2.V.rf.length<=_;omega⟩⟩;show x.2.pg*8192=_;unfold Ii;rw[if_pos h0];rcases hw with ⟨_,hk,_⟩|⟨_,_,e⟩
     .have:=hk.k0;omega
     .rw[e]
   .-- look again
    rw[aC];refine iS hE hT (n:=n0+6) (n0:=n0) (by omega) (by omega) d ht hq v aA aE hc (λS' t' aK J=>.inr ⟨J,t',aK⟩) λcls pg W0 Cl hw hl=> ?_;exfalso;obtain⟨c',z,O,a3,hz,bS,hu⟩:=bI cls pg hw;rw[hc]at a3;cases a3;rcases hl with ⟨e,_⟩|⟨_,aG,_⟩
    .omega
    .rw[aG z hz 0 (by omega)]at hu;cases hu
 .rcases hr with ⟨U',M',μ',x',a5,he,aR,aM⟩|⟨J,_⟩
  .exact bD g' S' U' M' μ' x' a5 aR aM w' H'
  .exact bE g' S' J w' H'
end
section
variable{E:Env}{rb:Nat}{g:NW}{S:Cr}{Z:List Pr}{w:World}{U M:BA}{B Bw:List Bk}{n0 r0 i k:Nat}{x:Nat×Tk}{y:Nat×Ak}
def xC{a1:AW}{vs:List Int}(e:vs.length=a1.len){m:Nat}(hm:m<a1.len){w:World}(d:rowAt w a1.base (a1.len*1) (ints .i64 vs)): ∃a v,a1.base=some a/\w.cell? (a.add m)=some (.int .i64 v):=by
 unfold rowAt at d;cases hb:a1.base with
 | none=>
  rw[hb]at d;have:ints .i64 vs=[]:=d;have:=congrArg List.length this;rw[ints,List.length_map]at this;simp at this;have:vs.length=0:=by rw[this];rfl
  omega
 | some a=>
  rw[hb]at d;exact⟨a,vs[m]'(by omega),rfl,d.2 m _ (by rw[ints,List.getElem?_map,List.getElem?_eq_getElem (by omega)];rfl)⟩
def eK(hE:FN E)(hT: ∀w',Sat Z w'->DJ E.AB w')(hn:n0<=50000)(VL: ∀q∈Bw,16<=q.z)(H:Sat (AA E rb g S++Z) w)(hI:lK S U M B Bw n0 r0 10 i k x y){a1:AW}{vs:List Int}(hl:vs.length=a1.len)(hr: ∀w',Sat Z w'->rowAt w' a1.base (a1.len*1) (ints .i64 vs)){K:Bool->World->Prop}
  (hK: ∀g' S',rW S' B Bw n0 r0 k S.Q.length y-> ∀w',Sat (AA E rb g' S'++Z) w'->K true w'):F.BG E (some ⟨rb,0,none⟩) a1 K w:=by
 unfold F.BG T0.BG;have hz: ∀{g':NW} {S':Cr} {w'},Sat (AA E rb g' S'++Z) w'->Sat Z w':=λh=>h.tail.tail.tail.tail.tail.tail.tail.tail.tail.tail.tail.tail;refine AM (λst w'=> ∃m:Nat,st.2.1=(m:Int)/\m<=10/\ ∃g' S',Sat (AA E rb g' S'++Z) w'/\((∃U' M' μ x',m+μ<=10/\S'.Q.length=S.Q.length/\lK S' U' M' B Bw n0 r0 μ i k x' y)∨rW S' B Bw n0 r0 k S.Q.length y)) (λst _=>(200000-st.2.1).toNat)
  ⟨0,rfl,by omega,g,S,H,.inl ⟨U,M,10,x,by omega,rfl,hI⟩⟩ ?_
 rintro⟨f,m',u⟩ _ w2 ⟨m,hm,aW,g',S',H2,hc⟩;dsimp only at hm⊢;subst hm;have aB:(m:Int)<200000:=by omega
 rw[decide_eq_true aB];refine Aa rfl ?_;rcases hc with ⟨U',M',μ,x',aY,O,e⟩|d
 .have BU:=e.s.ok;have aX:m<10:=by have:=e.ph;unfold Phase at this;omega
  have e1:i64 ((m:Int)+1)=((m+1:Nat):Int):=by rw[AI];rfl
  have e2:(200000-i64 ((m:Int)+1)).toNat<(200000-(m:Int)).toNat:=by rw[AI];omega
  have aJ:=e.s.en e.ph;refine AZ (Jr hE H2 BU ?_);rw[e.s.loud];refine AO rfl (AH ⟨_,G7 H2,Kf (H2.front 6 rfl) λjj=>AO rfl ?_⟩);refine Sq H2 BU λw3 H3=> ?_;rw[aJ];refine AO rfl (AZ (AG (λaK=> ?_) λ_ jj=> ?_))
  .obtain⟨a,v,ha,hv⟩:=xC hl (m:=m) (by omega) (hr _ (hz H3));refine E5 ha ⟨⟨by omega,aK⟩,v,by rw[Int.toNat_natCast,Nat.mul_one];exact hv,λjj=> ?_⟩;refine rX hE hT hn VL H3 e (λg3 Y U3 M3 μ3 x3 aB aC J w4 T=>AO rfl ⟨⟨m+1,e1,by have:=J.ph;unfold Phase at this;omega,g3,Y,T,.inl ⟨U3,M3,μ3,x3,by omega,aC.trans O,J⟩⟩,e2⟩) λg3 Y d w4 T=>AO rfl ⟨⟨m+1,e1,by omega,g3,Y,T,.inr (by rw[O]at d;exact d)⟩,e2⟩
  .refine rX hE hT hn VL H3 e (λg3 Y U3 M3 μ3 x3 aB aC J w4 T=>AO rfl ⟨⟨m+1,e1,by have:=J.ph;unfold Phase at this;omega,g3,Y,T,.inl ⟨U3,M3,μ3,x3,by omega,aC.trans O,J⟩⟩,e2⟩) λg3 Y d w4 T=>AO rfl ⟨⟨m+1,e1,by omega,g3,Y,T,.inr (by rw[O]at d;exact d)⟩,e2⟩
 .refine AZ (Jr hE H2 d.1.ok ?_);rw[d.1.quiet];exact Aa rfl λjj=>Aa rfl (hK g' S' d w2 H2)
end
def TY(k:Int->Int)(i j:Int):Int->Int:=λq=>if q=i then k j else if q=j then k i else k q
def K8(k:Int->Int)(a b:Int):Prop:= ∀i j,a<=i->i<j->j<b->k i<=k j
def RQ(k:Int->Int)(i j:Int):TY k i j i=k j:=if_pos rfl
def RR(k:Int->Int)(i j:Int):TY k i j j=k i:=by unfold TY;by_cases e:j=i<;>simp[e]
def OZ(k:Int->Int)(i j:Int):TY k i j=TY k j i:=by
 funext q;unfold TY;by_cases e:q=i<;>by_cases g:q=j<;>simp[e,g]
 all_goals (intros;subst_vars;first|rfl|omega)
def Hn{k:Int->Int}{i j q:Int}(h1:q≠i)(a:q≠j):TY k i j q=k q:=by unfold TY;rw[if_neg h1,if_neg a]
def VE(k:Int->Int)(a i j:Int):Prop:=(∀p q,a<=p->p<q->q<=i->p≠j->q≠j->k p<=k q)/\ ∀q,j<q->q<=i->k j<=k q
def VE.start{k:Int->Int}{a i:Int}(h:K8 k a i):VE k a i i:=⟨λp q h1 d e m u=>h p q h1 d (by omega),λq h1 d=>by omega⟩
def VE.step{k:Int->Int}{a i j:Int}(h:VE k a i j)(J:a<j)(K:j<=i)(lt:k j<k (j-1)):VE (TY k (j-1) j) a i (j-1):=by
 refine⟨λp q h1 d m u v=> ?_,λq h1 d=> ?_⟩
 .by_cases e1:p=j
  .rw[e1,RR,Hn (by omega) (by omega)];exact h.1 _ _ (by omega) (by omega) m (by omega) (by omega)
  .rw[Hn u e1];by_cases e2:q=j
   .rw[e2,RR];exact h.1 _ _ h1 (by omega) (by omega) e1 (by omega)
   .rw[Hn v e2];exact h.1 _ _ h1 d m e1 e2
 .rw[RQ];by_cases e:q=j
  .rw[e,RR];omega
  .rw[Hn (by omega) e];exact h.2 q (by omega) d
def VE.fin{k:Int->Int}{a i j:Int}(h:VE k a i j)(d:j=a∨k (j-1)<=k j):K8 k a (i+1):=λp q h1 e m=>by
 by_cases e1:p=j
 .rw[e1];exact h.2 q (by omega) (by omega)
 .by_cases e2:q=j
  .rcases d with d|d
   .omega
   .by_cases e3:p=j-1
    .rw[e2,e3];exact d
    .have:=h.1 p (j-1) h1 (by omega) (by omega) e1 (by omega);rw[e2];omega
  .exact h.1 p q h1 e (by omega) e1 e2
def Oa(k:Int->Int)(f lo hi:Int):Prop:= ∀c,1<=c->c<hi->lo<=(c-1)/2->k (f+c)<=k (f+(c-1)/2)
def RS(k:Int->Int)(f lo hi r:Int):Prop:=(∀c,1<=c->c<hi->lo<=(c-1)/2->(c-1)/2≠r->k (f+c)<=k (f+(c-1)/2))/\
 ∀c,1<=c->c<hi->(c-1)/2=r->1<=r->lo<=(r-1)/2->k (f+c)<=k (f+(r-1)/2)
def RS.start{k:Int->Int}{f lo hi:Int}(h0:0<=lo)(h:Oa k f (lo+1) hi):RS k f lo hi lo:=⟨λc h1 a d e=>h c h1 a (by omega),λc h1 a d e m=>by omega⟩
def RS.step{k:Int->Int}{f lo hi r c:Int}(h:RS k f lo hi r)(h0:0<=lo)(J:lo<=r)(c1:1<=c)(ch:c<hi)(m:(c-1)/2=r)(hm: ∀d,1<=d->d<hi->(d-1)/2=r->k (f+d)<=k (f+c))(lt:k (f+r)<k (f+c)):
  RS (TY k (f+r) (f+c)) f lo hi c:=by
 refine⟨λd h1 a e u=> ?_,λd h1 a e u v=> ?_⟩
 .by_cases e1:d=c
  .rw[e1,m,RR,RQ];omega
  .by_cases e2:d=r
   .rw[e2,RQ,Hn (by omega) (by omega)];exact h.2 c c1 ch m (by omega) (by rw[<-e2];exact e)
   .rw[Hn (q:=f+d) (by omega) (by omega)];by_cases e3:(d-1)/2=r
    .rw[e3,RQ];exact hm d h1 a e3
    .rw[Hn (by omega) (by omega)];exact h.1 d h1 a e e3
 .rw[m,RQ,Hn (by omega) (by omega)];have:=h.1 d h1 a (by omega) (by omega);rw[e]at this;exact this
def RS.fin{k:Int->Int}{f lo hi r:Int}(h:RS k f lo hi r)(hm: ∀d,1<=d->d<hi->(d-1)/2=r->k (f+d)<=k (f+r)):Oa k f lo hi:=λc h1 a m=>by
 by_cases e:(c-1)/2=r
 .rw[e];exact hm c h1 a e
 .exact h.1 c h1 a m e
def Oa.max{k:Int->Int}{f hi:Int}(h:Oa k f 0 hi): ∀n:Nat,∀c:Int,c.toNat<=n->0<=c->c<hi->k (f+c)<=k f
 | 0,c,hn,h0,_=>by rw[show f+c=f by omega];exact Int.le_refl _
 | n+1,c,hn,h0,h1=>by
  by_cases e:c=0
  .rw[e,Int.add_zero];exact Int.le_refl _
  .have a:=h c (by omega) h1 (by omega);have d:=Oa.max h n ((c-1)/2) (by omega) (by omega) (by omega);omega
def el(l:List Int)(i:Int):Int:=if i<0 then 0 else l.getD i.toNat 0
def sw(l:List Int)(i j:Int):List Int:=(l.set j.toNat (el l i)).set i.toNat (el l j)
def NG{l:List Int}{i:Int}(h0:0<=i)(h1:i.toNat<l.length):el l i=l[i.toNat]:=by
 unfold el;rw[if_neg (by omega),List.getD_eq_getElem?_getD,List.getElem?_eq_getElem h1];rfl
def rY{l:List Int}{j:Int}(j0:0<=j)(j1:j.toNat<l.length)(v q:Int):el (l.set j.toNat v) q=if q=j then v else el l q:=by
 unfold el;by_cases e:q=j
 .subst e;rw[if_neg (by omega),if_pos rfl,List.getD_eq_getElem?_getD,List.getElem?_set_self j1];rfl
 .rw[if_neg e];by_cases g:q<0
  .rw[if_pos g,if_pos g]
  .rw[if_neg g,if_neg g,List.getD_eq_getElem?_getD,List.getD_eq_getElem?_getD,List.getElem?_set_ne (by omega)]
def rZ{l:List Int}{i j:Int}(i0:0<=i)(i1:i.toNat<l.length)(j0:0<=j)(j1:j.toNat<l.length)(q:Int):el (sw l i j) q=if q=i then el l j else if q=j then el l i else el l q:=by
 unfold sw;rw[rY i0 (by simpa using i1),rY j0 j1]
def kf(key:Int->Int)(l:List Int):Int->Int:=λi=>key (el l i)
def RT{key:Int->Int}{l:List Int}{i j:Int}(i0:0<=i)(i1:i.toNat<l.length)(j0:0<=j)(j1:j.toNat<l.length):kf key (sw l i j)=TY (kf key l) i j:=by
 funext q;unfold kf TY;rw[rZ i0 i1 j0 j1];by_cases e:q=i
 .rw[if_pos e,if_pos e]
 .rw[if_neg e,if_neg e];by_cases g:q=j
  .rw[if_pos g,if_pos g]
  .rw[if_neg g,if_neg g]
structure Mv(a b:Int)(l l':List Int):Prop where
 out: ∀i,(i<a∨b<=i)->el l' i=el l i
 NZ: ∀P:Int->Prop,(∀i,a<=i->i<b->P (el l i))-> ∀i,a<=i->i<b->P (el l' i)
def Mv.refl(a b:Int)(l:List Int):Mv a b l l:=⟨λ_ _=>rfl,λ_ h=>h⟩
def Mv.trans{a b:Int}{l l1 d:List Int}(h:Mv a b l l1)(g:Mv a b l1 d):Mv a b l d:=⟨λi hi=>(g.out i hi).trans (h.out i hi),λP e=>g.NZ P (h.NZ P e)⟩
def Mv.wide{a b d e:Int}{l l1:List Int}(h:Mv a b l l1)(v:d<=a)(J:b<=e):Mv d e l l1:=
 ⟨λi hi=>h.out i (by omega),λP m i h1 u=>by
  by_cases g:a<=i/\i<b
  .exact h.NZ P (λj j1 j2=>m j (by omega) (by omega)) i g.1 g.2
  .rw[h.out i (by omega)];exact m i h1 u⟩
def Mv.sw{a b:Int}{l:List Int}{i j:Int}(h0:0<=a)(i0:a<=i)(i1:i<b)(j0:a<=j)(j1:j<b)(u:b<=l.length):Mv a b l (sw l i j):=
 ⟨λq v=>by rw[rZ (by omega) (by omega) (by omega) (by omega),if_neg (by omega),if_neg (by omega)],λP d q h1 m=>by
  rw[rZ (by omega) (by omega) (by omega) (by omega)];by_cases e:q=i
  .rw[if_pos e];exact d j j0 j1
  .rw[if_neg e];by_cases g:q=j
   .rw[if_pos g];exact d i i0 i1
   .rw[if_neg g];exact d q h1 m⟩
def SO(E:Env)(s:AW)(Z:List Pr)(l0 l:List Int)(w:World):Prop:=l.Perm l0/\Sat (Row E.Ag 1 s (ints .i64 l)::Z) w
def QG(E:Env)(cmp:Value)(s:AW)(Z:List Pr)(key:Int->Int)(l0:List Int):Prop:= ∀x y l w (R:Value->World->Prop),x∈l0->y∈l0->SO E s Z l0 l w->(∀r w',(r<0↔key x<key y)->SO E s Z l0 l w'->R (.int .i64 r) w')->DYN E.call cmp #[.int .i64 x,.int .i64 y] w R
section
variable{E:Env}{cmp:Value}{s:AW}{Z:List Pr}{key:Int->Int}{l0 l:List Int}{w:World}
def SO.drew(h:SO E s Z l0 l w):SO E s Z l0 l w.drew:=⟨h.1,h.2.drew⟩
def SO.len(h:SO E s Z l0 l w):l.length=s.len:=by
 have:=h.2.Bs;rw[ints,List.length_map,Nat.mul_one]at this;exact this
def SO.at(h:SO E s Z l0 l w){i:Int}(h0:0<=i)(h1:i<s.len): ∃p,s.base=some p/\w.cell? (p.add (Int.toNat i*1))=some (.int .i64 (el l i))/\el l i∈l0:=by
 have e:=h.len;have hi:i.toNat<l.length:=by omega
 obtain⟨b,a⟩:=h.2.own.Gj (by omega);rw[NG h0 hi];refine⟨_,a,?_,h.1.mem_iff.1 (List.getElem_mem hi)⟩;have d:(ints IntKind.i64 l)[i.toNat]? =some (.int .i64 l[i.toNat]):=Nu (List.getElem?_eq_getElem hi);rw[Nat.mul_one];exact h.2.own.cell a d
def IX(hC:QG E cmp s Z key l0)(hS:SO E s Z l0 l w){i j:Int}(i0:0<=i)(i1:i<s.len)(j0:0<=j)(j1:j<s.len){R:Int->World->Prop}(u: ∀z w',(z<0↔kf key l i<kf key l j)->SO E s Z l0 l w'->R z w'):
  NC s.base λp=>((0:Int)<=i/\(i:Int)<(s.len:Nat))/\ ∃x:Int,w.drew.cell? (p.add (Int.toNat i*1))=some (.int .i64 x)/\
  NC s.base λq=>((0:Int)<=j/\(j:Int)<(s.len:Nat))/\ ∃y:Int,w.drew.cell? (q.add (Int.toNat j*1))=some (.int .i64 y)/\
  DYN E.call cmp #[.int .i64 x,.int .i64 y] w.drew λr w'=> ∃z:Int,r= .int .i64 z/\R z w':=by
 obtain⟨p,m,J,d⟩:=hS.drew.at i0 i1;obtain⟨q,a,K,e⟩:=hS.drew.at j0 j1;rw[m]at a;cases a;rw[m];simp only[AK];exact⟨⟨i0,i1⟩,_,J,⟨j0,j1⟩,_,K,hC _ _ l _ _ d e hS.drew λr w' v h=>⟨r,rfl,u r w' v h⟩⟩
def Fj(hS:SO E s Z l0 l w){i j:Int}(i0:0<=i)(i1:i<s.len)(j0:0<=j)(j1:j<s.len){R:World->Prop}(O: ∀w',SO E s Z l0 (sw l i j) w'->R w'):
  NC s.base λp=>((0:Int)<=i/\(i:Int)<(s.len:Nat))/\ ∃x:Int,w.drew.cell? (p.add (Int.toNat i*1))=some (.int .i64 x)/\
  NC s.base λq=>((0:Int)<=j/\(j:Int)<(s.len:Nat))/\ ∃y:Int,w.drew.cell? (q.add (Int.toNat j*1))=some (.int .i64 y)/\
  NC s.base λT=>((0:Int)<=j/\(j:Int)<(s.len:Nat))/\stCells (T.add (Int.toNat j*1)) 0 [.int .i64 x] w.drew λw1=>
  NC s.base λY=>((0:Int)<=i/\(i:Int)<(s.len:Nat))/\stCells (Y.add (Int.toNat i*1)) 0 [.int .i64 y] w1 λu=>R u:=by
 have hl:=hS.len;obtain⟨hp,m⟩:=hS.drew;have hi:i.toNat<l.length:=by omega
 have d:j.toNat<l.length:=by omega
 obtain⟨b,a⟩:=m.own.Gj (by omega);have J:(ints IntKind.i64 l)[i.toNat]? =some (.int .i64 (el l i)):=by rw[NG i0 hi];exact Nu (List.getElem?_eq_getElem hi)
 have K:(ints IntKind.i64 l)[j.toNat]? =some (.int .i64 (el l j)):=by rw[NG j0 d];exact Nu (List.getElem?_eq_getElem d)
 rw[a];simp only[AK,Nat.mul_one];refine⟨⟨i0,i1⟩,_,m.own.cell a J,⟨j0,j1⟩,_,m.own.cell a K,⟨j0,j1⟩,?_⟩;refine Km m (j:=j.toNat) rfl (by rw[ints,List.length_map];exact d) a λw1 H1=>⟨⟨i0,i1⟩,?_⟩;refine Km H1 (j:=i.toNat) rfl (by rw[List.length_set,ints,List.length_map];exact hi) a λu v=> ?_;refine O u ⟨?_,?_⟩
 .have:((l.set j.toNat l[i.toNat]).set i.toNat l[j.toNat]).Perm l:=List.set_set_perm d hi;unfold sw;rw[NG i0 hi,NG j0 d];exact this.trans hp
 .have e:ints IntKind.i64 (sw l i j)=((ints .i64 l).set j.toNat (.int .i64 (el l i))).set i.toNat (.int .i64 (el l j)):=by
   unfold ints sw;rw[List.map_set,List.map_set]
  rw[e];exact v
variable(hC:QG E cmp s Z key l0)(hsm:s.len<1099511627776)
include hC hsm
theorem TG(hS:SO E s Z l0 l w){a b:Int}(a0:0<=a)(ab:a<=b)(b1:b<=s.len){K:World->Prop}(hK: ∀l' w',Mv a b l l'->K8 (kf key l') a b->SO E s Z l0 l' w'->K w'):F.BQ E s a b cmp K w:=by
 unfold F.BQ;by_cases hab:a+1<=b
 .rw[AI (n:=a+1)];refine AM (λst w'=>a+1<=st.1/\st.1<=b/\ ∃l1,Mv a b l l1/\K8 (kf key l1) a st.1/\SO E s Z l0 l1 w') (λst _=>(b-st.1).toNat) ⟨Int.le_refl _,hab,l,Mv.refl _ _ _,λi j h1 h2 h3=>by dsimp only at h3;omega,hS⟩ ?_;rintro⟨i,u⟩ _ w2 ⟨h1,h2,l1,Y,J,aA⟩;dsimp only at h1 h2 J⊢;refine AG (λaC=> ?_) λ_=>hK l1 w2 Y (by rw[show b=i by omega];exact J) aA;have aD: ∀l' w',Mv a b l l'->K8 (kf key l') a (i+1)->SO E s Z l0 l' w'->(a+1<=i64 (i+1)/\i64 (i+1)<=b/\ ∃l1,Mv a b l l1/\K8 (kf key l1) a (i64 (i+1))/\SO E s Z l0 l1 w')/\(b-i64 (i+1)).toNat<(b-i).toNat:=λl' w' hM hO h=>by
   rw[AI (n:=i+1)];exact⟨⟨by omega,by omega,l',hM,hO,h⟩,by omega⟩
  refine AM (λst w'=>a<=st.1/\st.1<=i/\ ∃T,Mv a b l T/\VE (kf key T) a i st.1/\SO E s Z l0 T w') (λst _=>(st.1-a).toNat) ⟨by show a<=i;omega,Int.le_refl _,l1,Y,VE.start J,aA⟩ ?_;rintro⟨j,u⟩ _ w5 ⟨h3,h4,T,v,e,O⟩;dsimp only at h3 h4 e⊢;have aN:=O.len;refine AG (λaG=> ?_) λaM=>aD T _ v (e.fin (.inl (by omega))) O.drew;rw[AI (n:=j-1)];refine IX hC O (by omega) (by omega) (by omega) (by omega) λz aO hz m=>AG (λd=> ?_) λd=>aD T _ v (e.fin (.inr (by have:=mt hz.2 d;omega))) m;exact Fj m (by omega) (by omega) (by omega) (by omega) λaP aB=>⟨⟨by show a<=j-1;omega,by show j-1<=i;omega,_,v.trans (Mv.sw a0 (by omega) (by omega) (by omega) (by omega) (by omega)),
   by rw[RT (by omega) (by omega) (by omega) (by omega)];exact e.step aG h4 (hz.1 d),aB⟩,by show(j-1-a).toNat<(j-a).toNat;omega⟩
 .refine AM (λst w'=>b<=st.1/\w'=w) (λ_ _=>0) ⟨?_,rfl⟩ ?_
  .rw[AI (n:=a+1)];omega
  .rintro⟨i,u⟩ _ w2 ⟨h1,rfl⟩;exact AG (λaC=>by dsimp only at h1 aC;omega) λ_=>hK l _ (Mv.refl _ _ _) (λi j h1 h2 h3=>by omega) hS
theorem Ob(hS:SO E s Z l0 l w){lo hi first:Int}(h0:0<=lo)(f0:0<=first)(hh:0<=hi)(h1:first+hi<=s.len)(hH:Oa (kf key l) first (lo+1) hi){K:World->Prop}
  (hK: ∀l' w',Mv (first+lo) (first+hi) l l'->Oa (kf key l') first lo hi->SO E s Z l0 l' w'->K w')(aD:lo<1099511627776):F.Dw E s lo hi first cmp K w:=by
 unfold F.Dw;refine AM (λst w'=>lo<=st.1/\st.1<1099511627776/\ ∃l1,Mv (first+lo) (first+hi) l l1/\RS (kf key l1) first lo hi st.1/\SO E s Z l0 l1 w') (λst _=>(1099511627776-st.1).toNat) ⟨Int.le_refl _,aD,l,Mv.refl _ _ _,RS.start h0 hH,hS⟩ ?_;rintro⟨root,u⟩ _ w2 ⟨r0,r1,l1,T,v,J⟩;dsimp only at r0 r1 v⊢;have aI:=J.len;refine Ac λchild aC=> ?_;rw[AI (n:=2*root),AI (n:=2*root+1)]at aC;refine AG (λaH=>hK l1 w2 T (v.fin λd d1 d2 d3=>by omega) J) λaJ=> ?_;refine AV (λst w'=>root<st.1/\st.1<hi/\(st.1-1)/2=root/\(∀d,1<=d->d<hi->(d-1)/2=root->kf key l1 (first+d)<=kf key l1 (first+st.1))/\SO E s Z l0 l1 w') ?_ ?_
 .refine AZ ?_;rw[AI (n:=child+1)];refine AG (λaB=> ?_) λaB j=>AO rfl ⟨by show root<child;omega,by show child<hi;omega,by show(child-1)/2=root;omega,λd d1 d2 d3=>by rw[show d=child by omega];exact Int.le_refl _,J.drew⟩;rw[AI (n:=first+child),AI (n:=first+child+1)];refine IX hC J (by omega) (by omega) (by omega) (by omega) λz aL hz O j=>AG (λa=>⟨by show root<child+1;omega,by show child+1<hi;omega,by show(child+1-1)/2=root;omega,λd d1 d2 d3=> ?_,O⟩) λa=>⟨by show root<child;omega,by show child<hi;omega,by show(child-1)/2=root;omega,λd d1 d2 d3=> ?_,O⟩
  .have hq:=hz.1 a;show _<=kf key l1 (first+(child+1));rw[show first+(child+1)=first+child+1 by omega];by_cases e:d=child
   .rw[e];omega
   .rw[show first+d=first+child+1 by omega];exact Int.le_refl _
  .have hq:=mt hz.2 a;show _<=kf key l1 (first+child);by_cases e:d=child
   .rw[e];exact Int.le_refl _
   .rw[show first+d=first+child+1 by omega];omega
 .rintro⟨c,u⟩ _ w7 ⟨c0,c1,c2,hm,aA⟩;dsimp only at c0 c1 c2 hm⊢;rw[AI (n:=first+root),AI (n:=first+c)];refine IX hC aA (by omega) (by omega) (by omega) (by omega) λz aE hz m=>Lv (AG (λa=> ?_) λa=>hK l1 aE T (v.fin λd d1 d2 d3=> ?_) m)
  .have hl:=m.len;exact Fj m (by omega) (by omega) (by omega) (by omega) λaN Y=>⟨⟨by show lo<=c;omega,by show c<_;omega,_,T.trans (Mv.sw (by omega) (by omega) (by omega) (by omega) (by omega) (by omega)),
    by rw[RT (by omega) (by omega) (by omega) (by omega),OZ];exact v.step h0 r0 (by omega) c1 c2 hm (hz.1 a),Y⟩,by show(1099511627776-c).toNat<(1099511627776-root).toNat;omega⟩
  .have:=mt hz.2 a;have:=hm d d1 d2 d3;omega
end
section
variable{E:Env}{cmp:Value}{s:AW}{Z:List Pr}{key:Int->Int}{l0 l:List Int}{w:World}
def Mv.below{key:Int->Int}{a b v:Int}{l l':List Int}(h:Mv a b l l')(g: ∀i,a<=i->i<b->kf key l i<=v): ∀i,a<=i->i<b->kf key l' i<=v:=h.NZ (λx=>key x<=v) g
def Mv.iT{key:Int->Int}{a b v:Int}{l l':List Int}(h:Mv a b l l')(g: ∀i,a<=i->i<b->v<=kf key l i): ∀i,a<=i->i<b->v<=kf key l' i:=h.NZ (λx=>v<=key x) g
def Mv.same{key:Int->Int}{a b i:Int}{l l':List Int}(h:Mv a b l l')(hi:i<a∨b<=i):kf key l' i=kf key l i:=by unfold kf;rw[h.out i hi]
structure HpF(k:Int->Int)(a m b:Int):Prop where
 hp:Oa k a 0 (m-a)
 so:K8 k m b
 up: ∀p q,a<=p->p<m->m<=q->q<b->k p<=k q
def HpF.top{k:Int->Int}{a m b:Int}(h:HpF k a m b){p:Int}(h0:a<=p)(h1:p<m):k p<=k a:=by
 have:=h.hp.max (p-a).toNat (p-a) (Nat.le_refl _) (by omega) (by omega);rwa[show a+(p-a)=p by omega]at this
def HpF.cut{k:Int->Int}{a m b:Int}(h:HpF k a m b)(u:a<m):Oa (TY k a (m-1)) a 1 (m-1-a)/\K8 (TY k a (m-1)) (m-1) b/\ ∀p q,a<=p->p<m-1->m-1<=q->q<b->TY k a (m-1) p<=TY k a (m-1) q:=by
 have low: ∀p,a<=p->p<m->TY k a (m-1) p<=k a:=λp h0 h1=>by
  by_cases e:p=a
  .rw[e,RQ];exact h.top (by omega) (by omega)
  .by_cases g:p=m-1
   .rw[g,RR];exact Int.le_refl _
   .rw[Hn e g];exact h.top h0 h1
 have J: ∀p q,a<=p->p<m->m<=q->q<b->TY k a (m-1) p<=TY k a (m-1) q:=λp q h0 h1 d v=>by
  rw[Hn (q:=q) (by omega) (by omega)];have:=low p h0 h1;have:=h.up a q (Int.le_refl _) u d v;omega
 refine⟨λc c1 c2 c3=> ?_,λp q h0 h1 d=> ?_,λp q h0 h1 d v=> ?_⟩
 .rw[Hn (by omega) (by omega),Hn (by omega) (by omega)];exact h.hp c c1 (by omega) (by omega)
 .by_cases e:p=m-1
  .rw[e,RR];rw[Hn (by omega) (by omega)];exact h.up a q (Int.le_refl _) u (by omega) d
  .rw[Hn (by omega) e,Hn (by omega) (by omega)];exact h.so p q (by omega) h1 d
 .by_cases e:q=m-1
  .rw[e,RR];exact low p h0 (by omega)
  .exact J p q h0 (by omega) (by omega) v
def X6(k:Int->Int)(a x y b:Int):Prop:= ∀i j,a<=i->i<j->j<b->(i<x∨y<=j)->k i<=k j
def X6.mv{a x y b:Int}{l l':List Int}(h:X6 (kf key l) a x y b)(g:Mv x y l l')(T:y<=b)(O:a<=x):X6 (kf key l') a x y b:=λi j h0 h1 m K=>by
 by_cases e:i<x
 .rw[g.same (i:=i) (.inl e)];by_cases d:x<=j/\j<y
  .exact g.iT (key:=key) (v:=kf key l i) (λq u J=>h i q h0 (by omega) (by omega) (.inl e)) j d.1 d.2
  .rw[g.same (i:=j) (by omega)];exact h i j h0 h1 m (.inl e)
 .have d:y<=j:=by omega
  rw[g.same (i:=j) (.inr d)];by_cases ei:i<y
  .exact g.below (key:=key) (v:=kf key l j) (λq u J=>h q j (by omega) (by omega) m (.inr d)) i (by omega) ei
  .rw[g.same (i:=i) (by omega)];exact h i j h0 h1 m (.inr d)
def X6.fin{k:Int->Int}{a x y b:Int}(h:X6 k a x y b)(g:K8 k x y):K8 k a b:=λi j h0 h1 d=>by
 by_cases e:i<x∨y<=j
 .exact h i j h0 h1 d e
 .exact g i j (by omega) h1 (by omega)
def X6.left{k:Int->Int}{a x y b r:Int}(h:X6 k a x y b)(T:x<=r)(O:r<y)(h1:K8 k x r)(u: ∀i,x<=i->i<r->k i<=k r)(d: ∀i,r<i->i<y->k r<=k i):X6 k a (r+1) y b:=λi j i0 m J v=>by
 by_cases e:i<x∨y<=j
 .exact h i j i0 m J e
 .by_cases e1:j<r
  .exact h1 i j (by omega) m e1
  .by_cases e2:i=r
   .rw[e2];exact d j (by omega) (by omega)
   .have K:=u i (by omega) (by omega);by_cases e3:j=r
    .rw[e3];exact K
    .have:=d j (by omega) (by omega);omega
def X6.right{k:Int->Int}{a x y b r:Int}(h:X6 k a x y b)(T:x<=r)(O:r<y)(h1:K8 k (r+1) y)(u: ∀i,x<=i->i<r->k i<=k r)(d: ∀i,r<i->i<y->k r<=k i):X6 k a x r b:=λi j i0 m J v=>by
 by_cases e:i<x∨y<=j
 .exact h i j i0 m J e
 .by_cases e1:r<i
  .exact h1 i j (by omega) m (by omega)
  .by_cases e2:i=r
   .rw[e2];exact d j (by omega) (by omega)
   .have K:=u i (by omega) (by omega);by_cases e3:j=r
    .rw[e3];exact K
    .have:=d j (by omega) (by omega);omega
variable(hC:QG E cmp s Z key l0)(hsm:s.len<1099511627776)
include hC hsm
theorem VF(hS:SO E s Z l0 l w){a b:Int}(a0:0<=a)(ab:a<b)(b1:b<=s.len){K:World->Prop}(hK: ∀l' w',Mv a b l l'->K8 (kf key l') a b->SO E s Z l0 l' w'->K w'):F.At E s a b cmp K w:=by
 unfold F.At T0.At;rw[AI (n:=b-a),AI (n:=b-a-1),Int.tdiv_eq_ediv_of_nonneg (by omega),AI (n:=(b-a-1)/2)];refine⟨by decide,Ac λi hi=> ?_⟩;refine AM (λst w'=> -1<=st.1/\st.1<b-a/\ ∃l1,Mv a b l l1/\Oa (kf key l1) a (st.1+1) (b-a)/\SO E s Z l0 l1 w') (λst _=>(st.1+1).toNat) ⟨by show-1<=i;omega,by show i<b-a;omega,l,Mv.refl _ _ _,λc c1 c2 c3=>by dsimp only at c3;omega,hS⟩ ?_;rintro⟨k,u⟩ _ w3 ⟨k0,k1,l1,Y,e,aC⟩;dsimp only at k0 k1 e⊢;refine AG (λO=> ?_) λaI=> ?_
 .refine Ob hC hsm aC O a0 (by omega) (by omega) e (λl2 w5 m aF aH=> ?_) (by omega);rw[AI (n:=k-1)];exact⟨⟨by show-1<=k-1;omega,by show k-1<b-a;omega,l2,Y.trans (m.wide (by omega) (by omega)),by show Oa _ a (k-1+1) (b-a);rw[show k-1+1=k by omega];exact aF,aH⟩,by show(k-1+1).toNat<(k+1).toNat;omega⟩
 .have hk:k= -1:=by omega
  rw[hk]at e;refine Ac λi2 aK=> ?_;refine AM (λst w'=> -1<=st.1/\st.1<b-a/\ ∃l1,Mv a b l l1/\HpF (kf key l1) a (a+st.1+1) b/\SO E s Z l0 l1 w') (λst _=>(st.1+1).toNat) ⟨by show-1<=i2;omega,by show i2<b-a;omega,l1,Y,?_,aC⟩ ?_
  .refine⟨?_,λp q h1 T h3=> ?_,λp q h0 h1 T h3=> ?_⟩
   .dsimp only;rw[show a+i2+1-a=b-a by omega];exact e
   .dsimp only at h1;omega
   .dsimp only at T;omega
  rintro⟨k,u⟩ _ w8 ⟨k0,k1,l2,m,v,J⟩;dsimp only at k0 k1 v⊢;have aM:=J.len;refine AG (λO=> ?_) λaI=>hK l2 w8 m (by have:=v.so;rwa[show a+k+1=a by omega]at this) J;rw[AI (n:=a+k)];refine Fj J (by omega) (by omega) (by omega) (by omega) λaO aA=> ?_;obtain⟨c1,c2,c3⟩:=v.cut (by omega);rw[show a+k+1-1=a+k by omega]at c1 c2 c3;rw[OZ,<-RT (l:=l2) (key:=key) (i:=a+k) (j:=a) (by omega) (by omega) (by omega) (by omega)]at c1 c2 c3;refine Ob hC hsm aA (Int.le_refl 0) a0 O (by omega) (by rw[show a+k-a=k by omega]at c1;exact c1) (λl3 aP d aG aB=> ?_) (by decide);rw[AI (n:=k-1)];rw[Int.add_zero]at d;refine⟨⟨by show-1<=k-1;omega,by show k-1<b-a;omega,l3,(m.trans (Mv.sw a0 (by omega) (by omega) (by omega) (by omega) (by omega))).trans (d.wide (by omega) (by omega)),?_,aB⟩,by show(k-1+1).toNat<(k+1).toNat;omega⟩;show HpF _ a (a+(k-1)+1) b;rw[show a+(k-1)+1=a+k by omega];refine⟨by rw[show a+k-a=k by omega];exact aG,λp q h0 h1 T=> ?_,λp q h0 h1 T h3=> ?_⟩
  .rw[d.same (.inr (by omega)),d.same (.inr (by omega))];exact c2 p q h0 h1 T
  .rw[d.same (i:=q) (.inr (by omega))];exact d.below (key:=key) (λi i0 i1=>c3 i q i0 i1 T h3) p h0 h1
theorem Vf(hS:SO E s Z l0 l w){a b:Int}(a0:0<=a)(Y:a<b)(b1:b<=s.len){K:World->Prop}(v: ∀l' w',Mv a b l l'->SO E s Z l0 l' w'->K w'):F.A5 E s a b cmp K w:=by
 unfold F.A5;rw[AI (n:=b-1)];refine AM (λst w'=>a<=st.1/\st.2.1<b/\a<=st.2.1+1/\st.1<=b/\ ∃l1,Mv a b l l1/\SO E s Z l0 l1 w') (λst _=>(st.2.1-st.1).toNat) ⟨Int.le_refl _,by show b-1<b;omega,by show a<=b-1+1;omega,by show a<=b;omega,l,Mv.refl _ _ _,hS⟩ ?_;rintro⟨i,j,u⟩ _ T ⟨i0,j1,j0,i1,l1,e,d⟩;dsimp only at i0 j1 j0 i1⊢;refine AG (λJ=> ?_) λ_=>v l1 T e d;have hl:=d.len;rw[AI (n:=i+1),AI (n:=j-1)];exact Fj d (by omega) (by omega) (by omega) (by omega) λO m=>⟨⟨by show a<=i+1;omega,by show j-1<b;omega,by show a<=j-1+1;omega,by show i+1<=b;omega,_,e.trans (Mv.sw a0 (by omega) (by omega) (by omega) (by omega) (by omega)),m⟩,by show(j-1-(i+1)).toNat<(j-i).toNat;omega⟩
theorem NH(hS:SO E s Z l0 l w){a b:Int}(a0:0<=a)(ab:a<b)(b1:b<=s.len)(aX:0<a-> ∀i,a<=i->i<b->kf key l (a-1)<=kf key l i){K:Bool->World->Prop}
  (hK: ∀r l' w',Mv a b l l'->(r=true->K8 (kf key l') a b)->SO E s Z l0 l' w'->K r w'):F.Av E s a b cmp K w:=by
 unfold F.Av;rw[AI (n:=a+1)];refine AM (λst w'=>a+1<=st.1/\st.1<=b/\0<=st.2.1/\st.2.1<=5/\ ∃l1,Mv a b l l1/\K8 (kf key l1) a st.1/\SO E s Z l0 l1 w') (λst _=>(5-st.2.1).toNat) ⟨Int.le_refl _,by show a+1<=b;omega,Int.le_refl 0,by show(0:Int)<=5;decide,l,Mv.refl _ _ _,λi j h1 h2 h3=>by dsimp only at h3;omega,hS⟩ ?_;rintro⟨i,n,u⟩ _ w2 ⟨i0,i1,n0,n1,l1,aA,aR,aT⟩;dsimp only at i0 i1 n0 n1 aR⊢;have hf: ∀l' w',Mv a b l l'->SO E s Z l0 l' w'->K false w':=λl' w' hM h=>hK false l' w' hM (λe=>by cases e) h;refine AG (λhn=> ?_) λ_=>hf l1 w2 aA aT;refine AV (λst w'=>i<=st.1/\st.1<=b/\K8 (kf key l1) a st.1/\SO E s Z l0 l1 w') ?_ ?_
 .refine AM (λst w'=>i<=st.1/\st.1<=b/\K8 (kf key l1) a st.1/\SO E s Z l0 l1 w') (λst _=>(b-st.1).toNat) ⟨Int.le_refl _,i1,aR,aT⟩ ?_;rintro⟨k,u⟩ _ w8 ⟨k0,k1,m,aW⟩;dsimp only at k0 k1 m⊢;refine AG (λaC=> ?_) λ_=>⟨k0,k1,m,aW.drew⟩;rw[AI (n:=k-1),AI (n:=k+1)];refine IX hC aW (by omega) (by omega) (by omega) (by omega) λz bH hz aD=>Lv (AG (λ_=>⟨k0,k1,m,aD⟩) λJ=>⟨⟨by show i<=k+1;omega,by show k+1<=b;omega,λp q h0 h1 h2=> ?_,aD⟩,by show(b-(k+1)).toNat<(b-k).toNat;omega⟩)
  try dsimp only at h2
  have hle:=mt hz.2 J;by_cases e:q=k
  .rw[e];by_cases g:p=k-1
   .rw[g];omega
   .have:=m p (k-1) h0 (by omega) (by omega);omega
  .exact m p q h0 h1 (by omega)
 rintro⟨k,u⟩ _ w6 ⟨k0,k1,m,aB⟩;dsimp only at k0 k1 m⊢;have bF:=aB.len;refine Cj (λe=>hK true l1 w6 aA (λ_=>by rw[<-e];exact m) aB) λbG=> ?_;rw[AI (n:=b-a)];refine AG (λ_=>hf l1 w6 aA aB) λ_=> ?_;rw[AI (n:=k-1),AI (n:=k-a),AI (n:=b-k),AI (n:=k+1),AI (n:=n+1)];have aL: ∀l' w',Mv a b l l'->K8 (kf key l') a k->SO E s Z l0 l' w'->(a+1<=k/\k<=b/\0<=n+1/\n+1<=5/\ ∃l1,Mv a b l l1/\K8 (kf key l1) a k/\SO E s Z l0 l1 w')/\(5-(n+1)).toNat<(5-n).toNat:=λl' w' hM hO h=>⟨⟨by omega,by omega,by omega,by omega,l',hM,hO,h⟩,by omega⟩;have aY: ∀l',Mv a b l l'->0<a->kf key l' (a-1)<=kf key l' a:=λl' hM ha=>by
  rw[hM.same (i:=a-1) (.inl (by omega))];exact hM.iT (key:=key) (aX ha) a (Int.le_refl _) ab
 refine Fj aB (by omega) (by omega) (by omega) (by omega) λa3 v=> ?_;have aK: ∃l2,Mv a b l l2/\VE (kf key l2) a (k-1) (k-1)/\SO E s Z l0 l2 a3:=by
  refine⟨_,aA.trans (Mv.sw a0 (by omega) (by omega) (by omega) (by omega) (by omega)),⟨λp q h0 h1 h2 h3 h4=> ?_,λq h0 h1=>by omega⟩,v⟩;rw[RT (by omega) (by omega) (by omega) (by omega),Hn (by omega) (by omega),Hn (by omega) (by omega)];exact m p q h0 h1 (by omega)
 clear v;obtain⟨l2,aQ,aZ,v⟩:=aK;refine AV (λ_ w'=> ∃d,Mv a b l d/\K8 (kf key d) a k/\SO E s Z l0 d w') ?_ ?_
 .refine AG (λa2=> ?_) λa2=>⟨l2,aQ,λp q h0 h1 h2=>by omega,v⟩;refine AM (λst w'=>a<=st.1/\st.1<=k-1/\ ∃d,Mv a b l d/\VE (kf key d) a (k-1) st.1/\SO E s Z l0 d w') (λst _=>st.1.toNat) ⟨by show a<=k-1;omega,Int.le_refl _,l2,aQ,aZ,v⟩ ?_;rintro⟨j,u⟩ _ bJ ⟨j0,j1,d,O,aH,T⟩;dsimp only at j0 j1 aH⊢;have hl:=T.len;have fin: ∀{w'},(j=a∨kf key d (j-1)<=kf key d j)->SO E s Z l0 d w'-> ∃d,Mv a b l d/\K8 (kf key d) a k/\SO E s Z l0 d w':=λhj h=>⟨d,O,by have:=aH.fin hj;rwa[show k-1+1=k by omega]at this,h⟩;refine AG (λbC=> ?_) λaC=>fin (.inl (by omega)) T;rw[AI (n:=j-1)];refine IX hC T (by omega) (by omega) (by omega) (by omega) λz bK hz aF=>Lv (AG (λJ=> ?_) λJ=>fin (.inr (by have:=mt hz.2 J;omega)) aF);have aC:=hz.1 J;have a1:a<j:=by
   rcases Int.lt_or_eq_of_le j0 with h|h
   .exact h
   .subst h;have:=aY d O (by omega);omega
  exact Fj aF (by omega) (by omega) (by omega) (by omega) λbL aU=>⟨⟨by show a<=j-1;omega,by show j-1<=k-1;omega,_,O.trans (Mv.sw a0 (by omega) (by omega) (by omega) (by omega) (by omega)),
   by rw[RT (by omega) (by omega) (by omega) (by omega)];exact aH.step a1 j1 aC,aU⟩,by show(j-1).toNat<j.toNat;omega⟩
 .rintro _ _ a4 ⟨d,O,aS,aE⟩;refine AG (λ_=> ?_) λ_=>aL d a4 O aS aE;refine AM (λst w'=>k+1<=st.1/\st.1<=b/\ ∃l4,Mv a b l l4/\K8 (kf key l4) a k/\SO E s Z l0 l4 w') (λst _=>(b-st.1).toNat) ⟨Int.le_refl _,by show k+1<=b;omega,d,O,aS,aE⟩ ?_;rintro⟨j,u⟩ _ bM ⟨j0,j1,l4,aI,aJ,Y⟩;dsimp only at j0 j1⊢;have hl:=Y.len;refine AG (λaC=> ?_) λ_=>aL l4 _ aI aJ Y;rw[AI (n:=j-1),AI (n:=j+1)];refine IX hC Y (by omega) (by omega) (by omega) (by omega) λz bN hz aG=>Lv (AG (λ_=> ?_) λ_=>aL l4 _ aI aJ aG);exact Fj aG (by omega) (by omega) (by omega) (by omega) λbO aV=>⟨⟨by show k+1<=j+1;omega,by show j+1<=b;omega,_,aI.trans (Mv.sw a0 (by omega) (by omega) (by omega) (by omega) (by omega)),λp q h0 h1 h2=>by
   rw[RT (by omega) (by omega) (by omega) (by omega),Hn (by omega) (by omega),Hn (by omega) (by omega)];exact aJ p q h0 h1 h2,aV⟩,by show(b-(j+1)).toNat<(b-j).toNat;omega⟩
end
structure Part(k:Int->Int)(a i j b:Int):Prop where
 lo: ∀q,a<q->q<i->k q<=k a
 hi: ∀q,j<q->q<b->k a<=k q
section
variable{E:Env}{cmp:Value}{s:AW}{Z:List Pr}{key:Int->Int}{l0 l:List Int}{w:World}
def Part.left{k:Int->Int}{a i j b:Int}(h:Part k a i j b)(g:k i<=k a):Part k a (i+1) j b:=⟨λq h0 h1=>by
 by_cases e:q=i
 .rw[e];exact g
 .exact h.lo q h0 (by omega),h.hi⟩
def Part.right{k:Int->Int}{a i j b:Int}(h:Part k a i j b)(g:k a<=k j):Part k a i (j-1) b:=⟨h.lo,λq h0 h1=>by
 by_cases e:q=j
 .rw[e];exact g
 .exact h.hi q (by omega) h1⟩
def Part.swap{k:Int->Int}{a i j b:Int}(h:Part k a i j b)(v:a<i)(J:i<j)(h1:k a<=k i)(u:k j<=k a):Part (TY k i j) a (i+1) (j-1) b:=⟨λq d m=>by
 rw[Hn (q:=a) (by omega) (by omega)];by_cases e:q=i
 .rw[e,RQ];exact u
 .rw[Hn e (by omega)];exact h.lo q d (by omega),λq d m=>by
 rw[Hn (q:=a) (by omega) (by omega)];by_cases e:q=j
 .rw[e,RR];exact h1
 .rw[Hn (by omega) e];exact h.hi q (by omega) m⟩
def Part.fin{k:Int->Int}{a j b:Int}(h:Part k a (j+1) j b)(u:a<=j):(∀q,a<=q->q<j->TY k j a q<=TY k j a j)/\ ∀q,j<q->q<b->TY k j a j<=TY k j a q:=by
 refine⟨λq d m=> ?_,λq d m=> ?_⟩
 .rw[RQ];by_cases e:q=a
  .rw[e,RR];exact h.lo j (by omega) (by omega)
  .rw[Hn (by omega) e];exact h.lo q (by omega) (by omega)
 .rw[RQ,Hn (by omega) (by omega)];exact h.hi q d m
section
variable(hC:QG E cmp s Z key l0)(hsm:s.len<1099511627776)
include hC hsm
theorem TH(hS:SO E s Z l0 l w){a b p:Int}(a0:0<=a)(ab:a<b)(b1:b<=s.len)(p0:a<=p)(p1:p<b){K:Int->Bool->World->Prop}
  (hK: ∀r t l' w',a<=r->r<b->Mv a b l l'->(∀q,a<=q->q<r->kf key l' q<=kf key l' r)->(∀q,r<q->q<b->kf key l' r<=kf key l' q)->SO E s Z l0 l' w'->K r t w'):F.Bn E s a b p cmp K w:=by
 unfold F.Bn;refine Fj hS (by omega) (by omega) (by omega) (by omega) λw8 aP=> ?_;have bC: ∃l1,Mv a b l l1/\SO E s Z l0 l1 w8:=⟨_,by have:=hS.len;exact Mv.sw a0 (by omega) (by omega) (by omega) (by omega) (by omega),aP⟩;clear aP;obtain⟨l1,a6,aP⟩:=bC;rw[AI (n:=a+1),AI (n:=b-1)];have left: ∀(l1:List Int) (i j:Int) (aG:World) (J:Int×Unit->World->Prop),a+1<=i->i<=j+1->a<=j->j<b->Part (kf key l1) a i j b->SO E s Z l0 l1 aG->(∀k w',i<=k->k<=j+1->Part (kf key l1) a k j b->(k<=j->kf key l1 a<=kf key l1 k)->SO E s Z l0 l1 w'->J (k,()) w')->
   BI (Int×Unit) (i,()) aG λEr _ Y T=>
   CND (decide ((Er.1:Int)<=j)) (
    NC s.base λa2=>
    ((0:Int)<=Er.1/\(Er.1:Int)<(s.len:Nat))/\
    ∃aM:Int,Y.drew.cell? (a2.add (Int.toNat Er.1*1))=some (.int .i64 aM)/\
    NC s.base λa3=>
    ((0:Int)<=a/\(a:Int)<(s.len:Nat))/\
    ∃aN:Int,Y.drew.cell? (a3.add (Int.toNat a*1))=some (.int .i64 aN)/\
    DYN E.call cmp #[.int .i64 aM,.int .i64 aN] Y.drew λa4 aL=>
    ∃aO:Int,a4= .int .i64 aO/\
    CND (decide ((aO:Int)<0)) (
     T (i64 (Er.1+1),()) aL
    ) (
     J (Er.1,()) aL
    )
   ) (
    J (Er.1,()) Y.drew
   ):=by
  intro l1 i j aG J i0 i1 j0 j1 O aK hJ;refine AM (λst w'=>i<=st.1/\st.1<=j+1/\Part (kf key l1) a st.1 j b/\SO E s Z l0 l1 w') (λst _=>(b-st.1).toNat) ⟨Int.le_refl _,i1,O,aK⟩ ?_;rintro⟨k,u⟩ _ bR ⟨k0,k1,m,aA⟩;dsimp only at k0 k1 m⊢;refine AG (λhle=> ?_) λaF=>hJ k _ k0 k1 m (λh=>absurd h aF) aA.drew;rw[AI (n:=k+1)];exact IX hC aA (by omega) (by omega) (by omega) (by omega) λz bS hz aB=>AG (λd=>⟨⟨by show i<=k+1;omega,by show k+1<=j+1;omega,m.left (by have:=hz.1 d;omega),aB⟩,by show(b-(k+1)).toNat<(b-k).toNat;omega⟩) λd=>hJ k _ k0 k1 m (λ_=>by have:=mt hz.2 d;omega) aB
 have a1: ∀(l1:List Int) (i j:Int) (aG:World) (J:Int×Unit->World->Prop),a+1<=i->i<=j+1->a<=j->j<b->Part (kf key l1) a i j b->SO E s Z l0 l1 aG->(∀k w',i<=k->k<=j+1->Part (kf key l1) a k j b->(k<=j->kf key l1 a<=kf key l1 k)->SO E s Z l0 l1 w'->J (k,()) w')->
   BI (Int×Int×Unit) (i,j,()) aG λEr _ Y T=>
   CND (decide ((Er.1:Int)<=Er.2.1)) (
    NC s.base λa2=>
    ((0:Int)<=Er.1/\(Er.1:Int)<(s.len:Nat))/\
    ∃aM:Int,Y.drew.cell? (a2.add (Int.toNat Er.1*1))=some (.int .i64 aM)/\
    NC s.base λa3=>
    ((0:Int)<=a/\(a:Int)<(s.len:Nat))/\
    ∃aN:Int,Y.drew.cell? (a3.add (Int.toNat a*1))=some (.int .i64 aN)/\
    DYN E.call cmp #[.int .i64 aM,.int .i64 aN] Y.drew λa4 aL=>
    ∃aO:Int,a4= .int .i64 aO/\
    CND (decide ((aO:Int)<0)) (
     T (i64 (Er.1+1),Er.2.1,()) aL
    ) (
     J (Er.1,()) aL
    )
   ) (
    J (Er.1,()) Y.drew
   ):=by
  intro l1 i j aG J i0 i1 j0 j1 O aK hJ;refine AM (λst w'=>i<=st.1/\st.1<=j+1/\st.2.1=j/\Part (kf key l1) a st.1 j b/\SO E s Z l0 l1 w') (λst _=>(b-st.1).toNat) ⟨Int.le_refl _,i1,rfl,O,aK⟩ ?_;rintro⟨k,jj,u⟩ _ bR ⟨k0,k1,bF,m,aA⟩;dsimp only at k0 k1 bF m⊢;have bG:=bF.symm;subst bG;refine AG (λhle=> ?_) λaF=>hJ k _ k0 k1 m (λh=>absurd h aF) aA.drew;rw[AI (n:=k+1)];exact IX hC aA (by omega) (by omega) (by omega) (by omega) λz bS hz aB=>AG (λd=>⟨⟨by show i<=k+1;omega,by show k+1<=j+1;omega,rfl,m.left (by have:=hz.1 d;omega),aB⟩,by show(b-(k+1)).toNat<(b-k).toNat;omega⟩) λd=>hJ k _ k0 k1 m (λ_=>by have:=mt hz.2 d;omega) aB
 have right: ∀(l1:List Int) (i2 j:Int) (a5:World) (J:Int×Unit->World->Prop),a+1<=i2->i2<=j+1->a<=j->j<b->Part (kf key l1) a i2 j b->SO E s Z l0 l1 a5->(∀k w',k<=j->i2-1<=k->Part (kf key l1) a i2 k b->(i2<=k->kf key l1 k<=kf key l1 a/\kf key l1 k≠kf key l1 a)->SO E s Z l0 l1 w'->J (k,()) w')->
   BI (Int×Unit) (j,()) a5 λX4 _ aS aQ=>
    CND (decide ((i2:Int)<=X4.1)) (
     NC s.base λbN=>
     ((0:Int)<=X4.1/\(X4.1:Int)<(s.len:Nat))/\
     ∃bJ:Int,aS.drew.cell? (bN.add (Int.toNat X4.1*1))=some (.int .i64 bJ)/\
     NC s.base λbO=>
     ((0:Int)<=a/\(a:Int)<(s.len:Nat))/\
     ∃bK:Int,aS.drew.cell? (bO.add (Int.toNat a*1))=some (.int .i64 bK)/\
     DYN E.call cmp #[.int .i64 bJ,.int .i64 bK] aS.drew λbP bI=>
     ∃bL:Int,bP= .int .i64 bL/\
     CND (!(decide ((bL:Int)<0))) (
      aQ (i64 (X4.1-1),()) bI
     ) (
      J (X4.1,()) bI
     )
    ) (
     J (X4.1,()) aS.drew
    ):=by
  intro l1 i2 j a5 J i0 i1 j0 j1 O a9 hJ;refine AM (λst w'=>st.1<=j/\i2-1<=st.1/\Part (kf key l1) a i2 st.1 b/\SO E s Z l0 l1 w') (λst _=>(st.1+1).toNat) ⟨Int.le_refl _,by show i2-1<=j;omega,O,a9⟩ ?_;rintro⟨k,u⟩ _ b5 ⟨m0,m1,m,aV⟩;dsimp only at m0 m1 m⊢;refine AG (λhle=> ?_) λaF=>hJ k _ m0 m1 m (λh=>absurd h aF) aV.drew;rw[AI (n:=k-1)];exact IX hC aV (by omega) (by omega) (by omega) (by omega) λz b6 hz aW=>Lv (AG (λd=>hJ k _ m0 m1 m (λ_=>by have:=hz.1 d;omega) aW) λd=>⟨⟨by show k-1<=j;omega,by show i2-1<=k-1;omega,m.right (by have:=mt hz.2 d;omega),aW⟩,by show(k-1+1).toNat<(k+1).toNat;omega⟩)
 have done: ∀(l2:List Int) (i j:Int) (aR:World) (t:Bool) (R:World->Prop),Mv a b l l2->i=j+1->a<=j->j<b->Part (kf key l2) a i j b->SO E s Z l0 l2 aR->(∀l' w',Mv a b l l'->(∀q,a<=q->q<j->kf key l' q<=kf key l' j)->(∀q,j<q->q<b->kf key l' j<=kf key l' q)->SO E s Z l0 l' w'->R w')->
   ∀w',SO E s Z l0 (sw l2 a j) w'->R w':=λl2 i j aR t R hM e j0 j1 O hS hR w' bM=>by
  subst e;have hl:=hS.len;obtain⟨f1,f2⟩:=O.fin j0;rw[OZ,<-RT (l:=l2) (key:=key) (i:=a) (j:=j) (by omega) (by omega) (by omega) (by omega)]at f1 f2;exact hR _ w' (hM.trans (Mv.sw a0 (by omega) (by omega) (by omega) (by omega) (by omega))) f1 f2 bM
 refine AV (λst w'=>a+1<=st.1/\st.1<=b-1+1/\Part (kf key l1) a st.1 (b-1) b/\(st.1<=b-1->kf key l1 a<=kf key l1 st.1)/\SO E s Z l0 l1 w')
  (left l1 (a+1) (b-1) w8 (λst w'=>a+1<=st.1/\st.1<=b-1+1/\Part (kf key l1) a st.1 (b-1) b/\(st.1<=b-1->kf key l1 a<=kf key l1 st.1)/\SO E s Z l0 l1 w') (Int.le_refl _) (by omega) (by omega) (by omega) ⟨λq h0 h1=>by omega,λq h0 h1=>by omega⟩ aP λk w' k0 k1 O hk h=>⟨k0,k1,O,hk,h⟩) ?_
 rintro⟨i,u⟩ _ bQ ⟨i0,i1,O,hi,aU⟩;dsimp only at i0 i1 O hi⊢;refine AV (λst w'=>st.1<=b-1/\i-1<=st.1/\Part (kf key l1) a i st.1 b/\(i<=st.1->kf key l1 st.1<=kf key l1 a/\kf key l1 st.1≠kf key l1 a)/\SO E s Z l0 l1 w')
  (right l1 i (b-1) bQ (λst w'=>st.1<=b-1/\i-1<=st.1/\Part (kf key l1) a i st.1 b/\(i<=st.1->kf key l1 st.1<=kf key l1 a/\kf key l1 st.1≠kf key l1 a)/\SO E s Z l0 l1 w') i0 i1 (by omega) (by omega) O aU λk w' k0 k1 O hk h=>⟨k0,k1,O,hk,h⟩) ?_
 rintro⟨j,u⟩ _ aR ⟨j0,j1,aE,hj,aC⟩;dsimp only at j0 j1 aE hj⊢;have bH:=aC.len;refine AG (λaF=> ?_) λhle=> ?_
 .exact Fj aC (by omega) (by omega) (by omega) (by omega) (done l1 i j aR true (K j true) a6 (by omega) (by omega) (by omega) aE aC λl' w' g1 g2 g3 g4=>hK j true l' w' (by omega) (by omega) g1 g2 g3 g4)
 have bE:i≠j:=λe=>by
  have h1:=hi (by omega);have h2:=hj (by omega);rw[e]at h1;omega
 refine Fj aC (by omega) (by omega) (by omega) (by omega) λbT aD=> ?_;rw[AI (n:=i+1),AI (n:=j-1)];have aY: ∃l2,Mv a b l l2/\Part (kf key l2) a (i+1) (j-1) b/\SO E s Z l0 l2 bT:=by
  refine⟨_,a6.trans (Mv.sw a0 (by omega) (by omega) (by omega) (by omega) (by omega)),?_,aD⟩;have:=aE.swap (by omega) (by omega) (hi (by omega)) (hj (by omega)).1;rw[RT (by omega) (by omega) (by omega) (by omega)]
  first|exact this|(rw[OZ];exact this)
 clear aD;obtain⟨l2,a7,aI,aD⟩:=aY;refine AM (λst w'=>a+1<=st.1/\st.1<=st.2.1+1/\a<=st.2.1/\st.2.1<b/\ ∃v,Mv a b l v/\Part (kf key v) a st.1 st.2.1 b/\SO E s Z l0 v w') (λst _=>(st.2.1+1-st.1).toNat) ⟨by show a+1<=i+1;omega,by show i+1<=j-1+1;omega,by show a<=j-1;omega,by show j-1<b;omega,l2,a7,aI,aD⟩ ?_;clear O hi aE hj aC aU aI a7 aD bH bE;rintro⟨i,j,u⟩ _ bU ⟨i0,i1,j0,j1,v,a8,O,bA⟩;dsimp only at i0 i1 j0 j1 O⊢;refine AV (λst w'=>i<=st.1/\st.1<=j+1/\Part (kf key v) a st.1 j b/\(st.1<=j->kf key v a<=kf key v st.1)/\SO E s Z l0 v w')
  (a1 v i j bU (λst w'=>i<=st.1/\st.1<=j+1/\Part (kf key v) a st.1 j b/\(st.1<=j->kf key v a<=kf key v st.1)/\SO E s Z l0 v w') i0 i1 j0 j1 O bA λk w' k0 k1 O hk h=>⟨k0,k1,O,hk,h⟩) ?_
 rintro⟨i2,u⟩ _ bV ⟨k0,k1,aE,hi,bB⟩;dsimp only at k0 k1 aE hi⊢;refine AV (λst w'=>st.1<=j/\i2-1<=st.1/\Part (kf key v) a i2 st.1 b/\(i2<=st.1->kf key v st.1<=kf key v a/\kf key v st.1≠kf key v a)/\SO E s Z l0 v w')
  (right v i2 j bV (λst w'=>st.1<=j/\i2-1<=st.1/\Part (kf key v) a i2 st.1 b/\(i2<=st.1->kf key v st.1<=kf key v a/\kf key v st.1≠kf key v a)/\SO E s Z l0 v w') (by omega) (by omega) j0 j1 aE bB λk w' k0 k1 O hk h=>⟨k0,k1,O,hk,h⟩) ?_
 rintro⟨j2,u⟩ _ bW ⟨m0,m1,aI,hj,aH⟩;dsimp only at m0 m1 aI hj⊢;have bY:=aH.len;refine AG (λaF=> ?_) λhle=> ?_
 .exact Fj aH (by omega) (by omega) (by omega) (by omega) (done v i2 j2 bW false (K j2 false) a8 (by omega) (by omega) (by omega) aI aH λl' w' g1 g2 g3 g4=>hK j2 false l' w' (by omega) (by omega) g1 g2 g3 g4)
 .have bE:i2≠j2:=λe=>by
   have h1:=hi (by omega);have h2:=hj (by omega);rw[e]at h1;omega
  rw[AI (n:=i2+1),AI (n:=j2-1)];refine Fj aH (by omega) (by omega) (by omega) (by omega) λb7 bD=>⟨⟨by show a+1<=i2+1;omega,by show i2+1<=j2-1+1;omega,by show a<=j2-1;omega,by show j2-1<b;omega,_,a8.trans (Mv.sw a0 (by omega) (by omega) (by omega) (by omega) (by omega)),?_,bD⟩,by show(j2-1+1-(i2+1)).toNat<(j+1-i).toNat;omega⟩;have:=aI.swap (by omega) (by omega) (hi (by omega)) (hj (by omega)).1;rw[RT (by omega) (by omega) (by omega) (by omega)]
  first|exact this|(rw[OZ];exact this)
end
def SO.add{P:Pr}{w':World}(h:l.Perm l0/\Sat (P::Row E.Ag 1 s (ints .i64 l)::Z) w'):SO E s (P::Z) l0 l w':=⟨h.1,h.2.perm (.swap _ _ _)⟩
def SO.out{P:Pr}{w':World}(h:SO E s (P::Z) l0 l w'):l.Perm l0/\Sat (P::Row E.Ag 1 s (ints .i64 l)::Z) w':=⟨h.1,h.2.perm (.swap _ _ _)⟩
def SO.drop{P:Pr}{w':World}(h:SO E s (P::Z) l0 l w'):SO E s Z l0 l w':=⟨h.1,(h.2.perm (.swap _ _ _)).tail⟩
def PC(hsm:s.len<1099511627776)(hS:SO E s Z l0 l w){a b:Int}(a0:0<=a)(ab:a<b)(b1:b<=s.len){K:World->Prop}(hK: ∀l' w',Mv a b l l'->SO E s Z l0 l' w'->K w'):F.Af E s a b cmp K w:=by
 unfold F.Af T0.Af;rw[AI (n:=b-a)];refine AG (λh8=> ?_) λ_=>hK l w (Mv.refl _ _ _) hS;obtain⟨hp,H⟩:=hS;refine AJ (vs:=[.int .u64 0]) H λe w2 H2 _=>BT H2 (o:=0) rfl (by simp) λw3 H3=> ?_;rw[Int.tdiv_eq_ediv_of_nonneg (by omega),AI (n:=(b-a)/4),AI (n:=(b-a)/4*2),AI (n:=a+(b-a)/4*2),AI (n:=a+(b-a)/4*2-1),AI (n:=a+(b-a)/4*2+1)];refine k8 (n:=b-a) (by omega) (by omega) λm m0 m1=>⟨by decide,Ac λidx aD=> ?_⟩;refine AM (λst w'=>idx<=st.1/\st.1<=idx+3/\ ∃x l1,Mv a b l l1/\SO E s (Cells e E.Hw [.int .u64 x]::Z) l0 l1 w') (λst _=>(idx+3-st.1).toNat) ⟨Int.le_refl _,by show idx<=idx+3;omega,_,l,Mv.refl _ _ _,SO.add ⟨hp,H3⟩⟩ ?_;rintro⟨i,u⟩ _ w8 ⟨i0,i1,x,l1,v,O⟩;dsimp only at i0 i1⊢;refine⟨by decide,AG (λhle=> ?_) λ_=>hK l1 w8 v O.drop⟩;obtain⟨aB,H8⟩:=O.out;refine k9 H8 λy T Y=>Ac λother ho=> ?_;rw[AR (n:=m-1)]at ho;have aJ:=and_le y (b:=m-1) (by omega) (by omega);rw[AI]at ho;have d:SO E s (Cells e E.Hw [.int .u64 y]::Z) l0 l1 T:=SO.add ⟨aB,Y⟩;have aE:=d.len;refine AV (λst w'=>0<=st.1/\st.1<b-a/\w'=T) ?_ ?_
 .refine AG (λh=>Ac λo2 aA=> ?_) λh=>⟨by show 0<=other;omega,by show other<b-a;omega,rfl⟩;rw[AI (n:=other-(b-a))]at aA;exact⟨by show 0<=o2;omega,by show o2<b-a;omega,rfl⟩
 rintro⟨o,u⟩ _ aL ⟨o0,o1,rfl⟩;dsimp only at o0 o1⊢;rw[AI (n:=a+o),AI (n:=i+1)];exact Fj d (by omega) (by omega) (by omega) (by omega) λaM J=>⟨⟨by show idx<=i+1;omega,by show i+1<=idx+3;omega,y,_,v.trans (Mv.sw a0 (by omega) (by omega) (by omega) (by omega) (by omega)),J⟩,by show(idx+3-(i+1)).toNat<(idx+3-i).toNat;omega⟩
def SOc(E:Env)(s:AW)(Z:List Pr)(l0 l:List Int)(b:Nat)(w:World):Prop:= ∃n,SO E s (Cells b E.Ag [.int .i64 n]::Z) l0 l w
def NI(hC: ∀P,QG E cmp s (P::Z) key l0){b:Nat}(hS:SOc E s Z l0 l b w){i j:Int}(i0:0<=i)(i1:i<s.len)(j0:0<=j)(j1:j<s.len){K:Int->Int->World->Prop}
  (m: ∀x y w',(x=i/\y=j)∨(x=j/\y=i)->SOc E s Z l0 l b w'->K x y w'):F.ER E s i j (some ⟨b,0,none⟩) cmp K w:=by
 obtain⟨n,hS⟩:=hS;unfold F.ER;refine IX (hC _) hS j0 j1 i0 i1 λz u _ a=>AG (λ_=> ?_) λ_=>m i j u (.inl ⟨rfl,rfl⟩) ⟨n,a⟩;obtain⟨hp,H⟩:=a.out;simp only[AK];refine⟨_,H.AU rfl,BT H (o:=0) rfl (by simp) λe d=>m j i e (.inr ⟨rfl,rfl⟩) ⟨_,SO.add ⟨hp,d⟩⟩⟩
def K9(hC: ∀P,QG E cmp s (P::Z) key l0){b:Nat}(hS:SOc E s Z l0 l b w){i j k:Int}(i0:0<=i)(i1:i<s.len)(j0:0<=j)(j1:j<s.len)(k0:0<=k)(k1:k<s.len){K:Int->World->Prop}
  (m: ∀x w',x=i∨x=j∨x=k->SOc E s Z l0 l b w'->K x w'):F.A7 E s i j k (some ⟨b,0,none⟩) cmp K w:=by
 unfold F.A7 T0.A7;refine NI hC hS i0 i1 j0 j1 λx y w3 O a=> ?_;refine NI hC a (i:=y) (j:=k) (by omega) (by omega) k0 k1 λv y2 w6 T d=> ?_;refine NI hC d (i:=x) (j:=v) (by omega) (by omega) (by omega) (by omega) λx3 J u Y e=>m J u (by omega) e
def RU(hC: ∀P,QG E cmp s (P::Z) key l0)(hsm:s.len<1099511627776)(hS:SO E s Z l0 l w){a b:Int}(a0:0<=a)(ab:a+12<b)(b1:b<=s.len){K:Int->Int->World->Prop}
  (Y: ∀p h w',a<=p->p<b->SO E s Z l0 l w'->K p h w'):F.Ap E s a b cmp K w:=by
 unfold F.Ap T0.Ap;obtain⟨hp,H⟩:=hS;refine AJ (vs:=[.int .i64 0]) H λbb w2 H2 _=> ?_;rw[AI (n:=b-a),Int.tdiv_eq_ediv_of_nonneg (by omega),AI (n:=(b-a)/4),AI (n:=(b-a)/4*1),AI (n:=(b-a)/4*2),AI (n:=(b-a)/4*3),
  AI (n:=a+(b-a)/4*1),AI (n:=a+(b-a)/4*2),AI (n:=a+(b-a)/4*3)]
 refine⟨by decide,Ac λi hi=>⟨by decide,Ac λj hj=>⟨by decide,Ac λk hk=> ?_⟩⟩⟩;have T:SOc E s Z l0 l bb w2:=⟨0,SO.add ⟨hp,H2⟩⟩;refine AV (λst w'=>a<=st.1/\st.1<b/\SOc E s Z l0 l bb w') ?_ ?_
 .refine AG (λh8=> ?_) λ_=>by omega
  refine AV (λst w'=>(a<=st.1/\st.1<b)/\(a<=st.2.1/\st.2.1<b)/\(a<=st.2.2.1/\st.2.2.1<b)/\SOc E s Z l0 l bb w') ?_ ?_
  .refine AG (λaD=> ?_) λ_=>⟨⟨by show a<=i;omega,by show i<b;omega⟩,⟨by show a<=j;omega,by show j<b;omega⟩,⟨by show a<=k;omega,by show k<b;omega⟩,T⟩;unfold F.Az T0.Az;rw[AI (n:=i-1),AI (n:=i+1),AI (n:=j-1),AI (n:=j+1),AI (n:=k-1),AI (n:=k+1)];refine K9 hC T (by omega) (by omega) (by omega) (by omega) (by omega) (by omega) λx aG hx m=> ?_;refine K9 hC m (by omega) (by omega) (by omega) (by omega) (by omega) (by omega) λy aH hy v=> ?_;refine K9 hC v (by omega) (by omega) (by omega) (by omega) (by omega) (by omega) λz aI hz J=> ?_;exact⟨⟨by show a<=x;omega,by show x<b;omega⟩,⟨by show a<=y;omega,by show y<b;omega⟩,⟨by show a<=z;omega,by show z<b;omega⟩,J⟩
  .rintro⟨x,y,z,u⟩ _ aF ⟨⟨x0,x1⟩,⟨y0,y1⟩,⟨z0,z1⟩,e⟩;dsimp only at x0 x1 y0 y1 z0 z1⊢;refine K9 hC e (by omega) (by omega) (by omega) (by omega) (by omega) (by omega) λq aJ hq O=>⟨by show a<=q;omega,by show q<b;omega,O⟩
 .rintro⟨p,u⟩ _ w8 ⟨p0,p1,n,d⟩;dsimp only at p0 p1⊢;obtain⟨aE,H8⟩:=d.out;refine⟨n,H8.AU rfl,Cj (λ_=>Y p 1 w8 p0 p1 d.drop) λ_=>Cj (λ_=>Y p 2 w8 p0 p1 d.drop) λ_=>Y p 0 w8 p0 p1 d.drop⟩
def SO.inj(h:SO E s Z l0 l w)(hd:(l0.map key).Nodup){i j:Int}(i0:0<=i)(i1:i<s.len)(j0:0<=j)(j1:j<s.len)(e:kf key l i=kf key l j):i=j:=by
 have d:=h.len;have a:(l.map key).Nodup:=(h.1.map key).nodup_iff.2 hd;have:=(List.getElem_inj (i:=i.toNat) (j:=j.toNat) (h₀:=by rw[List.length_map];omega) (h₁:=by rw[List.length_map];omega) a).1 (by
  unfold kf at e;rw[NG i0 (by omega),NG j0 (by omega)]at e;rw[List.getElem_map,List.getElem_map];exact e)
 omega
def Low(k:Int->Int)(x y:Int):Prop:=0<x-> ∀i,x<=i->i<y->k (x-1)<=k i
def Low.mv{x y:Int}{l l':List Int}(h:Low (kf key l) x y)(g:Mv x y l l'):Low (kf key l') x y:=λh0 i i0 i1=>by
 rw[g.same (i:=x-1) (.inl (by omega))];exact g.iT (key:=key) (h h0) i i0 i1
def X6.low{k:Int->Int}{a x y b:Int}(h:X6 k a x y b)(g:Low k a b)(d:a<=x)(yb:y<=b):Low k x y:=λh0 i i0 i1=>by
 by_cases e:a=x
 .subst e;exact g h0 i i0 (by omega)
 .exact h (x-1) i (by omega) (by omega) (by omega) (.inl (by omega))
def SD(hC:QG E cmp s Z key l0)(aJ: ∀P,QG E cmp s (P::Z) key l0)(hsm:s.len<1099511627776)(hd:(l0.map key).Nodup): ∀(n0:Nat) {a b OC:Int} {l:List Int} {w:World} {K:World->Prop},SO E s Z l0 l w->0<=a->a<=b->b<=s.len->b-a<n0->Low (kf key l) a b->
  (∀l' w',Mv a b l l'->K8 (kf key l') a b->SO E s Z l0 l' w'->K w')->F.slices_pdqsortCmpFunc_int_ E n0 s a b OC cmp K w
 | 0,a,b,OC,l,w,K,_,_,_,_,h,_,_=>by omega
 | n0+1,a,b,OC,l,w,K,hS,a0,ab,b1,hf,hlow,hK=>by
  unfold F.slices_pdqsortCmpFunc_int_;refine AM (λst w'=>a<=st.1/\st.1<=st.2.1/\st.2.1<=b/\ ∃l1,Mv a b l l1/\X6 (kf key l1) a st.1 st.2.1 b/\SO E s Z l0 l1 w') (λst _=>(st.2.1-st.1).toNat) ⟨Int.le_refl _,ab,Int.le_refl _,l,Mv.refl _ _ _,λi j h0 h1 J v=>by dsimp only at v;omega,hS⟩ ?_;rintro⟨x,y,lm,wb,wp,u⟩ _ w2 ⟨x0,xy,y1,l1,m,d,aD⟩;dsimp only at x0 xy y1 d⊢;rw[AI (n:=y-x)];have fin: ∀O w',Mv a b l l1->X6 (kf key l1) a x y b->Mv x y l1 O->K8 (kf key O) x y->SO E s Z l0 O w'->K w':=λO w' h0 h1 J v h4=>hK O w' (h0.trans (J.wide x0 y1)) ((h1.mv J y1 x0).fin v) h4;refine AG (λ_=>TG hC hsm aD (by omega) xy (by omega) λO w' J v h4=>fin O w' m d J v h4) λa7=>Cj (λ_=>VF hC hsm aD (by omega) (by omega) (by omega) λO w' J v h4=>fin O w' m d J v h4) λ_=> ?_;clear fin
  let I:World->Prop:=λw'=> ∃l1,Mv a b l l1/\X6 (kf key l1) a x y b/\SO E s Z l0 l1 w'
  have more: ∀{l1 O:List Int} {w':World},Mv a b l l1->X6 (kf key l1) a x y b->Mv x y l1 O->SO E s Z l0 O w'->I w':=λh0 h1 J v=>⟨_,h0.trans (J.wide x0 y1),h1.mv J y1 x0,v⟩;have aF: ∀{l1:List Int},Mv a b l l1->X6 (kf key l1) a x y b->Low (kf key l1) x y:=λh0 h1=>h1.low (hlow.mv h0) x0 y1;refine AV (λ_ w'=>I w') (Lv (AY (λ_=>⟨l1,m,d,aD⟩) λ_=>PC hsm aD (by omega) (by omega) (by omega) λO w9 J aW=>more m d J aW)) ?_;clear aD d m;rintro⟨bB,u⟩ _ w8 ⟨l1,m,d,aT⟩;dsimp only;refine RU aJ hsm aT (by omega) (by omega) (by omega) λp hint bC p0 p1 aC=> ?_;refine AV (λst w'=>x<=st.1/\st.1<y/\I w') (Cj (λ_=>Vf hC hsm aC (by omega) (by omega) (by omega) λO bE J aO=>Ac λq hq=> ?_) λ_=>⟨p0,p1,l1,m,d,aC⟩) ?_
  .rw[AI (n:=y-1),AI (n:=p-x),AI]at hq;exact⟨by show x<=q;omega,by show q<y;omega,more m d J aO⟩
  clear aC aT d m;rintro⟨q,aX,u⟩ _ bD ⟨q0,q1,l1,m,d,Y⟩;dsimp only at q0 q1⊢;refine AV (λ_ w'=>I w') ?_ ?_
  .refine AV (λ_ w'=>SO E s Z l0 l1 w') (AY (λ_=>AY (λ_=>Y) λ_=>Y) λ_=>Y) ?_;rintro⟨t,u⟩ _ bG aG;exact AY (λ_=>NH hC hsm aG (by omega) (by omega) (by omega) (aF m d) λr O a2 J v aH=>AY (λhr=>hK O a2 (m.trans (J.wide x0 y1)) ((d.mv J y1 x0).fin (v hr)) aH) λ_=>more m d J aH) λ_=>⟨l1,m,d,aG⟩
  clear Y d m;rintro _ _ bF ⟨l1,m,d,aE⟩;refine AV (λst w'=>st.1=false/\SO E s Z l0 l1 w') ?_ ?_
  .refine AG (λa3=> ?_) λ_=>⟨rfl,aE.drew⟩;rw[AI (n:=x-1)];refine IX hC aE (by omega) (by omega) (by omega) (by omega) λz bI hz aQ=>⟨?_,aQ⟩;have hle:=aF m d (by omega) q q0 q1;have a8:kf key l1 (x-1)≠kf key l1 q:=λe=>by
    have:=aE.inj hd (i:=x-1) (j:=q) (by omega) (by omega) (by omega) (by omega) e;omega
   have:z<0:=hz.2 (by omega);simp[this]
  rintro⟨t,u⟩ _ bH ⟨ht,aP⟩;dsimp only at ht⊢;subst ht;refine AO rfl ?_;refine TH hC hsm aP (by omega) (by omega) (by omega) q0 q1 λr t O bJ r0 r1 J aU aM aI=>⟨by decide,Ac λa6 _=> ?_⟩;rw[AI (n:=r+1)];have aL:=m.trans (J.wide x0 y1);have T:=d.mv J y1 x0;have aK:=aF aL T;refine AG (λ_=> ?_) λ_=> ?_
  .refine SD hC aJ hsm hd n0 aI (by omega) (by omega) (by omega) (by omega) (λh0 i i0 i1=>aK h0 i i0 (by omega)) λl3 bK v hO aR=>⟨⟨by show a<=r+1;omega,by show r+1<=y;omega,y1,l3,aL.trans (v.wide x0 (by omega)),?_,aR⟩,by show(y-(r+1)).toNat<(y-x).toNat;omega⟩;refine(T.mv (v.wide (Int.le_refl _) (by omega)) y1 x0).left r0 r1 hO (λi i0 i1=> ?_) λi i0 i1=> ?_
   .rw[v.same (i:=r) (.inr (Int.le_refl _))];exact v.below (key:=key) (λi i0 i1=>aU i i0 i1) i i0 i1
   .rw[v.same (i:=r) (.inr (Int.le_refl _)),v.same (i:=i) (.inr (by omega))];exact aM i i0 i1
  .refine SD hC aJ hsm hd n0 aI (by omega) (by omega) (by omega) (by omega) (λh0 i i0 i1=>by rw[show r+1-1=r by omega];exact aM i (by omega) i1) λl3 bL v hO aS=>⟨⟨by show a<=x;omega,by show x<=r;omega,by show r<=b;omega,l3,aL.trans (v.wide (by omega) y1),?_,aS⟩,by show(r-x).toNat<(y-x).toNat;omega⟩;refine(T.mv (v.wide (by omega) (Int.le_refl _)) y1 x0).right r0 r1 hO (λi i0 i1=> ?_) λi i0 i1=> ?_
   .rw[v.same (i:=r) (.inl (by omega)),v.same (i:=i) (.inl (by omega))];exact aU i i0 i1
   .rw[v.same (i:=r) (.inl (by omega))];exact v.iT (key:=key) (λi i0 i1=>aM i (by omega) i1) i (by omega) i1
def VH(hC:QG E cmp s Z key l0)(d: ∀P,QG E cmp s (P::Z) key l0)(hsm:s.len<1099511627776)(hd:(l0.map key).Nodup)(hS:SO E s Z l0 l w){K:World->Prop}(m: ∀l' w',(l'.map key).Pairwise (· < ·)->SO E s Z l0 l' w'->K w'):F.BN E s cmp K w:=by
 unfold F.BN T0.BN;rw[AR (n:=(s.len:Int))];refine ZL (by omega) (by omega) λr _=>⟨s.len+1,SD hC d hsm hd _ hS (Int.le_refl 0) (by omega) (Int.le_refl _) (by omega) (λh=>by omega) λl' w' _ u a=>m l' w' ?_ a⟩;have hl:=a.len;refine List.pairwise_iff_getElem.2 λi j hi J v=> ?_;rw[List.length_map]at hi J;have h1:=u i j (by omega) (by omega) (by omega);have Y:kf key l' i≠kf key l' j:=λe=>by
  have:=a.inj hd (i:=i) (j:=j) (by omega) (by omega) (by omega) (by omega) e;omega
 have O:kf key l' i=key l'[i]:=by unfold kf;rw[NG (by omega) (by omega)];rfl
 have T:kf key l' j=key l'[j]:=by unfold kf;rw[NG (by omega) (by omega)];rfl
 rw[List.getElem_map,List.getElem_map];omega
end
def HS.at(S:HS)(id:Int):Int:=match S.sp id with
 | some x=>x.2.base
 | none=>0
def HS.TZ{S:HS}{id:Int}{x:Nat×SI}(h:S.sp id=some x):S.at id=x.2.base:=by unfold HS.at;rw[h]
def CF.at_inj{S:HS}{fl:Int->Bool}(hI:CF S fl){x y:Int}(m:S.sp x≠none)(u:S.sp y≠none)(e:S.at x=S.at y):x=y:=by
 obtain⟨X,a⟩:=Option.ne_none_iff_exists'.1 m;obtain⟨Y,d⟩:=Option.ne_none_iff_exists'.1 u;rw[HS.TZ a,HS.TZ d]at e;have h1:=(hI.sp x X a).2.2.2.2 (X.2.base/8192) (Int.le_refl _) (by have:=(hI.sp x X a).2.2.1;omega);have v:=(hI.sp y Y d).2.2.2.2 (X.2.base/8192) (by rw[e];exact Int.le_refl _) (by have:=(hI.sp y Y d).2.2.1;rw[e];omega);omega
def WT{f:Int->Int}: ∀{l:List Int},l.Nodup->(∀x∈l,∀y∈l,f x=f y->x=y)->(l.map f).Nodup
 | [],_,_=>List.nodup_nil
 | a::l,h,g=>by
  rw[List.map_cons,List.nodup_cons];rw[List.nodup_cons]at h;refine⟨λhm=> ?_,WT h.2 λx m y u=>g x (.tail _ m) y (.tail _ u)⟩;obtain⟨b,d,e⟩:=List.mem_map.1 hm;have:=g b (.tail _ d) a (.head _) e;exact h.1 (this▸d)
def CF.NN{S:HS}{fl:Int->Bool}(hI:CF S fl)(l:List Int)(m:l.Nodup)(d: ∀n∈l,S.sp n≠none):l.length<1099511627776:=by
 have h:=cZ S.fx.n l m λn u=>by
  obtain⟨a,e,h1,_⟩:=(hI.sf n).1 (d n u);omega
 have:=hI.fb;omega
section
variable{E:Env}{w:World}{Z:List Pr}{h:Nat}{S:HS}(hE:Rx E)
def SO.iU{s:AW}{Y a:List Pr}{l0 l:List Int}(h:SO E s Y l0 l w)(hp:Y.Perm a):SO E s a l0 l w:=⟨h.1,h.2.perm (hp.cons _)⟩
def QG.iU{cmp:Value}{s:AW}{Y a:List Pr}{key:Int->Int}{l0:List Int}(h:QG E cmp s Y key l0)(hp:Y.Perm a):QG E cmp s a key l0:=
 λx y l w R u v hS e=>h x y l w R u v (hS.iU hp.symm) λr w' m d=>e r w' m (d.iU hp)
include hE
theorem WU{b1 t:Nat}{s:AW}{l0:List Int}(e: ∀n∈l0,S.sp n≠none):QG E (.func (.func E.GL) #[] #[.pointer (some (Addr.mk b1 0 none))]) s (BF E h S::Cells b1 t [.pointer (some ⟨h,0,none⟩)]::Z) S.at l0:=by
 intro x y l w R v J ⟨hp,H⟩ hR;refine hE.pX x y _ R w ?_;obtain⟨X,a⟩:=Option.ne_none_iff_exists'.1 (e x v);obtain⟨Y,d⟩:=Option.ne_none_iff_exists'.1 (e y J);refine ZN hE (h:=h) (t:=t) (Z:=Row E.Ag 1 s (ints .i64 l)::Z) (H.perm ?_) a d λr w' u m=>hR r w' (by rw[HS.TZ a,HS.TZ d];exact u) ⟨hp,m.perm ?_⟩
 .exact(List.perm_middle (l₁:=[BF E h S,Cells b1 t [.pointer (some ⟨h,0,none⟩)]])).symm
 .exact List.perm_middle (l₁:=[BF E h S,Cells b1 t [.pointer (some ⟨h,0,none⟩)]])
theorem RV(H:Sat (BF E h S::Z) w)(J:CF S no){K:AW->World->Prop}
  (hK: ∀s l w',l.Nodup->(∀n,n∈l↔S.sp n≠none)->(l.map S.at).Pairwise (· < ·)->Sat (Row E.Ag 1 s (ints .i64 l)::BF E h S::Z) w'->K s w'):F.DD E (some ⟨h,0,none⟩) K w:=by
 have hb:=J.NN;have aA: ∀n,Dc S.sp n≠none↔S.sp n≠none:=λn=>by unfold Dc;cases S.sp n<;>simp
 unfold F.DD T0.DD;refine AJ (vs:=[.pointer (some ⟨h,0,none⟩)]) H λb1 w2 H2 _=>⟨_,H2.AU rfl,?_⟩
 try simp only[AK]
 obtain⟨g,hI,H3⟩:=Sat.heap.1 (H2.front 1 rfl);refine⟨_,(Cq (S:=S) (g:=g) H3).2.2.2.2.1,yX (H3.front 5 rfl) λb7 N0 w8 H8=> ?_⟩;have aH:=H8.nil E.Ag 1;refine AM (λst w'=> ∃cur done N,Sat (VW b7 g.sm .i64 (Dc S.sp) cur done N::Row E.Ag 1 st.1 (ints .i64 done)::(Bz E h S g++Cells b1 E.A6 [.pointer (some ⟨h,0,none⟩)]::Z).eraseIdx 5) w') (λ_ w'=>nB b7 g.sm w') ⟨none,[],N0,aH.front 1 rfl⟩ ?_;rintro⟨s,u⟩ _ a2 ⟨cur,done,N,T⟩;dsimp only at T⊢;rw[T.fG];refine AZ (nC T (λaM Y aF j=>AZ (AO rfl ?_)) λn v a3 N' aX e hN d j=>AZ (Aa rfl λj2=>tH d λv' S' aZ=> ?_))
 .obtain⟨e,aI⟩:=Y.fH;have aB:=Sat.Qc (Ps:=Bz E h S g++Cells b1 E.A6 [.pointer (some ⟨h,0,none⟩)]::Z) 5 ((Y.yW).front 1 rfl) (by simp[Bz]);have aC:Sat (Bz E h S g++(Row E.Ag 1 s (ints .i64 done)::Cells b1 E.A6 [.pointer (some ⟨h,0,none⟩)]::Z)) aM:=Sat.perm aB (List.perm_middle (l₁:=Bz E h S g)).symm;have aD:=(Sat.heap.2 ⟨g,hI,aC⟩).front 1 rfl;have a: ∀n∈done,S.sp n≠none:=λn hn=>(aA n).1 (aI n hn);have hlen:=hb done e a;have aL:s.len<1099511627776:=by
   have:=(Y.front 1 rfl).Bs;simp only[ints,List.length_map]at this;omega
  have hC:=WU (h:=h) (S:=S) hE (b1:=b1) (t:=E.A6) (s:=s) (l0:=done) (Z:=Z) a;refine VH hC (λP=>(WU (h:=h) (S:=S) hE (b1:=b1) (t:=E.A6) (s:=s) (l0:=done) (Z:=P::Z) a).iU ?_) aL (WT e λx hx y hy=>J.at_inj (a x hx) (a y hy)) ⟨.refl _,aD⟩ λl aN hs ⟨hp,H22⟩=> ?_
  .exact List.perm_middle (l₁:=[BF E h S,Cells b1 E.A6 [.pointer (some ⟨h,0,none⟩)]])
  .refine hK s l aN (hp.nodup_iff.2 e) (λn=> ?_) hs (H22.front 2 rfl).tail;rw[hp.mem_iff,aF n,aA]
 .refine pY ?_;have O:=d.fH;have hlen:=hb _ O.1 λn hn=>(aA n).1 (O.2 n hn);have aK:=(d.front 1 rfl).Bs;simp only[ints,List.length_map]at aK;simp only[List.length_append,List.length_singleton]at hlen;refine AJ (vs:=[.int .i64 n]) d λaU a4 aG _=>GJ (zs:= #[.int .i64 0]) (bytes:=8) ((aG.front 2 rfl).front 1 rfl) rfl rfl (by simp[Value.oneCell']) (by show(s.len+1)*8<=_;omega) (by omega) λKr a5 aE _=> ?_;rw[show ints .i64 done++[.int .i64 n]=ints .i64 (done++[n]) by simp[ints]]at aE;have m:=aE.front 1 rfl;refine⟨⟨_,_,_,m⟩,?_⟩;rw[m.fG];exact hN
end
def PD(W:SW)(U:BA)(id:Int):List (Int×Nat):=match W.S.sp id with
 | some x=>((List.range x.2.AP.toNat).filter λm=>U id m).map λm=>(id,m)
 | none=>[]
def Xu(W:SW)(p:Int×Nat):Int:=match W.S.sp p.1 with
 | some x=>x.2.base+p.2*x.2.elem
 | none=>0
def partOf(U:BA)(id:Int)(m:Nat):List (Int×Nat):=((List.range m).filter λm=>U id m).map λm=>(id,m)
def Oc{W:SW}{U:BA}{id:Int}{p:Int×Nat}:p∈PD W U id↔p.1=id/\ ∃x,W.S.sp id=some x/\(p.2:Int)<x.2.AP/\U id p.2=true:=by
 unfold PD;cases h:W.S.sp id with
 | none=>simp
 | some x=>
  obtain⟨a,m⟩:=p;simp only[List.mem_map,List.mem_filter,List.mem_range];constructor
  .rintro⟨k,⟨h1,d⟩,e⟩;obtain⟨rfl,rfl⟩:=Prod.mk.inj e;exact⟨rfl,x,rfl,by show(k:Int)<_;omega,d⟩
  .rintro⟨rfl,y,u,h1,d⟩;cases u;exact⟨m,⟨by have h1:(m:Int)<x.2.AP:=h1;omega,d⟩,rfl⟩
def eL(W:SW)(U:BA)(id:Int):(PD W U id).Nodup:=by
 unfold PD;cases h:W.S.sp id with
 | none=>exact List.nodup_nil
 | some x=>exact List.Pairwise.map _ (λa b d=>by simpa using d) (List.Pairwise.filter _ List.nodup_range)
def SE{W:SW}{U:BA}: ∀{l:List Int},l.Nodup->(l.flatMap (PD W U)).Nodup
 | [],_=>List.nodup_nil
 | id::l,h=>by
  rw[List.flatMap_cons,List.nodup_append];refine⟨eL W U id,SE (List.nodup_cons.1 h).2,λa u b d e=> ?_⟩;subst e;obtain⟨j,v,d⟩:=List.mem_flatMap.1 d;have h1:=(Oc.1 u).1;have m:=(Oc.1 d).1;exact(List.nodup_cons.1 h).1 (by rw[<-h1,m];exact v)
section
variable{E:Env}{w:World}{Z:List Pr}{W:SW}{U M:BA}{A:sV}{dead:Bool}{ma cy:Int}
def PY(hH:Rx E)(H:Sat (MK E A dead ma cy::AQ E A.b A.h A.s A.r W::Z) w)(hI:Ai W U M)(aQ: ∀L:List (Int×Nat),L.Nodup->(∀p∈L,∃x,W.S.sp p.1=some x/\(p.2:Int)<x.2.AP/\U p.1 p.2=true)->L.length<=1000000){K:AW->World->Prop}
  (hK: ∀(s:AW) (L:List (Int×Nat)) w',L.Nodup->(∀p:Int×Nat,p∈L↔ ∃x,W.S.sp p.1=some x/\(p.2:Int)<x.2.AP/\U p.1 p.2=true)->Sat (Row E.AE 1 s (ints .u64 (L.map (Xu W)))::MK E A dead ma cy::AQ E A.b A.h A.s A.r W::Z) w'->K s w'):F.A9 E (some ⟨A.m,0,none⟩) K w:=by
 unfold F.A9 T0.A9;refine AH ⟨_,H.AU rfl,?_⟩;obtain⟨em,H1⟩:=Sat.IC.1 (H.front 1 rfl:Sat (AQ E A.b A.h A.s A.r W::MK E A dead ma cy::Z) w);refine RV hH (H1.front 1 rfl) hI.hI λs l w2 aB e _ H2=> ?_;have H3:Sat (AQ E A.b A.h A.s A.r W::Row E.Ag 1 s (ints .i64 l)::MK E A dead ma cy::Z) w2:=Sat.IC.2 ⟨em,(H2.Bh 1 rfl).perm (List.perm_middle (l₁:=MB E A.b A.h A.s A.r W em)).symm⟩;have hlen:l.length=s.len:=by
  have:=H2.Bs;rw[ints,List.length_map,Nat.mul_one]at this;exact this
 have aO:(l.flatMap (PD W U)).length<=1000000:=aQ _ (SE aB) λp hp=>by
  obtain⟨j,_,hb⟩:=List.mem_flatMap.1 hp;obtain⟨rfl,x,h1,T,Y⟩:=Oc.1 hb;exact⟨x,h1,T,Y⟩
 have aU:l.length<1000000000000000000:=by
  have:=hI.hI.NN l aB λn hn=>(e n).1 hn;omega
 have sub: ∀(k:Nat) {id:Int} {x:Nat×SI} (m:Nat),l[k]? =some id->W.S.sp id=some x->(m:Int)<=x.2.AP->((l.take k).flatMap (PD W U)++partOf U id m).length<=1000000:=λk id x m hk J hm=>by
  have h1:l=l.take k++id::l.drop (k+1):=by
   have:=(List.getElem?_eq_some_iff.1 hk);rw[<-this.2,<-List.drop_eq_getElem_cons this.1,List.take_append_drop]
  have T:(partOf U id m).Sublist (PD W U id):=by
   unfold PD partOf;rw[J];exact List.Sublist.map _ (List.Sublist.filter _ (List.range_sublist.2 (by omega)))
  have Y:((l.take k).flatMap (PD W U)++partOf U id m).Sublist (l.flatMap (PD W U)):=by
   conv=>rhs;rw[h1]
   rw[List.flatMap_append,List.flatMap_cons];exact(List.Sublist.refl _).append (T.trans (List.sublist_append_left _ _))
  exact Nat.le_trans Y.length_le aO
 have H4:Sat (Row E.AE 1 ⟨none,0,0⟩ []::MK E A dead ma cy::AQ E A.b A.h A.s A.r W::Row E.Ag 1 s (ints .i64 l)::Z) w2:=((H3.front 2 rfl).nil E.AE 1);refine AM (λst w'=> ∃k:Nat,st.2.1=(k:Int)/\k<=l.length/\Sat (Row E.AE 1 st.1 (ints .u64 (((l.take k).flatMap (PD W U)).map (Xu W)))::MK E A dead ma cy::AQ E A.b A.h A.s A.r W::Row E.Ag 1 s (ints .i64 l)::Z) w') (λst _=>((l.length:Int)-st.2.1).toNat) ⟨0,rfl,Nat.zero_le _,H4⟩ ?_;rintro⟨s5,k',u⟩ _ w6 ⟨k,hk,a7,H6⟩;dsimp only at hk H6⊢;subst hk;refine AG (λa8=> ?_) λa6=> ?_
 .have aF:k<l.length:=by omega
  obtain⟨id,Nd⟩: ∃id,l[k]? =some id:=⟨_,List.getElem?_eq_getElem aF⟩;obtain⟨x,J⟩: ∃x,W.S.sp id=some x:=Option.ne_none_iff_exists'.1 ((e id).1 (List.mem_of_getElem? Nd));have BU:=(hI.sp id x J).1;have bA:=BU.size;have ei:i64 ((k:Int)+1)=((k+1:Nat):Int):=by rw[AI];rfl
  have aN:l.take (k+1)=l.take k++[id]:=by rw[List.take_add_one,Nd];rfl
  refine(H6.front 3 rfl:Sat (Row E.Ag 1 s (ints .i64 l)::_) w6).Ol (j:=k) (v:=.int .i64 id) (by rw[ints,List.getElem?_map,Nd];rfl) λa ha hc=>⟨⟨by omega,by omega⟩,_,by rw[Int.toNat_natCast,Nat.mul_one];exact hc,?_⟩;refine QB ((H6.front 1 rfl).Bh 1 rfl) hI (λhn=>by rw[J]at hn;cases hn) λy hy w7 H7=> ?_;obtain rfl:y=x:=Option.some.inj (hy.symm.trans J);refine AO rfl ?_;have H8:Sat (Row E.AE 1 s5 (ints .u64 (((l.take k).flatMap (PD W U)++partOf U id 0).map (Xu W)))::MK E A dead ma cy::AQ E A.b A.h A.s A.r W::Row E.Ag 1 s (ints .i64 l)::Z) w7:=by
   have:partOf U id 0=[]:=rfl;rw[this,List.append_nil];exact H7.front 2 rfl
  refine AM (λst w'=> ∃m:Nat,st.2.1=(m:Int)/\(m:Int)<=y.2.AP/\Sat (Row E.AE 1 st.1 (ints .u64 (((l.take k).flatMap (PD W U)++partOf U id m).map (Xu W)))::MK E A dead ma cy::AQ E A.b A.h A.s A.r W::Row E.Ag 1 s (ints .i64 l)::Z) w') (λst _=>(y.2.AP-st.2.1).toNat) ⟨0,rfl,by omega,H8⟩ ?_;rintro⟨IZ,m',u⟩ _ bC ⟨m,hm,a9,aC⟩;dsimp only at hm aC⊢;subst hm;have em:i64 ((m:Int)+1)=((m+1:Nat):Int):=by rw[AI];rfl
  refine Kc (aC.front 2 rfl) J λbD O=> ?_;refine AG (λaA=> ?_) λaA=> ?_
  .refine Sm O hI J aA ?_;have d:partOf U id (m+1)=if U id m=true then partOf U id m++[(id,m)]else partOf U id m:=by
    unfold partOf;rw[List.range_succ,List.filter_append,List.map_append,List.filter_cons];split<;>simp
   have aH:=sub k (m+1) Nd J (by omega);refine AY (λhu=> ?_) λhu=> ?_
   .rw[if_pos hu]at d;refine Kq O hI J (by omega) aA λbE aK=> ?_;refine AJ (vs:=[.int .u64 (y.2.base+(m:Int)*y.2.elem)]) aK λa1 aR aD _=> ?_;have aG:=(aD.front 2 rfl:Sat (Row E.AE 1 IZ _::_) aR).Bs;rw[ints,List.length_map,List.length_map,Nat.mul_one]at aG;rw[d,<-List.append_assoc,List.length_append,aG,List.length_singleton]at aH;refine GJ (news:=[.int .u64 (y.2.base+(m:Int)*y.2.elem)]) (aD.Bh 1 rfl) rfl rfl (by simp[Value.oneCell']) (by omega) (by omega) λsS aS aL _=> ?_;rw[em];refine⟨⟨m+1,rfl,by omega,?_⟩,by omega⟩;rw[d,<-List.append_assoc,List.map_append,ints,List.map_append];have aM:Xu W (id,m)=y.2.base+(m:Int)*y.2.elem:=by unfold Xu;rw[J]
    show Sat (Row E.AE 1 sS (_++[.int .u64 (Xu W (id,m))])::_) aS;rw[aM];exact aL.Bh 1 rfl
   .have hu: ¬U id m=true:=by rw[hu];decide
    rw[if_neg hu]at d;rw[em];refine⟨⟨m+1,rfl,by omega,?_⟩,by omega⟩;rw[d];exact(O.front 1 rfl).Bh 1 rfl
  .obtain rfl:m=y.2.AP.toNat:=by omega
   rw[ei];refine⟨⟨k+1,rfl,by omega,?_⟩,by omega⟩;rw[aN,List.flatMap_append,List.flatMap_cons,List.flatMap_nil,List.append_nil];have:PD W U id=partOf U id y.2.AP.toNat:=by unfold PD partOf;rw[J]
   rw[this];exact(O.front 1 rfl).Bh 1 rfl
 .obtain rfl:k=l.length:=by omega
  rw[List.take_length]at H6;refine hK s5 _ w6 (SE aB) (λp=> ?_) ((H6.front 3 rfl).tail);constructor
  .intro hp;obtain⟨j,_,hb⟩:=List.mem_flatMap.1 hp;obtain⟨rfl,x,h1,T,Y⟩:=Oc.1 hb;exact⟨x,h1,T,Y⟩
  .rintro⟨x,h1,T,Y⟩;exact List.mem_flatMap.2 ⟨p.1,(e _).2 (by rw[h1];simp),Oc.2 ⟨rfl,x,h1,T,Y⟩⟩
end
def xD(v:Value)(n:Nat):Kj #[v] n=⟨List.replicate n v⟩:=by
 unfold Kj;refine Array.ext (by simp) λi h1 a=> ?_;simp[Nat.mod_one]
section
variable{E:Env}{w:World}{Z:List Pr}
def Vg(H:Sat Z w){a0:Option Addr}{K:Option Addr->World->Prop}(T: ∀sk w',Sat Z w'->K (some ⟨sk,0,none⟩) w'):F.Ov E a0 K w:=by
 unfold F.Ov;refine Nv H .i64 λb1 w2 v _=>AJ (vs:=.pointer a0::(List.replicate 256 (.slice none 0 0)++[.map none,.map none,.map none,.map none,.map (some b1)])) v λb3 w4 J _=> ?_;refine AM (λst w'=> ∃(i:Nat) (vs:List Value),st.1=(i:Int)/\i<=4/\vs.length=262/\Sat (Cells b3 E.LM vs::Z) w') (λst _=>(4-st.1).toNat) ⟨0,_,rfl,by decide,by simp,(J.front 1 rfl).tail⟩ ?_;rintro⟨i',u⟩ _ w6 ⟨i,vs,hi,aA,e,d⟩;dsimp only at hi⊢;subst hi;refine AG (λaB=> ?_) λY=>T b3 w6 d.tail;refine Nv d .i64 λb8 w9 O _=>⟨⟨by omega,by omega⟩,?_⟩;rw[Int.toNat_natCast,Nat.mul_one,add_add,AI (n:=(i:Int)+1)];refine Ah (O.front 1 rfl) (o:=0) (m:=257+i) rfl (by rw[e];omega) λaC a=>⟨⟨i+1,_,rfl,by omega,?_,(a.front 1 rfl).tail⟩,by omega⟩;rw[List.length_set];exact e
def QH(H:Sat Z w){K:Option Nat->World->Prop}(hK: ∀q w',Sat (WR E q::Z) w'->K (some q) w'):F.Ox E K w:=by
 unfold F.Ox;refine Nv H .i64 λb1 w2 Y _=> ?_;refine E8 Y λw3 e=>E8 e λw4 m=>E8 m λw5 u=>E8 u λw6 v=>E8 v λw7 J=>E8 J λw8 O=>E8 O λw9 T=>E8 T λd a=> ?_;refine E8 a λw3 e=>E8 e λw4 m=>E8 m λw5 u=>E8 u λw6 v=>E8 v λw7 J=>E8 J λw8 O=>E8 O λw9 T=>E8 T λd a=> ?_;refine hK b1 d (Sat.ex.2 ⟨_,Sat.where.2 ⟨?_,a⟩⟩);intro p hp;simp only[Im,List.mem_cons,List.not_mem_nil,or_false]at hp;rcases hp with rfl|rfl|rfl|rfl|rfl|rfl|rfl|rfl|rfl|rfl|rfl<;>rfl
end
def Zy(E:Env)(A:sV)(C:List (Nat×KS))(W:SW):List Pr:=[MK E A false 0 0,aF E A.cb A.cs C,Ex λa=>CH A.d .i64 a,IW E A.mq,Cells A.cb E.A0 [pv A.b],AQ E A.b A.h A.s A.r W]
def sA(C:List (Nat×KS)):Prop:= ∀(i:Nat) c,C[i]? =some c->c.2=⟨(i:Int),λ_=>0,0,0⟩
section
variable{E:Env}{w:World}{Z:List Pr}
def VI(H:Sat Z w){a0 a1 a2:AW}{rf:List Bool}
  (h0: ∀w',Sat Z w'->rowAt w' a0.base a0.len [])(l0:0=a0.len)
  (h1: ∀w',Sat Z w'->rowAt w' a1.base a1.len (F8 rf))(l1:rf.length=a1.len)(k1:a1.len<=1099511627776)
  (h2: ∀w',Sat Z w'->rowAt w' a2.base a2.len [])(l2:0=a2.len){ps:Nat}(p0:1<=ps)(p1:ps<=64){K:Option Addr->Int->World->Prop}
  (hK: ∀A C w',C.length=ps->sA C->Sat (Zy E A C (SW.new (HS.new (Lo [] rf [])))++Z) w'->K (some ⟨A.m,0,none⟩) 0 w'):F.IM E a0 a1 a2 (ps:Int) 100 K w:=by
 unfold F.IM T0.IM;refine AJ (vs:=[FJ a0,FJ a1,FJ a2]) H λb1 w2 H2 _=> ?_;refine AZ (AO (decide_eq_false (by omega)) λjj=>AO (decide_eq_false (by omega)) ?_);refine⟨a0,H2.cell (o:=0) (m:=0) rfl,a1,H2.cell (o:=0) (m:=1) rfl,a2,H2.cell (o:=0) (m:=2) rfl,?_⟩;refine kI (pl:=[]) (rf:=rf) (fl:=[]) H2.tail (by simp) h0 l0 (by omega) h1 l1 k1 h2 l2 (by omega) λv w3 H3=> ?_;refine kV H3 λh w4 H4=>dG H4 λs w5 H5=>Za H5 λr w6 H6=>Nv H6 .i64 λd w7 H7 _=>Xk H7 λmq w8 H8=> ?_;refine AJ (vs:=[pv h,pv s,pv r,.pointer none,.slice none 0 0,.pointer none,.map (some d),pv mq,.int .i64 100,.bool false,.int .u64 0,.int .u64 0]) H8 λm w9 H9 _=> ?_;have Hd:=H9.drew;refine⟨_,Hd.AU (o:=0) rfl,_,Hd.cell (o:=0) (m:=1) rfl,_,Hd.cell (o:=0) (m:=2) rfl,?_⟩;have aG:Sat (I5 E r []::GB E s []::BF E h (HS.new (Lo [] rf []))::Cells m E.Cc [pv h,pv s,pv r,.pointer none,.slice none 0 0,.pointer none,.map (some d),pv mq,.int .i64 100,.bool false,.int .u64 0,.int .u64 0]::IW E mq::CH d .i64 (λ_=>none)::Z) w9.drew:=
  ((Hd.front 3 rfl).Bh 3 rfl).OV 3 rfl
 refine dN aG λb bE aH=> ?_;refine Ah (aH.front 1 rfl) (o:=0) (m:=3) rfl (by simp) λbF T=>⟨_,T.AU (o:=0) rfl,?_⟩;refine Vg T λsk bG aI=> ?_;refine Ah aI (o:=0) (m:=5) rfl (by simp) λbH Y=>⟨_,Y.cell (o:=0) (m:=3) rfl,?_⟩;refine dT (Y.front 1 rfl) λcb aO aJ=> ?_;have aK:Sat (Cells m E.Cc (K4 ⟨m,h,s,r,b,cb,sk,d,mq,⟨none,0,0⟩,λ_=>0⟩ false 0 0)::aF E cb ⟨none,0,0⟩ []::FL E cb b h s r (SW.new (HS.new (Lo [] rf [])))::IW E mq::CH d .i64 (λ_=>none)::Z) aO:=
  ((aJ.front 1 rfl).rL E.Gn (λc C=>Ee E c cb C)).front 1 rfl
 refine AM (λst w'=> ∃(k:Nat) (C:List (Nat×KS)) (cs:AW),st.1=(k:Int)/\k<=ps/\C.length=k/\sA C/\Sat (Cells m E.Cc (K4 ⟨m,h,s,r,b,cb,sk,d,mq,cs,λ_=>0⟩ false 0 0)::aF E cb cs C::FL E cb b h s r (SW.new (HS.new (Lo [] rf [])))::IW E mq::CH d .i64 (λ_=>none)::Z) w') (λst _=>((ps:Int)-st.1).toNat)
  ⟨0,[],⟨none,0,0⟩,rfl,Nat.zero_le _,rfl,λi c hc=>by simp at hc,aK⟩ ?_
 rintro⟨k',u⟩ _ O ⟨k,C,cs,hk,bB,J,hC,aA⟩;dsimp only at hk⊢;subst hk;refine AG (λbC=> ?_) λbA=> ?_
 .have e:=aA.drew;have a9:=(e.front 1 rfl:Sat (aF E cb cs C::_) _).Jp;refine⟨cs,e.cell (o:=0) (m:=4) rfl,dX e λc aP aB=>⟨(aB.front 1 rfl:Sat (Cells m E.Cc _::_) aP).cell (o:=0) (m:=4) rfl,?_⟩⟩;refine AJ (vs:=[pv c]) aB λaZ aQ aC _=>⟨(aC.front 2 rfl:Sat (Cells m E.Cc _::_) aQ).cell (o:=0) (m:=4) rfl,?_⟩;refine dY (R:=λc C=>Ee E c cb C) (y:=⟨(k:Int),λ_=>0,0,0⟩) (aC.OV 1 rfl) rfl (by omega) λfN bI aL=> ?_;refine Ah (aL.front 1 rfl) (o:=0) (m:=4) (v:=.slice fN.base fN.len fN.cap) rfl (by simp[K4]) λbJ aM=> ?_;rw[show i64 ((k:Int)+1)=((k+1:Nat):Int) by rw[AI];rfl];refine⟨⟨k+1,C++[(c,KS.mk (k:Int) (λ_=>0) 0 0)],fN,rfl,by omega,by rw[List.length_append,J];rfl,λi c' a=> ?_,aM⟩,by omega⟩;rcases Nat.lt_or_ge i k with g|g
  .rw[List.getElem?_append_left (by omega)]at a;exact hC i c' a
  .rw[List.getElem?_append_right (by omega),J]at a;have:i=k:=by
    have:=(List.getElem?_eq_some_iff.1 a).1;simp at this;omega
   subst this;rw[Nat.sub_self]at a;cases a;rfl
 .obtain rfl:k=ps:=by omega
  refine hK ⟨m,h,s,r,b,cb,sk,d,mq,cs,λ_=>0⟩ C O J hC ?_;have h1:=(aA.front 2 rfl).Uy;have h2:Sat (CH d .i64 (λ_=>none)::AQ E b h s r (SW.new (HS.new (Lo [] rf [])))::Cells cb E.A0 [pv b]::Cells m E.Cc (K4 ⟨m,h,s,r,b,cb,sk,d,mq,cs,λ_=>0⟩ false 0 0)::aF E cb cs C::IW E mq::Z) O:=h1.front 5 rfl;have h3:Sat ((Ex λdd=>CH d .i64 dd)::AQ E b h s r (SW.new (HS.new (Lo [] rf [])))::Cells cb E.A0 [pv b]::Cells m E.Cc (K4 ⟨m,h,s,r,b,cb,sk,d,mq,cs,λ_=>0⟩ false 0 0)::aF E cb cs C::IW E mq::Z) O:=Sat.ex.2 ⟨_,h2⟩;have h4:=((h3.front 3 rfl).Bh 3 rfl).OV 0 rfl;exact h4.perm (.cons _ (.cons _ (.cons _ (((List.Perm.swap _ _ _).cons _).trans ((List.Perm.swap _ _ _))|>.trans ((List.Perm.swap _ _ _).cons _)))))
end
def Ta(n:Int):Tk:=⟨n,0,0,0,0,false,false,0,0⟩
structure Sv(S:Cr)(ps:Nat)(rf:List Bool):Prop where
 tl:S.T.length=ps+2
 t: ∀(i:Nat) x,S.T[i]? =some x->x.2=Ta (i:Int)
 q:S.Q=List.replicate ps (⟨none,0,0⟩,[])
 l:S.L=[]
 or:S.ord=[]
 ho:S.ho= -1
 wo:S.wo= -1
 w:S.W=SW.new (HS.new (Lo [] rf []))
 cl:S.C.length=ps
 c:sA S.C
 ma:S.ma=0
 cy:S.cy=0
section
variable{E:Env}{w:World}{Z:List Pr}
def Zz(t:Nat): ∀(n:Nat) {Y:List Pr},Sat Y w->Sat (Al (λx:AW×List Int=>NV t x.1 (ints .i64 x.2)) (List.replicate n (⟨none,0,0⟩,[]))::Y) w
 | 0,_,H=>H.Mr _
 | n+1,_,H=>by
  rw[List.replicate_succ];exact Sat.Ix.2 ((Zz t n H).wU t)
def Sw(H:Sat Z w){a0 a1 a2:AW}{rf:List Bool}
  (h0: ∀w',Sat Z w'->rowAt w' a0.base a0.len [])(l0:0=a0.len)
  (h1: ∀w',Sat Z w'->rowAt w' a1.base a1.len (F8 rf))(l1:rf.length=a1.len)(k1:a1.len<=1099511627776)
  (h2: ∀w',Sat Z w'->rowAt w' a2.base a2.len [])(l2:0=a2.len){ps:Nat}(p0:1<=ps)(p1:ps<=64){K:Option Addr->Int->World->Prop}
  (hK: ∀rb g S w',Sv S ps rf->Sat (AA E rb g S++Z) w'->K (some ⟨rb,0,none⟩) 0 w'):F.Kx E a0 a1 a2 (ps:Int) 100 K w:=by
 unfold F.Kx T0.Kx;refine AJ (vs:=[FJ a0,FJ a1,FJ a2]) H λb1 w2 H2 _=> ?_;refine⟨a0,H2.cell (o:=0) (m:=0) rfl,a1,H2.cell (o:=0) (m:=1) rfl,a2,H2.cell (o:=0) (m:=2) rfl,?_⟩;refine VI H2.tail h0 l0 h1 l1 k1 h2 l2 p0 p1 λA C w3 aM hC H3=>AO rfl ?_;have Hd:Sat (Zy E A C (SW.new (HS.new (Lo [] rf [])))++Z) w3.drew:=H3.drew;refine AV (λs w'=> ∃rb pa qb sm,s.1=some ⟨rb,0,none⟩/\Sat (Cells rb E.EY [pv A.m,.pointer pa,.slice none 0 0,.slice (some ⟨qb,0,none⟩) ps ps,.slice none 0 0,.slice none 0 0,.int .i64 (-1),.int .i64 (-1),.bool false,.bool false,.map (some sm)]::WR E sm::Row E.Jc 1 ⟨some ⟨qb,0,none⟩,ps,ps⟩ (List.replicate ps (.slice none 0 0))::(Zy E A C (SW.new (HS.new (Lo [] rf [])))++Z)) w') ?_ ?_
 .refine AH ⟨_,Hd.AU (o:=0) rfl,?_⟩;rw[Int.toNat_natCast,Nat.mul_one,xD];have d:(0:Int)<=(ps:Int)/\(ps:Int)<=(ps:Int)/\(ps:Int)<9223372036854775808/\((24:Nat):Int)*(ps:Int)<=140737488355328:=⟨by omega,by omega,by omega,by omega⟩;unfold F.UF;refine⟨?_,d,?_⟩
  .refine AJ (vs:=[pv A.h,.int .u64 4607632778762754458]) Hd λpb w4 H4 _=>⟨⟨d,?_⟩,?_⟩
   .refine Lw (n:=ps) (z:=1) (vs:=List.replicate ps (.slice none 0 0)) H4.tail (by rw[List.length_replicate,Nat.mul_one]) (by omega) λqb w5 H5=>QH H5 λsm w6 H6=> ?_;refine AJ (vs:=[pv A.m,pv pb,.slice none 0 0,.slice (some ⟨qb,0,none⟩) ps ps,.slice none 0 0,.slice none 0 0,.int .i64 (-1),.int .i64 (-1),.bool false,.bool false,.map (some sm)]) H6 λrb w7 H7 _=>⟨rb,_,qb,sm,rfl,H7⟩
   .refine QH H4.tail λsm w5 H5=>⟨d,?_⟩;refine Lw (n:=ps) (z:=1) (vs:=List.replicate ps (.slice none 0 0)) H5 (by rw[List.length_replicate,Nat.mul_one]) (by omega) λqb w6 H6=> ?_;refine AJ (vs:=[pv A.m,pv pb,.slice none 0 0,.slice (some ⟨qb,0,none⟩) ps ps,.slice none 0 0,.slice none 0 0,.int .i64 (-1),.int .i64 (-1),.bool false,.bool false,.map (some sm)]) H6 λrb w7 H7 _=>⟨rb,_,qb,sm,rfl,H7.Bh 1 rfl⟩
  .refine Lw (n:=ps) (z:=1) (vs:=List.replicate ps (.slice none 0 0)) Hd (by rw[List.length_replicate,Nat.mul_one]) (by omega) λqb w4 H4=>⟨(H4.front 1 rfl:Sat (MK E A false 0 0::_) w4).AU (o:=0) rfl,?_⟩;refine AJ (vs:=[pv A.h,.int .u64 4607632778762754458]) H4 λpb w5 H5 _=>QH H5.tail λsm w6 H6=> ?_;refine AJ (vs:=[pv A.m,pv pb,.slice none 0 0,.slice (some ⟨qb,0,none⟩) ps ps,.slice none 0 0,.slice none 0 0,.int .i64 (-1),.int .i64 (-1),.bool false,.bool false,.map (some sm)]) H6 λrb w7 H7 _=>⟨rb,_,qb,sm,rfl,H7⟩
 .rintro⟨_,u⟩ _ w8 ⟨rb,pa,qb,sm,rfl,H8⟩;have H9:=((H8.rL E.CI (λb t=>Whole b E.LN (MC t))).front 1 rfl);have e2:i64 ((ps:Int)+2)=((ps+2:Nat):Int):=by rw[AI];rfl
  rw[e2];refine AM (λst w'=> ∃(k:Nat) (T:List (Nat×Tk)) (ts:AW),st.1=(k:Int)/\k<=ps+2/\T.length=k/\(∀(i:Nat) x,T[i]? =some x->x.2=Ta (i:Int))/\Sat (Cells rb E.EY [pv A.m,.pointer pa,FJ ts,.slice (some ⟨qb,0,none⟩) ps ps,.slice none 0 0,.slice none 0 0,.int .i64 (-1),.int .i64 (-1),.bool false,.bool false,.map (some sm)]::TkL E ts T::WR E sm::Row E.Jc 1 ⟨some ⟨qb,0,none⟩,ps,ps⟩ (List.replicate ps (.slice none 0 0))::(Zy E A C (SW.new (HS.new (Lo [] rf [])))++Z)) w') (λst _=>(((ps+2:Nat):Int)-st.1).toNat)
   ⟨0,[],⟨none,0,0⟩,rfl,Nat.zero_le _,rfl,λi c hc=>by simp at hc,H9⟩ ?_
  rintro⟨k',u⟩ _ aE ⟨k,T,ts,hk,a8,Y,hT,O⟩;dsimp only at hk⊢;subst hk;refine AG (λa9=> ?_) λa7=> ?_
  .have bB:=(O.front 1 rfl:Sat (TkL E ts T::_) _).Jp;refine AH ⟨ts,O.cell (o:=0) (m:=2) rfl,?_⟩;refine rJ (vs:=MC (Ta (k:Int))) O λtb bD aG=>AJ (vs:=[pv tb]) aG λaX bE aH _=> ?_;refine dY (R:=λb t=>Whole b E.LN (MC t)) (y:=Ta (k:Int)) (aH.OV 1 rfl) rfl (by omega) λIZ bF aI=>AH ?_;refine Ah (aI.front 1 rfl) (o:=0) (m:=2) (v:=.slice IZ.base IZ.len IZ.cap) rfl (by simp) λbG aJ=> ?_;rw[show i64 ((k:Int)+1)=((k+1:Nat):Int) by rw[AI];rfl];refine⟨⟨k+1,T++[(tb,Ta (k:Int))],IZ,rfl,by omega,by rw[List.length_append,Y];rfl,λi c' J=> ?_,aJ⟩,by omega⟩;rcases Nat.lt_or_ge i k with g|g
   .rw[List.getElem?_append_left (by omega)]at J;exact hT i c' J
   .rw[List.getElem?_append_right (by omega),Y]at J;have:i=k:=by
     have:=(List.getElem?_eq_some_iff.1 J).1;simp at this;omega
    subst this;rw[Nat.sub_self]at J;cases J;rfl
  .obtain rfl:k=ps+2:=by omega
   have hq:Sat (QL E ⟨some ⟨qb,0,none⟩,ps,ps⟩ (List.replicate ps (⟨none,0,0⟩,[]))::Cells rb E.EY [pv A.m,.pointer pa,FJ ts,.slice (some ⟨qb,0,none⟩) ps ps,.slice none 0 0,.slice none 0 0,.int .i64 (-1),.int .i64 (-1),.bool false,.bool false,.map (some sm)]::TkL E ts T::WR E sm::(Zy E A C (SW.new (HS.new (Lo [] rf [])))++Z)) aE:=by
    refine Sat.star.2 ?_;have h1:=Zz E.Ag ps O;have e:(List.replicate ps ((⟨none,0,0⟩,[]):AW×List Int)).map (λx=>FJ x.1)=List.replicate ps (.slice none 0 0):=by rw[List.map_replicate];rfl
    rw[e];exact(h1.front 4 rfl)
   have h2:=(hq.rL E.LO (λb a=>Cells b E.MY (ND a))).nil E.Ag 1;have h3:=((h2.front 3 rfl).Bh 3 rfl).OV 2 rfl;have h4:=h3.perm (.cons _ (.cons _ (.cons _ (.swap _ _ _))));exact hK rb ⟨A,pa,sm,ts,⟨some ⟨qb,0,none⟩,ps,ps⟩,⟨none,0,0⟩,⟨none,0,0⟩⟩ ⟨T,List.replicate ps (⟨none,0,0⟩,[]),[],[],-1,-1,SW.new (HS.new (Lo [] rf [])),C,0,0⟩ aE ⟨Y,hT,rfl,rfl,rfl,rfl,rfl,rfl,aM,hC,rfl,rfl⟩ h4
def Sv.rest{S:Cr}{ps:Nat}{rf:List Bool}(h:Sv S ps rf)(p1:ps<=64):Rest S:=by
 have e:S.Q.length=ps:=by rw[h.q,List.length_replicate]
 have d: ∀(j:Nat) z,S.Q[j]? =some z->z.2=[]:=λj z hz=>by
  rw[h.q,List.getElem?_replicate]at hz;split at hz
  .cases hz;rfl
  .cases hz
 refine⟨⟨by rw[h.tl,e],λi x u=>by rw[h.t i x u];rfl,λj z hz a m=>(by rw[d j z hz]at m;cases m),by rw[h.tl,h.l];exact⟨by omega,by decide⟩⟩,λj z hz=>by rw[h.t j z hz];exact⟨rfl,rfl⟩,d,h.wo,h.ho,λj z hz=>by rw[h.l]at hz;simp at hz,by rw[h.or,h.l];rfl,by rw[h.cl,e]⟩
def Sv.tp{S:Cr}{ps:Nat}{rf:List Bool}(h:Sv S ps rf):ID S.W S.C (λ_=>FK) (λ_=>FK) 0 [] []:=by
 rw[h.w];refine⟨Ai.new [] rf [],⟨λx a=>(by cases a),λx a=>(by cases a),rfl,Int.le_refl _,⟨Int.le_refl _,by show(0:Int)<_;decide⟩⟩,λx a=>(by cases a),⟨512,GA.new [],by decide⟩,Nat.le_refl _,λi c e k np=> ?_,λi j c d e hd _ k np g=> ?_,List.nodup_nil,λid x m a=>(by cases a),λp hp=>(by cases hp),λp hp=>hp,λp hp=>(by cases hp)⟩
 .have:=h.c i c e;refine .inl ?_;rw[this];unfold KS.held;split<;>rfl
 .have:=h.c i c e;rw[this]at g;unfold KS.held at g;split at g<;>exact absurd rfl g
end
structure WdG where
 bs:AW
 zs:AW
 ks:AW
 es:AW
def VO(p:Bk×Int):List Value:=[.int .u64 p.1.a,.int .u64 p.1.z,.int .i64 p.2]
def Ju: ∀p,(VO p).length=3:=λ_=>rfl
def xE: ∀p,∀v∈VO p,v.oneCell'=true:=by intro p v a;simp[VO]at a;rcases a with rfl|rfl|rfl<;>rfl
def Dx(rb:Nat)(G:WdG)(seen:Int):List Value:=[pv rb,FJ G.bs,.slice none 0 0,FJ G.zs,FJ G.ks,.int .i64 seen,.bool true,.int .i64 0,FJ G.es]
def Be(E:Env)(wb rb:Nat)(G:WdG)(seen:Int)(zs:List Int)(BL:List (Bk×Int)):List Pr:=
 [Cells wb E.Ar (Dx rb G seen),Row E.Ab 3 G.bs (DI VO BL),Row E.AE 1 G.zs (ints .u64 zs),Row E.Ag 1 G.ks (ints .i64 (zs.map λ_=>1)),Row E.Bi 1 G.es (zs.map λ_=>.slice none 0 0)]
section
variable{E:Env}{rb wb:Nat}{g:NW}{S:Cr}{G:WdG}{seen:Int}{zs:List Int}{BL:List (Bk×Int)}{Z:List Pr}{w:World}
def Rf(H:Sat (AA E rb g S++(Be E wb rb G seen zs BL++Z)) w){k:Nat}{v:Value}(a:(Dx rb G seen)[k]? =some v):w.cell? ((Addr.mk wb 0 none).add k)=some v:=
 Sat.cell (F:=(AA E rb g S++(Be E wb rb G seen zs BL++Z)).eraseIdx 12) (H.front 12 rfl) (by rw[Nat.zero_add];exact a)
def RW(H:Sat (AA E rb g S++(Be E wb rb G seen zs BL++Z)) w):w.cell? (Addr.mk wb 0 none)=some (pv rb):=
 Sat.AU (F:=(AA E rb g S++(Be E wb rb G seen zs BL++Z)).eraseIdx 12) (H.front 12 rfl) rfl
def sB(H:Sat (AA E rb g S++(Be E wb rb G seen zs BL++Z)) w):Sat (Row E.Ab 3 G.bs (DI VO BL)::(AA E rb g S++(Be E wb rb G seen zs BL++Z)).eraseIdx 13) w:=H.front 13 rfl
def eM(H:Sat (AA E rb g S++(Be E wb rb G seen zs BL++Z)) w)(hR:Rest S){i:Nat}(hi:i<S.Q.length)(hz:zs.length=S.L.length)(hf:S.L.length<500000){n:Int}{K:Bool->World->Prop}
  (hK: ∀a G' s' b w',FM (S.asked i s' [] b (.new 1 i n ⟨none,0,0⟩))->Sat (AA E rb a (S.asked i s' [] b (.new 1 i n ⟨none,0,0⟩))++(Be E wb rb G' seen (zs++[n]) BL++Z)) w'->K true w'):
  F.Ce E (some ⟨wb,0,none⟩) 1 (i:Int) n 0 0 0 false 0 ⟨none,0,0⟩ ⟨none,0,0⟩ n K w:=by
 unfold F.Ce T0.Ce;refine AJ (vs:=[.int .i64 1,.int .i64 (i:Int),.int .u64 n,.int .u64 0,.int .i64 0,.int .u64 0,.bool false,.int .i64 0,.slice none 0 0,.slice none 0 0]) H λb1 w2 H2 _=> ?_;have d:=H2.drew;refine AH ⟨_,RW d.tail,_,d.cell (o:=0) (m:=0) rfl,_,d.cell (o:=0) (m:=1) rfl,_,d.cell (o:=0) (m:=2) rfl,_,d.cell (o:=0) (m:=3) rfl,_,d.cell (o:=0) (m:=4) rfl,_,d.cell (o:=0) (m:=5) rfl,_,d.cell (o:=0) (m:=6) rfl,_,d.cell (o:=0) (m:=7) rfl,⟨none,0,0⟩,d.cell (o:=0) (m:=8) rfl,⟨none,0,0⟩,d.cell (o:=0) (m:=9) rfl,?_⟩;obtain⟨q,hq⟩: ∃q,S.Q[i]? =some q:=⟨_,List.getElem?_eq_getElem hi⟩;have aA:=hR.q i q hq
 let CA:Pr:=Cells b1 E.Bu [.int .i64 1,.int .i64 (i:Int),.int .u64 n,.int .u64 0,.int .i64 0,.int .u64 0,.bool false,.int .i64 0,.slice none 0 0,.slice none 0 0]
 have Hr:Sat (AA E rb g S++CA::(Be E wb rb G seen zs BL++Z)) w2.drew:=JR d;refine QF Hr hR.ok rfl hq (by decide) ⟨by omega,by rw[aA];decide⟩ (λs'=>[KR (s'=⟨none,0,0⟩) YZ]) (λY w' K' h hk=>PX (hk ⟨none,0,0⟩ w' ?_)) λa s1 s' b w4 BU H4=> ?_
 .exact(Sat.where.2 ⟨rfl,h.emp⟩:Sat (KR ((⟨none,0,0⟩:AW)=⟨none,0,0⟩) YZ::(Y++CA::(Be E wb rb G seen zs BL++Z))) w').perm (List.perm_middle (l₁:=Y)).symm
 .rw[aA]at BU H4;have aL:s1=⟨none,0,0⟩:=(Sat.where.1 (H4.front 12 rfl:Sat (KR (s1=⟨none,0,0⟩) YZ::_) w4)).1;subst aL;have J:Sat (CA::(AA E rb a (S.asked i s' [] b (.new 1 i n ⟨none,0,0⟩))++(Be E wb rb G seen zs BL++Z))) w4:=QE (H4.front 12 rfl).tail;have a4:zs.length=G.zs.len:=by
   have:=(J.tail.front 14 rfl:Sat (Row E.AE 1 G.zs (ints .u64 zs)::_) w4).Bs;rw[ints,List.length_map,Nat.mul_one]at this;exact this
  have a3:zs.length=G.ks.len:=by
   have:=(J.tail.front 15 rfl:Sat (Row E.Ag 1 G.ks (ints .i64 (zs.map λ_=>1))::_) w4).Bs;rw[ints,List.length_map,List.length_map,Nat.mul_one]at this;exact this
  have a1:zs.length=G.es.len:=by
   have:=(J.tail.front 16 rfl:Sat (Row E.Bi 1 G.es (zs.map λ_=>.slice none 0 0)::_) w4).Bs;rw[List.length_map,Nat.mul_one]at this;exact this
  refine AO rfl (AH ⟨_,Rf J.tail (k:=3) rfl,EO (λc=>absurd (by omega) c) λ_=>AH ⟨_,Rf J.tail (k:=3) rfl,?_⟩⟩)
  let Q:Cr:=S.asked i s' [] b (.new 1 i n ⟨none,0,0⟩)
  refine AJ (vs:=[.int .u64 n]) J λb6 w6 H6 _=>GJ (news:=[.int .u64 n]) (H6.Bh 15 rfl) rfl rfl (by simp[Value.oneCell']) (by omega) (by omega) λs7 w7 H7 _=>AH ?_;have H8:Sat (CA::(AA E rb a Q++([Cells wb E.Ar (Dx rb G seen),Row E.Ab 3 G.bs (DI VO BL),Row E.AE 1 s7 (ints .u64 (zs++[n])),Row E.Ag 1 G.ks (ints .i64 (zs.map λ_=>1)),Row E.Bi 1 G.es (zs.map λ_=>.slice none 0 0)]++Z))) w7:=
   Sat.back (Ps:=CA::(AA E rb a Q++(Be E wb rb G seen zs BL++Z))) 15 (by rw[ints,List.map_append];exact H7) (by simp[AA,Be])
  refine Ah (H8.front 13 rfl) (o:=0) (m:=3) (v:=.slice s7.base s7.len s7.cap) rfl (by simp[Dx]) λw9 H9=>AH ?_;have e:Sat (CA::(AA E rb a Q++([Cells wb E.Ar (Dx rb {G with zs:=s7} seen),Row E.Ab 3 G.bs (DI VO BL),Row E.AE 1 s7 (ints .u64 (zs++[n])),Row E.Ag 1 G.ks (ints .i64 (zs.map λ_=>1)),Row E.Bi 1 G.es (zs.map λ_=>.slice none 0 0)]++Z))) w9.drew:=
   (Sat.back (Ps:=CA::(AA E rb a Q++([Cells wb E.Ar (Dx rb G seen),Row E.Ab 3 G.bs (DI VO BL),Row E.AE 1 s7 (ints .u64 (zs++[n])),Row E.Ag 1 G.ks (ints .i64 (zs.map λ_=>1)),Row E.Bi 1 G.es (zs.map λ_=>.slice none 0 0)]++Z))) 13 H9 (by simp[AA])).drew
  refine⟨_,(e.front 13 rfl).cell (o:=0) (m:=4) rfl,_,e.AU (o:=0) rfl,?_⟩;refine AJ (vs:=[.int .i64 1]) e λaY a5 O _=>⟨(O.front 14 rfl).cell (o:=0) (m:=4) rfl,GJ (news:=[.int .i64 1]) (O.Bh 16 rfl) rfl rfl (by simp[Value.oneCell']) (by show(G.ks.len+1)*8<=_;omega) (by show G.ks.len+1<=_;omega) λEr aM aD _=>AH ?_⟩;have aE:Sat (CA::(AA E rb a Q++([Cells wb E.Ar (Dx rb {G with zs:=s7} seen),Row E.Ab 3 G.bs (DI VO BL),Row E.AE 1 s7 (ints .u64 (zs++[n])),Row E.Ag 1 Er (ints .i64 ((zs++[n]).map λ_=>1)),Row E.Bi 1 G.es (zs.map λ_=>.slice none 0 0)]++Z))) aM:=
   Sat.back (Ps:=CA::(AA E rb a Q++([Cells wb E.Ar (Dx rb {G with zs:=s7} seen),Row E.Ab 3 G.bs (DI VO BL),Row E.AE 1 s7 (ints .u64 (zs++[n])),Row E.Ag 1 G.ks (ints .i64 (zs.map λ_=>1)),Row E.Bi 1 G.es (zs.map λ_=>.slice none 0 0)]++Z))) 16 (by rw[List.map_append,ints,List.map_append];exact aD) (by simp[AA])
  refine Ah (aE.front 13 rfl) (o:=0) (m:=4) (v:=.slice Er.base Er.len Er.cap) rfl (by simp[Dx]) λaN aF=>AH ?_;have u:Sat (CA::(AA E rb a Q++([Cells wb E.Ar (Dx rb {G with zs:=s7,ks:=Er} seen),Row E.Ab 3 G.bs (DI VO BL),Row E.AE 1 s7 (ints .u64 (zs++[n])),Row E.Ag 1 Er (ints .i64 ((zs++[n]).map λ_=>1)),Row E.Bi 1 G.es (zs.map λ_=>.slice none 0 0)]++Z))) aN.drew:=
   (Sat.back (Ps:=CA::(AA E rb a Q++([Cells wb E.Ar (Dx rb {G with zs:=s7} seen),Row E.Ab 3 G.bs (DI VO BL),Row E.AE 1 s7 (ints .u64 (zs++[n])),Row E.Ag 1 Er (ints .i64 ((zs++[n]).map λ_=>1)),Row E.Bi 1 G.es (zs.map λ_=>.slice none 0 0)]++Z))) 13 aF (by simp[AA])).drew
  refine⟨_,(u.front 13 rfl).cell (o:=0) (m:=8) rfl,⟨none,0,0⟩,u.cell (o:=0) (m:=9) rfl,?_⟩;refine AJ (vs:=[.slice none 0 0]) u λaZ a6 T _=>⟨(T.front 14 rfl).cell (o:=0) (m:=8) rfl,GJ (news:=[.slice none 0 0]) (T.Bh 17 rfl) rfl rfl (by simp[Value.oneCell']) (by show(G.es.len+1)*24<=_;omega) (by show G.es.len+1<=_;omega) λaX aO aG _=>AH ?_⟩;have aH:Sat (CA::(AA E rb a Q++([Cells wb E.Ar (Dx rb {G with zs:=s7,ks:=Er} seen),Row E.Ab 3 G.bs (DI VO BL),Row E.AE 1 s7 (ints .u64 (zs++[n])),Row E.Ag 1 Er (ints .i64 ((zs++[n]).map λ_=>1)),Row E.Bi 1 aX ((zs++[n]).map λ_=>.slice none 0 0)]++Z))) aO:=
   Sat.back (Ps:=CA::(AA E rb a Q++([Cells wb E.Ar (Dx rb {G with zs:=s7,ks:=Er} seen),Row E.Ab 3 G.bs (DI VO BL),Row E.AE 1 s7 (ints .u64 (zs++[n])),Row E.Ag 1 Er (ints .i64 ((zs++[n]).map λ_=>1)),Row E.Bi 1 G.es (zs.map λ_=>.slice none 0 0)]++Z))) 17 (by rw[List.map_append];exact aG) (by simp[AA])
  refine Ah (aH.front 13 rfl) (o:=0) (m:=8) (v:=.slice aX.base aX.len aX.cap) rfl (by simp[Dx]) λaB aI=> ?_;have aJ:Sat (CA::(AA E rb a Q++(Be E wb rb ⟨G.bs,s7,Er,aX⟩ seen (zs++[n]) BL++Z))) aB:=
   Sat.back (Ps:=CA::(AA E rb a Q++([Cells wb E.Ar (Dx rb {G with zs:=s7,ks:=Er} seen),Row E.Ab 3 G.bs (DI VO BL),Row E.AE 1 s7 (ints .u64 (zs++[n])),Row E.Ag 1 Er (ints .i64 ((zs++[n]).map λ_=>1)),Row E.Bi 1 aX ((zs++[n]).map λ_=>.slice none 0 0)]++Z))) 13 aI (by simp[AA])
  exact hK a _ s' b aB BU aJ.tail
end
end Go.Sh

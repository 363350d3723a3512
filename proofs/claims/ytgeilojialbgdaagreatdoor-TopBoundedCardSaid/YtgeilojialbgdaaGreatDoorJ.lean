/- What the law's functions do. No further condition. -/
import Derived.Test.YtgeilojialbgdaaGreatDoorK
import Derived.Test.YtgeilojialbgdaaGreatDoorA
import Derived.Test.YtgeilojialbgdaaGreatDoorL
import Derived.Test.YtgeilojialbgdaaGreatDoorH
import Derived.Test.YtgeilojialbgdaaGreatDoorQ
set_option linter.all false
set_option maxRecDepth 50000
set_option maxHeartbeats 16000000
namespace Go.Sh
structure Ku(E:Env):Prop extends EnvK E where
 of1: ∀x p1 p2 K w,F.Ga E x p1 p2 K w->E.call E.K0 #[.int .i64 x,.pointer p1,.pointer p2] w (λr w'=> ∃b,r= .bool b/\K b w') Fi
 wait1: ∀p (R:Value->World->Prop) w,F.Hh E p (λb w'=>R (.bool b) w') w->E.call E.Ik #[.pointer p] w R Fi
 uB: ∀p (R:Value->World->Prop) w,F.I8 E p (λb w'=>R (.bool b) w') w->E.call E.Jd #[.pointer p] w R Fi
 look1: ∀r t (R:Value->World->Prop) w,F.Ep E r t (λw'=>R (.tuple ⟨[]⟩) w') w->E.call E.Hw #[.pointer r,.pointer t] w R Fi
 uC: ∀r t (R:Value->World->Prop) w,F.EE E r t (λw'=>R (.tuple ⟨[]⟩) w') w->E.call E.HM #[.pointer r,.pointer t] w R Fi
 take1: ∀r t (R:Value->World->Prop) w,F.FU E r t (λw'=>R (.tuple ⟨[]⟩) w') w->E.call E.Hx #[.pointer r,.pointer t] w R Fi
 kJ: ∀r t (R:Value->World->Prop) w,F.DV E r t (λw'=>R (.tuple ⟨[]⟩) w') w->E.call E.Fu #[.pointer r,.pointer t] w R Fi
 grow1: ∀r t (R:Value->World->Prop) w,F.FV E r t (λw'=>R (.tuple ⟨[]⟩) w') w->E.call E.Hy #[.pointer r,.pointer t] w R Fi
 uD: ∀r t (R:Value->World->Prop) w,F.DX E r t (λw'=>R (.tuple ⟨[]⟩) w') w->E.call E.Gq #[.pointer r,.pointer t] w R Fi
 one1: ∀r t (R:Value->World->Prop) w,F.Ff E r t (λw'=>R (.tuple ⟨[]⟩) w') Fi w->E.call E.Ir #[.pointer r,.pointer t] w R Fi
 do1: ∀r t (R:Value->World->Prop) w,F.GZ E r t (λw'=>R (.tuple ⟨[]⟩) w') Fi w->E.call E.IP #[.pointer r,.pointer t] w R Fi
 stop1: ∀r t (R:Value->World->Prop) w,F.IU E r t (λw'=>R (.tuple ⟨[]⟩) w') w->E.call E.Hz #[.pointer r,.pointer t] w R Fi
 wt1: ∀r t (R:Value->World->Prop) w,F.IV E r t (λw'=>R (.tuple ⟨[]⟩) w') w->E.call E.IA #[.pointer r,.pointer t] w R Fi
 uE: ∀r t (R:Value->World->Prop) w,F.EG E r t (λw'=>R (.tuple ⟨[]⟩) w') w->E.call E.HO #[.pointer r,.pointer t] w R Fi
 flip1: ∀r t (R:Value->World->Prop) w,F.FW E r t (λw'=>R (.tuple ⟨[]⟩) w') w->E.call E.IB #[.pointer r,.pointer t] w R Fi
def Ln(l:List Nat)(f:Int):Nat:=(l.findIdx? λi:Nat=>decide ((i:Int)≥f)).getD 0
def I0(S:B4):Bool:=S.L.any λx=> !x.2.done
def GB(S:B4):Bool:= !I0 S&&(S.ho== -1&& !S.T.any λx=>decide (x.2.tr>0))
section
variable{E:Env}{rb:Nat}{g:Nu}{S:B4}{Z:List Pr}{w:World}
theorem E8{P:Pr}(H:Sat (P::(AA E rb g S++Z)) w):Sat (AA E rb g S++P::Z) w:=H.perm (List.perm_middle (l₁:=AA E rb g S) (l₂:=Z)).symm
theorem Vk{P:Pr}(H:Sat (AA E rb g S++P::Z) w):Sat (P::(AA E rb g S++Z)) w:=H.perm (List.perm_middle (l₁:=AA E rb g S) (l₂:=Z))
theorem bJ(H:Sat (AA E rb g S++Z) w)(hI:F5 S){f:Int}{K:Int->Bool->World->Prop}(hK: ∀w',Sat (AA E rb g S++Z) w'->K (Ln (Ow S) f) (decide (((Ow S).length:Int)>0)) w'):
  F.Ey E (sM rb) f K w:=by
 unfold F.Ey T0.Ey;refine Oz H hI λs w2 O=> ?_;have aI:(Ow S).length=s.len:=by
  have:=O.CK;rw[ints,List.length_map,List.length_map,Nat.mul_one]at this
  simp_all
 have hf:=hI.Nx;have hle:(Ow S).length<=S.T.length:=Nat.le_trans (List.length_filter_le ..) (by grind);refine AM (λst w'=> ∃k:Nat,st.1=(k:Int)/\k<=(Ow S).length/\(∀(j i:Nat),(Ow S)[j]? =some i->j<k->(i:Int)<f)/\w'=w2) (λst _=>(((Ow S).length:Int)-st.1).toNat) ⟨0,rfl,Nat.zero_le _,λ_ _ _ c=>by omega,rfl⟩ ?_;rintro⟨k',u⟩ _ w3 ⟨k,hk,aG,hb,hw⟩;dsimp only at hk⊢;subst hk hw;refine AE (λaH=> ?_) λaF=> ?_
 .have J:k<(Ow S).length:=by omega
  obtain⟨i,hi⟩: ∃i,(Ow S)[k]? =some i:=⟨_,List.getElem?_eq_getElem J⟩;refine O.O6 (j:=k) (v:=.int .i64 (i:Int)) (by rw[ints,List.getElem?_map,List.getElem?_map,hi];rfl) λa ha hc=>⟨⟨by omega,by omega⟩,_,by rw[aD,Int.toNat_natCast,Nat.mul_one];exact hc,AE (λc=> ?_) λc=> ?_⟩
  .have:=hK _ O.tail;rw[decide_eq_true (by omega)]at this;have e:Ln (Ow S) f=k:=by
    unfold Ln;rw[List.findIdx?_eq_some_iff_getElem.2 ⟨J,?_,?_⟩]
    .rfl
    .grind
    .intro j Y;have:=hb j _ (List.getElem?_eq_getElem (by omega)) Y
     grind
   grind
  .rw[AI];refine⟨⟨k+1,rfl,by omega,λj m hm Y=> ?_,rfl⟩,by omega⟩;rcases Nat.lt_or_ge j k with d|d
   .exact hb j m hm d
   .obtain rfl:j=k:=by omega
    rw[hi]at hm;cases hm;omega
 .have:=hK _ O.tail;have e:Ln (Ow S) f=0:=by
   unfold Ln;rw[List.findIdx?_eq_none_iff.2 ?_]
   .rfl
   .intro i hi;obtain⟨j,Y⟩:=List.mem_iff_getElem?.1 hi
    grind
  grind
variable(hE:Ku E)
include hE
theorem Vl(H:Sat (AA E rb g S++Z) w)(hI:F5 S){K:Bool->World->Prop}(hK:K (I0 S) w):F.Bg E (sM rb) K w:=by
 unfold F.Bg T0.Bg F.An T0.An F.DQ;have hl:=(gY H).Jp;have hf:=hI.Nx;refine AG ⟨_,Lv H (k:=4) rfl,AM (λst w'=> ∃k:Nat,st.1=(k:Int)/\k<=S.L.length/\(∀j x,S.L[j]? =some x->j<k->x.2.done=true)/\w'=w) (λst _=>((S.L.length:Int)-st.1).toNat) ⟨0,rfl,Nat.zero_le _,λ_ _ _ c=>by omega,rfl⟩ ?_⟩;rintro⟨k',u⟩ _ w3 ⟨k,O,aC,hb,hw⟩;dsimp only at O⊢;subst O hw;refine AE (λaE=> ?_) λaA=> ?_
 .have v:k<S.L.length:=by omega
  obtain⟨x,J⟩: ∃x,S.L[k]? =some x:=⟨_,List.getElem?_eq_getElem v⟩;obtain⟨a,T,Y⟩:=(gY H).Kw J;refine Ij T ⟨⟨by omega,by omega⟩,_,by rw[aD,Int.toNat_natCast,Nat.mul_one];exact Y,hE.wait1 _ _ _ ?_⟩;unfold F.Hh;refine AG ⟨_,QS H J (k:=13) rfl,_,rfl,AX (λc=> ?_) λc=> ?_⟩
  .have e:I0 S=true:=List.any_eq_true.2 ⟨x,List.mem_of_getElem? J,c⟩
   simp_all
  .rw[AI];refine⟨⟨k+1,rfl,by omega,λj y hy hj=> ?_,rfl⟩,by omega⟩
   grind
 .have e:I0 S=false:=List.any_eq_false.2 λx J=>by
   obtain⟨j,hj⟩:=List.mem_iff_getElem?.1 J
   grind
  grind
theorem Rd(H:Sat (AA E rb g S++Z) w)(hI:F5 S){K:Bool->World->Prop}(e:K (GB S) w):F.Em E (sM rb) K w:=by
 unfold F.Em T0.Em F.Al T0.Al F.C4;unfold GB at e;refine Vl hE H hI (AX (λc=> ?_) λc=> ?_)
 .rw[c,Bool.true_and]at e;refine AG ⟨_,Lv H (k:=6) rfl,AX (λc2=> ?_) λc2=> ?_⟩
  .rw[show(S.ho== -1)=true from c2,Bool.true_and]at e;have hl:=(Yd H).Jp;have hf:=hI.Nx;refine AG ⟨_,Lv H (k:=2) rfl,AM (λst w'=> ∃k:Nat,st.1=(k:Int)/\k<=S.T.length/\(∀j x,S.T[j]? =some x->j<k->decide (x.2.tr>0)=false)/\w'=w) (λst _=>((S.T.length:Int)-st.1).toNat) ⟨0,rfl,Nat.zero_le _,λ_ _ _ c=>by omega,rfl⟩ ?_⟩;rintro⟨k',u⟩ _ w3 ⟨k,O,aE,hb,hw⟩;dsimp only at O⊢;subst O hw;refine AE (λaF=> ?_) λaB=> ?_
   .have v:k<S.T.length:=by omega
    obtain⟨x,J⟩: ∃x,S.T[k]? =some x:=⟨_,List.getElem?_eq_getElem v⟩;obtain⟨a,Y,hc⟩:=(Yd H).Kw J;refine Ij Y ⟨⟨by omega,by omega⟩,_,by rw[aD,Int.toNat_natCast,Nat.mul_one];exact hc,hE.uB _ _ _ ?_⟩;unfold F.I8;refine AG ⟨_,K8 H J (k:=3) rfl,_,rfl,AX (λc=> ?_) λc=> ?_⟩
    .rw[List.any_eq_true.2 ⟨x,List.mem_of_getElem? J,c⟩]at e;rw[decide_eq_true (by omega)];exact e
    .rw[AI];refine⟨⟨k+1,rfl,by omega,λj y hy hj=> ?_,rfl⟩,by omega⟩
     grind
   .rw[List.any_eq_false.2 λx J=>by
     obtain⟨j,hj⟩:=List.mem_iff_getElem?.1 J
     grind]at e
    exact e
  .rw[show(S.ho== -1)=false from c2,Bool.false_and]at e;exact e
 .rw[c,Bool.false_and]at e;exact e
end
def B4.tk(S:B4)(i:Nat)(x:Nat×Tk):B4:={S with T:=S.T.set i x}
def Ak.rep(a:Ak)(ad nn co:Int):Ak:={a with ad:=ad,nn:=nn,co:=co,done:=true}
def B4.done(S:B4)(i:Nat)(x:Nat×Tk)(k:Nat)(y:Nat×Ak)(ad nn co:Int):B4:=
 {S with T:=S.T.set i (x.1,{x.2 with step:=0}),L:=S.L.set k (y.1,y.2.rep ad nn co),ord:=S.ord++[(k:Int)]}
section
variable{E:Env}{rb:Nat}{g:Nu}{S:B4}{Z:List Pr}{w:World}
theorem EY(H:Sat (AA E rb g S++Z) w){i:Nat}{x:Nat×Tk}(O:S.T[i]? =some x){m:Nat}{v:Value}(t':Tk)(u:(MN x.2).set m v=MN t')(J:m<9)(ho:v.oneCell'=true){K:World->Prop}
  (j: ∀w',Sat (AA E rb g (S.tk i (x.1,t'))++Z) w'->K w'):stCells ((Addr.mk x.1 0 none).add m) 0 [v] w K:=by
 obtain⟨Q,h1,_,e⟩:=(Yd H).zL O;refine tW h1 ho (by simpa[MN]using J) λw' a=>j w' ?_;rw[u]at a;exact Sat.back (Ps:=AA E rb g S++Z) 1 (e a) (by simp[AA])
theorem QT(H:Sat (AA E rb g S++Z) w){m:Nat}{v:Value}(j:m<11)(ho:v.oneCell'=true){K:World->Prop}
  (e: ∀w',Sat (Cells rb E.Ee ((Ib g S.ho S.wo S.o0 S.o1).set m v)::(AA E rb g S++Z).eraseIdx 0) w'->K w'):stCells ((Addr.mk rb 0 none).add m) 0 [v] w K:=by
 have H:Sat (Cells rb E.Ee (Ib g S.ho S.wo S.o0 S.o1)::(AA E rb g S++Z).eraseIdx 0) w:=H;exact Af H ho (by simpa[Ib]using j) λw' a=>by rw[Nat.zero_add]at a;exact e w' a
theorem JX(H:Sat (AA E rb g S++Z) w){i k:Nat}{x:Nat×Tk}{y:Nat×Ak}(hx:S.T[i]? =some x)(hk:x.2.ask=(k:Int))(j:S.L[k]? =some y){K:Int->Int->Int->Int->Int->Int->Bool->Int->AY->AY->World->Prop}
  (hK: ∀w',Sat (AA E rb g S++Z) w'->K y.2.op y.2.p y.2.n 0 0 0 false 0 ⟨none,0,0⟩ y.2.set w'):F.En E (sM rb) (sM x.1) K w:=by
 unfold F.En;refine AJ (vs:=[.int .i64 0,.int .i64 0,.int .u64 0,.int .u64 0,.int .i64 0,.int .u64 0,.bool false,.int .i64 0,.slice none 0 0,.slice none 0 0]) H λb1 w2 Y _=> ?_;have J:=Y.drew;have e:=E8 J;have hl:=(gY H).Jp;have aD:=(List.getElem?_eq_some_iff.1 j).1;obtain⟨a,ha,hc⟩:=(gY e).Kw j;refine AG ⟨_,Lv e (k:=4) rfl,AG ⟨_,K8 e hx (k:=1) rfl,?_⟩⟩;rw[hk];refine Ij ha ⟨⟨by omega,by omega⟩,_,by grind,AG ⟨_,QS e j (k:=0) rfl,_,QS e j (k:=1) rfl,_,QS e j (k:=2) rfl,_,QS e j (k:=3) rfl,_,QS e j (k:=4) rfl,_,QS e j (k:=5) rfl,_,QS e j (k:=6) rfl,_,QS e j (k:=7) rfl,⟨none,0,0⟩,QS e j (k:=8) rfl,y.2.set,QS e j (k:=9) rfl,?_⟩⟩;refine Bm (news:=[.int .i64 y.2.op,.int .i64 y.2.p,.int .u64 y.2.n,.int .u64 0,.int .i64 0,.int .u64 0,.bool false,.int .i64 0,.slice none 0 0,FI y.2.set]) J rfl (by intro v O;simp only[List.mem_cons,List.not_mem_nil,or_false]at O;rcases O with rfl|rfl|rfl|rfl|rfl|rfl|rfl|rfl|rfl|rfl<;>rfl) λw3 u=> ?_;exact⟨_,u.cell (o:=0) (m:=0) rfl,_,u.cell (o:=0) (m:=1) rfl,_,u.cell (o:=0) (m:=2) rfl,_,u.cell (o:=0) (m:=3) rfl,_,u.cell (o:=0) (m:=4) rfl,_,u.cell (o:=0) (m:=5) rfl,_,u.cell (o:=0) (m:=6) rfl,_,u.cell (o:=0) (m:=7) rfl,⟨none,0,0⟩,u.cell (o:=0) (m:=8) rfl,y.2.set,u.cell (o:=0) (m:=9) rfl,hK w3 u.tail⟩
theorem Jr(H:Sat (AA E rb g S++Z) w)(aJ:S.ord.length<1000000){i k:Nat}{x:Nat×Tk}{y:Nat×Ak}(hx:S.T[i]? =some x)(hk:x.2.ask=(k:Int))(hy:S.L[k]? =some y){ad nn co:Int}{K:World->Prop}
  (hK: ∀g' w',Sat (AA E rb g' (S.done i x k y ad nn co)++Z) w'->K w'):F.Cp E (sM rb) (sM x.1) ad nn co K w:=by
 unfold F.Cp;refine AJ (vs:=[.int .u64 ad,.int .u64 nn,.int .i64 co]) H λb1 w2 H2 _=> ?_;have j:=H2.drew;have u:=E8 j;have hl:=(gY H).Jp;have aV:=(List.getElem?_eq_some_iff.1 hy).1;obtain⟨a,ha,hc⟩:=(gY u).Kw hy;refine AG ⟨_,Lv u (k:=4) rfl,AG ⟨_,K8 u hx (k:=1) rfl,?_⟩⟩;rw[hk];refine Ij ha ⟨⟨by omega,by omega⟩,_,by rw[aD,Int.toNat_natCast,Nat.mul_one];exact hc,?_⟩;refine⟨_,j.cell (o:=0) (m:=0) rfl,_,j.cell (o:=0) (m:=1) rfl,_,j.cell (o:=0) (m:=2) rfl,AG ?_⟩;obtain⟨Q,h1,_,h2⟩:=(gY (Vk u).tail).zL hy;refine Qt [.int .u64 ad,.int .u64 nn,.int .i64 co] 10 0 h1 (by simp[Nb]) (by intro v hv;simp only[List.mem_cons,List.not_mem_nil,or_false]at hv;rcases hv with rfl|rfl|rfl<;>rfl) λw3 H3=>AG (Af H3 (o:=0) (m:=13) rfl (by simp[Nb]) λw4 H4=> ?_);have e:Sat (AA E rb g {S with L:=S.L.set k (y.1,y.2.rep ad nn co)}++Z) w4.drew:=(Sat.back (Ps:=AA E rb g S++Z) 3 (h2 (y:=y.2.rep ad nn co) H4) (by simp[AA])).drew;refine AG ⟨_,Lv e (k:=5) rfl,AG ⟨_,K8 e hx (k:=1) rfl,?_⟩⟩;refine AJ (vs:=[.int .i64 x.2.ask]) e λb6 w6 H6 _=>⟨Lv (E8 H6) (k:=5) rfl,?_⟩;have H7:=H6.BQ 4 rfl;have aA:=(e.front 4 rfl:Sat (Row E.Ar 1 g.os (ints .i64 S.ord)::_) _).CK;rw[ints,List.length_map,Nat.mul_one]at aA;refine GH (news:=[.int .i64 x.2.ask]) H7 rfl rfl (by simp[Value.oneCell']) (by omega) (by omega) λs8 w8 H8 _=>AG ?_;rw[hk,show ints .i64 S.ord++[Value.int .i64 (k:Int)]=ints .i64 (S.ord++[(k:Int)]) by simp[ints]]at H8;have H9:=Sat.back (Ps:=AA E rb g {S with L:=S.L.set k (y.1,y.2.rep ad nn co)}++Z) 4 H8 (by simp[AA]);refine Af (b:=rb) (t:=E.Ee) (vs:=Ib g S.ho S.wo S.o0 S.o1) (F:=(AA E rb {g with os:=s8} {S with L:=S.L.set k (y.1,y.2.rep ad nn co),ord:=S.ord++[(k:Int)]}++Z).eraseIdx 0) (o:=0) (m:=5) H9 rfl (by simp[Ib]) λaE J=>AG ?_;have O:Sat (AA E rb {g with os:=s8} {S with L:=S.L.set k (y.1,y.2.rep ad nn co),ord:=S.ord++[(k:Int)]}++Z) aE:=J;exact EY O hx (m:=2) {x.2 with step:=0} rfl (by decide) rfl λaF Y=>hK _ aF Y
theorem F5.tk(h:F5 S){i:Nat}{x:Nat×Tk}(a:S.T[i]? =some x){t':Tk}(u:t'.n=x.2.n):F5 (S.tk i (x.1,t')):=by
 refine⟨(List.length_set ..).trans h.tn,λj z hz=> ?_,h.qa,by rw[show(S.tk i (x.1,t')).T.length=S.T.length from List.length_set ..];exact h.Nx,h.pw⟩;have h1:(S.T.set i (x.1,t'))[j]? =some z:=hz;rw[List.getElem?_set]at h1;by_cases e:i=j
 .subst e;rw[if_pos rfl,if_pos (List.getElem?_eq_some_iff.1 a).1]at h1;cases h1;exact u.trans (h.ti i x a)
 .rw[if_neg e]at h1;exact h.ti j z h1
end
def B4.QY(S:B4)(i:Nat)(x:Nat×Tk)(a:Nat)(s':AY)(l:List Int)(st:Int):B4:=
 {S with T:=S.T.set i (x.1,{x.2 with ask:=(a:Int),sw:=0,step:=st}),Q:=S.Q.set i (s',l)}
def Beg(S:B4)(i:Nat)(x:Nat×Tk)(S1:B4):Prop:=(x.2.step≠0/\S1=S)∨(x.2.step=0/\((∃s s' a l y,S.Q[i]? =some (s,((a:Nat):Int)::l)/\S.L[a]? =some y/\S1=S.QY i x a s' l (Ic y.2.op))∨
 (S.Q.length<=i/\S1=S.tk i (x.1,{x.2 with step:=if i=S.Q.length then 10 else 6}))))
section
variable{E:Env}{rb:Nat}{g:Nu}{S:B4}{Z:List Pr}{w:World}
theorem Vm{α β:Type}(f:α->β)(l:List α)(i:Nat)(y:α):(l.set i y).map f=(l.map f).set i (f y):=by simp
theorem rnQ(H:Sat (AA E rb g S++Z) w){i:Nat}{x:AY×List Int}(a:S.Q[i]? =some x):
  Sat (Nt E.Ar x.1 (ints .i64 x.2)::Row E.I3 1 g.qs (S.Q.map λx=>FI x.1)::Aj (λx:AY×List Int=>Nt E.Ar x.1 (ints .i64 x.2)) (S.Q.eraseIdx i)::(AA E rb g S++Z).eraseIdx 2) w:=by
 have h:=(Sat.star.1 (H.front 2 rfl:Sat (QL E g.qs S.Q::_) w)).front 1 rfl;exact(Sat.FQ (R:=λx:AY×List Int=>Nt E.Ar x.1 (ints .i64 x.2)) h a).BQ 1 rfl
theorem kK{i:Nat}{y:AY×List Int}(hi:i<S.Q.length)
  (H:Sat (Nt E.Ar y.1 (ints .i64 y.2)::Row E.I3 1 g.qs ((S.Q.set i y).map λx=>FI x.1)::Aj (λx:AY×List Int=>Nt E.Ar x.1 (ints .i64 x.2)) (S.Q.eraseIdx i)::(AA E rb g S++Z).eraseIdx 2) w):Sat (AA E rb g {S with Q:=S.Q.set i y}++Z) w:=by
 have h1:=(Sat.Xk (R:=λx:AY×List Int=>Nt E.Ar x.1 (ints .i64 x.2)) (y:=y) (H.BQ 1 rfl) hi).perm (.swap _ _ _);exact Sat.back (Ps:=AA E rb g S++Z) 2 (Sat.star.2 h1:Sat (QL E g.qs (S.Q.set i y)::_) w) (by simp[AA])
theorem rn_stQ(H:Sat (AA E rb g S++Z) w){i:Nat}{s:AY}{v:Int}{l:List Int}(e:S.Q[i]? =some (s,v::l)){a:Addr}(T:g.qs.base=some a){K:World->Prop}
  (O: ∀w',Sat (AA E rb g {S with Q:=S.Q.set i (⟨KE s.base s.cap 1 1,s.len-1,s.cap-1⟩,l)}++Z) w'->K w'):stCells (a.add (i*1)) 0 [.slice (KE s.base s.cap 1 1) (s.len-1) (s.cap-1)] w K:=by
 have hi:=(List.getElem?_eq_some_iff.1 e).1;have h1:=(rnQ H e).front 1 rfl;rw[Nat.mul_one];refine Ko h1 (by rfl) (by rw[List.length_map];exact hi) T λj u=>O j ?_;have J:Sat (Nt E.Ar s (.int .i64 v::ints .i64 l)::_) j:=u.front 1 rfl;refine kK hi (J.tY.perm ?_);rw[Vm];rfl
theorem Yh(H:Sat (AA E rb g S++Z) w)(hI:F5 S){i:Nat}{x:Nat×Tk}(v:S.T[i]? =some x){s:AY}{a:Nat}{l:List Int}(hq:S.Q[i]? =some (s,(a:Int)::l)){y:Nat×Ak}(hy:S.L[a]? =some y){K:World->Prop}
  (hK: ∀s' w',Sat (AA E rb g (S.QY i x a s' l (Ic y.2.op))++Z) w'->K w'):F.Bu E (sM rb) (sM x.1) K w:=by
 unfold F.Bu T0.Bu;have hi:=(List.getElem?_eq_some_iff.1 hq).1;have hf:=hI.Nx;have hn:=hI.tn;obtain⟨u,hu⟩: ∃y,S.T[S.Q.length]? =some y:=⟨_,List.getElem?_eq_getElem (by omega)⟩;obtain⟨z,hz⟩: ∃z,S.T[S.Q.length+1]? =some z:=⟨_,List.getElem?_eq_getElem (by omega)⟩;refine Gy H hu λw1 H1=>Ox H1 v hu (AR (bH H1 v hu (by omega)) ?_);refine MP H1 hI hz λw2 H2=>Ox H2 v hz (AR (bH H2 v hz (by omega)) ?_);have j:=H2.drew;have J:=hI.ti i x v;have aO:=Oy j;obtain⟨p,Y,hc⟩:=Ye j hq;obtain⟨aP,p0,aE,aC⟩:=Yf j hq;refine AG ⟨_,Lv j (k:=3) rfl,AG ⟨_,Kg j v,AG ⟨_,Lv j (k:=3) rfl,AG ⟨_,Kg j v,?_⟩⟩⟩⟩;rw[J];refine Ij Y ⟨⟨by omega,by omega⟩,s,by rw[aD,Int.toNat_natCast,Nat.mul_one];exact hc,Ij aE ⟨⟨by decide,by omega⟩,_,aC,?_⟩⟩;refine AG ⟨_,Lv j (k:=3) rfl,AG ⟨_,Kg j v,?_⟩⟩;rw[J];refine Ij Y ⟨⟨by omega,by omega⟩,s,by rw[aD,Int.toNat_natCast,Nat.mul_one];exact hc,⟨by decide,by omega⟩,AG ?_⟩;refine EY j v (m:=1) {x.2 with ask:=(a:Int)} rfl (by decide) rfl λw3 H3=> ?_;have aF:(S.tk i (x.1,{x.2 with ask:=(a:Int)})).T[i]? =some (x.1,{x.2 with ask:=(a:Int)}):=by
  show(S.T.set i _)[i]? =_
  grind
 refine Ij Y ⟨⟨by omega,by omega⟩,?_⟩;rw[aD,Int.toNat_natCast];refine rn_stQ (S:=S.tk i (x.1,{x.2 with ask:=(a:Int)})) H3 hq Y λw4 H4=>AG ?_;refine EY H4 aF (m:=8) {x.2 with ask:=(a:Int),sw:=0} rfl (by decide) rfl λw5 H5=> ?_;have O:(B4.tk {S.tk i (x.1,{x.2 with ask:=(a:Int)})with Q:=S.Q.set i (⟨KE s.base s.cap 1 1,s.len-1,s.cap-1⟩,l)} i (x.1,{x.2 with ask:=(a:Int),sw:=0})).T[i]? =some (x.1,{x.2 with ask:=(a:Int),sw:=0}):=by
  show((S.T.set i _).set i _)[i]? =_
  grind
 refine JX H5 O (k:=a) rfl hy λw6 H6=>Vi (AG ?_);refine EY H6 O (m:=2) {x.2 with ask:=(a:Int),sw:=0,step:=Ic y.2.op} rfl (by decide) rfl λw7 H7=>hK ⟨KE s.base s.cap 1 1,s.len-1,s.cap-1⟩ w7 ?_;have e:B4.tk (B4.tk {S.tk i (x.1,{x.2 with ask:=(a:Int)})with Q:=S.Q.set i (⟨KE s.base s.cap 1 1,s.len-1,s.cap-1⟩,l)} i (x.1,{x.2 with ask:=(a:Int),sw:=0})) i (x.1,{x.2 with ask:=(a:Int),sw:=0,step:=Ic y.2.op})=S.QY i x a ⟨KE s.base s.cap 1 1,s.len-1,s.cap-1⟩ l (Ic y.2.op):=by
  simp[B4.tk,B4.QY]
 exact(congrArg (λs=>Sat (AA E rb g s++Z) w7) e).mp H7
theorem WM(H:Sat (AA E rb g S++Z) w)(hI:F5 S){i:Nat}{x:Nat×Tk}(a:S.T[i]? =some x)(hi:S.Q.length<=i){K:World->Prop}
  (j: ∀w',Sat (AA E rb g (S.tk i (x.1,{x.2 with step:=if i=S.Q.length then 10 else 6}))++Z) w'->K w'):F.Bu E (sM rb) (sM x.1) K w:=by
 unfold F.Bu T0.Bu;have O:=hI.tn;have J:=(List.getElem?_eq_some_iff.1 a).1;obtain⟨u,hu⟩: ∃y,S.T[S.Q.length]? =some y:=⟨_,List.getElem?_eq_getElem (by omega)⟩;obtain⟨z,hz⟩: ∃z,S.T[S.Q.length+1]? =some z:=⟨_,List.getElem?_eq_getElem (by omega)⟩;refine Gy H hu λw1 H1=>Ox H1 a hu ?_;by_cases e:i=S.Q.length
 .subst e;obtain rfl:x=u:=Option.some.inj (a.symm.trans hu);rw[if_pos rfl]at j;exact Aa (by simp) (AG (EY H1 a (m:=2) {x.2 with step:=10} rfl (by decide) rfl j))
 .obtain rfl:i=S.Q.length+1:=by omega
  obtain rfl:x=z:=Option.some.inj (a.symm.trans hz);rw[if_neg e]at j;refine AR (bH H1 a hu e) (MP H1 hI hz λY v=>Ox v a hz (Aa (by simp) (AG ?_)));exact EY v a (m:=2) {x.2 with step:=6} rfl (by decide) rfl j
def Re(E:Env)(rb:Nat)(g:Nu)(Z:List Pr)(S1:B4)(p:Nat)(st:Int)(e:B4->Prop):Prop:= ∃f,(st,f)∈Jq E/\ ∀(R:Value->World->Prop) Z' w',(∀w',Sat Z' w'->Sat Z w')->Sat (AA E rb g S1++Z') w'->
 (∀j S' a,e S'->Sat (AA E rb j S'++Z') a->R (.tuple ⟨[]⟩) a)->E.call f #[.pointer (sM rb),.pointer (sM p)] w' R Fi
theorem nV(hE:Ku E)(H:Sat (AA E rb g S++Z) w)(hI:F5 S){pick:Int}{i j:Nat}(hj:(Ow S)[j]? =some i)(hp:Int.tmod (i64 (Int.tmod pick ((Ow S).length:Int)+((Ow S).length:Int))) ((Ow S).length:Int)=(j:Int)){x:Nat×Tk}(O:S.T[i]? =some x)
  (aJ:x.2.step=0->i<S.Q.length-> ∃s a l y,S.Q[i]? =some (s,((a:Nat):Int)::l)/\S.L[a]? =some y)(aB:B4->Prop)(hR: ∀S',aB S'-> ∃t',S'.T[i]? =some (x.1,t')/\t'.n=(i:Int))
  (aE: ∀S1 x1,Beg S i x S1->S1.T[i]? =some x1->x1.1=x.1->Re E rb g Z S1 x.1 x1.2.step aB){K:Int->Int->World->Prop}
  (hK: ∀g' S' w',aB S'->Sat (AA E rb g' S'++Z) w'->K i 0 w'):F.Fv E (sM rb) pick K w:=by
 unfold F.Fv T0.Fv;have bN:=hI.ti i x O;have aK:=(List.getElem?_eq_some_iff.1 O).1;have bM:=(List.getElem?_eq_some_iff.1 hj).1;refine AJ (vs:=[.pointer (sM rb)]) H λb1 w2 H2 _=>AJ (vs:=[.int .i64 0]) H2 λb3 w4 H4 _=>⟨_,(H4.front 1 rfl:Sat (Cells b1 E.C9 [.pointer (sM rb)]::_) w4).AW rfl,?_⟩;have mv: ∀{A B:Pr} {L Y:List Pr} {w'},Sat (A::B::(L++Y)) w'->Sat (L++A::B::Y) w':=λh=>h.perm ((List.perm_middle.trans (List.perm_middle.cons _)).symm);have H5:Sat (AA E rb g S++Cells b3 E.Ar [.int .i64 0]::Cells b1 E.C9 [.pointer (sM rb)]::Z) w4:=mv H4;have sub: ∀w',Sat (Cells b3 E.Ar [.int .i64 0]::Cells b1 E.C9 [.pointer (sM rb)]::Z) w'->Sat Z w':=λw' h=>h.tail.tail;refine Oz H5 hI λs w6 H6=> ?_;have H7:=E8 H6;have a4:(Ow S).length=s.len:=by
  have:=H6.CK;rw[ints,List.length_map,List.length_map,Nat.mul_one]at this
  simp_all
 refine⟨_,(H7.front 14 rfl:Sat (Cells b1 E.C9 [.pointer (sM rb)]::_) w6).AW rfl,AG ⟨_,Gx H7,MO (H7.front 6 rfl) (AR rfl ?_)⟩⟩;have aL:((((s.len:Nat):Int):Int)==0)=false:=by simp;omega
 refine Ad (AR aL λjj=>AR rfl (AR aL ?_));have Hd:=H7.drew;refine⟨_,(Hd.front 14 rfl:Sat (Cells b1 E.C9 [.pointer (sM rb)]::_) _).AW rfl,AG ⟨_,Lv Hd (k:=2) rfl,by omega,by omega,?_⟩⟩;rw[<-a4,hp];have J:=Vk Hd;obtain⟨a,ha⟩:=J.own.G7 (by omega);have hv:(ints .i64 ((Ow S).map λi:Nat=>(i:Int)))[j]? =some (.int .i64 (i:Int)):=by rw[ints,List.getElem?_map,List.getElem?_map,hj];rfl
 obtain⟨q,hq,aZ⟩:=(Yd Hd).Kw O;have hl:=(Yd Hd).Jp;refine Ij ha ⟨⟨by omega,by omega⟩,_,by rw[Int.toNat_natCast,Nat.mul_one];exact J.own.cell ha hv,Ij hq ⟨⟨by omega,by omega⟩,_,by rw[aD,Int.toNat_natCast,Nat.mul_one];exact aZ,?_⟩⟩;refine AJ (vs:=[.pointer none]) Hd λv w8 H8 _=> ?_;have H9:=E8 H8;obtain⟨q',aM,bA⟩:=(Yd H9).Kw O;rw[hq]at aM;cases aM;refine⟨by grind,by rw[Int.toNat_natCast,Nat.mul_one];exact(H9.front 13 rfl:Sat (Row E.Ar 1 s _::_) w8).own.cell ha hv,Lv H9 (k:=2) rfl,(H9.front 15 rfl:Sat (Cells b1 E.C9 [.pointer (sM rb)]::_) _).AW rfl,?_⟩;refine Bc (H9.front 12 rfl) rfl (by decide) λaR aV=> ?_;have u:Sat (AA E rb g S++Cells v E.CR [.pointer (sM x.1)]::Cells b3 E.Ar [.int .i64 0]::Cells b1 E.C9 [.pointer (sM rb)]::Z) aR:=(E8 aV|>λh=>h.perm (List.Perm.refl _):Sat (AA E rb g S++Cells v E.CR [.pointer (sM x.1)]::Row E.Ar 1 s _::Cells b3 E.Ar [.int .i64 0]::Cells b1 E.C9 [.pointer (sM rb)]::Z) aR)|>λh=>(h.front 13 rfl).tail;have aQ: ∀w',Sat (Cells v E.CR [.pointer (sM x.1)]::Cells b3 E.Ar [.int .i64 0]::Cells b1 E.C9 [.pointer (sM rb)]::Z) w'->Sat Z w':=λw' h=>h.tail.tail.tail;refine AV (λ_ w'=> ∃S1 x1,Beg S i x S1/\S1.T[i]? =some x1/\x1.1=x.1/\Sat (AA E rb g S1++Cells v E.CR [.pointer (sM x.1)]::Cells b3 E.Ar [.int .i64 0]::Cells b1 E.C9 [.pointer (sM rb)]::Z) w') ?_ ?_
 .refine⟨_,(u.front 12 rfl:Sat (Cells v E.CR [.pointer (sM x.1)]::_) _).AW rfl,AG ⟨_,K8 u O (k:=2) rfl,C6 (λc=> ?_) λc=>⟨S,x,.inl ⟨c,rfl⟩,O,rfl,u⟩⟩⟩;refine⟨_,(u.front 14 rfl:Sat (Cells b1 E.C9 [.pointer (sM rb)]::_) _).AW rfl,_,(u.front 12 rfl:Sat (Cells v E.CR [.pointer (sM x.1)]::_) _).AW rfl,?_⟩;by_cases hiq:i<S.Q.length
  .obtain⟨s0,a0,l0,y0,aN,aP⟩:=aJ c hiq;refine Yh u hI O aN aP λs' w' H'=>⟨_,_,.inr ⟨c,.inl ⟨s0,s',a0,l0,y0,aN,aP,rfl⟩⟩,List.getElem?_set_self aK,rfl,H'⟩
  .refine WM u hI O (by omega) λw' H'=>⟨_,_,.inr ⟨c,.inr ⟨by omega,rfl⟩⟩,List.getElem?_set_self aK,rfl,H'⟩
 .rintro _ _ bR ⟨S1,x1,hb,aO,he,aW⟩;have e:=aW.drew;obtain⟨f,hf,aE⟩:=aE S1 x1 hb aO he;have a5:=Sat.ex.1 (Sat.star.1 (e.front 5 rfl:Sat (Kx [Rb E g.sm,zP E g S1.pc]::_) _):Sat (Rb E g.sm::_) _);obtain⟨gg,a2⟩:=a5;obtain⟨a1,a3⟩:=Sat.where.1 a2;refine⟨_,(e.front 14 rfl:Sat (Cells b1 E.C9 [.pointer (sM rb)]::_) _).AW rfl,AG ⟨_,Lv e (k:=10) rfl,_,(e.front 12 rfl:Sat (Cells v E.CR [.pointer (sM x.1)]::_) _).AW rfl,AG ⟨x1.2.step,by rw[<-he];exact K8 e aO (k:=2) rfl,Rz a3 λes _=> ?_⟩⟩⟩;rw[a1 _ hf];refine⟨_,rfl,_,(e.front 14 rfl:Sat (Cells b1 E.C9 [.pointer (sM rb)]::_) _).AW rfl,_,(e.front 12 rfl:Sat (Cells v E.CR [.pointer (sM x.1)]::_) _).AW rfl,?_⟩;refine aE _ (Cells v E.CR [.pointer (sM x.1)]::Cells b3 E.Ar [.int .i64 0]::Cells b1 E.C9 [.pointer (sM rb)]::Z) _ aQ e λg' S' bQ Bf aA=>⟨rfl,?_⟩;obtain⟨t',a6,a7⟩:=hR S' Bf;refine⟨_,(aA.front 12 rfl:Sat (Cells v E.CR [.pointer (sM x.1)]::_) _).AW rfl,AG ⟨_,Kg (x:=(x.1,t')) aA a6,?_⟩⟩;refine Bc (aA.front 13 rfl) rfl (by decide) λaF aH=> ?_;unfold F.FR T0.FR;refine⟨rfl,Aa rfl ⟨_,aH.AW rfl,?_⟩⟩;show K t'.n 0 aF;rw[a7];have aX:Sat (AA E rb g' S'++Cells v E.CR [.pointer (sM x.1)]::Cells b1 E.C9 [.pointer (sM rb)]::Z) aF:=aH.tail;exact hK g' S' aF Bf ((aX.front 12 rfl).tail.front 12 rfl).tail
end
def Ak.new(op p n:Int)(set:AY):Ak:=⟨op,p,n,set,0,0,0,false⟩
def B4.asked(S:B4)(i:Nat)(s':AY)(l:List Int)(b:Nat)(a:Ak):B4:={S with L:=S.L++[(b,a)],Q:=S.Q.set i (s',l++[(S.L.length:Int)])}
section
variable{E:Env}{rb:Nat}{g:Nu}{S:B4}{Z:List Pr}{w:World}
theorem WN{K:AY->World->Prop}(a:K ⟨none,0,0⟩ w):F.Ap E ⟨none,0,0⟩ K w:=by
 unfold F.Ap;exact Aa rfl a
theorem WO{Y:List Pr}(H:Sat Y w){a:AY}(O:a.base.isNone=false){vs:List Int}(hr: ∀w',Sat Y w'->rowAt w' a.base (a.len*1) (ints .u64 vs))(T:vs.length=a.len)(aA:a.len<=1000000){K:AY->World->Prop}(J: ∀s' w',Sat (Row E.AF 1 s' (ints .u64 vs)::Y) w'->K s' w'):F.Ap E a K w:=by
 unfold F.Ap;refine AR O (NJ (t:=E.AF) (n:=0) (z:=1) (vs:=[]) H rfl (by decide) λb1 w2 e=> ?_);refine O7 e rfl (hr w2 e.tail) (by rw[ints,List.length_map,T,Nat.mul_one]) (by intro v j;rw[ints,List.mem_map]at j;obtain⟨x,_,rfl⟩:=j;rfl) (by grind) (by grind) λs' w' u _=>J s' w' u
theorem Vn(H:Sat (AA E rb g S++Z) w)(hI:F5 S){op p n:Int}{set:AY}{i:Nat}(hp:p=(i:Int)){q:AY×List Int}(hq:S.Q[i]? =some q)(a9:1<=op/\op<=9)(hf:S.L.length<999999/\q.2.length<999999)(X:AY->List Pr)
  (aV: ∀(Y:List Pr) (w':World) (K:AY->World->Prop),Sat (Y++Z) w'->(∀s' aH,Sat (Y++(X s'++Z)) aH->K s' aH)->F.Ap E set K w'){K:Int->Int->World->Prop}
  (hK: ∀g' s1 s' b w',F5 (S.asked i s' q.2 b (.new op p n s1))->Sat (AA E rb g' (S.asked i s' q.2 b (.new op p n s1))++(X s1++Z)) w'->K (S.L.length:Int) 0 w'):F.Ev E (sM rb) op p n 0 0 0 false 0 ⟨none,0,0⟩ set K w:=by
 subst hp;unfold F.Ev T0.Ev;have hi:=(List.getElem?_eq_some_iff.1 hq).1;have bB:=Oy H;have a8:=(gY H).Jp;have a0:=hI.Nx;refine AJ (vs:=[.int .i64 op,.int .i64 (i:Int),.int .u64 n,.int .u64 0,.int .i64 0,.int .u64 0,.bool false,.int .i64 0,.slice none 0 0,FI set]) H λb1 w2 H2 _=>AG ⟨_,Gx (E8 H2),MO ((E8 H2).front 6 rfl) (AR rfl ?_)⟩;have O:=H2.drew;refine Ad ⟨_,O.cell (o:=0) (m:=1) rfl,AR (decide_eq_false (by omega)) ⟨_,O.cell (o:=0) (m:=1) rfl,AG ⟨_,Lv (E8 O) (k:=3) rfl,AR (decide_eq_false (by omega)) ⟨_,O.AW (o:=0) rfl,AR (decide_eq_false (by omega)) ⟨_,O.AW (o:=0) rfl,λjj=> ?_⟩⟩⟩⟩⟩;refine AR (decide_eq_false (by omega)) ⟨⟨none,0,0⟩,by rw[add_add];exact O.cell (o:=0) (m:=8) rfl,?_⟩;unfold F.CX;refine Aa rfl ?_;rw[add_add];refine Af O (o:=0) (m:=8) (v:=.slice none 0 0) rfl (by simp) λw3 H3=> ?_;refine⟨set,H3.cell (o:=0) (m:=9) rfl,aV (Cells b1 E.BN _::AA E rb g S) w3 _ H3 λs1 w4 H4=> ?_⟩;refine Af H4 (o:=0) (m:=9) (v:=.slice s1.base s1.len s1.cap) rfl (by simp) λw5 J=> ?_;have J:Sat (Cells b1 E.BN [.int .i64 op,.int .i64 (i:Int),.int .u64 n,.int .u64 0,.int .i64 0,.int .u64 0,.bool false,.int .i64 0,.slice none 0 0,FI s1]::(AA E rb g S++(X s1++Z))) w5.drew:=J.drew;refine AG ⟨_,Lv (E8 J) (k:=4) rfl,_,J.cell (o:=0) (m:=0) rfl,_,J.cell (o:=0) (m:=1) rfl,_,J.cell (o:=0) (m:=2) rfl,_,J.cell (o:=0) (m:=3) rfl,_,J.cell (o:=0) (m:=4) rfl,_,J.cell (o:=0) (m:=5) rfl,_,J.cell (o:=0) (m:=6) rfl,_,J.cell (o:=0) (m:=7) rfl,⟨none,0,0⟩,J.cell (o:=0) (m:=8) rfl,s1,J.cell (o:=0) (m:=9) rfl,?_⟩;have cells: ∀{Y:List Pr} {w'},Sat (Cells b1 E.BN [.int .i64 op,.int .i64 (i:Int),.int .u64 n,.int .u64 0,.int .i64 0,.int .u64 0,.bool false,.int .i64 0,.slice none 0 0,FI s1]::Y) w'->
  (w'.cell? ((Addr.mk b1 0 none).add 0)=some (.int .i64 op)/\(w'.cell? ((Addr.mk b1 0 none).add 1)=some (.int .i64 (i:Int))/\(w'.cell? ((Addr.mk b1 0 none).add 2)=some (.int .u64 n)/\(w'.cell? ((Addr.mk b1 0 none).add 3)=some (.int .u64 0)/\(w'.cell? ((Addr.mk b1 0 none).add 4)=some (.int .i64 0)/\(w'.cell? ((Addr.mk b1 0 none).add 5)=some (.int .u64 0)/\(w'.cell? ((Addr.mk b1 0 none).add 6)=some (.bool false)/\(w'.cell? ((Addr.mk b1 0 none).add 7)=some (.int .i64 0)/\(w'.cell? ((Addr.mk b1 0 none).add 8)=some (.slice none 0 0)/\(w'.cell? ((Addr.mk b1 0 none).add 9)=some (.slice s1.base s1.len s1.cap)/\True)))))))))):=λh=>
  ⟨h.cell (o:=0) (m:=0) rfl,h.cell (o:=0) (m:=1) rfl,h.cell (o:=0) (m:=2) rfl,h.cell (o:=0) (m:=3) rfl,h.cell (o:=0) (m:=4) rfl,h.cell (o:=0) (m:=5) rfl,h.cell (o:=0) (m:=6) rfl,h.cell (o:=0) (m:=7) rfl,h.cell (o:=0) (m:=8) rfl,h.cell (o:=0) (m:=9) rfl,trivial⟩
 refine AJ (vs:=Nb (.new op (i:Int) n s1)) J λb6 w6 H6 _=> ?_;refine⟨cells (H6.front 1 rfl),Lv H6.tail.tail (k:=4) rfl,?_⟩;refine AJ (vs:=[pv b6]) H6 λb7 w7 H7 _=> ?_;refine⟨cells (H7.front 2 rfl),Lv H7.tail.tail.tail (k:=4) rfl,?_⟩;have H8:=(H7.front 6 rfl).perm ((List.Perm.swap _ _ _).trans ((List.Perm.swap _ _ _).cons _));refine gW (R:=λb a=>Cells b E.Mo (Nb a)) (y:=.new op (i:Int) n s1) H8 rfl (by omega) λs9 w9 H9=> ?_;refine⟨cells (H9.front 1 rfl),AG ?_⟩;have aW:=H9.Jp;rw[List.length_append,List.length_singleton]at aW;refine Af (b:=rb) (t:=E.Ee) (vs:=Ib g S.ho S.wo S.o0 S.o1) (o:=0) (m:=4) (v:=.slice s9.base s9.len s9.cap) (H9.front 2 rfl) rfl (by simp[Ib]) λaY aL=>AG ?_;have aE:Sat (Cells b1 E.BN [.int .i64 op,.int .i64 (i:Int),.int .u64 n,.int .u64 0,.int .i64 0,.int .u64 0,.bool false,.int .i64 0,.slice none 0 0,FI s1]::(AA E rb {g with ks:=s9} {S with L:=S.L++[(b6,Ak.new op (i:Int) n s1)]}++(X s1++Z))) aY:=
  Sat.back (Ps:=Cells b1 E.BN [.int .i64 op,.int .i64 (i:Int),.int .u64 n,.int .u64 0,.int .i64 0,.int .u64 0,.bool false,.int .i64 0,.slice none 0 0,FI s1]::(AA E rb {g with ks:=s9} S++(X s1++Z))) 4 (aL.perm ((List.Perm.swap _ _ _).trans ((List.Perm.swap _ _ _).cons _))) (by simp[AA])
 refine⟨_,Lv aE.tail (k:=4) rfl,AZ λN hN=>AG ?_⟩;have hN:N=(S.L.length:Int):=by
  rw[hN];show i64 (((s9.len:Nat):Int)-1)=_;rw[AI];omega
 subst hN;have O:=aE.drew;obtain⟨a,ha,hc⟩:=Ye O.tail hq;refine⟨_,Lv O.tail (k:=3) rfl,_,O.cell (o:=0) (m:=1) rfl,AG ⟨_,Lv O.tail (k:=3) rfl,_,O.cell (o:=0) (m:=1) rfl,Ij ha ⟨⟨by omega,by grind⟩,q.1,by rw[aD,Int.toNat_natCast,Nat.mul_one];exact hc,?_⟩⟩⟩;refine AJ (vs:=[.int .i64 (S.L.length:Int)]) O λa4 bC u _=> ?_;obtain⟨a',aF,aU⟩:=Ye u.tail.tail hq;rw[show g.qs.base=some a from ha]at aF;cases aF;refine⟨by rw[aD,Int.toNat_natCast,Nat.mul_one];exact aU,(u.front 1 rfl).cell (o:=0) (m:=1) rfl,Lv u.tail.tail (k:=3) rfl,(u.front 1 rfl).cell (o:=0) (m:=1) rfl,Lv u.tail.tail (k:=3) rfl,?_⟩;have mv: ∀{A B:Pr} {L Y:List Pr} {w'},Sat (A::B::(L++Y)) w'->Sat (L++A::B::Y) w':=λh=>h.perm ((List.perm_middle.trans (List.perm_middle.cons _)).symm);have aM:=(rnQ (mv u) hq).front 14 rfl;have aX:=(rnQ (mv u) hq).zN.1.1;rw[ints,List.length_map]at aX;refine tZ (t:=E.Ar) (v:=.int .i64 (S.L.length:Int)) aM rfl rfl (by omega) (by omega) λM6 aB aA=> ?_;refine⟨(aA.front 14 rfl:Sat (Cells b1 E.BN [.int .i64 op,.int .i64 (i:Int),.int .u64 n,.int .u64 0,.int .i64 0,.int .u64 0,.bool false,.int .i64 0,.slice none 0 0,FI s1]::_) aB).cell (o:=0) (m:=1) rfl,(aA.front 3 rfl:Sat (Cells rb E.Ee (Ib {g with ks:=s9} S.ho S.wo S.o0 S.o1)::_) aB).cell (o:=0) (m:=3) rfl,(aA.front 14 rfl:Sat (Cells b1 E.BN [.int .i64 op,.int .i64 (i:Int),.int .u64 n,.int .u64 0,.int .i64 0,.int .u64 0,.bool false,.int .i64 0,.slice none 0 0,FI s1]::_) aB).cell (o:=0) (m:=1) rfl,(aA.front 3 rfl:Sat (Cells rb E.Ee (Ib {g with ks:=s9} S.ho S.wo S.o0 S.o1)::_) aB).cell (o:=0) (m:=3) rfl,Ij ha ⟨⟨by omega,by grind⟩,?_⟩⟩;rw[aD,Int.toNat_natCast,Nat.mul_one];refine Ko (v:=.slice M6.base M6.len M6.cap) (aA.front 1 rfl) rfl (by rw[List.length_map];exact hi) ha λaI aN=> ?_;have aO:=kK (E:=E) (rb:=rb) (g:={g with ks:=s9}) (S:={S with L:=S.L++[(b6,Ak.new op (i:Int) n s1)]}) (Z:=Cells b1 E.BN [.int .i64 op,.int .i64 (i:Int),.int .u64 n,.int .u64 0,.int .i64 0,.int .u64 0,.bool false,.int .i64 0,.slice none 0 0,FI s1]::(X s1++Z)) (y:=(M6,q.2++[(S.L.length:Int)])) hi (w:=aI) (by
  rw[Vm,ints,List.map_append];exact aN.front 1 rfl)
 refine hK {g with ks:=s9} s1 M6 b6 aI ⟨?_,hI.ti,λj z hz c aG=> ?_,⟨hI.Nx.1,by show(S.L++[_]).length<_;grind⟩,hI.pw⟩ (aO.front 12 rfl).tail
 .show S.T.length=(S.Q.set i _).length+2;rw[List.length_set];exact hI.tn
 .show 0<=c/\c<((S.L++[_]).length:Nat);rw[List.length_append,List.length_singleton];have hz:(S.Q.set i (M6,q.2++[(S.L.length:Int)]))[j]? =some z:=hz;rw[List.getElem?_set]at hz;by_cases e:i=j
  .subst e;rw[if_pos rfl,if_pos hi]at hz;cases hz;rcases List.mem_append.1 aG with h|h
   .have:=hI.qa i q hq c h;omega
   grind
  .rw[if_neg e]at hz;have:=hI.qa j z hz c aG;omega
theorem Rf(H:Sat (AA E rb g S++Z) w){k:Nat}{y:Nat×Ak}(j:S.L[k]? =some y)(hd:y.2.done=true){K:Int->Int->Int->Bool->World->Prop}
  (Y: ∀w',Sat (AA E rb g S++Z) w'->K y.2.ad y.2.nn y.2.co true w'):F.KL E (sM rb) (k:Int) K w:=by
 unfold F.KL;have hl:=(gY H).Jp;have aB:=(List.getElem?_eq_some_iff.1 j).1;refine AJ (vs:=[.int .u64 0,.int .u64 0,.int .i64 0]) H λb1 w2 O _=> ?_;have e:=E8 O;obtain⟨a,J,hc⟩:=(gY e).Kw j;have J:g.ks.base=some a:=J;refine Ad (AR (decide_eq_false (by omega)) (AG ⟨_,Lv e (k:=4) rfl,AR (decide_eq_false (by omega)) (AG ⟨_,Lv e (k:=4) rfl,Ij J ⟨⟨by omega,by omega⟩,_,by grind,AG ⟨_,QS e j (k:=13) rfl,λjj=> ?_⟩⟩⟩)⟩));rw[hd];refine AR rfl (AG ⟨_,Lv e (k:=4) rfl,Ij J ⟨⟨by omega,by omega⟩,_,by rw[aD,Int.toNat_natCast,Nat.mul_one];exact hc,AG ?_⟩⟩);refine⟨_,by rw[add_add];exact QS e j (k:=10) rfl,_,by rw[add_add];exact QS e j (k:=11) rfl,_,by rw[add_add];exact QS e j (k:=12) rfl,?_⟩;refine Bm (news:=[.int .u64 y.2.ad,.int .u64 y.2.nn,.int .i64 y.2.co]) O rfl (by intro v T;simp only[List.mem_cons,List.not_mem_nil,or_false]at T;rcases T with rfl|rfl|rfl<;>rfl) λw3 u=> ?_;exact⟨_,u.cell (o:=0) (m:=0) rfl,_,u.cell (o:=0) (m:=1) rfl,_,u.cell (o:=0) (m:=2) rfl,Y w3 u.tail⟩
end
theorem clsp16:((List.range 68).all λc=>decide ((A0 c).2.1<=16))=true:=by decide+kernel
theorem zQ{c:Int}(h0:0<=c)(h1:c<68):(A0 c).2.1<=16:=by
 have:=List.all_eq_true.1 clsp16 c.toNat (List.mem_range.2 (by omega));rwa[decide_eq_true_eq,show((c.toNat:Nat):Int)=c by omega]at this
section
variable{E:Env}{w:World}{Z:List Pr}(hE:EnvC E)
include hE
end
theorem Sat.Md{P0 a:Pr}{Ps:List Pr}{w:World}{P:Pr}(i:Nat)(H:Sat (P0::a::Ps) w)(hi:Ps[i]? =some P):Sat (P0::a::P::Ps.eraseIdx i) w:=H.perm (((EH hi).cons a).cons P0)
theorem Sat.back3{P0 a P':Pr}{Ps:List Pr}{w:World}(i:Nat)(H:Sat (P0::a::P'::Ps.eraseIdx i) w)(hi:i<Ps.length:=by simp):Sat (P0::a::Ps.set i P') w:=H.perm (((Mj hi).cons a).cons P0)
def B4.mw(S:B4)(ma:Int)(W:SW):B4:={S with ma:=ma,W:=W}
def B4.cw(S:B4)(i:Nat)(c:Nat×KS)(W:SW):B4:={S with C:=S.C.set i c,W:=W}
section
variable{E:Env}{rb:Nat}{g:Nu}{S:B4}{Z:List Pr}{w:World}
theorem SV(H:Sat (AA E rb g S++Z) w): ∃R,Sat (Ou E g.a false S.ma S.cy::AQ E g.a.b g.a.h g.a.s g.a.r S.W::Iz E g.a.mq::R) w/\(∀{w'},Sat R w'->Sat Z w')/\
  ∀{ma:Int} {W':SW} {w'},Sat (Ou E g.a false ma S.cy::AQ E g.a.b g.a.h g.a.s g.a.r W'::Iz E g.a.mq::R) w'->Sat (AA E rb g (S.mw ma W')++Z) w':=by
 have h1:Sat (Ou E g.a false S.ma S.cy::AQ E g.a.b g.a.h g.a.s g.a.r S.W::Iz E g.a.mq::_) w:=((H.front 6 rfl).BQ 10 rfl).Md 8 rfl;refine⟨_,h1,λh=>h.tail.tail.tail.tail.tail.tail.tail.tail.tail,λ{ma W' w'} h=> ?_⟩;have e:=Sat.back3 (Ps:=((AA E rb g S++Z).eraseIdx 6).eraseIdx 10) (P':=Iz E g.a.mq) 8 h (by simp[AA]);have j:=Sat.OI (Ps:=(AA E rb g S++Z).eraseIdx 6) 10 e (by simp[AA]);have u:Sat (Ou E g.a false ma S.cy::(AA E rb g (S.mw ma W')++Z).eraseIdx 6) w':=j;exact Sat.back (Ps:=AA E rb g (S.mw ma W')++Z) 6 u (by simp[AA])
theorem Yi(H:Sat (AA E rb g S++Z) w){i:Nat}{c:Nat×KS}(v:S.C[i]? =some c): ∃R,Sat (Ej E c.1 g.a.cb c.2::FO E g.a.cb g.a.b g.a.h g.a.s g.a.r S.W::R) w/\(∀{w'},Sat R w'->Sat Z w')/\
  ∀{C':KS} {W':SW} {w'},Sat (Ej E c.1 g.a.cb C'::FO E g.a.cb g.a.b g.a.h g.a.s g.a.r W'::R) w'->Sat (AA E rb g (S.cw i (c.1,C') W')++Z) w':=by
 have h1:Sat (AQ E g.a.b g.a.h g.a.s g.a.r S.W::Cells g.a.cb E.A5 [pv g.a.b]::gX E g.a.cb g.a.cs S.C::(((AA E rb g S++Z).eraseIdx 11).eraseIdx 10).eraseIdx 7) w:=((H.front 11 rfl).BQ 10 rfl).Md 7 rfl;have J:=(h1.Va).front 1 rfl;have Y: ∃j,Sat (Ej E c.1 g.a.cb c.2::FO E g.a.cb g.a.b g.a.h g.a.s g.a.r S.W::j) w/\(∀{w'},Sat j w'->Sat Z w')/\ ∀{C':KS} {W':SW} {w'},Sat (Ej E c.1 g.a.cb C'::FO E g.a.cb g.a.b g.a.h g.a.s g.a.r W'::j) w'->Sat (AA E rb g (S.cw i (c.1,C') W')++Z) w':=by
  have K:=(Sat.pl.1 J).front 1 rfl;have O:=((K.FQ v).BQ 2 rfl);refine⟨_,O,λh=>h.tail.tail.tail.tail.tail.tail.tail.tail.tail.tail.tail,λ{C' W' w'} h=> ?_⟩;have T:=(List.getElem?_eq_some_iff.1 v).1;have q1:=(Sat.Xk (R:=λx:Nat×KS=>Ej E x.1 g.a.cb x.2) (y:=(c.1,C')) (h.BQ 1 rfl) T);have g1:=q1.front 2 rfl;have e:(S.C.set i (c.1,C')).map (λx=>pv x.1)=S.C.map λx=>pv x.1:=by
   rw[Vm];exact Vh (by grind)
  rw[<-e]at g1;have g2:=(Sat.pl (tp:=E.Gn) (R:=λc C=>Ej E c g.a.cb C) (s:=g.a.cs) (L:=S.C.set i (c.1,C'))).2 g1;have g3:=(g2.perm (.swap _ _ _)).VZ;have g4:=Sat.back3 (Ps:=((AA E rb g S++Z).eraseIdx 11).eraseIdx 10) (P':=gX E g.a.cb g.a.cs (S.C.set i (c.1,C'))) 7 g3 (by simp[AA]);have u:Sat (AQ E g.a.b g.a.h g.a.s g.a.r W'::Cells g.a.cb E.A5 [pv g.a.b]::((AA E rb g (S.cw i (c.1,C') W')++Z).eraseIdx 11).eraseIdx 10) w':=g4;have g5:=Sat.OI (Ps:=(AA E rb g (S.cw i (c.1,C') W')++Z).eraseIdx 11) 10 u (by simp[AA]);exact Sat.back (Ps:=AA E rb g (S.cw i (c.1,C') W')++Z) 11 g5 (by simp[AA])
 exact Y
theorem gZ(H:Sat (AA E rb g S++Z) w): ∃R,Sat (F8 E g.a.s S.W.L::R) w/\ ∀{L' w'},Sat (F8 E g.a.s L'::R) w'->Sat (AA E rb g {S with W:={S.W with L:=L'}}++Z) w':=by
 obtain⟨R,h1,_,e⟩:=(H.front 11 rfl:Sat (AQ E g.a.b g.a.h g.a.s g.a.r S.W::_) w).QM;exact⟨R,h1,λ{L' w'} h=>Sat.back (Ps:=AA E rb g S++Z) 11 (e h) (by simp[AA])⟩
theorem bK(H:Sat (AA E rb g S++Z) w)(hI:F5 S){i k:Nat}{x:Nat×Tk}{y:Nat×Ak}(u:S.T[i]? =some x)(hi:i<S.Q.length)(hk:x.2.ask=(k:Int))(hy:S.L[k]? =some y)(O:y.2.op=1){K:World->Prop}
  (hK: ∀w',Sat (AA E rb g {S.tk i (x.1,{x.2 with step:=7})with ho:=(i:Int)}++Z) w'->K w'):F.DV E (sM rb) (sM x.1) K w:=by
 unfold F.DV T0.DV;have J:=(List.getElem?_eq_some_iff.1 u).1;have e:=hI.ti i x u;refine AG ⟨_,Kg H u,AG ?_⟩;rw[e];refine QT H (m:=6) (by decide) rfl λw2 H2=>AG ?_;have H3:Sat (AA E rb g {S with ho:=(i:Int)}++Z) w2:=H2;refine EY (S:={S with ho:=(i:Int)}) H3 u (m:=2) {x.2 with step:=8} rfl (by decide) rfl λw4 H4=> ?_;have j:=H4.drew;have a:(B4.tk {S with ho:=(i:Int)} i (x.1,{x.2 with step:=8})).T[i]? =some (x.1,{x.2 with step:=8}):=List.getElem?_set_self J;have Y:=Oy j;refine Ad (AG ⟨_,Kg (x:=(x.1,{x.2 with step:=8})) j a,AG ⟨_,Lv j (k:=3) rfl,Aa (decide_eq_true (by show x.2.n<_;rw[e];have:S.Q.length=g.qs.len:=Y;omega)) ?_⟩⟩);refine JX j a (k:=k) hk hy λw5 v=>⟨Lv v (k:=3) rfl,Kg (x:=(x.1,{x.2 with step:=8})) v a,λjj=> ?_⟩;rw[O];refine Aa rfl (AG ?_);refine EY v a (m:=2) {x.2 with step:=7} rfl (by decide) rfl λw6 H6=>hK w6 ?_;have e2:B4.tk (B4.tk {S with ho:=(i:Int)} i (x.1,{x.2 with step:=8})) i (x.1,{x.2 with step:=7})={S.tk i (x.1,{x.2 with step:=7})with ho:=(i:Int)}:=by simp[B4.tk]
 grind
theorem bL(hW:EnvW E)(H:Sat (AA E rb g S++Z) w){i:Nat}{x:Nat×Tk}(J:S.T[i]? =some x)(h0:Fg S.W.L (x.2.cls,x.2.np,false,true)=[])(aT: ∀z∈S.W.L,z.Ei=true/\z.kd.2.2.2=true){K:World->Prop}
  (hK: ∀w',Sat (AA E rb g (S.tk i (x.1,{x.2 with step:=6}))++Z) w'->K w'):F.FU E (sM rb) (sM x.1) K w:=by
 unfold F.FU T0.FU;refine AG ⟨_,by rw[add_add];exact K8 H J (k:=4) rfl,_,by rw[add_add];exact K8 H J (k:=5) rfl,_,by rw[add_add];exact K8 H J (k:=6) rfl,_,by rw[add_add];exact K8 H J (k:=7) rfl,?_⟩;refine AJ (vs:=[.int .i64 0,.bool false,.bool false,.int .u64 0]) H λb6 w2 H2 _=>Bm (news:=[.int .i64 x.2.cls,.bool x.2.np,.bool x.2.ti,.int .u64 x.2.pg]) H2 rfl (by intro v hv;simp only[List.mem_cons,List.not_mem_nil,or_false]at hv;rcases hv with rfl|rfl|rfl|rfl<;>rfl) λw3 H3=> ?_;have Y:=H3.drew;have Hr:=E8 Y;refine AG ⟨_,Gx Hr,AG ⟨_,K9 Hr (k:=1) rfl,_,Y.AW (o:=0) rfl,_,Y.cell (o:=0) (m:=1) rfl,?_⟩⟩;obtain⟨R,hs,hb⟩:=gZ Hr;have none_: ∀(full:Bool),Fg S.W.L (x.2.cls,x.2.np,full,false)=[]:=λfull=>by
  refine List.eq_nil_iff_forall_not_mem.2 λz hz=> ?_;obtain⟨h1,h2⟩:=FF.1 hz
  grind
 refine TK hW (k:=(x.2.cls,x.2.np,false,true)) hs (λ_=>⟨Gx Hr,AR rfl ?_⟩) λz r hz=>by grind
 refine AJ (vs:=[.bool false,.bool true]) Y λj w5 H5 _=> ?_;refine AM (λst w'=>(st.1=0∨st.1=1∨st.1=2)/\Sat (Cells j E.Be [.bool false,.bool true]::Cells b6 E.Bt [.int .i64 x.2.cls,.bool x.2.np,.bool x.2.ti,.int .u64 x.2.pg]::(AA E rb g S++Z)) w') (λst _=>(2-st.1).toNat) ⟨.inl rfl,H5⟩ ?_;rintro⟨k,u⟩ _ w6 ⟨hk,H6⟩;dsimp only at hk⊢;have body: ∀(m:Nat) (bb:Bool),k=(m:Int)->m<2->([.bool false,.bool true]:List Value)[m]? =some (.bool bb)-> ∃O:Bool,w6.cell? ((Addr.mk j 0 none).add (Int.toNat k*1))=some (.bool O)/\(O=bb):=λm bb hm aR hv=>⟨bb,by rw[hm,Int.toNat_natCast,Nat.mul_one];exact H6.cell (by grind),rfl⟩;refine AE (λaQ=> ?_) λaO=>AG (EY H6.tail.tail J (m:=2) {x.2 with step:=6} rfl (by decide) rfl λw7 H7=>hK w7 H7);obtain⟨bb,aC⟩: ∃bb:Bool,w6.cell? ((Addr.mk j 0 none).add (Int.toNat k*1))=some (.bool bb):=by grind
 have a:=H6.drew;have e:=E8 a.tail;obtain⟨R6,aD,aN⟩:=gZ e;refine⟨⟨by omega,by omega⟩,bb,aC,AG ⟨_,Gx e,AG ⟨_,K9 e (k:=1) rfl,_,(a.front 1 rfl).AW (o:=0) rfl,_,(a.front 1 rfl).cell (o:=0) (m:=1) rfl,?_⟩⟩⟩;refine TK hW (k:=(x.2.cls,x.2.np,bb,false)) aD (λ_=>⟨Gx e,AR rfl ?_⟩) λz r hz=>by grind
 refine⟨⟨?_,a⟩,?_⟩
 .show i64 (k+1)=0∨i64 (k+1)=1∨i64 (k+1)=2;rw[AI];omega
 .show(2-i64 (k+1)).toNat<(2-k).toNat;rw[AI];omega
end
def HK(n cls pg:Int):Prop:=(n<=32768/\IsC n cls/\pg=(A0 cls).2.1)∨(32768<n/\cls=0/\pg=(n+8191)/8192)
def Rh(n cls:Int):Int:=if cls=0 then(n+8191)/8192*8192 else(A0 cls).1
section
variable{E:Env}{w:World}{Z:List Pr}(hE:Ku E)(hS:EnvS E)
include hE hS
theorem hZ(H:Sat Z w){p n:Int}{set:AY}(h0:16<=n)(h1:n<=1000000){K:Int->Bool->Bool->Int->Int->World->Prop}(hK: ∀cls pg,HK n cls pg-> ∀w',Sat Z w'->K cls true false pg 0 w'):
  F.GO E 1 p n 0 0 0 false 0 ⟨none,0,0⟩ set K w:=by
 unfold F.GO T0.GO;refine AJ (vs:=[.int .i64 1,.int .i64 p,.int .u64 n,.int .u64 0,.int .i64 0,.int .u64 0,.bool false,.int .i64 0,.slice none 0 0,FI set]) H λb1 w2 H2 _=>AJ (vs:=[.int .i64 0,.bool false,.bool false,.int .u64 0]) H2 λb3 w4 O _=> ?_;have C: ∀{X:List Pr} {w'},Sat (Cells b3 E.Bt [.int .i64 0,.bool false,.bool false,.int .u64 0]::Cells b1 E.BN [.int .i64 1,.int .i64 p,.int .u64 n,.int .u64 0,.int .i64 0,.int .u64 0,.bool false,.int .i64 0,.slice none 0 0,FI set]::X) w'->w'.cell? ((Addr.mk b1 0 none).add 2)=some (.int .u64 n)/\w'.cell? ((Addr.mk b1 0 none).add 7)=some (.int .i64 0)/\w'.cell? (((Addr.mk b1 0 none).add 7).add 1)=some (.slice none 0 0):=λh=>
  ⟨(h.front 1 rfl).cell (o:=0) (m:=2) rfl,(h.front 1 rfl).cell (o:=0) (m:=7) rfl,by rw[add_add];exact(h.front 1 rfl).cell (o:=0) (m:=8) rfl⟩
 have O:Sat (Cells b3 E.Bt [.int .i64 0,.bool false,.bool false,.int .u64 0]::Cells b1 E.BN [.int .i64 1,.int .i64 p,.int .u64 n,.int .u64 0,.int .i64 0,.int .u64 0,.bool false,.int .i64 0,.slice none 0 0,FI set]::Z) w4:=O;refine⟨_,(C O).2.1,Ad ⟨_,(C O).1,AR (by simp;omega) ⟨_,(C O).1,AR (decide_eq_false (by omega)) ⟨_,(C O).2.1,AR rfl (AR (by decide) ⟨⟨none,0,0⟩,(C O).2.2,_,(C O).2.1,AR rfl ⟨_,(C O).1,λjj=>AR (decide_eq_false (by show ¬(u64 (8*u64 (LI 0 0))>n);rw[show u64 (8*u64 (LI 0 0))=0 by decide];omega)) ?_⟩⟩)⟩⟩⟩⟩;refine AJ (vs:=[.int .i64 0,.bool false,.bool false,.int .u64 0]) O λb5 w6 H6 _=>Bm (news:=[.int .i64 0,.bool true,.bool false,.int .u64 0]) H6 rfl (by intro v Y;simp only[List.mem_cons,List.not_mem_nil,or_false]at Y;rcases Y with rfl|rfl|rfl|rfl<;>rfl) λw7 T=> ?_;refine⟨⟨none,0,0⟩,(C T.tail).2.2,AM (λst w'=>st=(0,())/\w'=w7) (λ_ _=>0) ⟨rfl,rfl⟩ ?_⟩;rintro _ _ _ ⟨rfl,rfl⟩;refine AR rfl (Ad (Ad ⟨_,T.cell (o:=0) (m:=1) rfl,Aa rfl ⟨_,(C T.tail).1,λjj=>AR (decide_eq_false (by omega)) ⟨_,(C T.tail).1,AE (λhle=> ?_) λaN=> ?_⟩⟩⟩))
 .obtain⟨k,hk⟩:=tR hle;have aO:=hk.k0;have aB:=hk.k1;refine⟨_,(C T.tail).1,?_⟩;rw[AI (n:=n)];refine YZ hS hE.of1 T (by omega) hle hk λw8 H8=> ?_;refine Bc H8 (o:=0) rfl (by simp) λw9 H9 jj=>⟨_,H9.drew.AW (o:=0) rfl,?_⟩;refine QD H9.drew λr aQ J=>⟨(J.front 1 rfl).AW (o:=0) rfl,?_⟩;have hl:=J.Og (by decide) Bp;rw[NS]at hl;obtain⟨x,hx⟩:=J.RN (by decide) Bp (i:=(k:Int).toNat) (by rw[NS];omega);have aM:=RO (c:=k) (by omega) aB;rw[hx];refine AG ⟨⟨by omega,by omega⟩,_,by rw[add_add];exact J.JA Bp hx (Ma (by omega) aB) (j:=1) rfl,?_⟩;rw[AP (n:=(A0 (k:Int)).2.1)];refine Af (J.front 1 rfl) (o:=0) (m:=3) rfl (by simp) λaD a=> ?_;refine⟨_,a.cell (o:=0) (m:=0) rfl,_,a.cell (o:=0) (m:=1) rfl,_,a.cell (o:=0) (m:=2) rfl,_,a.cell (o:=0) (m:=3) rfl,?_⟩;refine Bm (news:=[.int .i64 (k:Int),.bool true,.bool false,.int .u64 (A0 (k:Int)).2.1]) (a.front 2 rfl) rfl (by intro v Y;simp only[List.mem_cons,List.not_mem_nil,or_false]at Y;rcases Y with rfl|rfl|rfl|rfl<;>rfl) λaA u=> ?_;exact⟨_,u.cell (o:=0) (m:=0) rfl,_,u.cell (o:=0) (m:=1) rfl,_,u.cell (o:=0) (m:=2) rfl,_,u.cell (o:=0) (m:=3) rfl,hK _ _ (.inl ⟨hle,hk,rfl⟩) aA u.tail.tail.tail.tail⟩
 .have e:u64 (Int.tdiv (u64 ((u64 (n+8192))-1)) 8192)=(n+8191)/8192:=by
   rw[AP (n:=n+8192),AP (n:=n+8192-1),Int.tdiv_eq_ediv_of_nonneg (by omega),AP,show n+8192-1=n+8191 by omega]
  refine⟨_,(C T.tail).1,by decide,?_⟩;rw[e];refine Af T (o:=0) (m:=3) rfl (by simp) λaD a=> ?_;refine⟨_,a.cell (o:=0) (m:=0) rfl,_,a.cell (o:=0) (m:=1) rfl,_,a.cell (o:=0) (m:=2) rfl,_,a.cell (o:=0) (m:=3) rfl,?_⟩;refine Bm (news:=[.int .i64 0,.bool true,.bool false,.int .u64 ((n+8191)/8192)]) (a.front 1 rfl) rfl (by intro v Y;simp only[List.mem_cons,List.not_mem_nil,or_false]at Y;rcases Y with rfl|rfl|rfl|rfl<;>rfl) λaA u=> ?_;exact⟨_,u.cell (o:=0) (m:=0) rfl,_,u.cell (o:=0) (m:=1) rfl,_,u.cell (o:=0) (m:=2) rfl,_,u.cell (o:=0) (m:=3) rfl,hK _ _ (.inr ⟨by omega,rfl,rfl⟩) aA u.tail.tail.tail⟩
end
theorem Ra.elem8{x:SI}(h:Ra x):x.elem %8=0:=by
 have:=h.el;by_cases e:x.cls=0
 .omega
 .rw[if_neg e]at this;have a:=h.cls;have:=Ll (c:=x.cls) (by omega) (by omega);omega
section
variable{E:Env}{w:World}{Z:List Pr}{W:SW}{U M:Aq}{A:vE}{dead:Bool}{ma cy:Int}
theorem zJ.at8{id:Int}{n:Nat}{x:Nat×SI}(h:zJ W U id n x)(hI:Ae W U M):(0<=x.2.base+n*x.2.elem/\(x.2.base+n*x.2.elem) %8=0)/\(x.2.elem %8=0/\0<x.2.elem/\x.2.elem<=1099511627776)/\x.2.base+n*x.2.elem+x.2.elem<=281474976710656:=by
 have e:=(hI.sp id x h.sp).1;have T:=e.size;have j:=e.elem8;have K:=e.ba;obtain⟨h1,u,v,J⟩:=inB.Wq e h.lt (a:=x.2.base+n*x.2.elem+x.2.elem-1) ⟨by omega,by omega⟩;have hm:(n*x.2.elem:Int) %8=0:=by rw[Int.mul_emod,j,Int.mul_zero];rfl
 have O:0<=(n*x.2.elem:Int):=Int.mul_nonneg (by omega) (by omega);omega
theorem Ri(hS:EnvS E)(H:Sat (Ou E A dead ma cy::AQ E A.b A.h A.s A.r W::Iz E A.mq::Z) w)(hI:Ae W U M){id:Int}{n:Nat}{x:Nat×SI}(Y:zJ W U id n x){op p nn cls pg:Int}{set:AY}{K:Int->Int->Int->World->Prop}
  (hK: ∀w',Sat (Ou E A dead (u64 (ma+1)) cy::AQ E A.b A.h A.s A.r W::Iz E A.mq::Z) w'->K (x.2.base+n*x.2.elem) x.2.elem 0 w'):F.Bo E (sM A.m) op p nn 0 0 0 false 0 ⟨none,0,0⟩ set cls true false pg (x.2.base+n*x.2.elem) K w:=by
 unfold F.Bo T0.Bo;obtain⟨⟨a0,a8⟩,⟨e8,e0,e1⟩,hb⟩:=Y.at8 hI;refine AJ (vs:=[.int .i64 op,.int .i64 p,.int .u64 nn,.int .u64 0,.int .i64 0,.int .u64 0,.bool false,.int .i64 0,.slice none 0 0,FI set]) H λb1 w2 H2 _=>AJ (vs:=[.int .i64 cls,.bool true,.bool false,.int .u64 pg]) H2 λO w4 H4 _=>AJ (vs:=[.int .u64 0,.int .u64 0,.int .i64 0]) H4 λT w6 H6 _=> ?_;have J:Sat (Ou E A dead ma cy::AQ E A.b A.h A.s A.r W::Iz E A.mq::Cells T E.CT [.int .u64 0,.int .u64 0,.int .i64 0]::Cells O E.Bt [.int .i64 cls,.bool true,.bool false,.int .u64 pg]::Cells b1 E.BN [.int .i64 op,.int .i64 p,.int .u64 nn,.int .u64 0,.int .i64 0,.int .u64 0,.bool false,.int .i64 0,.slice none 0 0,FI set]::Z) w6:=
  ((H6.front 3 rfl).BQ 3 rfl).Md 3 rfl
 refine AG ⟨_,J.cell (o:=0) (m:=10) rfl,AG (Af J (o:=0) (m:=10) rfl (by simp[K7]) λw7 j=> ?_)⟩;have j:Sat (Ou E A dead (u64 (ma+1)) cy::AQ E A.b A.h A.s A.r W::Iz E A.mq::Cells T E.CT [.int .u64 0,.int .u64 0,.int .i64 0]::Cells O E.Bt [.int .i64 cls,.bool true,.bool false,.int .u64 pg]::Cells b1 E.BN [.int .i64 op,.int .i64 p,.int .u64 nn,.int .u64 0,.int .i64 0,.int .u64 0,.bool false,.int .i64 0,.slice none 0 0,FI set]::Z) w7:=j;refine bC j hI Y ⟨by omega,by omega⟩ λw8 e=> ?_;refine Ad (Ad ⟨_,(e.front 5 rfl).cell (o:=0) (m:=6) rfl,AR rfl ⟨_,(e.front 4 rfl).cell (o:=0) (m:=2) rfl,λjj=>AR rfl λjk=> ?_⟩⟩);refine Ad ⟨_,(e.front 4 rfl).cell (o:=0) (m:=1) rfl,Aa rfl (AG ⟨_,e.cell (o:=0) (m:=7) rfl,?_⟩)⟩;refine Ve hS (e.front 2 rfl) a0 a8 e8 e0 e1 hb λw9 H9 jj=> ?_;refine Bm (news:=[.int .u64 (x.2.base+n*x.2.elem),.int .u64 x.2.elem,.int .i64 0]) (H9.front 3 rfl) rfl (by intro v hv;simp only[List.mem_cons,List.not_mem_nil,or_false]at hv;rcases hv with rfl|rfl|rfl<;>rfl) λu a=> ?_;refine⟨_,a.cell (o:=0) (m:=0) rfl,_,a.cell (o:=0) (m:=1) rfl,_,a.cell (o:=0) (m:=2) rfl,hK u ?_⟩;have h:=a.tail;exact(((((h.front 3 rfl).tail).front 3 rfl).tail).front 1 rfl).BQ 1 rfl
end
def bM(W:SW)(C:KS):Prop:= ∀k np,C.held k np=0∨(0<C.held k np/\(∃y,W.S.sp (C.held k np)=some y/\y.2.cls=k/\y.2.Eh=np)/\ ∀x∈W.L,x.id≠C.held k np)
structure zR(W:SW):Prop where
 sw: ∀x∈W.L,x.Ei=true
 kd: ∀x∈W.L,∃y,W.S.sp x.id=some y/\x.kd=(y.2.cls,y.2.Eh,y.2.used==y.2.AO,true)
 Lj:W.Lj=0
 rp:0<=W.Gd
 ch:0<=W.Bq/\W.Bq<18446744073709551616
theorem zR.uF{W e:SW}{C:KS}{k:Int}{np:Bool}(h:zR W)(j:SU W C k np e):zR e:=by
 rcases j with ⟨_,rfl⟩|⟨_,y,EC,v,u,rfl⟩
 .exact h
 .refine⟨λx a=> ?_,λx a=> ?_,h.Lj,h.rp,h.ch⟩
  .rcases(DY).1 a with rfl|a
   .rfl
   .exact h.sw x a
  .rcases(DY).1 a with rfl|a
   .grind
   .exact h.kd x a
section
variable{E:Env}{w:World}{Z:List Pr}{c cb b h s r:Nat}{C:KS}{W:SW}{U M:Aq}
variable(hE:EnvK E)
include hE
end
def SW.take(W:SW)(id:Int)(x:Nat×SI)(uw:List Int)(n:Nat):SW:={W with S:=W.S.put id (x.1,{x.2 with uw:=uw,used:=x.2.used+1,look:=(n:Int)+1})}
def Aq.take(U:Aq)(id:Int)(n:Nat):Aq:=U.set id λi=>U id i||i==n
theorem bM.uG{W:SW}{C:KS}(h:bM W C)(k:Int)(np:Bool):Vc W C k np:=by
 rcases h k np with h0|⟨h1,⟨y,e,_⟩,a⟩
 .exact .inl h0
 .exact .inr ⟨h1,y,e,a⟩
theorem zS{S:SI}{U M:Nat->Bool}(h:Rr S U M)(a: ∀i:Nat,(i:Int)<S.AO->U i=true):S.used=S.AO:=by
 have:=h.sl;rw[h.cnt,sN λi hi=>a i (by omega)];omega
theorem Vo{W a:SW}{C:KS}{k:Int}{np:Bool}(h:SU W C k np a):a.S=W.S/\a.Lj=W.Lj/\a.Bq=W.Bq/\a.Gd=W.Gd/\a.R=W.R:=by
 rcases h with ⟨_,rfl⟩|⟨_,y,EC,j,e,rfl⟩<;>exact⟨rfl,rfl,rfl,rfl,rfl⟩
section
variable{E:Env}{w:World}{Z:List Pr}{c cb b h s r:Nat}{C:KS}{W:SW}{U M:Aq}
variable(hE:EnvK E)
include hE
end
def KS.zT(C:KS):KS:={C with zG:=0,X4:=0}
section
variable{E:Env}{w:World}{Z:List Pr}{c cb b h s r:Nat}{C:KS}{W:SW}{U M:Aq}
theorem bN(H:Sat (Ej E c cb C::Z) w){k:Int}{np:Bool}(h0:C.held k np=0){K:World->Prop}(e: ∀w',Sat (Ej E c cb C::Z) w'->K w'):F.Bj E (sM c) k np K w:=by
 unfold F.Bj T0.Bj;refine Ot H λj a=> ?_;rw[h0];exact AR rfl (e j a)
variable(hE:EnvK E)
include hE
theorem Yj{k0:Int}{a:Bool}(hk:0<k0/\k0<68)(H:Sat (Ej E c cb C::FO E cb b h s r W::Z) w)(hI:Ae W U M)(hf:W.L.length<1099511627776)(ho: ∀k np,¬(k=k0/\np=a)->C.held k np=0)(hH:Vc W C k0 a){K:Int->World->Prop}
  (hK: ∀v,SU W C k0 a v->Ae v U M-> ∀w',Sat (Ej E c cb (C.hold k0 a 0).zT::FO E cb b h s r v::Z) w'->K 0 w'):F.Dg E (sM c) K w:=by
 unfold F.Dg T0.Dg
 let Q:Prop->World->List Pr->Prop:=λp w' Y=> ∃v J,((p/\SU W C k0 a v/\J=C.hold k0 a 0)∨(¬p/\v=W/\J=C))/\Ae v U M/\Sat (Ej E c cb J::FO E cb b h s r v::Y) w'
 have T: ∀{p q:Prop} {v:SW} {J:KS},(p↔q)->((p/\SU W C k0 a v/\J=C.hold k0 a 0)∨(¬p/\v=W/\J=C))->((q/\SU W C k0 a v/\J=C.hold k0 a 0)∨(¬q/\v=W/\J=C)):=λh hq=>by grind
 refine AM (λst w'=> ∃i:Nat,st.1=(i:Int)/\i<=68/\Q (k0<(i:Int)) w' Z) (λst _=>(68-st.1).toNat) ⟨0,rfl,by decide,W,C,.inr ⟨by omega,rfl,rfl⟩,hI,H⟩ ?_;rintro⟨i',u⟩ _ w2 ⟨i,hi,aZ,v,J,hq,aD,H0⟩;dsimp only at hi⊢;subst hi;refine AE (λa4=> ?_) λaY=> ?_
 .refine AJ (vs:=[.bool false,.bool true]) H0 λb4 w5 H5 _=> ?_;refine AM (λst w'=> ∃j:Nat,st.1=(j:Int)/\j<=2/\Q (k0<(i:Int)∨(k0=(i:Int)/\(if a=true then 1 else 0)<j)) w' (Cells b4 E.Be [.bool false,.bool true]::Z)) (λst _=>(2-st.1).toNat) ⟨0,rfl,by decide,v,J,T (by omega) hq,aD,(H5.front 2 rfl).front 2 rfl⟩ ?_;rintro⟨j',u⟩ _ w7 ⟨j,hj,a0,W1,C1,O,aA,H7⟩;dsimp only at hj⊢;subst hj;refine AE (λaS=> ?_) λaP=> ?_
  .have hx: ∃np:Bool,[Value.bool false,.bool true][j]? =some (.bool np)/\j=(if np=true then 1 else 0):=by grind
   obtain⟨np,a6,a1⟩:=hx;refine⟨⟨by omega,by omega⟩,np,by rw[Int.toNat_natCast,Nat.mul_one];exact(H7.front 2 rfl).cell (by grind),?_⟩;have aJ:i64 ((j:Int)+1)=((j+1:Nat):Int):=by rw[AI];rfl
   have same: ∀{w'},¬((i:Int)=k0/\np=a)->Sat (Ej E c cb C1::FO E cb b h s r W1::Cells b4 E.Be [.bool false,.bool true]::Z) w'->(∃aB:Nat,i64 ((j:Int)+1)=(aB:Int)/\aB<=2/\Q (k0<(i:Int)∨(k0=(i:Int)/\(if a=true then 1 else 0)<aB)) w' (Cells b4 E.Be [.bool false,.bool true]::Z))/\(2-i64 ((j:Int)+1)).toNat<(2-(j:Int)).toNat:=λ{w'} hne h'=>by
    rw[aJ];refine⟨⟨j+1,rfl,by omega,W1,C1,T ?_ O,aA,h'⟩,by omega⟩
    grind
   by_cases e:(i:Int)=k0/\np=a
   .obtain⟨e1,e2⟩:=e;subst e2;rcases O with ⟨hp,_⟩|⟨_,rfl,rfl⟩
    .omega
    .rw[e1];refine Vd hE H7 aA hk hf hH λW2 a3 aV w8 H8=> ?_
     grind
   .have h0:C1.held i np=0:=by
     rcases O with ⟨_,_,rfl⟩|⟨_,_,rfl⟩
     .rw[KD C hk.1 (λg=>e g)]
      grind
     grind
    exact bN H7 h0 λw8 H8=>same e H8
  .have aI:i64 ((i:Int)+1)=((i+1:Nat):Int):=by rw[AI];rfl
   rw[aI];refine⟨⟨i+1,rfl,by omega,W1,C1,T ?_ O,aA,((H7.front 2 rfl).tail)⟩,by omega⟩
   grind
 .rcases hq with ⟨_,hl,rfl⟩|⟨a5,_⟩
  .have H':Sat (Cells c E.GW (Gj cb (C.hold k0 a 0))::FO E cb b h s r v::Z) w2:=H0;refine AG (Af H' (o:=0) rfl (by rw[gQ];decide) λw9 H9=>AG ?_);rw[Nat.zero_add,gR]at H9;refine Af H9 (o:=0) rfl (by rw[gQ];decide) λaL aC=> ?_;rw[Nat.zero_add,gS]at aC;exact hK v hl aD aL aC
  omega
end
theorem bM.ne{W:SW}{C D:KS}(h:bM W C)(u:bM W D){k j:Int}{np a:Bool}(v: ¬(j=k/\a=np))(h0:C.held k np≠0):D.held j a≠C.held k np:=by
 intro e;rcases h k np with g|⟨_,⟨y,Y,J,K⟩,_⟩
 .simp_all
 rcases u j a with g|⟨_,⟨z,hz,O,T⟩,_⟩
 .omega
 grind
section
variable{E:Env}{w:World}{Z:List Pr}{c cb b h s r:Nat}{C D:KS}{W:SW}{U M:Aq}
variable(hE:EnvK E)
include hE
end
theorem T1{p:Addr}{i:Nat}{v:Value}{r:List Value}{w:World}{K:World->Prop}(h:stCells (p.add i) 0 [v] w λw'=>stCells p (i+1) r w' K):stCells p i (v::r) w K:=by
 simp only[stCells,add_zero]at h⊢;exact h
def SW.JY(W:SW)(id:Int)(x:Nat×SI)(uw:List Int)(EC:Nat):SW:={W.take id x uw 0 with L:=HJ W.L ⟨EC,id,x.2.base,(x.2.cls,x.2.Eh,x.2.used+1==x.2.AO,true)⟩}
def Tk.want(t:Tk)(cls pg st:Int):Tk:={t with cls:=cls,np:=true,ti:=false,pg:=pg,step:=st}
section
variable{E:Env}{w:World}{Z:List Pr}{W:SW}{U M:Aq}{A:vE}{dead:Bool}{ma cy:Int}
theorem iA(hS:EnvW E)(hT: ∀w',Sat Z w'->Ec E.AH w')(H:Sat (Ou E A dead ma cy::AQ E A.b A.h A.s A.r W::Z) w)(hI:Ae W U M){id:Int}{x:Nat×SI}(hx:W.S.sp id=some x)(hs:x.2.AO=1)(hu:U id 0=false)(O: ∀y∈W.L,y.id≠id)(hf:W.L.length<1099511627776){K:Int->World->Prop}
  (hK: ∀uw EC,Ae (W.JY id x uw EC) (U.take id 0) M-> ∀w',Sat (Ou E A dead ma cy::AQ E A.b A.h A.s A.r (W.JY id x uw EC)::Z) w'->K x.2.base w'):F.DG E (sM A.m) id K w:=by
 unfold F.DG T0.DG;have J: ∀w',Sat (Ou E A dead ma cy::Z) w'->Ec E.AH w':=λw' h=>hT w' h.tail;refine AG ⟨_,H.AW rfl,ML (H.front 1 rfl) (λj=>by rw[hx]at j;cases j) λy hy=> ?_⟩;obtain rfl:y=x:=Option.some.inj (hy.symm.trans hx);refine TM J (H.front 1 rfl) hI hy (λY=>by grind) λn uw j _ _ u w3 T=> ?_;obtain rfl:n=0:=by omega
 have a:(W.S.put id (y.1,{y.2 with uw:=uw,used:=y.2.used+1,look:=((0:Nat):Int)+1})).sp id=some (y.1,{y.2 with uw:=uw,used:=y.2.used+1,look:=((0:Nat):Int)+1}):=HS.F9;refine AG ⟨_,(T.front 1 rfl:Sat (Ou E A dead ma cy::_) _).cell (o:=0) (m:=3) rfl,?_⟩;refine QO hS T u hf (λj=>by grind) (λ_ ⟨z,hz,e⟩=>absurd e (O z hz)) λz hz _ EC v w4 H4=> ?_;rw[a]at hz;cases hz;refine JW H4 (x:=(y.1,{y.2 with uw:=uw,used:=y.2.used+1,look:=((0:Nat):Int)+1})) a λw5 H5=>hK uw EC v w5 (H5.front 1 rfl)
end
section
variable{E:Env}{rb:Nat}{g:Nu}{S:B4}{Z:List Pr}{w:World}
theorem zU(H:Sat (AA E rb g S++Z) w){i:Nat}{x:Nat×Tk}(j:S.T[i]? =some x){cls pg:Int}{K:World->Prop}
  (O: ∀w',Sat (AA E rb g (S.tk i (x.1,x.2.want cls pg x.2.step))++Z) w'->K w'):stCells ((Addr.mk x.1 0 none).add 4) 0 [.int .i64 cls,.bool true,.bool false,.int .u64 pg] w K:=by
 have a:=(List.getElem?_eq_some_iff.1 j).1;refine T1 ?_;rw[add_add];refine EY H j (m:=4) {x.2 with cls:=cls} rfl (by decide) rfl λw2 u=>T1 ?_;rw[add_add];refine EY u (x:=(x.1,{x.2 with cls:=cls})) (List.getElem?_set_self a) (m:=5) {x.2 with cls:=cls,np:=true} rfl (by decide) rfl λw3 v=>T1 ?_;rw[add_add];refine EY v (x:=(x.1,{x.2 with cls:=cls,np:=true})) (List.getElem?_set_self (by simpa[B4.tk]using a)) (m:=6) {x.2 with cls:=cls,np:=true,ti:=false} rfl (by decide) rfl λw4 J=>T1 ?_;rw[add_add];refine EY J (x:=(x.1,{x.2 with cls:=cls,np:=true,ti:=false})) (List.getElem?_set_self (by simpa[B4.tk]using a)) (m:=7) {x.2 with cls:=cls,np:=true,ti:=false,pg:=pg} rfl (by decide) rfl λY H5=>gL (O Y ?_);have e:B4.tk (B4.tk (B4.tk (B4.tk S i (x.1,{x.2 with cls:=cls})) i (x.1,{x.2 with cls:=cls,np:=true})) i (x.1,{x.2 with cls:=cls,np:=true,ti:=false})) i (x.1,{x.2 with cls:=cls,np:=true,ti:=false,pg:=pg})=S.tk i (x.1,x.2.want cls pg x.2.step):=by simp[B4.tk,Tk.want]
 grind
end
def iB(S:B4)(U M:Aq)(i:Nat)(c:Nat×KS)(cls:Int)(a:SW)(e:List (Nat×KS)):Prop:=(cls=0/\a=S.W/\e=S.C)∨
 (0<cls/\(∀z,S.W.S.sp (c.2.held cls true)=some z-> ∀j:Nat,(j:Int)<z.2.AO->U (c.2.held cls true) j=true)/\SU S.W c.2 cls true a/\Ae a U M/\e=S.C.set i (c.1,c.2.hold cls true 0))
def SW.Nd(W:SW)(n:Int):SW:={W with Bq:=Lm W.Bq n}
section
variable{E:Env}{rb:Nat}{g:Nu}{S:B4}{Z:List Pr}{w:World}{U M:Aq}
theorem Ku.toS(hE:Ku E):EnvS E:=hE.toEnvK.toEnvC.toEnvW.toEnvA.toEnvS
theorem HK.Wq{n cls pg:Int}(h:HK n cls pg)(h0:16<=n)(h1:n<=1000000):(0<=cls/\cls<68)/\1<=pg/\pg<=130:=by
 rcases h with ⟨_,a,rfl⟩|⟨g,rfl,rfl⟩
 .have h0:=a.k0;have h1:=a.k1;have e:=Ll (c:=cls) (by omega) h1;have j:=zQ (c:=cls) (by omega) h1;omega
 .omega
theorem bO(hE:Ku E)(hT: ∀w',Sat Z w'->Ec E.AH w')(H:Sat (AA E rb g S++Z) w)(bD:F5 S){i k:Nat}{x:Nat×Tk}{y:Nat×Ak}{c:Nat×KS}(hx:S.T[i]? =some x)(hk:x.2.ask=(k:Int))(hy:S.L[k]? =some y)(bJ:y.2.op=1)
  (h0:16<=y.2.n)(h1:y.2.n<=1000000)(hc:S.C[i]? =some c)(hI:Ae S.W U M)(b6:0<=S.W.Bq/\S.W.Bq<18446744073709551616)(hf:S.W.L.length<1099511627776)(hH: ∀k,Vc S.W c.2 k true)(aS:S.ord.length<1000000){K:World->Prop}
  (hA: ∀cls pg,HK y.2.n cls pg->0<cls-> ∀z (m:Nat) uw,S.W.S.sp (c.2.held cls true)=some z->(m:Int)<z.2.AO->U (c.2.held cls true) m=false->Ae (S.W.take (c.2.held cls true) z uw m) (U.take (c.2.held cls true) m) M->
   ∀g' w',Sat (AA E rb g' (((S.tk i (x.1,x.2.want cls pg x.2.step)).mw (u64 (S.ma+1)) (S.W.take (c.2.held cls true) z uw m)).done i (x.1,x.2.want cls pg x.2.step) k y (z.2.base+m*z.2.elem) z.2.elem 0)++Z) w'->K w')
  (hB: ∀cls pg u Cl,HK y.2.n cls pg->iB S U M i c cls u Cl-> ∀w',Sat (AA E rb g {S.tk i (x.1,x.2.want cls pg 2)with C:=Cl,W:=u.Nd (pg*8192)}++Z) w'->K w'):
  F.Ep E (sM rb) (sM x.1) K w:=by
 unfold F.Ep T0.Ep;have bH:=(List.getElem?_eq_some_iff.1 hx).1;have bI:=bD.ti i x hx;refine JX H hx hk hy λw2 H2=> ?_;rw[bJ];refine AJ (vs:=[.int .i64 0,.int .i64 0,.int .u64 0,.int .u64 0,.int .i64 0,.int .u64 0,.bool false,.int .i64 0,.slice none 0 0,.slice none 0 0]) H2 λa8 w3 H3 _=> ?_;refine Bm (news:=[.int .i64 1,.int .i64 y.2.p,.int .u64 y.2.n,.int .u64 0,.int .i64 0,.int .u64 0,.bool false,.int .i64 0,.slice none 0 0,FI y.2.set]) H3 rfl (by intro v hv;simp only[List.mem_cons,List.not_mem_nil,or_false]at hv;rcases hv with rfl|rfl|rfl|rfl|rfl|rfl|rfl|rfl|rfl|rfl<;>rfl) λw4 H4=> ?_;refine⟨_,H4.cell (o:=0) (m:=0) rfl,_,H4.cell (o:=0) (m:=1) rfl,_,H4.cell (o:=0) (m:=2) rfl,_,H4.cell (o:=0) (m:=3) rfl,_,H4.cell (o:=0) (m:=4) rfl,_,H4.cell (o:=0) (m:=5) rfl,_,H4.cell (o:=0) (m:=6) rfl,_,H4.cell (o:=0) (m:=7) rfl,⟨none,0,0⟩,H4.cell (o:=0) (m:=8) rfl,y.2.set,H4.cell (o:=0) (m:=9) rfl,?_⟩;refine hZ hE hE.toS H4 h0 h1 λcls pg hw w5 H5=> ?_;obtain⟨⟨c0,c1⟩,p0,p1⟩:=hw.Wq h0 h1;refine AJ (vs:=[.int .i64 0,.bool false,.bool false,.int .u64 0]) H5 λaL w6 H6 _=> ?_;refine Bm (news:=[.int .i64 cls,.bool true,.bool false,.int .u64 pg]) H6 rfl (by intro v hv;simp only[List.mem_cons,List.not_mem_nil,or_false]at hv;rcases hv with rfl|rfl|rfl|rfl<;>rfl) λw7 H7=>AR rfl ?_;refine⟨_,H7.cell (o:=0) (m:=0) rfl,_,H7.cell (o:=0) (m:=1) rfl,_,H7.cell (o:=0) (m:=2) rfl,_,H7.cell (o:=0) (m:=3) rfl,AG ?_⟩;have mv: ∀{A B:Pr} {L Y:List Pr} {w'},Sat (A::B::(L++Y)) w'->Sat (L++A::B::Y) w':=λh=>h.perm ((List.perm_middle.trans (List.perm_middle.cons _)).symm)
 let WA:Pr:=Cells aL E.Bt [.int .i64 cls,.bool true,.bool false,.int .u64 pg]
 let CA:Pr:=Cells a8 E.BN [.int .i64 1,.int .i64 y.2.p,.int .u64 y.2.n,.int .u64 0,.int .i64 0,.int .u64 0,.bool false,.int .i64 0,.slice none 0 0,FI y.2.set]
 have bE: ∀{R:List Pr},(∀{w'},Sat R w'->Sat (WA::CA::Z) w')-> ∀w',Sat R w'->Ec E.AH w':=λh w' h'=>hT w' (h h').tail.tail;have H8:Sat (AA E rb g S++WA::CA::Z) w7:=mv H7;refine zU H8 hx λw8 H9=> ?_;have aM:(S.tk i (x.1,x.2.want cls pg x.2.step)).T[i]? =some (x.1,x.2.want cls pg x.2.step):=List.getElem?_set_self bH;have Hd:=H9.drew;obtain⟨q,hq,bF⟩:=(Hd.front 7 rfl:Sat (gX E g.a.cb g.a.cs S.C::_) _).Kw hc;have b7:=(Hd.front 7 rfl:Sat (gX E g.a.cb g.a.cs S.C::_) _).Jp;have bS:=(List.getElem?_eq_some_iff.1 hc).1;refine AG ⟨_,Gx Hd,AG ⟨_,K9 Hd (k:=4) rfl,AG ⟨x.2.n,Kg (x:=(x.1,x.2.want cls pg x.2.step)) Hd aM,?_⟩⟩⟩;rw[bI];refine Ij hq ⟨⟨by omega,by omega⟩,_,by rw[aD,Int.toNat_natCast,Nat.mul_one];exact bF,?_⟩;refine Ad ⟨_,(Hd.front 12 rfl:Sat (WA::_) _).cell (o:=0) (m:=2) rfl,AR rfl λjj=> ?_⟩;refine AV (λ_ w'=> ∃u Cl,iB S U M i c cls u Cl/\Sat (AA E rb g {S.tk i (x.1,x.2.want cls pg x.2.step)with C:=Cl,W:=u}++WA::CA::Z) w') ?_ ?_
 .refine⟨_,(Hd.front 12 rfl:Sat (WA::_) _).AW (o:=0) rfl,AE (λaF=> ?_) λbU=>⟨S.W,S.C,.inl ⟨by omega,rfl,rfl⟩,Hd⟩⟩;refine⟨_,(Hd.front 12 rfl:Sat (WA::_) _).AW (o:=0) rfl,_,(Hd.front 12 rfl:Sat (WA::_) _).cell (o:=0) (m:=1) rfl,?_⟩;obtain⟨R,HR,aT,aA⟩:=Yi Hd hc;have none_:(∀z,S.W.S.sp (c.2.held cls true)=some z-> ∀j:Nat,(j:Int)<z.2.AO->U (c.2.held cls true) j=true)-> ∀w',Sat (Ej E c.1 g.a.cb c.2::FO E g.a.cb g.a.b g.a.h g.a.s g.a.r S.W::R) w'->
    ∃aW:Int,w'.cell? (Addr.mk aL 0 none)=some (.int .i64 aW)/\ ∃aX:Bool,w'.cell? ((Addr.mk aL 0 none).add 1)=some (.bool aX)/\
    F.Bj E (sM c.1) aW aX (λbP=> ∃u Cl,iB S U M i c cls u Cl/\Sat (AA E rb g {S.tk i (x.1,x.2.want cls pg x.2.step)with C:=Cl,W:=u}++WA::CA::Z) bP) w':=λaR w' H'=>by
   have Hc:=aA H';refine⟨_,(Hc.front 12 rfl:Sat (WA::_) _).AW (o:=0) rfl,_,(Hc.front 12 rfl:Sat (WA::_) _).cell (o:=0) (m:=1) rfl,?_⟩;refine Vd hE.toEnvK H' hI ⟨aF,c1⟩ hf (hH cls) λu hl bC cC a1=>⟨u,_,.inr ⟨aF,aR,hl,bC,rfl⟩,aA a1⟩
  refine bB (bE aT) HR hI (λhn w' H'=>AR rfl (none_ (λz hz=>by have h:=hz.symm.trans hn;cases h) w' H')) (λz hz bR w' H'=>AR rfl (none_ (λz' bL=>by have h:=bL.symm.trans hz;grind) w' H')) λz m uw hz hm hu _ aQ w' H'=>Aa rfl ?_;have Hc:=aA H';have bK:S.C.set i (c.1,c.2)=S.C:=Vh hc;have aP:Sat (AA E rb g ((S.tk i (x.1,x.2.want cls pg x.2.step)).mw S.ma (S.W.take (c.2.held cls true) z uw m))++WA::CA::Z) w':=by
   have e:B4.cw (S.tk i (x.1,x.2.want cls pg x.2.step)) i (c.1,c.2) (S.W.take (c.2.held cls true) z uw m)=(S.tk i (x.1,x.2.want cls pg x.2.step)).mw S.ma (S.W.take (c.2.held cls true) z uw m):=by
    unfold B4.cw B4.mw B4.tk
    grind
   exact(congrArg (λs=>Sat (AA E rb g s++WA::CA::Z) w') e).mp Hc
  refine Ad ⟨_,(aP.front 12 rfl:Sat (WA::_) _).cell (o:=0) (m:=2) rfl,AR rfl λjk=>AG ?_⟩;have J:=aP.drew;have CC:=λ(m:Nat) (v:Value) (h:[Value.int .i64 1,.int .i64 y.2.p,.int .u64 y.2.n,.int .u64 0,.int .i64 0,.int .u64 0,.bool false,.int .i64 0,.slice none 0 0,FI y.2.set][0+m]? =some v)=>(J.front 13 rfl:Sat (CA::_) _).cell (o:=0) (m:=m) h;refine⟨_,Gx J,_,CC 0 _ rfl,_,CC 1 _ rfl,_,CC 2 _ rfl,_,CC 3 _ rfl,_,CC 4 _ rfl,_,CC 5 _ rfl,_,CC 6 _ rfl,_,CC 7 _ rfl,⟨none,0,0⟩,CC 8 _ rfl,y.2.set,CC 9 _ rfl,?_⟩;refine⟨_,(J.front 12 rfl:Sat (WA::_) _).cell (o:=0) (m:=0) rfl,_,(J.front 12 rfl:Sat (WA::_) _).cell (o:=0) (m:=1) rfl,_,(J.front 12 rfl:Sat (WA::_) _).cell (o:=0) (m:=2) rfl,_,(J.front 12 rfl:Sat (WA::_) _).cell (o:=0) (m:=3) rfl,?_⟩;obtain⟨R3,a7,_,aI⟩:=SV J;have hB:zJ (S.W.take (c.2.held cls true) z uw m) (U.take (c.2.held cls true) m) (c.2.held cls true) m (z.1,{z.2 with uw:=uw,used:=z.2.used+1,look:=(m:Int)+1}):=⟨HS.F9,hm,by unfold Aq.take;rw[Aq.KB];simp⟩;refine Ri hE.toS a7 aQ hB λw9 H9=> ?_;refine Jr (aI H9) aS (x:=(x.1,x.2.want cls pg x.2.step)) aM hk hy λg' bM aK=> ?_;exact hA cls pg hw aF z m uw hz hm hu aQ g' bM ((aK.front 12 rfl).tail.front 12 rfl).tail
 .rintro _ _ w9 ⟨u,Cl,hL,aK⟩;have O:=aK.drew;refine AG ⟨_,Gx O,AG ⟨_,K9 O (k:=3) rfl,_,(O.front 12 rfl:Sat (WA::_) _).cell (o:=0) (m:=0) rfl,_,(O.front 12 rfl:Sat (WA::_) _).cell (o:=0) (m:=1) rfl,_,(O.front 12 rfl:Sat (WA::_) _).cell (o:=0) (m:=2) rfl,_,(O.front 12 rfl:Sat (WA::_) _).cell (o:=0) (m:=3) rfl,?_⟩⟩;unfold F.JG;refine AJ (vs:=[.int .i64 cls,.bool true,.bool false,.int .u64 pg]) O λb2 cD aH _=>⟨_,aH.cell (o:=0) (m:=3) rfl,K9 aH.tail (k:=3) rfl,Gx aH.tail,?_⟩;rw[AP (n:=pg*8192)];have b5:u.Bq=S.W.Bq:=by
   rcases hL with ⟨_,rfl,_⟩|⟨_,_,hl,_⟩
   .rfl
   .exact(Vo hl).2.2.1
  have a2:=aH.tail;refine WK (a2.front 11 rfl:Sat (AQ E g.a.b g.a.h g.a.s g.a.r u::_) _) (by omega) (by omega) λbN a3=> ?_;have aN:Sat (AA E rb g {S.tk i (x.1,x.2.want cls pg x.2.step)with C:=Cl,W:=u.Nd (pg*8192)}++WA::CA::Z) bN:=Sat.back (Ps:=AA E rb g {S.tk i (x.1,x.2.want cls pg x.2.step)with C:=Cl,W:=u}++WA::CA::Z) 11 a3 (by simp[AA]);refine⟨Gx aN,AG ?_⟩;refine EY (x:=(x.1,x.2.want cls pg x.2.step)) aN aM (m:=2) (x.2.want cls pg 2) rfl (by decide) rfl λaV a4=>hB cls pg u Cl hw hL aV ?_;have e:B4.tk {S.tk i (x.1,x.2.want cls pg x.2.step)with C:=Cl,W:=u.Nd (pg*8192)} i (x.1,x.2.want cls pg 2)={S.tk i (x.1,x.2.want cls pg 2)with C:=Cl,W:=u.Nd (pg*8192)}:=by simp[B4.tk]
  have a5:=(congrArg (λs=>Sat (AA E rb g s++WA::CA::Z) aV) e).mp a4;exact((a5.front 12 rfl).tail.front 12 rfl).tail
end
section
variable{S S1 S2:HS}{p n page b:Int}
theorem HS.clrV(h:S2.V=S.V):S2.Vz.V=S.Vz.V:=by unfold HS.Vz;grind
theorem F7.MQ(h:F7 S.Vz b)(e1:S2.V=S.V)(e2:S2.hint=S.hint):F7 S2.Vz b:=h.kA (HS.clrV e1) e2
structure uH(S S2:HS)(n b:Int):Prop where
 la: ∃b',(b'=b∨b'=b+LF n)/\F7 S2.Vz b'
 sp:S2.sp=S.sp
 own:S2.own=S.own
theorem O0{i:Nat}(h:Lf S i S1):S1.sp=S.sp/\S1.own=S.own:=by
 rcases h with ⟨_,q,_,rfl⟩|⟨_,rfl⟩<;>exact⟨rfl,rfl⟩
theorem JM(h:MH S p n S1):S1.sp=S.sp/\S1.own=S.own:=by
 rcases h with ⟨_,rfl⟩|⟨i,_,_,_,a,_⟩
 .grind
 .exact O0 a
theorem TS(h:j9 S p n page S1)(J:F7 S.Vz b)(hk:Pf S)(hn:1<=n)(O:b+LF n<=34359738368):uH S S1 n b/\S1.V.wd=S.V.wd/\S1.V.rf.length<=S.V.rf.length:=by
 rcases h with (⟨a,i,k,hi,_,_,v,_,_,_,_,rfl⟩|⟨a,j,_,rfl⟩)|⟨a,K,j,_,⟨hr,at_,T,rfl⟩,_,rfl⟩
 .have e:=v.V;have e2:=O0 v;have u:(a.Ld i k n.toNat).V=S.V:=e.1;exact⟨⟨⟨b,.inl rfl,J.MQ u e.2⟩,e2.1,e2.2⟩,by rw[u],by grind⟩
 .have e:=j.V;have e2:=JM j;have u:(a.Le page n).V=S.V:=e.1;exact⟨⟨⟨b,.inl rfl,J.MQ u e.2⟩,e2.1,e2.2⟩,by rw[u],by grind⟩
 .have e:=j.V;have e2:=JM j;have h0:F7 a.Vz b:=J.MQ e.1 e.2;have Y:yT a.Vz n ((a.grown {a.V with rf:=a.V.rf.tail,pl:=a.V.pl.tail,laid:=DZ a.V.laid at_ (at_+LF n)} at_ (LF n)).Vz):=⟨(λr (e:([]:List Bool)=true::r)=>nomatch e),at_,T,rfl⟩;obtain⟨h1,_⟩:=h0.grew' (show Ok a.V.laid from hk.sF j) hn Y O;refine⟨⟨⟨b+LF n,.inr rfl,h1.kA rfl rfl⟩,e2.1,e2.2⟩,?_,?_⟩
  .show a.V.wd=_;rw[e.1]
  .show a.V.rf.tail.length<=_;grind
theorem bP(h:Found S p n page S2)(J:F7 S.Vz b)(O:Pf S)(T:1<=n)(K:b+LF n<=34359738368):uH S S2 n b/\(∀q,¬(page<=q/\q<page+n)->S2.V.wd q=S.V.wd q)/\S2.V.rf.length<=S.V.rf.length:=by
 obtain⟨S1,Y,hm⟩:=h;obtain⟨k,e,hr⟩:=TS Y J O T K;rcases hm with ⟨_,rfl⟩|⟨_,_,rfl⟩
 .grind
 .obtain⟨v,u,a⟩:=k.la;refine⟨⟨⟨v,u,⟨a.la,a.b0,a.b1,a.h0,a.h1,a.pl,rfl⟩⟩,k.sp,k.own⟩,λq hq=> ?_,?_⟩
  .funext j;show(if page<=q/\q<page+n/\X2 S1.V.rel q=true then Lb S1.V page q else S1.V.wd q j)=_
   grind
  .show S1.V.rf.tail.length<=_
   grind
theorem iC(h:nE S p n S2)(J:F7 S.Vz b)(hk:Pf S)(hn:1<=n)(K:b+LF n<=34359738368):uH S S2 n b/\S2.V.wd=S.V.wd/\S2.V.rf.length<S.V.rf.length:=by
 have hu:=sC n;rcases h with ⟨O,a,_,Y⟩|⟨S1,page,r,a,_,hr,rfl⟩
 .have e:=a.V;have e2:=JM a;have h0:F7 O.Vz b:=J.MQ e.1 e.2;rcases Y with ⟨r,hr,rfl⟩|⟨_,v,rfl⟩
  .refine⟨⟨⟨b,.inl rfl,h0⟩,e2.1,e2.2⟩,by grind,?_⟩
   grind
  .exact(h0.sE (by omega) K v).elim
 .obtain⟨k,e,hl⟩:=TS a J hk hn K;obtain⟨T,j,u⟩:=k.la;refine⟨⟨⟨T,j,u.kA rfl rfl⟩,k.sp,k.own⟩,e,?_⟩;show r.length<_
  grind
theorem zV(h:nE S p n S2):S2.sp=S.sp:=by
 rcases h with ⟨j,e,_,⟨r,_,rfl⟩|⟨_,_,rfl⟩⟩|⟨S1,page,r,e,_,_,rfl⟩
 .exact(JM e).1
 .exact(JM e).1
 .rcases e with (⟨j,i,k,hi,_,_,u,_,_,_,_,rfl⟩|⟨j,a,_,rfl⟩)|⟨j,v,a,_,⟨K,at_,J,rfl⟩,_,rfl⟩
  .exact(O0 u).1
  .exact(JM a).1
  .exact(JM a).1
end
def SW.fresh(W:SW)(S2:HS)(bl:Nat)(id page pg cls:Int)(X:FX):SW:={W with S:=S2.EB id (bl,Gv page pg cls true) page pg X}
structure Pm(W:SW)(p:Int)(S2:HS)(bl:Nat)(id page pg cls:Int)(X:FX):Prop where
 fd:Found W.S p pg page S2
 ok:Pf W.S
 inv:HInv S2 (inr page pg)
 nx:Next S2 id X
 no:W.S.sp id=none
 p0:0<=page
 p1:page+pg<=34359738368
theorem HK.eZ{n cls pg:Int}(h:HK n cls pg)(h0:16<=n)(h1:n<=1000000): ¬Kc 0 pg cls:=by
 obtain⟨⟨c0,c1⟩,p0,p1⟩:=h.Wq h0 h1;unfold Kc;rcases h with ⟨_,a,rfl⟩|⟨g,rfl,rfl⟩
 .omega
 .omega
section
variable{E:Env}{rb:Nat}{g:Nu}{S:B4}{Z:List Pr}{w:World}{U M:Aq}
theorem rnM0(H:Sat (AA E rb g S++Z) w):w.cell? (Addr.mk g.a.m 0 none)=some (pv g.a.h):=
 Sat.AW (F:=(AA E rb g S++Z).eraseIdx 6) (H.front 6 rfl) rfl
theorem bQ(hE:Ku E)(hT: ∀w',Sat Z w'->Ec E.AH w')(H:Sat (AA E rb g S++Z) w)(bE:F5 S){i k:Nat}{x:Nat×Tk}{y:Nat×Ak}{c:Nat×KS}(Y:S.T[i]? =some x)(hk:x.2.ask=(k:Int))(hy:S.L[k]? =some y)(bK:y.2.op=1)
  (h0:16<=y.2.n)(h1:y.2.n<=1000000)(hw:HK y.2.n x.2.cls x.2.pg)(bJ:x.2.np=true)(bL:x.2.ti=false)(hc:S.C[i]? =some c)(hI:Ae S.W U M)(hf:S.W.L.length<1099511627776)(bI: ∀z∈S.W.L,∃u,S.W.S.sp z.id=some u)(aJ:S.ord.length<1000000){K:World->Prop}
  (hL: ∀S2,nE S.W.S i x.2.pg S2->Pf S.W.S->Ae {S.W with S:=S2} U M-> ∀g' w',Sat (AA E rb g' (B4.done {S with ho:= -1,W:={S.W with S:=S2}} i x k y 0 0 13)++Z) w'->K w')
  (hA: ∀S2 bl id page X,Pm S.W i S2 bl id page x.2.pg x.2.cls X->0<x.2.cls->Ae (S.W.fresh S2 bl id page x.2.pg x.2.cls X) (U.set id D8) (M.set id D8)->
   ∀w',Sat (AA E rb g {S.tk i (x.1,{x.2 with step:=1})with ho:= -1,C:=S.C.set i (c.1,c.2.hold x.2.cls true id),W:=S.W.fresh S2 bl id page x.2.pg x.2.cls X}++Z) w'->K w')
  (hB: ∀S2 bl id page X uw EC,Pm S.W i S2 bl id page x.2.pg x.2.cls X->x.2.cls=0->Ae (S.W.fresh S2 bl id page x.2.pg 0 X) (U.set id D8) (M.set id D8)->Ae ((S.W.fresh S2 bl id page x.2.pg 0 X).JY id (bl,Gv page x.2.pg 0 true) uw EC) ((U.set id D8).take id 0) (M.set id D8)->
   ∀g' w',Sat (AA E rb g' (B4.done {S with ho:= -1,ma:=u64 (S.ma+1),W:=(S.W.fresh S2 bl id page x.2.pg 0 X).JY id (bl,Gv page x.2.pg 0 true) uw EC} i x k y (page*8192) (x.2.pg*8192) 0)++Z) w'->K w'):
  F.FV E (sM rb) (sM x.1) K w:=by
 unfold F.FV T0.FV;have b9:=(List.getElem?_eq_some_iff.1 Y).1;have aP:=bE.ti i x Y;have aC:=hw.eZ h0 h1;obtain⟨⟨c0,c1⟩,p0,p1⟩:=hw.Wq h0 h1;refine AG ⟨_,by rw[add_add];exact K8 H Y (k:=4) rfl,_,by rw[add_add];exact K8 H Y (k:=5) rfl,_,by rw[add_add];exact K8 H Y (k:=6) rfl,_,by rw[add_add];exact K8 H Y (k:=7) rfl,?_⟩;refine AJ (vs:=[.int .i64 0,.bool false,.bool false,.int .u64 0]) H λb6 w2 H2 _=>Bm (news:=[.int .i64 x.2.cls,.bool x.2.np,.bool x.2.ti,.int .u64 x.2.pg]) H2 rfl (by intro v hv;simp only[List.mem_cons,List.not_mem_nil,or_false]at hv;rcases hv with rfl|rfl|rfl|rfl<;>rfl) λw3 H3=> ?_;rw[bJ,bL]at H3
 let WA:Pr:=Cells b6 E.Bt [.int .i64 x.2.cls,.bool true,.bool false,.int .u64 x.2.pg]
 have Hd:Sat (AA E rb g S++WA::Z) w3.drew:=E8 H3.drew;have b4: ∀{R:List Pr},(∀{w'},Sat R w'->Sat (WA::Z) w')-> ∀w',Sat R w'->Ec E.AH w':=λh w' h'=>hT w' (h h').tail;refine AG ⟨_,Gx Hd,AG ⟨_,rnM0 Hd,AG ⟨_,Kg Hd Y,_,(Hd.front 12 rfl:Sat (WA::_) _).cell (o:=0) (m:=3) rfl,_,(Hd.front 12 rfl:Sat (WA::_) _).AW (o:=0) rfl,_,(Hd.front 12 rfl:Sat (WA::_) _).cell (o:=0) (m:=1) rfl,?_⟩⟩⟩;rw[aP];obtain⟨R,HH,hz,hb⟩:=(Hd.front 11 rfl:Sat (AQ E g.a.b g.a.h g.a.s g.a.r S.W::_) _).GA;have Bl:=HH.Bl;have a0: ∀{w'},Sat R w'->Sat Z w':=λh=>((hz h).front 11 rfl).tail.tail.tail.tail.tail.tail.tail.tail.tail.tail.tail.tail;have aB: ∀{S':HS} {w'},Sat (Ax E g.a.h S'::R) w'->Sat (AA E rb g {S with W:={S.W with S:=S'}}++WA::Z) w':=λh=>Sat.back (Ps:=AA E rb g S++WA::Z) 11 (hb h) (by simp[AA]);refine Z7 hE.toEnvK.toEnvC.toEnvW.toEnvA (λw' h'=>hT w' (a0 h')) HH hI.hI (by omega) (by omega) (λh=>absurd h aC) (λ_ S2 aE aN w4 H4=> ?_) λ_ page S2 bl id X aZ aN q0 q1 hX bC w4 H4=> ?_
 .have H5:=aB H4;refine⟨Gx H5,AG ?_⟩;refine QT H5 (m:=6) (by decide) rfl λw6 H6=>Aa rfl ?_;have H7:Sat (AA E rb g {S with ho:= -1,W:={S.W with S:=S2}}++WA::Z) w6:=H6;have cB:=zV aE;have bD:Ae {S.W with S:=S2} U M:=⟨aN,λj z hz=>hI.sp j z (by grind),λit aO=>by
   obtain⟨z,g1,g2⟩:=hI.it it aO
   grind⟩
  refine Jr H7 aJ Y hk hy λg' w8 H8=>hL S2 aE Bl bD g' w8 (H8.front 12 rfl).tail
 .have H5:=aB H4;obtain⟨aF,aQ⟩:=hI.EB aZ hX q0 q1 aC (by omega) bC;have hN:Pm S.W i S2 bl id page x.2.pg x.2.cls X:=⟨aZ,Bl,aN,hX,aQ,q0,q1⟩;refine⟨Gx H5,AG ?_⟩;refine QT H5 (m:=6) (by decide) rfl λw6 H6=>AR rfl ?_;have H7:Sat (AA E rb g {S with ho:= -1,W:=S.W.fresh S2 bl id page x.2.pg x.2.cls X}++WA::Z) w6:=H6;refine⟨_,(H7.front 12 rfl:Sat (WA::_) _).AW (o:=0) rfl,AE (λaK=> ?_) λbW=> ?_⟩
  .have J:=H7.drew;obtain⟨q,hq,bG⟩:=(J.front 7 rfl:Sat (gX E g.a.cb g.a.cs S.C::_) _).Kw hc;have b7:=(J.front 7 rfl:Sat (gX E g.a.cb g.a.cs S.C::_) _).Jp;have bV:=(List.getElem?_eq_some_iff.1 hc).1;refine AG ⟨_,Gx J,AG ⟨_,K9 J (k:=4) rfl,AG ⟨_,Kg J Y,?_⟩⟩⟩;rw[aP];refine Ij hq ⟨⟨by omega,by omega⟩,_,by rw[aD,Int.toNat_natCast,Nat.mul_one];exact bG,_,(J.front 12 rfl:Sat (WA::_) _).AW (o:=0) rfl,_,(J.front 12 rfl:Sat (WA::_) _).cell (o:=0) (m:=1) rfl,?_⟩;obtain⟨R3,aL,_,O⟩:=Yi (S:={S with ho:= -1,W:=S.W.fresh S2 bl id page x.2.pg x.2.cls X}) J hc;refine TN aL ⟨aK,c1⟩ λw8 H8=> ?_;have H9:=O H8;rw[<-aP];refine⟨Kg H9 Y,K9 H9 (k:=4) rfl,Gx H9,AG ?_⟩;refine EY H9 Y (m:=2) {x.2 with step:=1} rfl (by decide) rfl λbN aA=>hA S2 bl id page X hN aK aF bN ?_;exact(aA.front 12 rfl).tail
  .have a2:x.2.cls=0:=by omega
   have J:=H7.drew;refine AG ⟨_,Gx J,_,(J.front 12 rfl:Sat (WA::_) _).cell (o:=0) (m:=0) rfl,_,(J.front 12 rfl:Sat (WA::_) _).cell (o:=0) (m:=1) rfl,_,(J.front 12 rfl:Sat (WA::_) _).cell (o:=0) (m:=2) rfl,_,(J.front 12 rfl:Sat (WA::_) _).cell (o:=0) (m:=3) rfl,AG ⟨_,Gx J,?_⟩⟩;refine JX J Y hk hy λw8 H8=> ?_;have wa: ∀{S':B4} {w'},Sat (AA E rb g S'++WA::Z) w'->(w'.cell? ((Addr.mk b6 0 none).add 0)=some (.int .i64 x.2.cls)/\(w'.cell? ((Addr.mk b6 0 none).add 1)=some (.bool true)/\(w'.cell? ((Addr.mk b6 0 none).add 2)=some (.bool false)/\(w'.cell? ((Addr.mk b6 0 none).add 3)=some (.int .u64 x.2.pg)/\True)))):=λh=>
    ⟨(h.front 12 rfl:Sat (WA::_) _).cell (o:=0) (m:=0) rfl,(h.front 12 rfl:Sat (WA::_) _).cell (o:=0) (m:=1) rfl,(h.front 12 rfl:Sat (WA::_) _).cell (o:=0) (m:=2) rfl,(h.front 12 rfl:Sat (WA::_) _).cell (o:=0) (m:=3) rfl,trivial⟩
   refine⟨Gx H8,wa H8,Gx H8,?_⟩;obtain⟨R3,aL,aR,O⟩:=SV H8;have a1:(S.W.fresh S2 bl id page x.2.pg x.2.cls X).S.sp id=some (bl,Gv page x.2.pg x.2.cls true):=if_pos rfl;rw[a2]at a1 aF;have aX:Sat (Ou E g.a false S.ma S.cy::AQ E g.a.b g.a.h g.a.s g.a.r (S.W.fresh S2 bl id page x.2.pg 0 X)::Iz E g.a.mq::R3) w8:=by
    have:=aL
    grind
   refine iA hE.toEnvK.toEnvC.toEnvW (λw' h'=>hT w' (aR h'.tail).tail) aX aF a1 rfl (by rw[Aq.KB];rfl) (λit aO e=> ?_) hf λuw EC aY w9 H9=> ?_
   .obtain⟨u,hu⟩:=bI it aO
    grind
   have aA:=O H9;refine⟨wa aA,Gx aA,?_⟩;obtain⟨R4,a9,_,aG⟩:=SV aA;have bB:zJ ((S.W.fresh S2 bl id page x.2.pg 0 X).JY id (bl,Gv page x.2.pg 0 true) uw EC) ((U.set id D8).take id 0) id 0 (bl,{Gv page x.2.pg 0 true with uw:=uw,used:=(Gv page x.2.pg 0 true).used+1,look:=((0:Nat):Int)+1}):=⟨HS.F9,by show((0:Nat):Int)<(Gv page x.2.pg 0 true).AO;unfold Gv;simp,by unfold Aq.take;rw[Aq.KB];simp⟩;rw[show(Gv page x.2.pg 0 true).base=page*8192+((0:Nat):Int)*(x.2.pg*8192) by show page*8192=_;omega,bK];refine Ri hE.toS a9 aY bB λcC a5=> ?_;refine Jr (aG a5) aJ Y hk hy λg' a3 a6=> ?_;have:=hB S2 bl id page X uw EC hN a2 aF aY g' a3;have bA:(Gv page x.2.pg 0 true).base+((0:Nat):Int)*(Gv page x.2.pg 0 true).elem=page*8192:=by
    rw[show((0:Nat):Int)=0 from rfl,Int.zero_mul,Int.add_zero];rfl
   refine this ((congrArg (λa=>Sat (AA E rb g' (B4.done {S with ho:= -1,ma:=u64 (S.ma+1),W:=(S.W.fresh S2 bl id page x.2.pg 0 X).JY id (bl,Gv page x.2.pg 0 true) uw EC} i x k y a (x.2.pg*8192) 0)++Z) a3) bA).mp ?_);exact(a6.front 12 rfl).tail
end
section
variable{E:Env}{rb:Nat}{g:Nu}{S:B4}{Z:List Pr}{w:World}{U M:Aq}
theorem bR(H:Sat (AA E rb g S++Z) w){i:Nat}{x:Nat×Tk}(a:S.T[i]? =some x){K:World->Prop}
  (v: ∀w',Sat (AA E rb g {S.tk i (x.1,{x.2 with step:=13})with wo:=x.2.n}++Z) w'->K w'):F.IU E (sM rb) (sM x.1) K w:=by
 unfold F.IU;refine AG ⟨_,Kg H a,AG ?_⟩;refine QT H (m:=7) (by decide) rfl λJ e=>AG ?_;have j:Sat (AA E rb g {S with wo:=x.2.n}++Z) J:=e;exact EY j a (m:=2) {x.2 with step:=13} rfl (by decide) rfl λO u=>v O u
theorem bS(H:Sat (AA E rb g S++Z) w){i:Nat}{x:Nat×Tk}(j:S.T[i]? =some x){K:World->Prop}
  (e: ∀w',Sat (AA E rb g (S.tk i (x.1,{x.2 with step:=14}))++Z) w'->K w'):F.IV E (sM rb) (sM x.1) K w:=by
 unfold F.IV;exact AG (EY H j (m:=2) {x.2 with step:=14} rfl (by decide) rfl λu a=>e u a)
theorem Yk(hE:Ku E)(H:Sat (AA E rb g S++Z) w){i:Nat}{x:Nat×Tk}(O:S.T[i]? =some x)(hI:Ae S.W U M)(e: ∀z∈S.W.L,z.Ei=true){K:World->Prop}
  (J: ∀w',Sat (AA E rb g (S.tk i (x.1,{x.2 with step:=16}))++Z) w'->K w'):F.EG E (sM rb) (sM x.1) K w:=by
 unfold F.EG T0.EG;refine AG ⟨_,Gx H,AG ⟨_,K9 H (k:=3) rfl,?_⟩⟩;refine MK hE.toEnvK.toEnvC.toEnvW (H.front 11 rfl:Sat (AQ E g.a.b g.a.h g.a.s g.a.r S.W::_) w) hI (λ_ Y j=>AR rfl (AG ?_)) λz hz=> ?_
 .have u:Sat (AA E rb g S++Z) Y:=Sat.back (Ps:=AA E rb g S++Z) 11 j (by simp[AA]);exact EY u O (m:=2) {x.2 with step:=16} rfl (by decide) rfl λw4 v=>J w4 v
 .have:=e z hz.1;rw[hz.2.1]at this;simp_all
theorem Vp(H:Sat (AA E rb g S++Z) w){i:Nat}{x:Nat×Tk}(J:S.T[i]? =some x){id st:Int}{K:World->Prop}
  (hK: ∀w',Sat (AA E rb g (S.tk i (x.1,{x.2 with tr:=id,step:=st}))++Z) w'->K w'):F.IF E (sM rb) (sM x.1) id st K w:=by
 unfold F.IF;have u:=(List.getElem?_eq_some_iff.1 J).1;refine AG (EY H J (m:=3) {x.2 with tr:=id} rfl (by decide) rfl λw2 j=>AG ⟨_,Gx j,AG ⟨_,K9 j (k:=6) rfl,?_⟩⟩);obtain⟨v,h1⟩:=Sat.ex.1 (j.front 8 rfl:Sat ((Ex λv=>CM g.a.d .i64 v)::_) w2);refine FP h1 λw3 O=>AG ?_;have Y:Sat (AA E rb g (S.tk i (x.1,{x.2 with tr:=id}))++Z) w3:=Sat.back (Ps:=AA E rb g (S.tk i (x.1,{x.2 with tr:=id}))++Z) 8 (Sat.ex.2 ⟨_,O⟩) (by simp[AA]);refine EY Y (x:=(x.1,{x.2 with tr:=id})) (List.getElem?_set_self u) (m:=2) {x.2 with tr:=id,step:=st} rfl (by decide) rfl λw5 H5=>hK w5 ?_;have e:B4.tk (S.tk i (x.1,{x.2 with tr:=id})) i (x.1,{x.2 with tr:=id,step:=st})=S.tk i (x.1,{x.2 with tr:=id,step:=st}):=by simp[B4.tk]
 grind
theorem bT(hE:Ku E)(H:Sat (AA E rb g S++Z) w)(aD:F5 S){i k:Nat}(hi:i<S.Q.length){x:Nat×Tk}{y:Nat×Ak}(e:S.T[i]? =some x)(hk:x.2.ask=(k:Int))(hy:S.L[k]? =some y)(aG:x.2.sw<y.2.n)(hI:Ae S.W U M)(v:S.ord.length<1000000){K:World->Prop}
  (aE:(∀z∈S.W.L,z.Ei=true)-> ∀g' w',Sat (AA E rb g' (S.done i x k y 0 x.2.sw 0)++Z) w'->K w')
  (aF: ∀z,VV S.W.L z->Ae {S.W with L:=IZ S.W.L z.id} U M-> ∀w',Sat (AA E rb g {S.tk i (x.1,{x.2 with tr:=z.id,step:=11})with W:={S.W with L:=IZ S.W.L z.id}}++Z) w'->K w'):
  F.DX E (sM rb) (sM x.1) K w:=by
 unfold F.DX T0.DX;have hn:=aD.tn;obtain⟨u,hu⟩: ∃y,S.T[S.Q.length]? =some y:=⟨_,List.getElem?_eq_getElem (by omega)⟩;refine Gy H hu λw1 H1=>Ox H1 e hu ?_;rw[bH H1 e hu (by omega)];have Hd:=H1.drew;refine Ad (Ad (AR rfl (AG ⟨_,K8 Hd e (k:=8) rfl,JX Hd e hk hy λw2 J=>⟨K8 J e (k:=8) rfl,λjj=> ?_⟩⟩)));refine Aa (decide_eq_true aG) (AG ⟨_,Gx J,AG ⟨_,K9 J (k:=3) rfl,?_⟩⟩);refine MK hE.toEnvK.toEnvC.toEnvW (J.front 11 rfl:Sat (AQ E g.a.b g.a.h g.a.s g.a.r S.W::_) w2) hI (λj w3 Y=>AR rfl λjk=>AR rfl (AG ?_)) λz hz aC w3 Y=>Aa rfl ?_
 .have O:Sat (AA E rb g S++Z) w3:=Sat.back (Ps:=AA E rb g S++Z) 11 Y (by simp[AA]);exact⟨_,K8 O e (k:=8) rfl,Jr O v e hk hy λg' w4 H5=>aE j g' w4 H5⟩
 .have O:Sat (AA E rb g {S with W:={S.W with L:=IZ S.W.L z.id}}++Z) w3:=Sat.back (Ps:=AA E rb g S++Z) 11 Y (by simp[AA]);exact Vp O e λw4 H5=>aF z hz aC w4 H5
theorem Yl(hE:Ku E)(H:Sat (AA E rb g S++Z) w){x:Nat×Tk}(u:S.T[S.Q.length]? =some x)(Y: ¬ ∀z∈S.W.L,z.Ei=true)(hI:Ae S.W U M){K:World->Prop}
  (O: ∀z,VV S.W.L z->Ae {S.W with L:=IZ S.W.L z.id} U M-> ∀w',Sat (AA E rb g {S.tk S.Q.length (x.1,{x.2 with tr:=z.id,step:=11})with W:={S.W with L:=IZ S.W.L z.id}}++Z) w'->K w'):
  F.DX E (sM rb) (sM x.1) K w:=by
 unfold F.DX T0.DX;refine Gy H u λw1 H1=>Ox H1 u u ?_;have v:=H1.drew;have e:(x.1==x.1)=true:=by simp
 rw[e];refine Ad (Ad (Aa rfl λjj=>Aa rfl (AG ⟨_,Gx v,AG ⟨_,K9 v (k:=3) rfl,?_⟩⟩)));refine MK hE.toEnvK.toEnvC.toEnvW (v.front 11 rfl:Sat (AQ E g.a.b g.a.h g.a.s g.a.r S.W::_) _) hI (λj w3 H3=>absurd j Y) λz hz J w3 H3=>Aa rfl ?_;have H4:Sat (AA E rb g {S with W:={S.W with L:=IZ S.W.L z.id}}++Z) w3:=Sat.back (Ps:=AA E rb g S++Z) 11 H3 (by simp[AA]);exact Vp H4 u λw4 H5=>O z hz J w4 H5
def Vq(S:B4)(i:Nat)(t:Tk):Tk:={t with tr:=0,sw:=u64 (t.sw+1),step:=if i=S.Q.length then 0 else 10}
theorem iD(hE:Ku E)(hT: ∀w',Sat Z w'->Ec E.AH w')(H:Sat (AA E rb g S++Z) w)(aE:F5 S){i:Nat}{x:Nat×Tk}(hx:S.T[i]? =some x)(hI:Ae S.W U M)(hf:S.W.L.length<1099511627776)(aG:S.W.em.length+S.W.R.length<=1099511627776)
  (hL: ∀y∈S.W.L,y.id≠x.2.tr)(aI:S.W.S.sp x.2.tr≠none)(aY: ∀j,M x.2.tr j=true->U x.2.tr j=true){K:World->Prop}
  (hK: ∀n gone W' U' M',YW S.W U M x.2.tr false n gone W' U' M'->Ae W' U' M'-> ∀w',Sat (AA E rb g {S.tk i (x.1,Vq S i x.2)with W:=W'}++Z) w'->K w'):
  F.Ff E (sM rb) (sM x.1) K Fi w:=by
 unfold F.Ff T0.Ff F.GX T0.GX;have J:=(List.getElem?_eq_some_iff.1 hx).1;have hn:=aE.tn;refine AG ⟨_,K8 H hx (k:=3) rfl,AG ⟨_,Gx H,AG ⟨_,K9 H (k:=3) rfl,?_⟩⟩⟩;have aF: ∀w',Sat ((AA E rb g S++Z).eraseIdx 11) w'->Ec E.AH w':=λw' h=>hT w' h.tail.tail.tail.tail.tail.tail.tail.tail.tail.tail.tail;refine gN hE.toEnvK.toEnvC.toEnvW aF (H.front 11 rfl:Sat (AQ E g.a.b g.a.h g.a.s g.a.r S.W::_) w) hI hf aG hL (λaH=>absurd aH aI) (λz hz ⟨j,hj,hju⟩=>by grind) λn gone W' U' M' aB aD w2 H2=>AR rfl ?_;have H3:Sat (AA E rb g {S with W:=W'}++Z) w2:=Sat.back (Ps:=AA E rb g S++Z) 11 H2 (by simp[AA]);refine AG ⟨_,Gx H3,AG ⟨_,K9 H3 (k:=6) rfl,?_⟩⟩;obtain⟨dd,h1⟩:=Sat.ex.1 (H3.front 8 rfl:Sat ((Ex λdd=>CM g.a.d .i64 dd)::_) w2);refine Qw h1 λw4 H4=>AG ?_;have H5:Sat (AA E rb g {S with W:=W'}++Z) w4:=Sat.back (Ps:=AA E rb g {S with W:=W'}++Z) 8 (Sat.ex.2 ⟨_,H4⟩) (by simp[AA]);refine EY H5 hx (m:=3) {x.2 with tr:=0} rfl (by decide) rfl λw6 H6=>AG ⟨_,K8 H6 (x:=(x.1,{x.2 with tr:=0})) (List.getElem?_set_self J) (k:=8) rfl,AG ?_⟩;refine EY H6 (x:=(x.1,{x.2 with tr:=0})) (List.getElem?_set_self J) (m:=8) {x.2 with tr:=0,sw:=u64 (x.2.sw+1)} rfl (by decide) rfl λw7 H7=>AG ?_;refine EY H7 (x:=(x.1,{x.2 with tr:=0,sw:=u64 (x.2.sw+1)})) (List.getElem?_set_self (by simpa[B4.tk]using J)) (m:=2) {x.2 with tr:=0,sw:=u64 (x.2.sw+1),step:=10} rfl (by decide) rfl λw8 H8=> ?_
 let t9:Tk:={x.2 with tr:=0,sw:=u64 (x.2.sw+1),step:=10}
 have e:B4.tk (B4.tk (B4.tk {S with W:=W'} i (x.1,{x.2 with tr:=0})) i (x.1,{x.2 with tr:=0,sw:=u64 (x.2.sw+1)})) i (x.1,t9)={S.tk i (x.1,t9)with W:=W'}:=by simp[B4.tk]
 have H9:=(congrArg (λs=>Sat (AA E rb g s++Z) w8) e).mp H8;have O:(S.T.set i (x.1,t9))[i]? =some (x.1,t9):=List.getElem?_set_self J;obtain⟨u,hu⟩: ∃y,(S.T.set i (x.1,t9))[S.Q.length]? =some y:=⟨_,List.getElem?_eq_getElem (by grind)⟩;have Y:=hK n gone W' U' M' aB aD;unfold Vq at Y;refine Gy H9 hu λaK v=>Ox (S:={S.tk i (x.1,t9)with W:=W'}) v O hu ?_;by_cases ei:i=S.Q.length
 .subst ei;obtain rfl:(x.1,t9)=u:=Option.some.inj (O.symm.trans hu);rw[if_pos rfl]at Y;refine Aa (by simp) (AG (EY (S:={S.tk S.Q.length (x.1,t9)with W:=W'}) v O (m:=2) {t9 with step:=0} rfl (by decide) rfl λaL aP=>Y aL ?_));have e2:B4.tk {S.tk S.Q.length (x.1,t9)with W:=W'} S.Q.length (x.1,{t9 with step:=0})={S.tk S.Q.length (x.1,{x.2 with tr:=0,sw:=u64 (x.2.sw+1),step:=0})with W:=W'}:=by simp[B4.tk,t9]
  grind
 .rw[if_neg ei]at Y;have aA:=bH (S:={S.tk i (x.1,t9)with W:=W'}) v O hu ei;dsimp only at aA⊢;rw[aA];exact AR rfl (Y aK v)
end
def SW.r0(W:SW):SW:={W with Lj:=0}
theorem Ae.r0{W:SW}{U M:Aq}(h:Ae W U M):Ae W.r0 U M:=⟨h.hI,h.sp,h.it⟩
theorem Ae.ofR0{W:SW}{U M:Aq}(h:Ae W.r0 U M):Ae W U M:=⟨h.hI,h.sp,h.it⟩
section
variable{E:Env}{rb:Nat}{g:Nu}{S:B4}{Z:List Pr}{w:World}{U M:Aq}
theorem WQ(hE:Ku E)(H:Sat (AA E rb g S++Z) w){i:Nat}{x:Nat×Tk}(hx:S.T[i]? =some x)(hI:Ae S.W U M)(aA: ∀z∈S.W.L,z.Ei=true)(Y:0<=S.W.Gd){K:World->Prop}
  (hK: ∀w',Sat (AA E rb g (S.tk i (x.1,{x.2 with step:=if x.2.cls=0 then 6 else 4}))++Z) w'->K w'):F.EE E (sM rb) (sM x.1) K w:=by
 unfold F.EE T0.EE;have O:=(List.getElem?_eq_some_iff.1 hx).1;have rest: ∀w3,Sat (AA E rb g S++Z) w3->NC (some (⟨x.1,0,none⟩:Addr)) λaB=>
   stCells (aB.add 2) 0 [.int .i64 4] w3 λe=>NC (some (⟨x.1,0,none⟩:Addr)) λaC=>
   ∃v:Int,e.cell? (aC.add 4)=some (.int .i64 v)/\
   CND ((v:Int)==0) (NC (some (⟨x.1,0,none⟩:Addr)) λaD=>stCells (aD.add 2) 0 [.int .i64 6] e λaF=>K aF) (K e):=λw3 j=>by
  refine AG (EY j hx (m:=2) {x.2 with step:=4} rfl (by decide) rfl λw4 J=>AG ?_);have u:(S.tk i (x.1,{x.2 with step:=4})).T[i]? =some (x.1,{x.2 with step:=4}):=List.getElem?_set_self O;refine⟨_,K8 J u (k:=4) rfl,C6 (λc=>AG ?_) λc=> ?_⟩
  .refine EY J u (m:=2) {x.2 with step:=6} rfl (by decide) rfl λw5 H5=> ?_;have:=hK w5;rw[if_pos c]at this;refine this ?_;have e2:B4.tk (S.tk i (x.1,{x.2 with step:=4})) i (x.1,{x.2 with step:=6})=S.tk i (x.1,{x.2 with step:=6}):=by simp[B4.tk]
   grind
  .have:=hK w4
   grind
 refine Ad (AG ⟨_,Gx H,AG ⟨_,K9 H (k:=3) rfl,?_⟩⟩);refine a9 (H.front 11 rfl:Sat (AQ E g.a.b g.a.h g.a.s g.a.r S.W::_) w) Y λw2 H2=> ?_;have j:Sat (AA E rb g S++Z) w2:=Sat.back (Ps:=AA E rb g S++Z) 11 H2 (by simp[AA]);refine AX (λ_=>AG ⟨_,Gx j,AG ⟨_,K9 j (k:=3) rfl,?_⟩⟩) λ_ jj=>rest w2 j;refine MK hE.toEnvK.toEnvC.toEnvW (j.front 11 rfl:Sat (AQ E g.a.b g.a.h g.a.s g.a.r S.W::_) w2) hI (λ_ w4 J=>AR rfl λjj=> ?_) λz hz=> ?_
 .exact rest w4 (Sat.back (Ps:=AA E rb g S++Z) 11 J (by simp[AA]))
 .have:=aA z hz.1;rw[hz.2.1]at this;simp_all
end
section
variable{E:Env}{rb:Nat}{g:Nu}{S:B4}{Z:List Pr}{w:World}{U M:Aq}
theorem Rj(H:Sat (AA E rb g S++Z) w)(hI:F5 S){x:Nat×Tk}(j:S.T[S.Q.length+1]? =some x){K:World->Prop}
  (hK: ∀w',Sat (AA E rb g {S.tk (S.Q.length+1) (x.1,{x.2 with step:=8})with ho:=((S.Q.length+1:Nat):Int)}++Z) w'->K w'):F.DV E (sM rb) (sM x.1) K w:=by
 unfold F.DV T0.DV;have u:=(List.getElem?_eq_some_iff.1 j).1;have a:=hI.ti _ x j;refine AG ⟨_,Kg H j,AG ?_⟩;rw[a];refine QT H (m:=6) (by decide) rfl λw2 O=>AG ?_;have Y:Sat (AA E rb g {S with ho:=((S.Q.length+1:Nat):Int)}++Z) w2:=O;refine EY (S:={S with ho:=((S.Q.length+1:Nat):Int)}) Y j (m:=2) {x.2 with step:=8} rfl (by decide) rfl λw4 H4=> ?_;have e:=H4.drew;have J:(B4.tk {S with ho:=((S.Q.length+1:Nat):Int)} (S.Q.length+1) (x.1,{x.2 with step:=8})).T[S.Q.length+1]? =some (x.1,{x.2 with step:=8}):=List.getElem?_set_self u;have v:=Oy e;refine Ad (AG ⟨_,Kg (x:=(x.1,{x.2 with step:=8})) e J,AG ⟨_,Lv e (k:=3) rfl,AR (decide_eq_false (by show ¬x.2.n<_;rw[a];have:S.Q.length=g.qs.len:=v;omega)) λjj=>AR rfl (hK _ e)⟩⟩)
theorem Vr(hE:Ku E)(H:Sat (AA E rb g S++Z) w)(hI:F5 S){x:Nat×Tk}(e:S.T[S.Q.length+1]? =some x)(hp:S.pc≠none)(hH:Ae S.W U M){K:World->Prop}
  (hK: ∀S' n m,Oi S.W.S n S' m->Ae {S.W with S:=S'} U M-> ∀w',Sat (AA E rb g {S.tk (S.Q.length+1) (x.1,{x.2 with step:=0})with ho:= -1,W:={S.W with S:=S'}}++Z) w'->K w'):F.GZ E (sM rb) (sM x.1) K Fi w:=by
 unfold F.GZ T0.GZ;refine Ad (MP H hI e λw2 j=>Ox j e e (Aa (by simp) (AG ⟨_,Lv j (k:=1) rfl,?_⟩)));obtain⟨pb,hz⟩:=rnpac (E:=E) (rb:=rb) (g:=g) (Z:=Z) hp;have H1:Sat (AQ E g.a.b g.a.h g.a.s g.a.r S.W::(AA E rb g S++Z).eraseIdx 11) w2:=j.front 11 rfl;obtain⟨R,HH,J,v⟩:=H1.GA;rw[(hz w2 H1.tail).1];refine bF hE.toEnvK.toEnvC.toEnvW.toEnvA HH (λw' h=>(hz w' (J h)).2) hH.hI (by decide) λS' m w3 Y u H3=>AG ?_;have H4:Sat (AA E rb g {S with W:={S.W with S:=S'}}++Z) w3:=Sat.back (Ps:=AA E rb g S++Z) 11 (v (S':=S') H3) (by simp[AA]);refine EY (S:={S with W:={S.W with S:=S'}}) H4 e (m:=2) {x.2 with step:=0} rfl (by decide) rfl λw5 H5 jj=>AG ?_;have O:=Y.EB;refine QT H5 (m:=6) (by decide) rfl λw6 H6=>hK S' _ m Y ⟨u,by rw[show({S.W with S:=S'}:SW).S.sp=S.W.S.sp from O.sp];exact hH.sp,by rw[show({S.W with S:=S'}:SW).S.sp=S.W.S.sp from O.sp];exact hH.it⟩ w6 H6
end
theorem uI{n:Nat}(h:0<n)(e:n<1000)(v:Int): ∃j:Nat,j<n/\Int.tmod (i64 (Int.tmod v (n:Int)+(n:Int))) (n:Int)=(j:Int):=by
 have h0: -(n:Int)<Int.tmod v n:=Int.neg_lt_of_neg_lt (by have:=Int.tmod_lt_of_pos (-v) (show(0:Int)<n by omega);simp_all);have h1:=Int.tmod_lt_of_pos v (show(0:Int)<n by omega);rw[AI];have u:=Int.tmod_nonneg (a:=Int.tmod v n+n) (n:Int) (by omega);have J:=Int.tmod_lt_of_pos (Int.tmod v n+n) (show(0:Int)<n by omega);exact⟨(Int.tmod (Int.tmod v n+n) n).toNat,by omega,by omega⟩
theorem iE{n k:Nat}(h:k<n)(a:n<1000):Int.tmod (i64 (Int.tmod (k:Int) (n:Int)+(n:Int))) (n:Int)=(k:Int):=by
 have e1:Int.tmod (k:Int) (n:Int)=(k:Int):=by
  rw[Int.tmod_eq_emod_of_nonneg (by omega)];exact Int.emod_eq_of_lt (by omega) (by omega)
 rw[e1,AI,Int.tmod_eq_emod_of_nonneg (by omega),Int.add_emod_right]
 grind
theorem kL{S:B4}{i:Nat}:i∈Ow S↔i<S.T.length/\enI S i=true:=by unfold Ow;grind
theorem uJ(S:B4):(Ow S).Pairwise (· < ·):=List.Pairwise.filter _ List.pairwise_lt_range
theorem XN{l:List Nat}{f:Int}(h:0<l.length):Ln l f<l.length:=by
 unfold Ln;cases e:l.findIdx? λi:Nat=>decide ((i:Int)≥f)with
 | none=>exact h
 | some k=>obtain⟨h1,_⟩:=List.findIdx?_eq_some_iff_getElem.1 e;exact h1
theorem uK{S:B4}{f:Int}{i j:Nat}(hi:(Ow S)[Ln (Ow S) f]? =some i)(O:(i:Int)<f)(a:j∈Ow S):i<=j:=by
 obtain⟨v,he⟩:=List.getElem?_eq_some_iff.1 hi;have h0:Ln (Ow S) f=0:=by
  unfold Ln at he⊢;cases e:(Ow S).findIdx? λi:Nat=>decide ((i:Int)≥f)with
  | none=>rfl
  | some k=>
   simp only[e,Option.getD_some]at he;obtain⟨h1,K,_⟩:=List.findIdx?_eq_some_iff_getElem.1 e
   grind
 simp only[h0]at he;obtain⟨k,u,e⟩:=List.getElem_of_mem a;rcases Nat.eq_zero_or_pos k with rfl|J
 .omega
 .have:=List.pairwise_iff_getElem.1 (uJ S) 0 k (by omega) u J;omega
def phi(S:B4)(f:Int):Nat:=match S.T[S.Q.length+1]? with
 | some z=>if z.2.step≠0 then 1 else if f<=S.Q.length+1 then 2 else 0
 | none=>0
theorem phi_le(S:B4)(f:Int):phi S f<=2:=by unfold phi;grind
structure SX(I:Nat->B4->Prop)(m:Nat)(S:B4)(i:Nat)(x:Nat×Tk)(S':B4):Prop where
 ql:S'.Q.length=S.Q.length
 tx: ∃t',S'.T[i]? =some (x.1,t')/\(i=S.Q.length+1->(t'.step=0↔x.2.step≠0))
 go:(i<=S.Q.length/\ ∃m',m'<m/\I m' S')∨(i=S.Q.length+1/\I m S')
structure Adv(E:Env)(rb:Nat)(Z:List Pr)(I:Nat->B4->Prop)(m:Nat)(S:B4):Prop where
 ok:F5 S
 en: ∃i x,S.T[i]? =some x/\enB S i x=true/\(i<=S.Q.length∨x.2.step≠0)
 QY: ∀i x,S.T[i]? =some x->enB S i x=true->x.2.step=0->i<S.Q.length-> ∃s a l y,S.Q[i]? =some (s,((a:Nat):Int)::l)/\S.L[a]? =some y
 go: ∀g i x S1 x1,S.T[i]? =some x->enB S i x=true->Beg S i x S1->S1.T[i]? =some x1->x1.1=x.1->Re E rb g Z S1 x.1 x1.2.step (SX I m S i x)
section
variable{E:Env}{rb:Nat}{g:Nu}{S:B4}{Z:List Pr}{w:World}
theorem zW{a1:AY}{vs:List Int}(j:vs.length=a1.len){m:Nat}(hm:m<a1.len){w:World}(e:rowAt w a1.base (a1.len*1) (ints .i64 vs)): ∃a v,a1.base=some a/\w.cell? (a.add m)=some (.int .i64 v):=by
 unfold rowAt at e;cases hb:a1.base with
 | none=>
  rw[hb]at e;have:ints .i64 vs=[]:=e;have:=congrArg List.length this;rw[ints,List.length_map]at this
  grind
 | some a=>
  rw[hb]at e;exact⟨a,vs[m]'(by omega),rfl,e.2 m _ (by rw[ints,List.getElem?_map,List.getElem?_eq_getElem (by omega)];rfl)⟩
theorem Vs(hE:Ku E){I:Nat->B4->Prop}(Y: ∀m S,I m S->F5 S/\S.T.length<1000/\(GB S=false->Adv E rb Z I m S)){O:Nat}(hμ:O<=2000)(hI:I O S)(H:Sat (AA E rb g S++Z) w)
  {a1:AY}{vs:List Int}(hl:vs.length=a1.len)(bF:a1.len<=3000)(hr: ∀w',Sat Z w'->rowAt w' a1.base (a1.len*1) (ints .i64 vs)){K:Bool->World->Prop}
  (hK: ∀J S' μ,μ<=O->I μ S'->GB S'=true-> ∀w',Sat (AA E rb J S'++Z) w'->K true w'):F.CN E (sM rb) a1 K w:=by
 unfold F.CN T0.CN;have hz: ∀{J:Nu} {S':B4} {w'},Sat (AA E rb J S'++Z) w'->Sat Z w':=λh=>h.tail.tail.tail.tail.tail.tail.tail.tail.tail.tail.tail.tail;refine AM (λst w'=> ∃(k μ:Nat) (J:Nu) (S':B4),st.2.1=(k:Int)/\μ<=O/\I μ S'/\(k<=a1.len∨k+3*μ+phi S' st.1<=a1.len+3*O+2)/\Sat (AA E rb J S'++Z) w') (λst _=>(200000-st.2.1).toNat)
  ⟨0,O,g,S,rfl,Nat.le_refl _,hI,.inl (Nat.zero_le _),H⟩ ?_
 rintro⟨f,m',u⟩ _ w2 ⟨k,μ,J,S',hk,aL,aD,hb,H2⟩;dsimp only at hk hb⊢;subst hk;have aI:(k:Int)<200000:=by omega
 rw[cD,decide_eq_true aI];obtain⟨Bl,aQ,aE⟩:=Y μ S' aD;have a9:=Bl.Nx;have e2:(200000-i64 ((k:Int)+1)).toNat<(200000-(k:Int)).toNat:=by rw[AI];omega
 refine Aa rfl (Ad (Rd hE H2 Bl ?_));cases hq:GB S' with
 | true=>exact Aa rfl λjj=>Aa rfl (hK J S' μ aL aD hq w2 H2)
 | false=>
 have hA:=aE hq;obtain⟨i0,x0,aZ,a8,bD⟩:=hA.en;have aJ:i0∈Ow S':=kL.2 ⟨(List.getElem?_eq_some_iff.1 aZ).1,by unfold enI;grind⟩;have aA:=List.length_pos_of_mem aJ;have aH:(Ow S').length<1000:=Nat.lt_of_le_of_lt (Nat.le_trans (List.length_filter_le ..) (by grind)) aQ;refine AR rfl (AG ⟨_,Gx H2,MO (H2.front 6 rfl) λjj=>AR rfl ?_⟩);refine bJ H2 Bl λw3 H3=> ?_;rw[decide_eq_true (show(((Ow S').length:Nat):Int)>0 by omega)];have step: ∀(pick:Int) (j:Nat),j<(Ow S').length->Int.tmod (i64 (Int.tmod pick ((Ow S').length:Int)+((Ow S').length:Int))) ((Ow S').length:Int)=(j:Int)->(¬k<a1.len->j=Ln (Ow S') f)->F.Fv E (sM rb) pick (λa4 a5 aN=>CND ((a5:Int) !=0) (K false aN) ((∃(k2 μ:Nat) (J:Nu) (S':B4),i64 ((k:Int)+1)=(k2:Int)/\μ<=O/\I μ S'/\(k2<=a1.len∨k2+3*μ+phi S' (i64 (a4+1))<=a1.len+3*O+2)/\Sat (AA E rb J S'++Z) aN)/\(200000-i64 ((k:Int)+1)).toNat<(200000-(k:Int)).toNat)) w3:=by
  intro pick j hj hp ht;obtain⟨i,hi⟩: ∃i,(Ow S')[j]? =some i:=⟨_,List.getElem?_eq_getElem hj⟩;obtain⟨aU,aT⟩:=kL.1 (List.mem_of_getElem? hi);obtain⟨x,hx⟩: ∃x,S'.T[i]? =some x:=⟨_,List.getElem?_eq_getElem aU⟩;have aF:enB S' i x=true:=by unfold enI at aT;grind
  have bM:=Bl.tn;refine nV hE H3 Bl hi hp hx (λh0 h1=>hA.QY i x hx aF h0 h1) (SX I μ S' i x) (λS2 h=> ?_) (λS1 x1 hb a0 he=>hA.go J i x S1 x1 hx aF hb a0 he) λg2 S2 w4 h H4=>AR rfl ⟨⟨k+1,?_⟩,e2⟩
  .obtain⟨t',aB,_⟩:=h.tx;have aM:F5 S2:=by
    rcases h.go with ⟨_,m',_,e⟩|⟨_,e⟩
    .exact(Y m' S2 e).1
    .exact(Y μ S2 e).1
   exact⟨t',aB,aM.ti i _ aB⟩
  .rw[AI (n:=(k:Int)+1),AI (n:=(i:Int)+1)];obtain⟨bH,⟨t',aB,aX⟩,aS⟩:=h;rcases aS with ⟨aG,m',bG,e⟩|⟨aG,e⟩
   .refine⟨m',g2,S2,rfl,by omega,e,?_,H4⟩;by_cases hkl:k<a1.len
    .omega
    .refine .inr ?_;have:=phi_le S2 ((i:Int)+1);omega
   .refine⟨μ,g2,S2,rfl,aL,e,?_,H4⟩;by_cases hkl:k<a1.len
    .omega
    .refine .inr ?_;have bL:=aX aG;rw[ht hkl]at hi;have hf:x.2.step=0->f<=S'.Q.length+1:=λh0=>by
      refine Int.not_lt.1 λaI=> ?_;have h1:=uK hi (by omega) aJ
      grind
     have e1:phi S2 ((i:Int)+1)=if t'.step≠0 then 1 else 0:=by
      unfold phi
      grind
     have e2:phi S' f=if x.2.step≠0 then 1 else 2:=by
      unfold phi
      grind
     grind
 refine AR rfl (Ad (AE (λaK=> ?_) λaK jj=> ?_))
 .obtain⟨a,v,ha,hv⟩:=zW hl (m:=k) (by omega) (hr _ (hz H3));obtain⟨j,hj,hp⟩:=uI aA aH v;exact Ij ha ⟨⟨by omega,aK⟩,v,by grind,λjj=>step v j hj hp (λc=>absurd (by omega) c)⟩
 .exact step _ _ (XN aA) (iE (XN aA) aH) λ_=>rfl
end
structure Bk where
 id:Int
 m:Nat
 a:Int
 z:Int
def keyOf(p:Bk):Int×Nat:=(p.id,p.m)
noncomputable def x9(a:Int):Int:=EA .u64 2 a 9
def uL(W:SW)(a:Int):Int:=W.S.V.wd ((a+8)/8192) ((a+8) %8192/8)
structure Kh(W:SW)(CL:List (Nat×KS))(U M:Aq)(n:Nat)(B Bw:List Bk):Prop where
 inv:Ae W U M
 Gz:zR W
 full: ∀x∈W.L,∀y,W.S.sp x.id=some y->y.2.used=y.2.AO
 la: ∃b,F7 W.S.Vz b/\b<=512+512*(n:Int)
 len:W.L.length<=n
 own: ∀(i:Nat) c,CL[i]? =some c->bM W c.2
 ap: ∀(i j:Nat) c d,CL[i]? =some c->CL[j]? =some d->i≠j-> ∀k np,c.2.held k np≠0->c.2.held k np≠d.2.held k np
 nd:(B.map keyOf).Nodup
 bl: ∀id x (m:Nat),W.S.sp id=some x->(m:Int)<x.2.AO->(U id m=true↔(id,m)∈B.map keyOf)
 bs: ∀p∈B,∃x,W.S.sp p.id=some x/\(p.m:Int)<x.2.AO/\p.a=x.2.base+p.m*x.2.elem/\p.z=x.2.elem
 sub: ∀p∈Bw,p∈B
 wd: ∀p∈Bw,uL W p.a=x9 p.a
section
variable{W:SW}{CL:List (Nat×KS)}{U M:Aq}{n:Nat}{B Bw:List Bk}
theorem Kh.isB(h:Kh W CL U M n B Bw){p:Bk}(j:p∈B): ∃x,zJ W U p.id p.m x/\p.a=x.2.base+p.m*x.2.elem/\p.z=x.2.elem:=by
 obtain⟨x,h1,e,u,v⟩:=h.bs p j;exact⟨x,⟨h1,e,(h.bl p.id x p.m h1 e).2 (List.mem_map.2 ⟨p,j,rfl⟩)⟩,u,v⟩
theorem Kh.page(h:Kh W CL U M n B Bw){p:Bk}(j:p∈B):W.S.own ((p.a+8)/8192)=p.id/\0<p.id∨p.z<16:=by
 obtain⟨x,e,v,hz⟩:=h.isB j;have u:=(h.inv.sp p.id x e.sp).1.size;by_cases g:p.z<16
 .omega
 .refine .inl ⟨(e.own h.inv (a:=p.a+8) ⟨by omega,by omega⟩).1,(h.inv.hI.sp p.id x e.sp).1⟩
theorem Kh.mono(h:Kh W CL U M n B Bw){m:Nat}(hm:n<=m):Kh W CL U M m B Bw:=by
 obtain⟨b,h1,a⟩:=h.la;exact⟨h.inv,h.Gz,h.full,⟨b,h1,by omega⟩,Nat.le_trans h.len hm,h.own,h.ap,h.nd,h.bl,h.bs,h.sub,h.wd⟩
theorem Kh.held(h:Kh W CL U M n B Bw){i:Nat}{c:Nat×KS}(a:CL[i]? =some c){k:Int}{np:Bool}{z:Nat×SI}(hz:W.S.sp (c.2.held k np)=some z): ∀x∈W.L,x.id≠c.2.held k np:=by
 rcases h.own i c a k np with h0|⟨_,_,e⟩
 .rw[h0,YX h.inv]at hz;cases hz
 simp_all
theorem Kh.take(h:Kh W CL U M n B Bw){id:Int}(K: ∀x∈W.L,x.id≠id){z:Nat×SI}{m:Nat}{uw:List Int}(hz:W.S.sp id=some z)(hm:(m:Int)<z.2.AO)(hu:U id m=false)(hI:Ae (W.take id z uw m) (U.take id m) M):
  Kh (W.take id z uw m) CL (U.take id m) M n (⟨id,m,z.2.base+m*z.2.elem,z.2.elem⟩::B) Bw:=by
 have Y: ∀j y,(W.take id z uw m).S.sp j=some y->(j≠id/\W.S.sp j=some y)∨(j=id/\y=(z.1,{z.2 with uw:=uw,used:=z.2.used+1,look:=(m:Int)+1})):=λj y a=>by
  by_cases e:j=id
  .subst e;have:(W.S.put j (z.1,{z.2 with uw:=uw,used:=z.2.used+1,look:=(m:Int)+1})).sp j=some y:=a;rw[HS.F9]at this
   grind
  .exact .inl ⟨e,(HS.He e).symm.trans a⟩
 have aD: ∀j y,W.S.sp j=some y-> ∃u,(W.take id z uw m).S.sp j=some u/\u.2.base=y.2.base/\u.2.elem=y.2.elem/\u.2.AO=y.2.AO/\u.2.cls=y.2.cls/\u.2.Eh=y.2.Eh/\(j≠id->u=y):=λj y a=>by
  by_cases e:j=id
  .subst e;rw[hz]at a;cases a;exact⟨_,HS.F9,rfl,rfl,rfl,rfl,rfl,λc=>absurd rfl c⟩
  .exact⟨y,(HS.He e).trans a,rfl,rfl,rfl,rfl,rfl,λ_=>rfl⟩
 have J:(id,m)∉B.map keyOf:=λc=>by rw[(h.bl id z m hz hm).2 c]at hu;cases hu
 obtain⟨b,aA,aB⟩:=h.la;refine⟨hI,⟨h.Gz.sw,λx T=> ?_,h.Gz.Lj,h.Gz.rp,h.Gz.ch⟩,λx T y a=> ?_,⟨b,aA.MQ rfl rfl,aB⟩,h.len,λi c hc k np=> ?_,h.ap,List.nodup_cons.2 ⟨J,h.nd⟩,λj y k a hk=> ?_,λp O=> ?_,λp O=>List.mem_cons_of_mem _ (h.sub p O),h.wd⟩
 .obtain⟨y,a,v⟩:=h.Gz.kd x T;exact⟨y,(HS.He (K x T)).trans a,v⟩
 .rcases Y x.id y a with ⟨_,a⟩|⟨e,_⟩
  .exact h.full x T y a
  .exact absurd e (K x T)
 .rcases h.own i c hc k np with g|⟨g1,⟨y,a,aC,v⟩,g3⟩
  .omega
  .obtain⟨u,q1,_,_,_,q5,q6,_⟩:=aD _ y a;exact .inr ⟨g1,⟨u,q1,q5.trans aC,q6.trans v⟩,g3⟩
 .rw[List.map_cons,List.mem_cons];show U.take id m j k=true↔(j,k)=(id,m)∨_;rcases Y j y a with ⟨e,a⟩|⟨rfl,rfl⟩
  .have:U.take id m j k=U j k:=by unfold Aq.take Aq.set;rw[if_neg e]
   rw[this,h.bl j y k a hk]
   grind
  .have:U.take j m j k=(U j k||k==m):=by unfold Aq.take;rw[Aq.KB]
   rw[this,Bool.or_eq_true,h.bl j z k hz hk,beq_iff_eq]
   grind
 .rcases List.mem_cons.1 O with rfl|O
  .grind
  .obtain⟨y,h1,h2,h3,h4⟩:=h.bs p O
   grind
theorem zX{W:SW}(h:0<=W.Bq/\W.Bq<18446744073709551616){k:Int}(k0:0<=k):0<=(W.Nd k).Bq/\(W.Nd k).Bq<18446744073709551616:=by
 show 0<=Lm _ _/\Lm _ _<_;unfold Lm;omega
theorem Kh.Nd(h:Kh W CL U M n B Bw){k:Int}(k0:0<=k):Kh (W.Nd k) CL U M n B Bw:=
 ⟨⟨h.inv.hI,h.inv.sp,h.inv.it⟩,⟨h.Gz.sw,h.Gz.kd,h.Gz.Lj,h.Gz.rp,zX h.Gz.ch k0⟩,h.full,h.la,h.len,h.own,h.ap,h.nd,h.bl,h.bs,h.sub,h.wd⟩
theorem Kh.uF{K:SW}(h:Kh W CL U M n B Bw){i:Nat}{c:Nat×KS}(O:CL[i]? =some c){k:Int}{np:Bool}(hk:0<k/\k<68)(hl:SU W c.2 k np K)(hI:Ae K U M)(hd: ∀z,W.S.sp (c.2.held k np)=some z-> ∀j:Nat,(j:Int)<z.2.AO->U (c.2.held k np) j=true):
  Kh K (CL.set i (c.1,c.2.hold k np 0)) U M (n+1) B Bw:=by
 have aK:=h.Gz.uF hl;have eS:=(Vo hl).1;have hh: ∀u a,(c.2.hold k np 0).held u a=if u=k/\a=np then 0 else c.2.held u a:=λu a=>by
  by_cases e:u=k/\a=np
  .rw[if_pos e,e.1,e.2];exact KC c.2 hk.1 hk.2 0
  .rw[if_neg e];exact KD c.2 hk.1 e 0
 have aX:=(List.getElem?_eq_some_iff.1 O).1;have at_: ∀{j:Nat} {d},(CL.set i (c.1,c.2.hold k np 0))[j]? =some d->(j=i/\d=(c.1,c.2.hold k np 0))∨(j≠i/\CL[j]? =some d):=λ{j d} hd=>by grind
 have v: ∀x∈K.L,x∈W.L∨(x.id=c.2.held k np/\0<c.2.held k np/\ ∃y,W.S.sp x.id=some y):=λx hx=>by
  rcases hl with ⟨_,rfl⟩|⟨hp,y,EC,hy,aY,rfl⟩
  .grind
  .rcases DY.1 hx with rfl|hx
   .grind
   grind
 have nl: ∀{X:KS},bM W X-> ∀u a,X.held u a≠0->X.held u a≠c.2.held k np-> ∀it∈K.L,it.id≠X.held u a:=λ{X} hX u a g0 g1 it aD=>by
  rcases v it aD with aD|⟨e,_⟩
  .rcases hX u a with q|⟨_,_,q⟩
   .omega
   grind
  omega
 have aI: ∀(j:Nat) d,CL[j]? =some d->j≠i-> ∀u a,d.2.held u a≠0->d.2.held u a≠c.2.held k np:=λj d J Y u a g0=>by
  by_cases e:u=k/\a=np
  .rw[e.1,e.2]at g0⊢;exact h.ap j i d c J O Y k np g0
  .intro g;have g1:c.2.held k np≠0:=by omega
   exact(h.own i c O).ne (h.own j d J) e g1 g
 have aG: ∀{X:KS},(∀u a,X.held u a=0∨(0<X.held u a/\(∃y,W.S.sp (X.held u a)=some y/\y.2.cls=u/\y.2.Eh=a)/\ ∀x∈K.L,x.id≠X.held u a))->bM K X:=λ{X} hX u a=>by grind
 obtain⟨b,aL,aW⟩:=h.la;refine⟨hI,aK,λx hx y hy=> ?_,⟨b,by rw[eS];exact aL,by omega⟩,?_,λj d J=> ?_,λj j' d d' J aE aA u a=> ?_,h.nd,by rw[eS];exact h.bl,by rw[eS];exact h.bs,h.sub,λp hp=>by have:=h.wd p hp;unfold uL at this⊢;grind⟩
 .rw[eS]at hy;rcases v x hx with hx|⟨e,_,_⟩
  .exact h.full x hx y hy
  .rw[e]at hy;exact zS (h.inv.sp _ y hy).2 (hd y hy)
 .rcases hl with ⟨_,rfl⟩|⟨_,y,EC,_,_,rfl⟩
  .have:=h.len;omega
  .rw[show(SW.L _)=HJ W.L _ from rfl,(Ha W.L _).length_eq];show W.L.length+1<=n+1;have:=h.len;omega
 .refine aG λu a=> ?_;rcases at_ J with ⟨_,rfl⟩|⟨Y,J⟩
  .rw[hh];by_cases e:u=k/\a=np
   .grind
   .rw[if_neg e];rcases h.own i c O u a with q|⟨q1,q2,q3⟩
    .omega
    .refine .inr ⟨q1,q2,nl (h.own i c O) u a (by omega) λg=> ?_⟩;exact(h.own i c O).ne (h.own i c O) e (by omega) g
  .rcases h.own j d J u a with q|⟨q1,q2,q3⟩
   .omega
   grind
 .rcases at_ J with ⟨e1,e2⟩|⟨Y,aF⟩
  .rcases at_ aE with ⟨e3,_⟩|⟨_,T⟩
   .omega
   .rw[e2,hh];by_cases e:u=k/\a=np
    .grind
    .rw[if_neg e];exact h.ap j j' c d' (by grind) T aA u a
  .rcases at_ aE with ⟨e3,e4⟩|⟨_,T⟩
   .intro g0;rw[e4,hh];by_cases e:u=k/\a=np
    .grind
    .rw[if_neg e];exact h.ap j j' d c aF (by grind) aA u a g0
   .exact h.ap j j' d d' aF T aA u a
theorem kM{pg:Int}(p0:1<=pg)(p1:pg<=130):LF pg=512:=by unfold LF;omega
theorem Kh.lost(h:Kh W CL U M n B Bw){p pg:Int}{S2:HS}(Y:nE W.S p pg S2)(Bl:Pf W.S)(p0:1<=pg)(p1:pg<=130)(hn:n<=60000)(hI:Ae {W with S:=S2} U M):
  Kh {W with S:=S2} CL U M (n+1) B Bw/\S2.V.rf.length<W.S.V.rf.length:=by
 obtain⟨b,e,O⟩:=h.la;have hu:=kM p0 p1;obtain⟨⟨⟨v,K,J⟩,a,aA⟩,u,j⟩:=iC Y e Bl p0 (by omega);refine⟨⟨hI,⟨h.Gz.sw,λx hx=> ?_,h.Gz.Lj,h.Gz.rp,h.Gz.ch⟩,?_,⟨v,J,by omega⟩,Nat.le_succ_of_le h.len,λi c T k np=> ?_,h.ap,h.nd,?_,?_,h.sub,λp hp=> ?_⟩,j⟩
 .show ∃y,S2.sp x.id=some y/\_;rw[a];exact h.Gz.kd x hx
 .show ∀x∈W.L,∀y,S2.sp x.id=some y->_;rw[a];exact h.full
 .show _∨(_/\(∃y,S2.sp _=some y/\_)/\_);rw[a];exact h.own i c T k np
 .show ∀id x (m:Nat),S2.sp id=some x->_;rw[a];exact h.bl
 .show ∀p∈B,∃x,S2.sp p.id=some x/\_;rw[a];exact h.bs
 .show S2.V.wd _ _=_;rw[u];exact h.wd p hp
theorem Kh.fresh(h:Kh W CL U M n B Bw){p page pg id cls:Int}{S2:HS}{bl:Nat}{X:FX}(K:Pm W p S2 bl id page pg cls X)(p0:1<=pg)(p1:pg<=130)(hn:n<=60000)(aA: ∀q∈Bw,16<=q.z)(hI:Ae (W.fresh S2 bl id page pg cls X) (U.set id D8) (M.set id D8)):
  Kh (W.fresh S2 bl id page pg cls X) CL (U.set id D8) (M.set id D8) (n+1) B Bw/\S2.V.rf.length<=W.S.V.rf.length/\(W.fresh S2 bl id page pg cls X).S.sp id=some (bl,Gv page pg cls true)/\ ∀j,j≠id->(W.fresh S2 bl id page pg cls X).S.sp j=W.S.sp j:=by
 obtain⟨b,aB,aK⟩:=h.la;have hu:=kM p0 p1;obtain⟨⟨⟨b',aJ,hL⟩,aN,aM⟩,aE,aD⟩:=bP K.fd aB K.ok p0 (by omega);have e1:(W.fresh S2 bl id page pg cls X).S.sp id=some (bl,Gv page pg cls true):=if_pos rfl;have e2: ∀j,j≠id->(W.fresh S2 bl id page pg cls X).S.sp j=W.S.sp j:=λj hj=>by
  show(if j=id then _ else S2.sp j)=_
  grind
 have e3: ∀{j y},W.S.sp j=some y->(W.fresh S2 bl id page pg cls X).S.sp j=some y:=λ{j y} u=>by
  rw[e2 j (λe=>by rw[e,K.no]at u;cases u)];exact u
 refine⟨⟨hI,⟨h.Gz.sw,λx v=> ?_,h.Gz.Lj,h.Gz.rp,h.Gz.ch⟩,λx v y u=> ?_,⟨b',(hL.EB id (bl,Gv page pg cls true) page pg X).kA rfl rfl,by omega⟩,Nat.le_succ_of_le h.len,λi c hc k np=> ?_,h.ap,h.nd,λj y m u hm=> ?_,λq J=> ?_,h.sub,λq J=> ?_⟩,aD,e1,e2⟩
 .obtain⟨y,u,Y⟩:=h.Gz.kd x v
  grind
 .obtain⟨y',T,_⟩:=h.Gz.kd x v;have:=(e3 T).symm.trans u;cases this;exact h.full x v _ T
 .rcases h.own i c hc k np with g|⟨g1,⟨y,u,Y⟩,g3⟩
  .omega
  .exact .inr ⟨g1,⟨y,e3 u,Y⟩,g3⟩
 .by_cases e:j=id
  .subst e;rw[Aq.KB];refine⟨λc=>(by cases c),λc=> ?_⟩;obtain⟨q,J,hk⟩:=List.mem_map.1 c;obtain⟨x,v,_⟩:=h.bs q J;have:q.id=j:=(Prod.mk.inj hk).1;rw[this,K.no]at v;cases v
  .rw[show U.set id D8 j=U j from if_neg e];exact h.bl j y m (by grind) hm
 .obtain⟨x,v,aO⟩:=h.bs q J
  grind
 .have hz:=aA q J;rcases h.page (h.sub q J)with ⟨g1,g2⟩|g
  .have O: ¬(page<=(q.a+8)/8192/\(q.a+8)/8192<page+pg):=λhc=>by
    have:=K.inv.ow ((q.a+8)/8192) (by grind);have h2:=this.2.2.1;rw[show inr page pg ((q.a+8)/8192)=true from Au.2 hc]at h2;cases h2
   show S2.V.wd _ _=_;rw[aE _ O];exact h.wd q J
  .omega
end
section
variable{W:SW}{CL:List (Nat×KS)}{U M:Aq}{n:Nat}{B Bw:List Bk}
theorem FZ{α:Type}{l:List α}{i j:Nat}{a d:α}(hi:i<l.length)(hd:(l.set i a)[j]? =some d):(j=i/\d=a)∨(j≠i/\l[j]? =some d):=by grind
theorem Kh.hold(h:Kh W CL U M n B Bw){i:Nat}{c:Nat×KS}(hc:CL[i]? =some c){k:Int}{np:Bool}(hk:0<k/\k<68){id:Int}{y:Nat×SI}(hy:W.S.sp id=some y)(aH:y.2.cls=k/\y.2.Eh=np)(Kv:0<id)
  (aI: ∀x∈W.L,x.id≠id)(Y: ∀(j:Nat) d,CL[j]? =some d-> ∀u a,d.2.held u a≠id):Kh W (CL.set i (c.1,c.2.hold k np id)) U M n B Bw:=by
 have hi:=(List.getElem?_eq_some_iff.1 hc).1;have hh: ∀u a,(c.2.hold k np id).held u a=if u=k/\a=np then id else c.2.held u a:=λu a=>by
  by_cases e:u=k/\a=np
  .rw[if_pos e,e.1,e.2];exact KC c.2 hk.1 hk.2 _
  .rw[if_neg e];exact KD c.2 hk.1 e _
 refine⟨h.inv,h.Gz,h.full,h.la,h.len,λj d K u a=> ?_,λj j' d d' K O J u a=> ?_,h.nd,h.bl,h.bs,h.sub,h.wd⟩
 .rcases FZ hi K with ⟨_,rfl⟩|⟨_,K⟩
  .rw[hh];by_cases e:u=k/\a=np
   .grind
   .rw[if_neg e];exact h.own i c hc u a
  .exact h.own j d K u a
 .rcases FZ hi K with ⟨e1,e2⟩|⟨_,T⟩
  .rcases FZ hi O with ⟨e3,_⟩|⟨_,v⟩
   .omega
   .rw[e2,hh];by_cases e:u=k/\a=np
    .grind
    .rw[if_neg e];exact h.ap j j' c d' (by grind) v J u a
  .rcases FZ hi O with ⟨e3,e4⟩|⟨_,v⟩
   .intro g0;rw[e4,hh];by_cases e:u=k/\a=np
    .grind
    .rw[if_neg e];exact h.ap j j' d c T (by grind) J u a g0
   .exact h.ap j j' d d' T v J u a
theorem Kh.uM(h:Kh W CL U M n B Bw){id:Int}(J:W.S.sp id=none)(Kv:0<id): ∀(j:Nat) d,CL[j]? =some d-> ∀u a,d.2.held u a≠id:=λj d v u a e=>by
 rcases h.own j d v u a with g|⟨_,⟨y,K,_⟩,_⟩
 .omega
 grind
theorem Kh.kN(h:Kh W CL U M n B Bw){id:Int}(j:W.S.sp id=none): ∀x∈W.L,x.id≠id:=λx a e=>by
 obtain⟨y,u,_⟩:=h.Gz.kd x a
 grind
theorem Kh.file(h:Kh W CL U M n B Bw){id:Int}{y:Nat×SI}{EC:Nat}{bs:Int}(Y:W.S.sp id=some y)(v:y.2.used=y.2.AO)(u: ∀(j:Nat) d,CL[j]? =some d-> ∀T J,d.2.held T J≠id)
  (hI:Ae {W with L:=HJ W.L ⟨EC,id,bs,(y.2.cls,y.2.Eh,y.2.used==y.2.AO,true)⟩} U M):
  Kh {W with L:=HJ W.L ⟨EC,id,bs,(y.2.cls,y.2.Eh,y.2.used==y.2.AO,true)⟩} CL U M (n+1) B Bw:=by
 obtain⟨b,e,K⟩:=h.la;refine⟨hI,⟨λx a=> ?_,λx a=> ?_,h.Gz.Lj,h.Gz.rp,h.Gz.ch⟩,λx a z hz=> ?_,⟨b,e,by omega⟩,?_,λi c O k np=> ?_,h.ap,h.nd,h.bl,h.bs,h.sub,h.wd⟩
 .rcases DY.1 a with rfl|a
  .rfl
  .exact h.Gz.sw x a
 .rcases DY.1 a with rfl|a
  .grind
  .exact h.Gz.kd x a
 .rcases DY.1 a with rfl|a
  .grind
  .exact h.full x a z hz
 .rw[show(SW.L _)=HJ W.L _ from rfl,(Ha W.L _).length_eq];show W.L.length+1<=n+1;have:=h.len;omega
 .rcases h.own i c O k np with g|⟨g1,g2,g3⟩
  .omega
  .refine .inr ⟨g1,g2,λx a=> ?_⟩;rcases DY.1 a with rfl|a
   .grind
   grind
theorem Kh.JY(h:Kh W CL U M n B Bw){id:Int}{y:Nat×SI}{uw:List Int}{EC:Nat}(Y:W.S.sp id=some y)(hs:y.2.AO=1)(hu:y.2.used=0)(O:U id 0=false)(v: ∀x∈W.L,x.id≠id)(a: ∀(j:Nat) d,CL[j]? =some d-> ∀k' J,d.2.held k' J≠id)
  (hI:Ae (W.JY id y uw EC) (U.take id 0) M):Kh (W.JY id y uw EC) CL (U.take id 0) M (n+1) (⟨id,0,y.2.base,y.2.elem⟩::B) Bw:=by
 have hL: ∀x∈HJ W.L ⟨EC,id,y.2.base,(y.2.cls,y.2.Eh,y.2.used+1==y.2.AO,true)⟩,x∈HJ W.L ⟨EC,id,y.2.base,(y.2.cls,y.2.Eh,y.2.used+1==y.2.AO,true)⟩:=λ_ h=>h;have u:Ae (W.take id y uw 0) (U.take id 0) M:=⟨hI.hI,hI.sp,λx T=>hI.it x (DY.2 (.inr T))⟩;have K:=h.take v (m:=0) Y (by omega) O u;have e:y.2.base+((0:Nat):Int)*y.2.elem=y.2.base:=by omega
 rw[e]at K;exact K.file (y:=(y.1,{y.2 with uw:=uw,used:=y.2.used+1,look:=((0:Nat):Int)+1})) HS.F9 (by grind) a hI
theorem Kh.at8(h:Kh W CL U M n B Bw){p:Bk}(j:p∈B):(0<=p.a/\p.a %8=0)/\(p.z %8=0/\0<p.z)/\p.a+p.z<=281474976710656:=by
 obtain⟨x,e,J,hz⟩:=h.isB j;obtain⟨h1,u,v⟩:=e.at8 h.inv;omega
end
theorem T3: ∀{l:List Nat} {i u:Nat} (v:Nat),l[i]? =some u->(l.set i v).sum+u=l.sum+v
 | [],i,u,v,h=>by simp_all
 | a::l,0,u,v,h=>by grind
 | a::l,i+1,u,v,h=>by
  have:=T3 v (show l[i]? =some u by grind)
  grind
def Ie(f:Nat->Nat)(c:Nat)(ms:List Nat)(Q:List (AY×List Int)):Nat:=(ms.map f).sum+c*(Q.map λq=>q.2.length).sum
section
variable{f:Nat->Nat}{c:Nat}{ms:List Nat}{Q:List (AY×List Int)}{i:Nat}
theorem Ki{μ:Nat}(μ':Nat)(h:ms[i]? =some μ):Ie f c (ms.set i μ') Q+f μ=Ie f c ms Q+f μ':=by
 unfold Ie;have:=T3 (f μ') (l:=ms.map f) (i:=i) (u:=f μ) (by grind);rw[List.map_set];omega
theorem uN{s s':AY}{a:Int}{l:List Int}(e:Q[i]? =some (s,a::l)):Ie f c ms (Q.set i (s',l))+c=Ie f c ms Q:=by
 unfold Ie;have h:=T3 l.length (l:=Q.map λq=>q.2.length) (i:=i) (u:=l.length+1) (by grind);rw[List.map_set]
 grind
theorem XO{q:AY×List Int}(a:Q[i]? =some q)(s':AY)(k:Int):Ie f c ms (Q.set i (s',q.2++[k]))=Ie f c ms Q+c:=by
 unfold Ie;have h:=T3 (q.2.length+1) (l:=Q.map λq=>q.2.length) (i:=i) (u:=q.2.length) (by grind);rw[List.map_set,show(s',q.2++[k]).2.length=q.2.length+1 by simp]
 grind
theorem Vt: ∀{l:List Nat},(∀x∈l,x=0)->l.sum=0
 | [],_=>rfl
 | a::l,h=>by rw[List.sum_cons,h a List.mem_cons_self,Vt λx e=>h x (List.mem_cons_of_mem _ e)]
theorem SY(u:f 0=0)(hm: ∀(i:Nat) μ,ms[i]? =some μ->μ=0)(v: ∀(i:Nat) q,Q[i]? =some q->q.2=[]):Ie f c ms Q=0:=by
 unfold Ie;rw[Vt (l:=ms.map f) λx j=> ?_,Vt (l:=Q.map λq=>q.2.length) λx j=> ?_,Nat.mul_zero]
 .obtain⟨q,e,rfl⟩:=List.mem_map.1 j;obtain⟨i,hi⟩:=List.mem_iff_getElem?.1 e
  grind
 .obtain⟨μ,a,rfl⟩:=List.mem_map.1 j;obtain⟨i,hi⟩:=List.mem_iff_getElem?.1 a;rw[hm i μ hi,u]
end
theorem F5.Fk{S S':B4}(h:F5 S){i:Nat}{x:Nat×Tk}{t':Tk}(hx:S.T[i]? =some x)(hT:S'.T=S.T.set i (x.1,t'))(hn:t'.n=x.2.n)(hQ:S'.Q=S.Q∨ ∃s a l s',S.Q[i]? =some (s,a::l)/\S'.Q=S.Q.set i (s',l))(O:S'.L.length=S.L.length)
  (hp:S'.o1=true->S'.pc≠none/\HInv S'.W.S no):F5 S':=by
 have K:=(List.getElem?_eq_some_iff.1 hx).1;have u:S'.T.length=S.T.length:=by grind
 have v:S'.Q.length=S.Q.length:=by grind
 refine⟨by rw[u,v];exact h.tn,λj z hz=> ?_,λj z hz a J=> ?_,by rw[u,O];exact h.Nx,hp⟩
 .rw[hT]at hz;rcases FZ K hz with ⟨rfl,rfl⟩|⟨_,hz⟩
  .exact hn.trans (h.ti _ x hx)
  .exact h.ti j z hz
 .rw[O];rcases hQ with e|⟨s,b,l,s',Y,e⟩
  .rw[e]at hz;exact h.qa j z hz a J
  .rw[e]at hz;rcases FZ (List.getElem?_eq_some_iff.1 Y).1 hz with ⟨rfl,rfl⟩|⟨_,hz⟩
   .exact h.qa _ _ Y a (List.mem_cons_of_mem _ J)
   .exact h.qa j z hz a J
def pls(S:B4)(i:Nat):List Int:=match S.T[i]?,S.Q[i]? with
 | some x,some q=>if x.2.step=0 then q.2 else x.2.ask::q.2
 | _,_=>[]
structure Qk(S:B4):Prop where
 nd: ∀i,(pls S i).Nodup
 un: ∀i,∀a∈pls S i,∃(k:Nat) (y:Nat×Ak),a=(k:Int)/\S.L[k]? =some y/\y.2.done=false/\y.2.p=(i:Int)
 cv: ∀(k:Nat) y,S.L[k]? =some y->y.2.done=false-> ∃i,(k:Int)∈pls S i
section
variable{S S':B4}{i:Nat}{x:Nat×Tk}
theorem Hf{q:AY×List Int}(e:S.T[i]? =some x)(a:S.Q[i]? =some q):pls S i=if x.2.step=0 then q.2 else x.2.ask::q.2:=by unfold pls;simp_all
theorem T4(h:S.Q.length<=i):pls S i=[]:=by unfold pls;grind
theorem Me{t':Tk}(J:S.T[i]? =some x)(hT:S'.T=S.T.set i (x.1,t'))(u:S'.Q=S.Q)(a:S.Q.length<=i∨(t'.step≠0/\x.2.step≠0/\t'.ask=x.2.ask)): ∀j,pls S' j=pls S j:=λj=>by
 have v:=(List.getElem?_eq_some_iff.1 J).1;by_cases e:i=j
 .subst e;rcases a with a|⟨h1,K,O⟩
  .rw[T4 a,T4 (by rw[u];exact a)]
  .unfold pls
   grind
 .unfold pls
  grind
theorem Qk.same(h:Qk S)(v: ∀j,pls S' j=pls S j)(e:S'.L=S.L):Qk S':=⟨λj=>by rw[v];exact h.nd j,λj a u=>by rw[v]at u;rw[e];exact h.un j a u,λk y J hd=>by
 rw[e]at J;obtain⟨j,K⟩:=h.cv k y J hd
 grind⟩
theorem Ym(h0:x.2.step=0)(O:S.T[i]? =some x){s s':AY}{a:Nat}{l:List Int}(K:S.Q[i]? =some (s,(a:Int)::l)){st:Int}(J:st≠0): ∀j,pls (S.QY i x a s' l st) j=pls S j:=λj=>by
 have v:=(List.getElem?_eq_some_iff.1 O).1;have u:=(List.getElem?_eq_some_iff.1 K).1;by_cases e:i=j
 .subst e;rw[Hf O K,Hf (S:=S.QY i x a s' l st) (List.getElem?_set_self v) (List.getElem?_set_self u),if_pos h0,if_neg J]
 .unfold pls;rw[show(S.QY i x a s' l st).T[j]? =S.T[j]? from List.getElem?_set_ne e,show(S.QY i x a s' l st).Q[j]? =S.Q[j]? from List.getElem?_set_ne e]
theorem Qk.done(h:Qk S)(Y:S.T[i]? =some x)(h0:x.2.step≠0)(hi:i<S.Q.length){k:Nat}{y:Nat×Ak}(hk:x.2.ask=(k:Int))(hy:S.L[k]? =some y){t':Tk}{ad nn co:Int}(hT:S'.T=S.T.set i (x.1,t'))(ht:t'.step=0)(hQ:S'.Q=S.Q)(hL:S'.L=S.L.set k (y.1,y.2.rep ad nn co)):Qk S':=by
 have aG:=(List.getElem?_eq_some_iff.1 Y).1;obtain⟨q,O⟩: ∃q,S.Q[i]? =some q:=⟨_,List.getElem?_eq_getElem hi⟩;have e1:pls S i=(k:Int)::q.2:=by rw[Hf Y O,if_neg h0,hk]
 have e2:pls S' i=q.2:=by rw[Hf (S:=S') (x:=(x.1,t')) (by grind) (by rw[hQ];exact O),if_pos ht]
 have K: ∀j,i≠j->pls S' j=pls S j:=λj e=>by
  unfold pls
  grind
 have J:=h.nd i;rw[e1]at J;have aI:=(List.nodup_cons.1 J).1;have sub: ∀j a,a∈pls S' j->a∈pls S j/\a≠(k:Int):=λj a v=>by
  by_cases e:i=j
  .grind
  .rw[K j e]at v;refine⟨v,λc=> ?_⟩;obtain⟨k1,y1,h1,h2,_,h4⟩:=h.un j a v;obtain⟨k2,y2,g1,g2,_,g4⟩:=h.un i k (by grind)
   grind
 refine⟨λj=> ?_,λj a v=> ?_,λk' y' u hd=> ?_⟩
 .by_cases e:i=j
  .grind
  .rw[K j e];exact h.nd j
 .obtain⟨g1,g2⟩:=sub j a v;obtain⟨k1,y1,h1,h2,h3⟩:=h.un j a g1;exact⟨k1,y1,h1,by grind,h3⟩
 .rw[hL]at u;rcases FZ (List.getElem?_eq_some_iff.1 hy).1 u with ⟨rfl,rfl⟩|⟨aH,u⟩
  .cases hd
  .obtain⟨j,hj⟩:=h.cv k' y' u hd
   grind
theorem Qk.asked(h:Qk S)(Bl:F5 S){q:AY×List Int}(hq:S.Q[i]? =some q){s':AY}{b:Nat}{op n:Int}{set:AY}:Qk (S.asked i s' q.2 b (.new op (i:Int) n set)):=by
 have O:=(List.getElem?_eq_some_iff.1 hq).1;have hn:=Bl.tn;obtain⟨x,hx⟩: ∃x,S.T[i]? =some x:=⟨_,List.getElem?_eq_getElem (by omega)⟩;have e1:pls (S.asked i s' q.2 b (.new op (i:Int) n set)) i=pls S i++[(S.L.length:Int)]:=by
  rw[Hf (S:=S.asked i s' q.2 b (.new op (i:Int) n set)) hx (List.getElem?_set_self O),Hf hx hq]
  grind
 have e2: ∀j,i≠j->pls (S.asked i s' q.2 b (.new op (i:Int) n set)) j=pls S j:=λj e=>by
  unfold pls;rw[show(S.asked i s' q.2 b (.new op (i:Int) n set)).Q[j]? =S.Q[j]? from List.getElem?_set_ne e];rfl
 have Pq: ∀{k:Nat} {y:Nat×Ak},S.L[k]? =some y->(S.L++[(b,Ak.new op (i:Int) n set)])[k]? =some y:=λ{k y} J=>by grind
 have Y: ∀j,∀a∈pls S j,a≠(S.L.length:Int):=λj a u=>by
  obtain⟨k,y,h1,v,_⟩:=h.un j a u;have:=(List.getElem?_eq_some_iff.1 v).1;omega
 refine⟨λj=> ?_,λj a u=> ?_,λk y J hd=> ?_⟩
 .by_cases e:i=j
  .subst e;rw[e1,List.nodup_append];exact⟨h.nd i,by simp,λa u b hb=>by rw[List.mem_singleton.1 hb];exact Y i a u⟩
  .rw[e2 j e];exact h.nd j
 .by_cases e:i=j
  .subst e;rw[e1]at u;rcases List.mem_append.1 u with u|u
   .obtain⟨k,y,h1,v,K⟩:=h.un i a u;exact⟨k,y,h1,Pq v,K⟩
   .exact⟨S.L.length,(b,Ak.new op (i:Int) n set),List.mem_singleton.1 u,by show(S.L++_)[_]? =_;grind,rfl,rfl⟩
  .rw[e2 j e]at u;obtain⟨k,y,h1,v,K⟩:=h.un j a u;exact⟨k,y,h1,Pq v,K⟩
 .have J:(S.L++[(b,Ak.new op (i:Int) n set)])[k]? =some y:=J;rcases Nat.lt_or_ge k S.L.length with g|g
  .rw[List.getElem?_append_left g]at J;obtain⟨j,hj⟩:=h.cv k y J hd
   grind
  grind
theorem Qk.idle(h:Qk S)(hd:I0 S=false){q:AY×List Int}(J:S.T[i]? =some x)(v:S.Q[i]? =some q):x.2.step=0/\q.2=[]:=by
 have e:pls S i=[]:=List.eq_nil_iff_forall_not_mem.2 λa u=>by
  obtain⟨k,y,_,j,K,_⟩:=h.un i a u;have:=List.any_eq_false.1 hd y (List.mem_of_getElem? j)
  grind
 rw[Hf J v]at e
 grind
end
theorem Kh.none_{W:SW}{CL:List (Nat×KS)}{U M:Aq}{n:Nat}{B Bw:List Bk}(h:Kh W CL U M n B Bw)(cls:Int)(np:Bool):Fg W.L (cls,np,false,true)=[]:=by
 refine List.eq_nil_iff_forall_not_mem.2 λz hz=> ?_;obtain⟨a,j⟩:=FF.1 hz;obtain⟨u,hu,e⟩:=h.Gz.kd z a;have v:=h.full z a u hu
 grind
theorem Kh.Vu{W:SW}{CL:List (Nat×KS)}{U M:Aq}{n:Nat}{B Bw:List Bk}(h:Kh W CL U M n B Bw): ∀z∈W.L,z.Ei=true/\z.kd.2.2.2=true:=λz hz=>by
 obtain⟨u,hu,a⟩:=h.Gz.kd z hz
 grind
theorem HK.uniq{n c p e u:Int}(h:HK n c p)(J:HK n e u):c=e/\p=u:=by
 rcases h with ⟨a,b,c⟩|⟨a,b,c⟩<;>rcases J with ⟨v,j,e⟩|⟨v,j,e⟩
 .have:=b.uniq j;grind
 .omega
 .omega
 omega
structure MA(W:SW)(C:List (Nat×KS))(U:Aq)(n:Nat)(B:List Bk)(k0 ma:Int):Prop where
 tp:Kh W.r0 C U Gf n B []
 kc: ∀(i:Nat) c,C[i]? =some c-> ∀k np,¬(k=k0/\np=true)->c.2.held k np=0
 Vv: ∀id x,W.S.sp id=some x->(∃z∈W.L,z.id=id)∨ ∃(i:Nat) (c:Nat×KS),C[i]? =some c/\c.2.held k0 true=id
 re:W.R=[]/\W.em=[]
 rf:W.S.V.rf=[]
 fr:0<=W.CD/\ma=W.CD+B.length/\ma<=n
 k0:0<k0/\k0<68
theorem SU.r0{W e:SW}{K:KS}{k:Int}{np:Bool}(h:SU W K k np e):SU W.r0 K k np e.r0:=by
 rcases h with ⟨h,rfl⟩|⟨h,y,EC,j,a,rfl⟩
 .exact .inl ⟨h,rfl⟩
 .exact .inr ⟨h,y,EC,j,a,rfl⟩
section
variable{W:SW}{C:List (Nat×KS)}{U:Aq}{n:Nat}{B:List Bk}{k0 ma:Int}
theorem MA.inv(h:MA W C U n B k0 ma):Ae W U Gf:=h.tp.inv.ofR0
theorem MA.mono(h:MA W C U n B k0 ma){m:Nat}(hm:n<=m):MA W C U m B k0 ma:=⟨h.tp.mono hm,h.kc,h.Vv,h.re,h.rf,by have:=h.fr;omega,h.k0⟩
theorem MA.take(h:MA W C U n B k0 ma){i:Nat}{c:Nat×KS}(j:C[i]? =some c){z:Nat×SI}{m:Nat}{uw:List Int}(hz:W.S.sp (c.2.held k0 true)=some z)(hm:(m:Int)<z.2.AO)(hu:U (c.2.held k0 true) m=false)
  (hI:Ae (W.take (c.2.held k0 true) z uw m) (U.take (c.2.held k0 true) m) Gf):MA (W.take (c.2.held k0 true) z uw m) C (U.take (c.2.held k0 true) m) (n+1) (⟨c.2.held k0 true,m,z.2.base+m*z.2.elem,z.2.elem⟩::B) k0 (ma+1):=by
 have u:=(h.tp.take (h.tp.held j hz) hz hm hu (hI.r0:Ae (W.r0.take (c.2.held k0 true) z uw m) _ _)).mono (Nat.le_succ n);refine⟨u,h.kc,λid x a=> ?_,h.re,h.rf,?_,h.k0⟩
 .have a:(if id=c.2.held k0 true then some _ else W.S.sp id)=some x:=a;by_cases e:id=c.2.held k0 true
  .grind
  .rw[if_neg e]at a;exact h.Vv id x a
 .have:=h.fr;rw[List.length_cons];show 0<=W.CD/\ma+1=W.CD+_/\_;omega
theorem MA.uF(h:MA W C U n B k0 ma){i:Nat}{c:Nat×KS}(v:C[i]? =some c){a:SW}(O:SU W c.2 k0 true a)(hI:Ae a U Gf)(hd: ∀z,W.S.sp (c.2.held k0 true)=some z-> ∀j:Nat,(j:Int)<z.2.AO->U (c.2.held k0 true) j=true):
  MA a (C.set i (c.1,c.2.hold k0 true 0)) U (n+1) B k0 ma:=by
 have T:=(List.getElem?_eq_some_iff.1 v).1;have hS:=(Vo O).1;have J:(∀z∈W.L,∃z'∈a.L,z'.id=z.id)/\(c.2.held k0 true≠0-> ∃z∈a.L,z.id=c.2.held k0 true)/\a.R=W.R/\a.em=W.em/\a.CD=W.CD:=by
  rcases O with ⟨e,rfl⟩|⟨e,y,EC,hy,aA,rfl⟩
  .grind
  .exact⟨λz hz=>⟨z,DY.2 (.inr hz),rfl⟩,λ_=>⟨_,DY.2 (.inl rfl),rfl⟩,rfl,rfl,rfl⟩
 refine⟨h.tp.uF v h.k0 O.r0 hI.r0 hd,λj d u k np K=> ?_,λid x Y=> ?_,by rw[J.2.2.1,J.2.2.2.1];exact h.re,by rw[hS];exact h.rf,by rw[J.2.2.2.2];have:=h.fr;omega,h.k0⟩
 .rcases FZ T u with ⟨_,rfl⟩|⟨_,u⟩
  .rw[KD c.2 h.k0.1 K];exact h.kc i c v k np K
  .exact h.kc j d u k np K
 .rw[hS]at Y;rcases h.Vv id x Y with ⟨z,hz,e⟩|⟨j,d,u,e⟩
  .grind
  .by_cases g:j=i
   .subst g;rw[v]at u;cases u;have Kv:=(h.inv.hI.sp id x Y).1
    grind
   .exact .inr ⟨j,d,by grind,e⟩
theorem MA.Nd(h:MA W C U n B k0 ma){k:Int}(a:0<=k):MA (W.Nd k) C U n B k0 ma:=⟨(h.tp.Nd a:Kh (W.r0.Nd k) _ _ _ _ _ _),h.kc,h.Vv,h.re,h.rf,h.fr,h.k0⟩
section
variable{p page pg id cls:Int}{S2:HS}{bl:Nat}{X:FX}
theorem Pm.r0(h:Pm W p S2 bl id page pg cls X):Pm W.r0 p S2 bl id page pg cls X:=⟨h.fd,h.ok,h.inv,h.nx,h.no,h.p0,h.p1⟩
theorem MA.hold(h:MA W C U n B k0 ma)(Y:Pm W p S2 bl id page pg k0 X)(p0:1<=pg)(p1:pg<=130)(hn:n<=60000){i:Nat}{c:Nat×KS}(T:C[i]? =some c)(h0:c.2.held k0 true=0)
  (hI:Ae (W.fresh S2 bl id page pg k0 X) (U.set id D8) Gf):MA (W.fresh S2 bl id page pg k0 X) (C.set i (c.1,c.2.hold k0 true id)) (U.set id D8) (n+1) B k0 ma:=by
 have a:=(List.getElem?_eq_some_iff.1 T).1;obtain⟨K,u,v,J⟩:=h.tp.fresh Y.r0 p0 p1 hn (λq hq=>by cases hq) (by rw[Ia];exact hI.r0);have Kv:=(hI.hI.sp id _ v).1;rw[Ia]at K;refine⟨K.hold T h.k0 v ⟨rfl,rfl⟩ Kv (h.tp.kN Y.no) (h.tp.uM Y.no Kv),λj d hj k np hk=> ?_,λj x hx=> ?_,h.re,List.eq_nil_of_length_eq_zero (by rw[show W.r0.S.V.rf=[]from h.rf]at u;exact Nat.le_zero.1 u),by have:=h.fr;show 0<=W.CD/\_=W.CD+_/\_;omega,h.k0⟩
 .rcases FZ a hj with ⟨_,rfl⟩|⟨_,hj⟩
  .rw[KD c.2 h.k0.1 hk];exact h.kc i c T k np hk
  .exact h.kc j d hj k np hk
 .by_cases e:j=id
  .exact .inr ⟨i,_,List.getElem?_set_self a,by rw[KC c.2 h.k0.1 h.k0.2];exact e.symm⟩
  .have O:=(J j e).symm.trans hx;rcases h.Vv j x O with g|⟨i2,d,hd,e2⟩
   .exact .inl g
   .refine .inr ⟨i2,d,?_,e2⟩;rw[List.getElem?_set_ne ?_]
    .exact hd
    .rintro rfl;rw[T]at hd;cases hd;have:=(h.inv.hI.sp j x O).1;omega
theorem MA.JY(h:MA W C U n B k0 ma)(T:Pm W p S2 bl id page pg 0 X)(p0:1<=pg)(p1:pg<=130)(hn:n<=60000){uw:List Int}{EC:Nat}
  (hI:Ae (W.fresh S2 bl id page pg 0 X) (U.set id D8) Gf)(O:Ae ((W.fresh S2 bl id page pg 0 X).JY id (bl,Gv page pg 0 true) uw EC) ((U.set id D8).take id 0) Gf):
  MA ((W.fresh S2 bl id page pg 0 X).JY id (bl,Gv page pg 0 true) uw EC) C ((U.set id D8).take id 0) (n+2) (⟨id,0,page*8192,pg*8192⟩::B) k0 (ma+1):=by
 obtain⟨J,a,u,v⟩:=h.tp.fresh T.r0 p0 p1 hn (λq hq=>by cases hq) (by rw[Ia];exact hI.r0);have Kv:=(hI.hI.sp id _ u).1;rw[Ia]at J;have Y:=J.JY u rfl rfl (by rw[Aq.KB];rfl) (h.tp.kN T.no) (h.tp.uM T.no Kv) (O.r0:Ae ((W.r0.fresh S2 bl id page pg 0 X).JY id (bl,Gv page pg 0 true) uw EC) _ _);refine⟨Y,h.kc,λj x hx=> ?_,h.re,List.eq_nil_of_length_eq_zero (by rw[show W.r0.S.V.rf=[]from h.rf]at a;exact Nat.le_zero.1 a),by have:=h.fr;rw[List.length_cons];show 0<=W.CD/\ma+1=W.CD+_/\_;omega,h.k0⟩;by_cases e:j=id
 .exact .inl ⟨_,DY.2 (.inl rfl),e.symm⟩
 .have K:(if j=id then some _ else(W.fresh S2 bl id page pg 0 X).S.sp j)=some x:=hx;rw[if_neg e,show(W.fresh S2 bl id page pg 0 X).S.sp j=W.S.sp j from v j e]at K;rcases h.Vv j x K with ⟨z,hz,e2⟩|g
  .exact .inl ⟨z,DY.2 (.inr hz),e2⟩
  grind
end
theorem Kh.OY{W:SW}{C:List (Nat×KS)}{M:Aq}(h:Kh W C U M n B []){S':HS}(j:MM W.S S')(hI:Ae {W with S:=S'} U M):Kh {W with S:=S'} C U M n B []:=by
 have e:({W with S:=S'}:SW).S.sp=W.S.sp:=j.sp;obtain⟨b,a,u⟩:=h.la;refine⟨hI,⟨h.Gz.sw,by rw[e];exact h.Gz.kd,h.Gz.Lj,h.Gz.rp,h.Gz.ch⟩,by rw[e];exact h.full,⟨b,⟨?_,a.b0,a.b1,?_,?_,?_,rfl⟩,u⟩,h.len,λi c J k np=> ?_,h.ap,h.nd,by rw[e];exact h.bl,by rw[e];exact h.bs,λp v=>(by cases v),λp v=>(by cases v)⟩
 .show ∀p,mem S'.V.laid p↔_;rw[j.laid];exact a.la
 .show 0<=S'.hint;rw[j.hint];exact a.h0
 .show S'.hint<=b;rw[j.hint];exact a.h1
 .show S'.V.pl=[];rw[j.pl];exact a.pl
 .rw[e];exact h.own i c J k np
theorem MA.OY(h:MA W C U n B k0 ma){S':HS}(a:MM W.S S')(hI:Ae {W with S:=S'} U Gf):MA {W with S:=S'} C U n B k0 ma:=
 ⟨(h.tp.OY a hI.r0:Kh {W.r0 with S:=S'} _ _ _ _ _ _),h.kc,by rw[show({W with S:=S'}:SW).S.sp=W.S.sp from a.sp];exact h.Vv,h.re,a.rf.trans h.rf,h.fr,h.k0⟩
end
def SZ(o:Option Nat)(ps:Nat)(S:HS)(G:Nat):Prop:=match o with
 | none=>True
 | some n=>(1<=n/\n<=10)/\(∀i,i<64-> ∀p,(S.ca i).own p=true->i<ps)/\(∀ks:List Int,ks.Nodup->(∀c∈ks,mem S.ks c)->ks.length<=ps+1)/\ ∃I:List Int,(∀id x,S.sp id=some x->id∈I/\x.2.AD=(n:Int))/\I.length+G<=20
section
variable{o:Option Nat}{ps G:Nat}{S S':HS}
theorem SZ.Fk(h:SZ o ps S G)(a:S'.ca=S.ca)(e:S'.ks=S.ks)(u: ∀id x,S'.sp id=some x-> ∃y,S.sp id=some y/\x.2.AD=y.2.AD){G':Nat}(O:G'<=G):SZ o ps S' G':=by
 cases o with
 | none=>trivial
 | some n=>
  obtain⟨j,h1,v,I,J,K⟩:=h;refine⟨j,by rw[a];exact h1,by grind,I,λid x T=> ?_,by omega⟩
  grind
theorem Lf.ca{i:Nat}(h:Lf S i S'):(∀j,j≠i->S'.ca j=S.ca j)/\S'.ks=S.ks/\S'.sp=S.sp/\S'.V=S.V/\S'.hint=S.hint:=by
 rcases h with ⟨_,q,_,rfl⟩|⟨_,rfl⟩
 .exact⟨λj a=>if_neg a,rfl,rfl,rfl,rfl⟩
 grind
theorem MH.ca{p n:Int}(h:MH S p n S'):(∀j:Nat,(j:Int)≠p->S'.ca j=S.ca j)/\S'.ks=S.ks/\S'.sp=S.sp/\S'.V=S.V/\S'.hint=S.hint:=by
 rcases h with ⟨_,rfl⟩|⟨i,_,rfl,_,a,_⟩
 .grind
 .exact⟨λj e=>a.ca.1 j (by omega),a.ca.2⟩
theorem SZ.grow{n:Nat}(h:SZ (some n) ps S G)(hI:HInv S no)(hk:Pf S){i:Nat}(hi:i<ps){page:Int}(hF:Found S i n page S'){b:Int}(hL:F7 S.Vz b)(hb:b<=34359737856)(aG:S.V.rf=[])(hG:1<=G){id:Int}{x:Nat×SI}(hx:x.2.AD=n)(X:FX):
  SZ (some n) ps (S'.EB id x page n X) (G-1):=by
 obtain⟨hn,h1,h2,I,h3,h4⟩:=h;obtain⟨S1,O,hm⟩:=hF;have aA:S'.ca=S1.ca/\S'.ks=S1.ks/\S'.sp=S1.sp:=by rcases hm with ⟨_,rfl⟩|⟨_,_,rfl⟩<;>exact⟨rfl,rfl,rfl⟩
 have key:(∀j:Nat,j≠i->S1.ca j=S.ca j)/\S1.sp=S.sp/\ ∀ks:List Int,ks.Nodup->(∀c∈ks,mem S1.ks c)->ks.length<=ps+1:=by
  rcases O with (⟨J,i',k,_,e,_,hf,_,_,_,_,rfl⟩|⟨J,O,_,rfl⟩)|⟨J,aL,O,aF,hg,_,rfl⟩
  .obtain rfl:i=i':=by omega
   obtain⟨g1,g2,g3,_⟩:=hf.ca;refine⟨λj Y=> ?_,g3,λks u a=>h2 ks u λc v=>by rw[<-g2];exact a c v⟩;show(if j=i then _ else J.ca j)=_
   grind
  .obtain⟨g1,g2,g3,_⟩:=O.ca;exact⟨λj Y=>g1 j (by omega),g3,λks u a=>h2 ks u λc v=>by rw[<-g2];exact a c v⟩
  .obtain⟨g1,g2,g3,g4,g5⟩:=O.ca;have aC:=O.inv hI hk;have T: ∀j,j<64-> ∀p,(J.ca j).own p=true->j<ps:=λj Y p K=>by
    by_cases e:j=i
    .omega
    .rw[g1 j (by omega)]at K;exact h1 j Y p K
   obtain⟨_,at_,aD,rfl⟩:=hg;have hu:LF (n:Int)=512:=by unfold LF;omega
   rw[hu]at aD;refine⟨λj Y=>g1 j (by omega),g3,λks u a=> ?_⟩;have aO:at_=b:=hL.sD (by decide) (show Ob S.Vz.V S.Vz.hint 512 at_ by
    have e1:S.Vz.V=S.V:=by unfold HS.Vz;rw[<-aG]
    rw[e1,show S.Vz.hint=S.hint from rfl,<-g4,<-g5];simp_all)
   have aP:=hL.b0;have aB: ∀c,mem (DZ J.ks (at_/512) ((at_+LF n)/512)) c->mem J.ks c∨c=at_/512:=λc v=>by
    rw[hu]at v;rcases(Eb (by rw[g2];exact hk.ok) (by omega) (by omega) (by omega) c).1 v with g|g
    .grind
    omega
   have hlen:=aC.arenas (n:=n) hn.1 hn.2 aF (ids:=I) (by omega) (by rw[g3];exact h3) T (ks:=ks.erase (at_/512)) (u.erase _) λc v=>by
    rcases aB c (a c (List.mem_of_mem_erase v))with g|g
    .exact g
    .exact absurd v (by grind)
   grind
 refine⟨hn,λj Y p K=> ?_,λks u a=>key.2.2 ks u λc v=>by rw[<-aA.2.1];exact a c v,id::I,λj y hy=> ?_,by grind⟩
 .have K:(S'.ca j).own p=true:=K;rw[aA.1]at K
  grind
 .have hy:(if j=id then some x else S'.sp j)=some y:=hy
  grind
end
def Wt(x:Tk)(y:Ak):Prop:=HK y.n x.cls x.pg/\x.np=true/\x.ti=false
def TA(k0:Int)(W:SW)(C:List (Nat×KS))(U:Aq)(i:Nat)(x:Tk)(y:Ak)(μ:Nat):Prop:=
 (μ=9/\x.step=1)∨
 (((μ=7/\x.step=2)∨(μ=6/\x.step=4)∨(μ=5/\x.step=6)∨(μ=4/\x.step=7))/\Wt x y/\(x.cls≠0-> ∀c,C[i]? =some c->c.2.held k0 true=0))∨
 (μ=3/\x.step=1/\ ∀cls pg,HK y.n cls pg-> ∃c z,cls=k0/\C[i]? =some c/\W.S.sp (c.2.held k0 true)=some z/\0<z.2.AO/\U (c.2.held k0 true) 0=false)
structure WR(k0:Int)(o:Option Nat)(y:Ak):Prop where
 op:y.op=1
 n0:16<=y.n
 n1:y.n<=1000000
 w: ∀cls pg,HK y.n cls pg->(cls=0∨cls=k0)/\ ∀n,o=some n->pg=(n:Int)
def Rep(q:Bk)(y:Ak):Prop:=y.ad=q.a/\y.nn=q.z/\y.co=0/\ ∃cls pg,HK y.n cls pg/\q.z=Rh y.n cls
def gG(μ:Nat):Nat:=if 4<=μ then 1 else 0
def gP(μ:Nat):Nat:=if μ=0 then 0 else 1
structure PA(k0:Int)(o:Option Nat)(c N k1:Nat)(ns:Nat->Int)(F0:Int)(m:Nat)(S:B4)(U:Aq)(ms:List Nat)(B:List Bk):Prop where
 ok:F5 S
 qk:Qk S
 cl:S.C.length=S.Q.length
 wo:S.wo= -1/\S.pc≠none
 ml:ms.length=S.Q.length
 ask: ∀(k:Nat) y,S.L[k]? =some y->y.2.done=false->WR k0 o y.2
 t0: ∀(i:Nat) x,S.T[i]? =some x->x.2.tr=0/\(S.Q.length<=i->x.2.step=0∨(i=S.Q.length+1/\x.2.step=8))/\((x.2.step=7∨x.2.step=8)↔S.ho=(i:Int))
 h1:S.ho= -1∨ ∃(i:Nat) (x:Nat×Tk),S.ho=(i:Int)/\S.T[i]? =some x
 ta: ∀(i:Nat) x μ,S.T[i]? =some x->ms[i]? =some μ->(x.2.step=0->μ=0)/\(x.2.step≠0-> ∀(k:Nat) y,x.2.ask=(k:Int)->S.L[k]? =some y->TA k0 S.W S.C U i x.2 y.2 μ)
 me:m=Ie id 9 ms S.Q/\m<=c/\S.ord.length<=c-m/\c<=50000
 ma:MA S.W S.C U (c-m) B k0 S.ma
 np:B.length+Ie gP 1 ms S.Q=N
 ar:SZ o S.Q.length S.W.S (Ie gG 1 ms S.Q)
 rep: ∀(k:Nat) y,k1<=k->S.L[k]? =some y->y.2.done=true-> ∃q∈B,Rep q y.2
 ln:S.L.length=k1+N
 fz:S.W.CD=F0
 nz: ∀(k:Nat) y,k1<=k->S.L[k]? =some y->y.2.n=ns k
section
variable{k0:Int}{o:Option Nat}{c N k1 m:Nat}{ns:Nat->Int}{F0:Int}{S S':B4}{U:Aq}{ms:List Nat}{B:List Bk}{i:Nat}{x:Nat×Tk}
theorem TA.EB{W W':SW}{C C':List (Nat×KS)}{U U':Aq}{t:Tk}{y:Ak}{μ:Nat}(h:TA k0 W C U i t y μ)(u:C'[i]? =C[i]?)
  (hz: ∀c z,C[i]? =some c->W.S.sp (c.2.held k0 true)=some z-> ∃j,W'.S.sp (c.2.held k0 true)=some j/\j.2.AO=z.2.AO/\U' (c.2.held k0 true) 0=U (c.2.held k0 true) 0):TA k0 W' C' U' i t y μ:=by
 rcases h with h|⟨h1,a,e⟩|⟨h1,a,e⟩
 .exact .inl h
 .exact .inr (.inl ⟨h1,a,λg d hd=>e g d (by grind)⟩)
 .refine .inr (.inr ⟨h1,a,λcls pg hw=> ?_⟩)
  grind
theorem PA.cur(h:PA k0 o c N k1 ns F0 m S U ms B)(j:S.T[i]? =some x)(hi:i<S.Q.length)(h0:x.2.step≠0): ∃(k:Nat) (y:Nat×Ak) (μ:Nat),x.2.ask=(k:Int)/\S.L[k]? =some y/\y.2.done=false/\ms[i]? =some μ/\WR k0 o y.2/\TA k0 S.W S.C U i x.2 y.2 μ:=by
 obtain⟨q,v⟩: ∃q,S.Q[i]? =some q:=⟨_,List.getElem?_eq_getElem hi⟩;obtain⟨k,y,e,a,hd,_⟩:=h.qk.un i x.2.ask (by rw[Hf j v,if_neg h0];grind);obtain⟨μ,u⟩: ∃μ,ms[i]? =some μ:=⟨_,List.getElem?_eq_getElem (by rw[h.ml];exact hi)⟩;exact⟨k,y,μ,e,a,hd,u,h.ask k y a hd,(h.ta i x μ j u).2 h0 k y e a⟩
theorem PA.head(h:PA k0 o c N k1 ns F0 m S U ms B)(v:S.T[i]? =some x)(h0:x.2.step=0){s:AY}{a:Int}{l:List Int}(u:S.Q[i]? =some (s,a::l)): ∃(k:Nat) (y:Nat×Ak),a=(k:Int)/\S.L[k]? =some y/\WR k0 o y.2:=by
 obtain⟨k,y,e,j,hd,_⟩:=h.qk.un i a (by rw[Hf v u,if_pos h0];exact List.mem_cons_self);exact⟨k,y,e,j,h.ask k y j hd⟩
theorem PA.QY(h:PA k0 o c N k1 ns F0 m S U ms B)(O:S.T[i]? =some x)(h0:x.2.step=0){s s':AY}{a:Nat}{l:List Int}(Y:S.Q[i]? =some (s,(a:Int)::l)):PA k0 o c N k1 ns F0 m (S.QY i x a s' l 1) U (ms.set i 9) B:=by
 have J:=(List.getElem?_eq_some_iff.1 O).1;have K:=(List.getElem?_eq_some_iff.1 Y).1;have v:(S.QY i x a s' l 1).Q.length=S.Q.length:=List.length_set ..;obtain⟨μ,hμ⟩: ∃μ,ms[i]? =some μ:=⟨_,List.getElem?_eq_getElem (by rw[h.ml];exact K)⟩;obtain rfl:=(h.ta i x μ O hμ).1 h0;have u: ∀f c,f 0=0->f 9=c->Ie f c (ms.set i 9) (S.QY i x a s' l 1).Q=Ie f c ms S.Q:=λf c h1 h2=>by
  have e1:=Ki (f:=f) (c:=c) (Q:=(S.QY i x a s' l 1).Q) 9 hμ;have e2:=uN (f:=f) (c:=c) (ms:=ms) (s':=s') Y;have e3:Ie f c ms (S.QY i x a s' l 1).Q=Ie f c ms (S.Q.set i (s',l)):=rfl;omega
 refine⟨h.ok.Fk O rfl rfl (.inr ⟨s,_,l,s',Y,rfl⟩) rfl h.ok.pw,h.qk.same (Ym h0 O Y (by decide)) rfl,by rw[v];exact h.cl,h.wo,by rw[v,List.length_set];exact h.ml,h.ask,λj z hz=> ?_,?_,λj z ν hz hν=> ?_,by rw[u id 9 rfl rfl];exact h.me,h.ma,by rw[u gP 1 rfl rfl];exact h.np,by rw[u gG 1 rfl rfl,v];exact h.ar,h.rep,h.ln,h.fz,h.nz⟩
 .rw[v];rcases FZ J hz with ⟨rfl,rfl⟩|⟨_,hz⟩
  .obtain⟨g1,g2,g3⟩:=h.t0 j x O;refine⟨g1,λc=>by omega,λc=> ?_,λc=> ?_⟩
   .grind
   .have:=g3.2 c;omega
  .exact h.t0 j z hz
 .rcases h.h1 with g|⟨j,z,e,hz⟩
  .exact .inl g
  .by_cases e2:i=j
   .subst e2;exact .inr ⟨i,_,e,List.getElem?_set_self J⟩
   .exact .inr ⟨j,z,e,by show(S.T.set i _)[j]? =_;grind⟩
 .rcases FZ J hz with ⟨rfl,rfl⟩|⟨aB,hz⟩
  .rw[List.getElem?_set_self (by rw[h.ml];exact K)]at hν;cases hν;exact⟨λc=>absurd c (by grind),λ_ k y _ _=>.inl ⟨rfl,rfl⟩⟩
  .rw[List.getElem?_set_ne (λc=>aB c.symm)]at hν;exact h.ta j z ν hz hν
theorem PA.Fk(h:PA k0 o c N k1 ns F0 m S U ms B)(hx:S.T[i]? =some x)(hi:i<S.Q.length)(h0:x.2.step≠0){t':Tk}{U':Aq}{B':List Bk}{μ μ':Nat}(hμ:ms[i]? =some μ)(a7:μ'<μ)
  (hT:S'.T=S.T.set i (x.1,t'))(hn:t'.n=x.2.n)(bF:t'.tr=x.2.tr)(J:S'.Q=S.Q)(u:S'.wo=S.wo/\S'.o1=S.o1/\S'.pc=S.pc/\S'.C.length=S.C.length)
  (hh:(t'.step=7/\S.ho= -1/\S'.ho=(i:Int))∨((t'.step≠7/\t'.step≠8)/\((x.2.step≠7/\x.2.step≠8/\S'.ho=S.ho)∨(x.2.step=7/\S'.ho= -1))))
  (hL:(t'.step≠0/\μ'≠0/\t'.ask=x.2.ask/\S'.L=S.L/\S'.ord=S.ord/\B'=B)∨(t'.step=0/\μ'=0/\ ∃(k:Nat) (y:Nat×Ak) (ad nn:Int) (q:Bk),x.2.ask=(k:Int)/\S.L[k]? =some y/\S'.L=S.L.set k (y.1,y.2.rep ad nn 0)/\S'.ord=S.ord++[(k:Int)]/\B'=q::B/\Rep q (y.2.rep ad nn 0)))
  (bE:t'.step≠0-> ∀(k:Nat) y,x.2.ask=(k:Int)->S.L[k]? =some y->TA k0 S'.W S'.C U' i t' y.2 μ')
  (aK: ∀(j:Nat) d,j≠i->S.C[j]? =some d->S'.C[j]? =some d/\ ∀z,S.W.S.sp (d.2.held k0 true)=some z-> ∃z',S'.W.S.sp (d.2.held k0 true)=some z'/\z'.2.AO=z.2.AO/\U' (d.2.held k0 true) 0=U (d.2.held k0 true) 0)
  (aD:MA S'.W S'.C U' (c-m+(μ-μ')) B' k0 S'.ma)(aG:SZ o S.Q.length S'.W.S (Ie gG 1 (ms.set i μ') S.Q))(aH:S'.W.CD=S.W.CD):
  ∃m' aS,m'<m/\PA k0 o c N k1 ns F0 m' S' U' aS B':=by
 have aI:=(List.getElem?_eq_some_iff.1 hx).1;have bB:i<ms.length:=by rw[h.ml];exact hi
 obtain⟨a8,a9,bA,aJ⟩:=h.me;have aO:=Ki (f:=id) (c:=9) (Q:=S.Q) μ' hμ;have bD:=Ki (f:=gP) (c:=1) (Q:=S.Q) μ' hμ;have a4:gP μ=1:=by unfold gP;grind
 dsimp only[id]at aO;have aL:S'.o1=true->S'.pc≠none/\HInv S'.W.S no:=λc=>⟨by rw[u.2.2.1];exact(h.ok.pw (by grind)).1,aD.inv.hI⟩;have T2: ∀{j:Nat} {z},S'.T[j]? =some z->(j=i/\z=(x.1,t'))∨(j≠i/\S.T[j]? =some z):=λ{j z} hz=>FZ aI (by grind);have a6:=h.t0 i x hx;refine⟨Ie id 9 (ms.set i μ') S.Q,ms.set i μ',by omega,?_⟩;have O:S'.L.length=S.L.length/\(∀(k:Nat) y,S'.L[k]? =some y->y.2.done=false->S.L[k]? =some y)/\S'.ord.length<=S.ord.length+1:=by
  rcases hL with ⟨_,_,_,e,e2,_⟩|⟨_,_,k,y,ad,nn,q,_,v,e,e2,_,_⟩
  .grind
  .refine⟨by grind,λk' y' a hd=> ?_,by grind⟩;rw[e]at a;rcases FZ (List.getElem?_eq_some_iff.1 v).1 a with ⟨_,rfl⟩|⟨_,g⟩
   .cases hd
   simp_all
 refine⟨h.ok.Fk hx hT hn (.inl J) O.1 aL,?_,by rw[u.2.2.2,J];exact h.cl,⟨u.1.trans h.wo.1,by rw[u.2.2.1];exact h.wo.2⟩,by rw[List.length_set,J];exact h.ml,λk y v hd=>h.ask k y (O.2.1 k y v hd) hd,λj z hz=> ?_,?_,λj z ν hz hν=> ?_,⟨by rw[J],by omega,by omega,aJ⟩,by rw[show c-Ie id 9 (ms.set i μ') S.Q=c-m+(μ-μ') by omega];exact aD,?_,by rw[J];exact aG,λk y K v hd=> ?_,O.1.trans h.ln,aH.trans h.fz,λk y K v=> ?_⟩
 .rcases hL with ⟨e0,_,e1,e2,_,_⟩|⟨e0,_,k,y,ad,nn,q,ek,v,e,_,_,_⟩
  .exact h.qk.same (Me hx hT J (.inr ⟨e0,h0,e1⟩)) e2
  .exact h.qk.done hx h0 hi ek v hT e0 J e
 .rw[J];rcases T2 hz with ⟨rfl,rfl⟩|⟨Y,hz⟩
  .grind
  .obtain⟨g1,g2,g3⟩:=h.t0 j z hz
   grind
 .rcases hh with ⟨e1,e2,e3⟩|⟨⟨e1,e2⟩,⟨e3,e4,e5⟩|⟨e3,e4⟩⟩
  .grind
  .rcases h.h1 with g|⟨j,z,e,hz⟩
   .omega
   grind
  omega
 .rcases T2 hz with ⟨rfl,rfl⟩|⟨Y,hz⟩
  .grind
  .rw[List.getElem?_set_ne (λc=>Y c.symm)]at hν;obtain⟨g1,g2⟩:=h.ta j z ν hz hν;refine⟨g1,λhs k y K v=> ?_⟩;have aC:j<S.C.length:=by rw[h.cl,<-h.ml];exact(List.getElem?_eq_some_iff.1 hν).1
   obtain⟨d,hd⟩: ∃d,S.C[j]? =some d:=⟨_,List.getElem?_eq_getElem aC⟩;obtain⟨o1,o2⟩:=aK j d Y hd;have aP:S.L[k]? =some y:=by
    rcases hL with ⟨_,_,_,e,_⟩|⟨_,_,k',y',ad,nn,q,ek,a,e,_⟩
    .grind
    .rw[e]at v;rcases FZ (List.getElem?_eq_some_iff.1 a).1 v with ⟨rfl,_⟩|⟨_,g⟩
     .exfalso;obtain⟨q1,aM⟩: ∃q,S.Q[i]? =some q:=⟨_,List.getElem?_eq_getElem hi⟩;obtain⟨q2,aN⟩: ∃q,S.Q[j]? =some q:=⟨_,List.getElem?_eq_getElem (by rw[<-h.cl];exact aC)⟩;obtain⟨a1,b1,c1,d1,_,f1⟩:=h.qk.un i x.2.ask (by rw[Hf hx aM,if_neg h0];grind);obtain⟨a2,b2,c2,d2,_,f2⟩:=h.qk.un j z.2.ask (by rw[Hf hz aN,if_neg hs];grind);obtain rfl:a1=a2:=by omega
      grind
     .exact g
   refine(g2 hs k y K aP).EB (o1.trans hd.symm) λd' z' a3 bG=> ?_
   grind
 .rw[J];rcases hL with ⟨_,g,_,_,_,rfl⟩|⟨_,rfl,k,y,ad,nn,q,_,_,_,_,rfl,_⟩
  .have:gP μ'=1:=by unfold gP;grind
   have:=h.np;omega
  .have:gP 0=0:=rfl;have:=h.np
   grind
 .rcases hL with ⟨_,_,_,e,_,rfl⟩|⟨_,_,k',y',ad,nn,q,_,a,e,_,rfl,hq⟩
  .exact h.rep k y K (by grind) hd
  .rw[e]at v;rcases FZ (List.getElem?_eq_some_iff.1 a).1 v with ⟨_,rfl⟩|⟨_,g⟩
   .grind
   .obtain⟨q',h1,h2⟩:=h.rep k y K g hd
    grind
 .rcases hL with ⟨_,_,_,e,_⟩|⟨_,_,k',y',ad,nn,q,_,a,e,_⟩
  .exact h.nz k y K (by grind)
  .rw[e]at v;rcases FZ (List.getElem?_eq_some_iff.1 a).1 v with ⟨e2,rfl⟩|⟨_,g⟩
   .exact h.nz k y' K (by grind)
   .exact h.nz k y K g
end
def PN(k0:Int)(o:Option Nat)(c N k1:Nat)(ns:Nat->Int)(F0:Int)(m:Nat)(S:B4)(i:Nat)(x:Nat×Tk)(S':B4):Prop:=S'.Q.length=S.Q.length/\(∃t',S'.T[i]? =some (x.1,t'))/\ ∃e U' a j,e<m/\PA k0 o c N k1 ns F0 e S' U' a j
section
variable{E:Env}{rb:Nat}{g:Nu}{Z:List Pr}{k0:Int}{o:Option Nat}{c N k1 m:Nat}{ns:Nat->Int}{F0:Int}{S:B4}{U:Aq}{ms:List Nat}{B:List Bk}{i:Nat}{x:Nat×Tk}
theorem PA.plain(h:PA k0 o c N k1 ns F0 m S U ms B)(e:S.T[i]? =some x)(hi:i<S.Q.length){st ho':Int}{k:Nat}{y:Nat×Ak}{μ μ':Nat}(hk:x.2.ask=(k:Int))(hy:S.L[k]? =some y)(hμ:ms[i]? =some μ)(v:μ'<μ)(hs:x.2.step=2∨x.2.step=4∨x.2.step=6)
  (hw:Wt x.2 y.2/\(x.2.cls≠0-> ∀c,S.C[i]? =some c->c.2.held k0 true=0))(aD:(μ'=6/\st=4/\ho'=S.ho)∨(μ'=5/\st=6/\ho'=S.ho)∨(μ'=4/\st=7/\S.ho= -1/\ho'=(i:Int))):PN k0 o c N k1 ns F0 m S i x {S.tk i (x.1,{x.2 with step:=st})with ho:=ho'}:=by
 have J:=(List.getElem?_eq_some_iff.1 e).1;have hG:=Ki (f:=gG) (c:=1) (Q:=S.Q) μ' hμ;have e1:gG μ=1:=by unfold gG;grind
 have e2:gG μ'=1:=by unfold gG;grind
 have K: ∀(u:Nat) Y,x.2.ask=(u:Int)->S.L[u]? =some Y->TA k0 S.W S.C U i {x.2 with step:=st} Y.2 μ':=λu Y aB a=>by
  obtain rfl:k=u:=by omega
  rw[hy]at a;cases a;refine .inr (.inl ⟨?_,hw.1,hw.2⟩)
  grind
 obtain⟨m',O,hm,hp⟩:=h.Fk (S':={S.tk i (x.1,{x.2 with step:=st})with ho:=ho'}) e hi (by omega) (t':={x.2 with step:=st}) hμ v rfl rfl rfl rfl ⟨rfl,rfl,rfl,rfl⟩
  (by grind)
  (.inl ⟨by grind,by omega,rfl,rfl,rfl,rfl⟩) (λ_=>K) (λj d _ hd=>⟨hd,λz hz=>⟨z,hz,rfl,rfl⟩⟩) (h.ma.mono (Nat.le_add_right ..)) (h.ar.Fk rfl rfl (λid x e=>⟨x,e,rfl⟩) (by omega)) rfl
 exact⟨rfl,⟨_,List.getElem?_set_self J⟩,m',_,O,_,hm,hp⟩
variable(hE:Ku E)(hT: ∀w',Sat Z w'->Ec E.AH w')
include hE hT
theorem PA.look(h:PA k0 o c N k1 ns F0 m S U ms B)(hx:S.T[i]? =some x)(hi:i<S.Q.length)(bL:x.2.step=1){k:Nat}{y:Nat×Ak}{μ:Nat}(hk:x.2.ask=(k:Int))(hy:S.L[k]? =some y)(hA:WR k0 o y.2)(hμ:ms[i]? =some μ)
  (hw:μ=9∨(μ=3/\ ∀cls pg,HK y.2.n cls pg-> ∃c z,cls=k0/\S.C[i]? =some c/\S.W.S.sp (c.2.held k0 true)=some z/\0<z.2.AO/\U (c.2.held k0 true) 0=false)):Re E rb g Z S x.1 1 (PN k0 o c N k1 ns F0 m S i x):=by
 have aY:=(List.getElem?_eq_some_iff.1 hx).1;obtain⟨d,hd⟩: ∃d,S.C[i]? =some d:=⟨_,List.getElem?_eq_getElem (by rw[h.cl];exact hi)⟩;have bM:=h.t0 i x hx;obtain⟨bF,bG,bH,bI⟩:=h.me;have bJ:=Ki (f:=id) (c:=9) (Q:=S.Q) 0 hμ;have bB:=h.ma.fr;have bE:=h.ma.k0;have hlen:=h.ma.tp.len;refine⟨E.Hw,by simp[Jq],λR Z' w' aM H' hK=>hE.look1 _ _ R w' ?_⟩;refine bO hE (λv h=>hT v (aM v h)) H' h.ok hx hk hy hA.op hA.n0 hA.n1 hd h.ma.inv h.ma.tp.Gz.ch (by have:=hlen;show S.W.L.length<_;change S.W.L.length<=_ at this;omega) (λj=>(h.ma.tp.own i d hd).uG j true) (by omega) ?_ λcls pg K Cl u hl v aD=> ?_
 .intro cls pg u aC z j uw hz hj hu aX g' v aD;obtain rfl:cls=k0:=by rcases(hA.w cls pg u).1 with e|e<;>omega
  have aZ:MA (S.W.take (d.2.held cls true) z uw j) S.C (U.take (d.2.held cls true) j) (c-m+(μ-0)) (⟨d.2.held cls true,j,z.2.base+j*z.2.elem,z.2.elem⟩::B) cls (u64 (S.ma+1)):=by
   rw[AP (n:=S.ma+1)];exact(h.ma.take hd hz hj hu aX).mono (by omega)
  have aG:SZ o S.Q.length (S.W.take (d.2.held cls true) z uw j).S (Ie gG 1 (ms.set i 0) S.Q):=by
   have hg:=Ki (f:=gG) (c:=1) (Q:=S.Q) 0 hμ;have h0:gG 0=0:=rfl;refine h.ar.Fk (S':=(S.W.take (d.2.held cls true) z uw j).S) (G':=Ie gG 1 (ms.set i 0) S.Q) rfl rfl (λid x' Y=> ?_) (by omega);have Y:(if id=d.2.held cls true then some _ else S.W.S.sp id)=some x':=Y
   grind
  have aL:z.2.elem=Rh y.2.n cls:=by
   rcases h.ma.tp.own i d hd cls true with g0|⟨_,⟨z',aA,bN,_⟩,_⟩
   .rw[g0,YX h.ma.inv]at hz;cases hz
   .rw[show S.W.r0.S.sp=S.W.S.sp from rfl,hz]at aA;cases aA;have:=(h.ma.inv.sp _ z hz).1.el;unfold Rh
    grind
  obtain⟨m',aH,hm,hp⟩:=h.Fk (S':=((S.tk i (x.1,x.2.want cls pg x.2.step)).mw (u64 (S.ma+1)) (S.W.take (d.2.held cls true) z uw j)).done i (x.1,x.2.want cls pg x.2.step) k y (z.2.base+j*z.2.elem) z.2.elem 0) (U':=U.take (d.2.held cls true) j) hx hi (by omega) (t':={x.2.want cls pg x.2.step with step:=0}) hμ (μ':=0) (by omega) (by simp[B4.done,B4.mw,B4.tk]) rfl rfl rfl ⟨rfl,rfl,rfl,rfl⟩
   (.inr ⟨⟨by grind,by grind⟩,.inl ⟨by omega,by omega,rfl⟩⟩)
   (.inr ⟨rfl,rfl,k,y,_,_,⟨d.2.held cls true,j,z.2.base+j*z.2.elem,z.2.elem⟩,hk,hy,rfl,rfl,rfl,rfl,rfl,rfl,cls,pg,u,aL⟩) (λc=>absurd rfl c) (λj' J O a=>⟨a,λz' aA=>by
    have aK:J.2.held cls true≠d.2.held cls true:=h.ma.tp.ap j' i J d a hd O cls true λe=>by rw[e,YX h.ma.inv]at aA;simp_all
    exact⟨z',by show(if J.2.held cls true=d.2.held cls true then some _ else S.W.S.sp _)=_;grind,rfl,by show(if J.2.held cls true=d.2.held cls true then _ else U _) 0=_;rw[if_neg aK]⟩⟩)
   aZ aG rfl
  refine hK _ _ v ?_ aD;exact⟨rfl,⟨{x.2.want cls pg x.2.step with step:=0},by show((S.T.set i _).set i _)[i]? =_;grind⟩,m',_,aH,_,hm,hp⟩
 .obtain⟨⟨c0,c1⟩,p0,p1⟩:=u.Wq hA.n0 hA.n1;rcases hw with rfl|⟨rfl,hw⟩
  .have hG:=Ki (f:=gG) (c:=1) (Q:=S.Q) 7 hμ;have e1:gG 9=1:=rfl;have e2:gG 7=1:=rfl;have hC:Cl.length=S.C.length/\(∀(j:Nat) J,j≠i->S.C[j]? =some J->Cl[j]? =some J)/\K.S=S.W.S/\MA (K.Nd (pg*8192)) Cl U (c-m+(9-7)) B k0 S.ma/\(cls≠0-> ∀c,Cl[i]? =some c->c.2.held k0 true=0)/\K.CD=S.W.CD:=by
    rcases hl with ⟨e,rfl,rfl⟩|⟨aC,aB,hl,aW,rfl⟩
    .exact⟨rfl,λj J _ a=>a,rfl,(h.ma.Nd (by omega)).mono (by omega),λg=>absurd e g,rfl⟩
    .obtain rfl:cls=k0:=by rcases(hA.w cls pg u).1 with e|e<;>omega
     refine⟨List.length_set ..,λj J O a=>by grind,(Vo hl).1,((h.ma.uF hd hl aW aB).Nd (by omega)).mono (by omega),λ_ c hc=> ?_,by rcases hl with ⟨_,rfl⟩|⟨_,y,EC,_,_,rfl⟩<;>rfl⟩;rw[List.getElem?_set_self (List.getElem?_eq_some_iff.1 hd).1]at hc;cases hc;exact KC d.2 aC c1 0
   obtain⟨aR,aS,aF,aT,aU,aV⟩:=hC;have a1: ∀(k':Nat) y',x.2.ask=(k':Int)->S.L[k']? =some y'->TA k0 (K.Nd (pg*8192)) Cl U i (x.2.want cls pg 2) y'.2 7:=λk' y' bD aO=>by
    obtain rfl:k=k':=by omega
    rw[hy]at aO;cases aO;exact .inr (.inl ⟨.inl ⟨rfl,rfl⟩,⟨u,rfl,rfl⟩,aU⟩)
   have aG:SZ o S.Q.length (K.Nd (pg*8192)).S (Ie gG 1 (ms.set i 7) S.Q):=
    h.ar.Fk (S':=(K.Nd (pg*8192)).S) (G':=Ie gG 1 (ms.set i 7) S.Q) (by show K.S.ca=_;rw[aF]) (by show K.S.ks=_;rw[aF]) (λid x' Y=>⟨x',by rw[<-aF];exact Y,rfl⟩) (by omega)
   obtain⟨m',aH,hm,hp⟩:=h.Fk (S':={S.tk i (x.1,x.2.want cls pg 2)with C:=Cl,W:=K.Nd (pg*8192)}) (U':=U) hx hi (by omega) (t':=x.2.want cls pg 2) hμ (μ':=7) (by omega) rfl rfl rfl rfl ⟨rfl,rfl,rfl,aR⟩
    (.inr ⟨⟨by show(2:Int)≠7;decide,by show(2:Int)≠8;decide⟩,.inl ⟨by omega,by omega,rfl⟩⟩) (.inl ⟨by show(2:Int)≠0;decide,by decide,rfl,rfl,rfl,rfl⟩) (λ_=>a1) (λj J O a=>⟨aS j J O a,λz hz=>⟨z,by show K.S.sp _=_;grind,rfl,rfl⟩⟩)
    aT aG aV
   refine hK _ _ v ?_ aD;exact⟨rfl,⟨_,List.getElem?_set_self aY⟩,m',_,aH,_,hm,hp⟩
  .exfalso;obtain⟨J,z,e,a,hz,bK,hu⟩:=hw cls pg u;rw[hd]at a;cases a;rcases hl with ⟨e2,_⟩|⟨_,aB,_⟩
   .omega
   simp_all
theorem PA.grow(h:PA k0 o c N k1 ns F0 m S U ms B)(hx:S.T[i]? =some x)(hi:i<S.Q.length)(aP:x.2.step=7){k:Nat}{y:Nat×Ak}(hk:x.2.ask=(k:Int))(hy:S.L[k]? =some y)(hA:WR k0 o y.2)(hμ:ms[i]? =some 4)
  (hw:Wt x.2 y.2)(hn:x.2.cls≠0-> ∀c,S.C[i]? =some c->c.2.held k0 true=0):Re E rb g Z S x.1 7 (PN k0 o c N k1 ns F0 m S i x):=by
 have aK:=(List.getElem?_eq_some_iff.1 hx).1;obtain⟨d,hd⟩: ∃d,S.C[i]? =some d:=⟨_,List.getElem?_eq_getElem (by rw[h.cl];exact hi)⟩;obtain⟨bK,bL,bM,bN⟩:=h.me;have bH:=h.ma.fr;have Y:=h.ma.k0;have hlen:S.W.L.length<=c-m:=h.ma.tp.len;obtain⟨J,aX,a2⟩:=hw;obtain⟨⟨c0,c1⟩,p0,p1⟩:=J.Wq hA.n0 hA.n1;obtain⟨b,hb,bG⟩:=h.ma.tp.la;have aI: ∀{S2:HS} {bl:Nat} {id page:Int} {X:FX} {cl:Int} {μ':Nat},Pm S.W i S2 bl id page x.2.pg cl X->gG μ'=0->SZ o S.Q.length (S2.EB id (bl,Gv page x.2.pg cl true) page x.2.pg X) (Ie gG 1 (ms.set i μ') S.Q):=λ{S2 bl id page X cl μ'} O h0=>by
  have hG:=Ki (f:=gG) (c:=1) (Q:=S.Q) μ' hμ;have e1:gG 4=1:=rfl;have:=h.ar;cases o with
  | none=>trivial
  | some n=>
   have e:=(hA.w _ _ J).2 n rfl;have g:=SZ.grow this h.ma.inv.hI O.ok hi (by have:=O.fd;rw[e]at this;exact this) hb (by omega) h.ma.rf (by omega) (id:=id) (x:=(bl,Gv page x.2.pg cl true)) e X
   grind
 refine⟨E.Hy,by simp[Jq],λR Z' w' aQ H' hK=>hE.grow1 _ _ R w' ?_⟩;refine bQ hE (λK h=>hT K (aQ K h)) H' h.ok hx hk hy hA.op hA.n0 hA.n1 J aX a2 hd h.ma.inv (by omega) (λz hz=> ?_) (by omega) (λS2 hl Bl v g' K aA=> ?_) (λS2 bl id page X O bC v K aA=> ?_) λS2 bl id page X uw EC O h0 aE v g' K aA=> ?_
 .obtain⟨u,hu,_⟩:=h.ma.tp.Gz.kd z hz;exact⟨u,hu⟩
 .have h2:=(h.ma.tp.lost hl Bl p0 p1 (by omega) (v.r0:Ae {S.W.r0 with S:=S2} _ _)).2;rw[show S.W.r0.S.V.rf=[]from h.ma.rf]at h2;cases h2
 .have ec:x.2.cls=k0:=by rcases(hA.w _ _ J).1 with e|e<;>omega
  have aW:=O.no;have hr:=aI (μ':=3) O rfl;rw[ec]at O v hr aA;rw[Ia]at v;have aF:=h.ma.hold O p0 p1 (by omega) hd (hn (by omega) d hd) v;have bP:(S.W.fresh S2 bl id page x.2.pg k0 X).S.sp id=some (bl,Gv page x.2.pg k0 true):=if_pos rfl;obtain⟨_,_,_,aB⟩:=h.ma.tp.fresh O.r0 p0 p1 (by omega) (λq hq=>by cases hq) (by rw[Ia];exact v.r0);have a1: ∀(k':Nat) y',x.2.ask=(k':Int)->S.L[k']? =some y'->TA k0 (S.W.fresh S2 bl id page x.2.pg k0 X) (S.C.set i (d.1,d.2.hold k0 true id)) (U.set id D8) i {x.2 with step:=1} y'.2 3:=λk' y' bI aR=>by
   obtain rfl:k=k':=by omega
   rw[hy]at aR;cases aR;refine .inr (.inr ⟨rfl,rfl,λcls pg a3=> ?_⟩);obtain⟨rfl,rfl⟩:=a3.uniq J;refine⟨(d.1,d.2.hold k0 true id),(bl,Gv page x.2.pg k0 true),ec,List.getElem?_set_self (List.getElem?_eq_some_iff.1 hd).1,?_,?_,?_⟩
   .rw[KC d.2 Y.1 Y.2];simp_all
   .have:=Ll (c:=k0) Y.1 Y.2;show 0<if k0=0 then(1:Int)else(A0 k0).2.2.1
    omega
   .rw[KC d.2 Y.1 Y.2,Aq.KB];rfl
  obtain⟨m',aG,hm,hp⟩:=h.Fk (S':={S.tk i (x.1,{x.2 with step:=1})with ho:= -1,C:=S.C.set i (d.1,d.2.hold k0 true id),W:=S.W.fresh S2 bl id page x.2.pg k0 X}) (U':=U.set id D8) hx hi (by omega) (t':={x.2 with step:=1}) hμ (μ':=3) (by omega) rfl rfl rfl rfl ⟨rfl,rfl,rfl,List.length_set ..⟩
   (.inr ⟨⟨by grind,by grind⟩,.inr ⟨aP,rfl⟩⟩) (.inl ⟨by grind,by decide,rfl,rfl,rfl,rfl⟩) (λ_=>a1) (λj d' aV aJ=>⟨by grind,λz hz=>by
    have a:d'.2.held k0 true≠id:=λe=>by grind
    exact⟨z,(aB _ a).trans hz,rfl,by show(if d'.2.held k0 true=id then _ else U _) 0=_;rw[if_neg a]⟩⟩) aF hr rfl
  refine hK _ _ K ?_ aA;exact⟨rfl,⟨_,List.getElem?_set_self aK⟩,m',_,aG,_,hm,hp⟩
 .have hr:=aI (μ':=0) O rfl;have aW:=O.no;rw[h0]at O hr;rw[Ia]at aE v;have aF:=h.ma.JY O p0 p1 (by omega) aE v;obtain⟨_,_,_,aB⟩:=h.ma.tp.fresh O.r0 p0 p1 (by omega) (λq hq=>by cases hq) (by rw[Ia];exact aE.r0);have aO: ∀j,j≠id->((S.W.fresh S2 bl id page x.2.pg 0 X).JY id (bl,Gv page x.2.pg 0 true) uw EC).S.sp j=S.W.S.sp j:=λj hj=>by
   show(if j=id then some _ else(S.W.fresh S2 bl id page x.2.pg 0 X).S.sp j)=_;rw[if_neg hj];exact aB j hj
  have aL:MA ((S.W.fresh S2 bl id page x.2.pg 0 X).JY id (bl,Gv page x.2.pg 0 true) uw EC) S.C ((U.set id D8).take id 0) (c-m+(4-0)) (⟨id,0,page*8192,x.2.pg*8192⟩::B) k0 (u64 (S.ma+1)):=by
   rw[AP (n:=S.ma+1)];exact aF.mono (by omega)
  have a0:SZ o S.Q.length ((S.W.fresh S2 bl id page x.2.pg 0 X).JY id (bl,Gv page x.2.pg 0 true) uw EC).S (Ie gG 1 (ms.set i 0) S.Q):=by
   refine hr.Fk (S':=((S.W.fresh S2 bl id page x.2.pg 0 X).JY id (bl,Gv page x.2.pg 0 true) uw EC).S) (G':=Ie gG 1 (ms.set i 0) S.Q) rfl rfl (λj x' aC=> ?_) (Nat.le_refl _);have aC:(if j=id then some _ else(S2.EB id (bl,Gv page x.2.pg 0 true) page x.2.pg X).sp j)=some x':=aC;by_cases e:j=id
   .rw[if_pos e]at aC;cases aC;exact⟨(bl,Gv page x.2.pg 0 true),by rw[e];assumption,rfl⟩
   grind
  have aN:x.2.pg*8192=Rh y.2.n x.2.cls:=by
   unfold Rh;rw[if_pos h0];rcases J with ⟨_,hk,_⟩|⟨_,_,e⟩
   .have:=hk.k0;omega
   simp_all
  obtain⟨m',aG,hm,hp⟩:=h.Fk (S':=B4.done {S with ho:= -1,ma:=u64 (S.ma+1),W:=(S.W.fresh S2 bl id page x.2.pg 0 X).JY id (bl,Gv page x.2.pg 0 true) uw EC} i x k y (page*8192) (x.2.pg*8192) 0) (U':=(U.set id D8).take id 0) hx hi (by omega) (t':={x.2 with step:=0}) hμ (μ':=0) (by omega) rfl rfl rfl rfl ⟨rfl,rfl,rfl,rfl⟩
   (.inr ⟨⟨by grind,by grind⟩,.inr ⟨aP,rfl⟩⟩) (.inr ⟨rfl,rfl,k,y,_,_,⟨id,0,page*8192,x.2.pg*8192⟩,hk,hy,rfl,rfl,rfl,rfl,rfl,rfl,x.2.cls,x.2.pg,J,aN⟩) (λc=>absurd rfl c) (λj d' aV aJ=>⟨aJ,λz hz=>by
    have a:d'.2.held k0 true≠id:=λe=>by grind
    exact⟨z,(aO _ a).trans hz,rfl,by show(if d'.2.held k0 true=id then _ else(if d'.2.held k0 true=id then _ else U _)) 0=_;rw[if_neg a,if_neg a]⟩⟩)
   aL a0 rfl
  refine hK _ _ K ?_ aA;exact⟨rfl,⟨_,List.getElem?_set_self aK⟩,m',_,aG,_,hm,hp⟩
theorem PA.step(h:PA k0 o c N k1 ns F0 m S U ms B)(u:S.T[i]? =some x)(hi:i<S.Q.length)(h0:x.2.step≠0)(aE:x.2.step=6->S.ho= -1):Re E rb g Z S x.1 x.2.step (PN k0 o c N k1 ns F0 m S i x):=by
 obtain⟨k,y,μ,J,O,hd,Y,hA,aF⟩:=h.cur u hi h0;rcases aF with ⟨rfl,a⟩|⟨⟨rfl,a⟩|⟨rfl,a⟩|⟨rfl,a⟩|⟨rfl,a⟩,hw,hn⟩|⟨rfl,a,hw⟩
 .rw[a];exact h.look hE hT u hi a J O hA Y (.inl rfl)
 .rw[a];refine⟨E.HM,by simp[Jq],λR Z' w' K H' hK=>hE.uC _ _ R w' (WQ hE H' u h.ma.inv (λz hz=>(h.ma.tp.Vu z hz).1) h.ma.tp.Gz.rp λv j=>hK _ _ v ?_ j)⟩;by_cases e:x.2.cls=0
  .rw[if_pos e];exact h.plain u hi (ho':=S.ho) J O Y (μ':=5) (by decide) (.inl a) ⟨hw,hn⟩ (.inr (.inl ⟨rfl,rfl,rfl⟩))
  .rw[if_neg e];exact h.plain u hi (ho':=S.ho) J O Y (μ':=6) (by decide) (.inl a) ⟨hw,hn⟩ (.inl ⟨rfl,rfl,rfl⟩)
 .rw[a];refine⟨E.Hx,by simp[Jq],λR Z' w' K H' hK=>hE.take1 _ _ R w' (bL hE.toEnvK.toEnvC.toEnvW H' u (h.ma.tp.none_ _ _) h.ma.tp.Vu λv j=>hK _ _ v ?_ j)⟩;exact h.plain u hi (ho':=S.ho) J O Y (μ':=5) (by decide) (.inr (.inl a)) ⟨hw,hn⟩ (.inr (.inl ⟨rfl,rfl,rfl⟩))
 .rw[a];refine⟨E.Fu,by simp[Jq],λR Z' w' K H' hK=>hE.kJ _ _ R w' (bK H' h.ok u hi J O hA.op λv j=>hK _ _ v ?_ j)⟩;exact h.plain u hi J O Y (μ':=4) (by decide) (.inr (.inr a)) ⟨hw,hn⟩ (.inr (.inr ⟨rfl,rfl,aE a,rfl⟩))
 .rw[a];exact h.grow hE hT u hi a J O hA Y hw hn
 .rw[a];exact h.look hE hT u hi a J O hA Y (.inr ⟨rfl,hw⟩)
end
theorem MM.refl(S:HS):MM S S:=⟨rfl,rfl,rfl,rfl,rfl,rfl,rfl,rfl,rfl,rfl,rfl,rfl⟩
section
variable{E:Env}{rb:Nat}{g:Nu}{Z:List Pr}{S:B4}{i:Nat}{x:Nat×Tk}
theorem Re.mono{p:Nat}{st:Int}{e a:B4->Prop}(h:Re E rb g Z S p st e)(T: ∀S',e S'->a S'):Re E rb g Z S p st a:=by
 obtain⟨f,h1,J⟩:=h;exact⟨f,h1,λR u w' Y H K=>J R u w' Y H λv S' j O=>K v S' j (T S' O)⟩
theorem Rk(h:x.2.step≠0):enB S i x= !Kt S x.1 x.2.step:=by unfold enB;grind
theorem O1(h:x.2.step≠0)(e:x.2.step=6->S.ho= -1)(a:x.2.step≠13):enB S i x=true:=by
 rw[Rk h];unfold Kt
 grind
theorem uO(h:enB S i x=true)(a:x.2.step=6):S.ho= -1:=by
 rw[Rk (by omega),a]at h;unfold Kt at h
 grind
theorem Sa(h0:x.2.step=0)(hw:S.wo= -1){s:AY}{a:Int}{l:List Int}(e:S.Q[i]? =some (s,a::l))(j:Ic (opOf S a)≠6/\Ic (opOf S a)≠13):enB S i x=true:=by
 unfold enB;rw[if_neg (λc=>c h0),if_neg (λc=>c hw),e];dsimp only;unfold Kt
 grind
theorem Rl(h0:x.2.step=0)(hw:S.wo= -1)(e:enB S i x=true)(hi:i<S.Q.length): ∃s a l,S.Q[i]? =some (s,a::l):=by
 obtain⟨q,j⟩: ∃q,S.Q[i]? =some q:=⟨_,List.getElem?_eq_getElem hi⟩;unfold enB at e
 grind
theorem Sb(h0:x.2.step=0)(hw:S.wo= -1)(a:enB S S.Q.length x=true):S.o0=true/\ ¬ ∀z∈S.W.L,z.Ei=true:=by
 unfold enB at a
 grind
theorem uP(h0:x.2.step=0)(a:enB S (S.Q.length+1) x=true):S.ho= -1:=by
 unfold enB at a;rw[if_neg (λc=>c h0)]at a;split at a
 .simp_all
 .rw[List.getElem?_eq_none (Nat.le_succ _)]at a;dsimp only at a;rw[if_neg (by omega),Bool.and_eq_true,Bool.and_eq_true]at a;have:=a.2.2;unfold Kt at this
  grind
end
section
variable{E:Env}{rb:Nat}{g:Nu}{Z:List Pr}{k0:Int}{o:Option Nat}{c N k1 m:Nat}{ns:Nat->Int}{F0:Int}{S S':B4}{U:Aq}{ms:List Nat}{B:List Bk}{i:Nat}{x:Nat×Tk}
theorem PA.sc(h:PA k0 o c N k1 ns F0 m S U ms B)(v:S.T[S.Q.length+1]? =some x){st:Int}(hT:S'.T=S.T.set (S.Q.length+1) (x.1,{x.2 with step:=st}))(a:S'.Q=S.Q)(hL:S'.L=S.L/\S'.ord=S.ord/\S'.C=S.C/\S'.wo=S.wo/\S'.o1=S.o1/\S'.pc=S.pc/\S'.ma=S.ma)
  (hh:(st=8/\S.ho= -1/\S'.ho=((S.Q.length+1:Nat):Int))∨(st=0/\x.2.step=8/\S'.ho= -1)){S2:HS}(u:MM S.W.S S2)(hI:Ae {S.W with S:=S2} U Gf)(e:S'.W={S.W with S:=S2}):PA k0 o c N k1 ns F0 m S' U ms B:=by
 have O:=(List.getElem?_eq_some_iff.1 v).1;obtain⟨h1,h2,J,h4,h5,h6,h7⟩:=hL;have Y: ∀{j:Nat} {z},S'.T[j]? =some z->(j=S.Q.length+1/\z=(x.1,{x.2 with step:=st}))∨(j≠S.Q.length+1/\S.T[j]? =some z):=λ{j z} hz=>FZ O (by grind);have aJ:=h.t0 _ x v;refine⟨h.ok.Fk v hT rfl (.inl a) (by rw[h1]) (λc=>⟨by rw[h6];exact h.wo.2,by rw[e];exact hI.hI⟩),h.qk.same (Me v hT a (.inl (Nat.le_succ _))) h1,by rw[J,a];exact h.cl,⟨h4.trans h.wo.1,by rw[h6];exact h.wo.2⟩,by rw[a];exact h.ml,by rw[h1];exact h.ask,λj z hz=> ?_,?_,λj z ν hz hν=> ?_,by rw[a,h2];exact h.me,by rw[e,J,h7];exact h.ma.OY u hI,by rw[a];exact h.np,?_,by rw[h1];exact h.rep,by rw[h1];exact h.ln,by rw[e];exact h.fz,by rw[h1];exact h.nz⟩
 .rw[a];rcases Y hz with ⟨rfl,rfl⟩|⟨aG,hz⟩
  .grind
  .obtain⟨g1,g2,g3⟩:=h.t0 j z hz;omega
 .grind
 .have hj:j<S.Q.length:=by rw[<-h.ml];exact(List.getElem?_eq_some_iff.1 hν).1
  rcases Y hz with ⟨rfl,_⟩|⟨_,hz⟩
  .omega
  .obtain⟨g1,g2⟩:=h.ta j z ν hz hν;refine⟨g1,λhs k y K hy=>(g2 hs k y K (by grind)).EB (by rw[J]) λd z' _ aK=>⟨z',?_,rfl,rfl⟩⟩;rw[e];show S2.sp _=_;rw[u.sp];simp_all
 .rw[a,e];exact h.ar.Fk u.ca u.ks (λid x' aI=>⟨x',by rw[<-u.sp];simp_all,rfl⟩) (Nat.le_refl _)
theorem PA.quiet(h:PA k0 o c N k1 ns F0 m S U ms B)(u:GB S=true):B.length=N/\S.ho= -1/\(∀(i:Nat) x,S.T[i]? =some x->x.2.step=0)/\(∀(i:Nat) q,S.Q[i]? =some q->q.2=[])/\(∀(k:Nat) y,S.L[k]? =some y->y.2.done=true)/\m=0/\ ∀i,i<S.Q.length->ms[i]? =some 0:=by
 unfold GB at u;simp only[Bool.and_eq_true,Bool.not_eq_true',beq_iff_eq]at u;have Y:=h.ok.tn;have K: ∀(i:Nat) q,S.Q[i]? =some q->q.2=[]/\ ∀x,S.T[i]? =some x->x.2.step=0:=λi q a=>by
  have hi:=(List.getElem?_eq_some_iff.1 a).1;obtain⟨x,j⟩: ∃x,S.T[i]? =some x:=⟨_,List.getElem?_eq_getElem (by omega)⟩;have:=h.qk.idle u.1 j a
  grind
 have hT: ∀(i:Nat) x,S.T[i]? =some x->x.2.step=0:=λi x j=>by
  by_cases hi:i<S.Q.length
  .obtain⟨q,a⟩: ∃q,S.Q[i]? =some q:=⟨_,List.getElem?_eq_getElem hi⟩
   grind
  .obtain⟨_,g2,g3⟩:=h.t0 i x j;omega
 have v: ∀(i:Nat) μ,ms[i]? =some μ->μ=0:=λi μ J=>by
  have hi:i<S.Q.length:=by rw[<-h.ml];exact(List.getElem?_eq_some_iff.1 J).1
  obtain⟨x,j⟩: ∃x,S.T[i]? =some x:=⟨_,List.getElem?_eq_getElem (by omega)⟩;exact(h.ta i x μ j J).1 (hT i x j)
 have hz: ∀f c,f 0=0->Ie f c ms S.Q=0:=λf c h0=>SY h0 v λi q a=>(K i q a).1;refine⟨by have:=h.np;rw[hz gP 1 rfl]at this;simp_all,u.2.1,hT,λi q a=>(K i q a).1,λk y O=> ?_,by rw[h.me.1];grind,λi hi=> ?_⟩
 .cases e:y.2.done with
  | true=>rfl
  | false=>
   have:I0 S=true:=List.any_eq_true.2 ⟨y,List.mem_of_getElem? O,by grind⟩
   grind
 .obtain⟨μ,J⟩: ∃μ,ms[i]? =some μ:=⟨_,List.getElem?_eq_getElem (by rw[h.ml];exact hi)⟩
  grind
variable(hE:Ku E)(hT: ∀w',Sat Z w'->Ec E.AH w')
theorem PA.en(h:PA k0 o c N k1 ns F0 m S U ms B)(Y:GB S=false): ∃(i:Nat) (x:Nat×Tk),S.T[i]? =some x/\enB S i x=true/\(i<=S.Q.length∨x.2.step≠0):=by
 have hn:=h.ok.tn;have busy: ∀(i:Nat) x,S.T[i]? =some x->x.2.step≠0->(x.2.step=6->S.ho= -1)-> ∃(i:Nat) (x:Nat×Tk),S.T[i]? =some x/\enB S i x=true/\(i<=S.Q.length∨x.2.step≠0):=λi x j h0 h6=>by
  refine⟨i,x,j,O1 h0 h6 λe=> ?_,.inr h0⟩;by_cases hi:i<S.Q.length
  .obtain⟨k,y,μ,_,_,_,_,_,K⟩:=h.cur j hi h0;unfold TA at K;omega
  .have:=(h.t0 i x j).2.1 (by omega);omega
 rcases h.h1 with e|⟨i,x,e,j⟩
 .-- the lock is free
  have J:I0 S=true:=by
   cases ea:I0 S with
   | true=>rfl
   | false=>
    unfold GB at Y;rw[ea,e]at Y;have:S.T.any (λx=>decide (x.2.tr>0))=false:=List.any_eq_false.2 λx j=>by
     obtain⟨i,hi⟩:=List.mem_iff_getElem?.1 j;rw[(h.t0 i x hi).1];decide
    grind
  obtain⟨y,hy,hd⟩:=List.any_eq_true.1 J;obtain⟨k,hk⟩:=List.mem_iff_getElem?.1 hy;have hd:y.2.done=false:=by grind
  obtain⟨i,hi⟩:=h.qk.cv k y hk hd;have v:i<S.Q.length:=Nat.lt_of_not_le λhle=>by rw[T4 hle]at hi;cases hi
  obtain⟨x,j⟩: ∃x,S.T[i]? =some x:=⟨_,List.getElem?_eq_getElem (by omega)⟩;by_cases h0:x.2.step=0
  .obtain⟨⟨s,l⟩,u⟩: ∃q,S.Q[i]? =some q:=⟨_,List.getElem?_eq_getElem v⟩;rw[Hf j u,if_pos h0]at hi;cases l with
   | nil=>cases hi
   | cons a l=>
    obtain⟨k',y',rfl,O,hA⟩:=h.head j h0 u;refine⟨i,x,j,Sa h0 h.wo.1 u ?_,.inl (by omega)⟩;have:opOf S (k':Int)=1:=by unfold opOf;rw[Int.toNat_natCast,O];exact hA.op
    rw[this];decide
  grind
 .have hs:=(h.t0 i x j).2.2.2 e;exact busy i x j (by omega) λc=>by omega
include hE hT in
theorem PA.adv(h:PA k0 o c N k1 ns F0 m S U ms B)(hq:GB S=false):Adv E rb Z (λm S=> ∃U ms B,PA k0 o c N k1 ns F0 m S U ms B) m S:=by
 have hn:=h.ok.tn;refine⟨h.ok,h.en hq,λi x u v h0 hi=> ?_,λg i x S1 x1 u v hb j he=> ?_⟩
 .obtain⟨s,a,l,J⟩:=Rl h0 h.wo.1 v hi;obtain⟨k,y,rfl,hy,_⟩:=h.head u h0 J
  grind
 .have K:=(List.getElem?_eq_some_iff.1 u).1;rcases(by omega:i<S.Q.length∨i=S.Q.length∨i=S.Q.length+1)with hi|rfl|rfl
  .-- a P
   rcases hb with ⟨h0,rfl⟩|⟨h0,⟨s,s',a,l,y,J,hy,rfl⟩|⟨aP,_⟩⟩
   .rw[u]at j;cases j;refine(h.step hE hT u hi h0 (uO v)).mono λS' ⟨h1,⟨t',h2⟩,m',U',ms',B',h3,h4⟩=>⟨h1,⟨t',h2,λc=>by omega⟩,.inl ⟨by omega,m',h3,U',ms',B',h4⟩⟩
   .obtain⟨k,y',e,aD,hA⟩:=h.head u h0 J;obtain rfl:a=k:=by omega
    rw[hy]at aD;cases aD;have hf:Ic y.2.op=1:=by rw[hA.op];rfl
    rw[hf]at j⊢;have hP:=h.QY (s':=s') u h0 J;have e2:(S.QY i x a s' l 1).T[i]? =some (x.1,{x.2 with ask:=(a:Int),sw:=0,step:=1}):=List.getElem?_set_self K;rw[e2]at j;cases j;have aB:(S.QY i x a s' l 1).Q.length=S.Q.length:=List.length_set ..;refine(hP.step hE hT e2 (by rw[aB];exact hi) (by grind) (λc=>absurd c (by grind))).mono λS' ⟨h1,⟨t',h2⟩,m',U',ms',B',h3,h4⟩=>⟨h1.trans aB,⟨t',h2,λc=>by omega⟩,.inl ⟨by omega,m',h3,U',ms',B',h4⟩⟩
   .omega
  .-- the sweeper has nothing to do
   have h0:x.2.step=0:=by have:=(h.t0 _ x u).2.1 (Nat.le_refl _);omega
   exact absurd (λz hz=>(h.ma.tp.Vu z hz).1) (Sb h0 h.wo.1 v).2
  .-- the scavenger
   rcases(h.t0 _ x u).2.1 (Nat.le_succ _)with h0|⟨_,h8⟩
   .rcases hb with ⟨c,_⟩|⟨_,⟨s,s',a,l,y,J,_⟩|⟨_,rfl⟩⟩
    .omega
    .grind
    .rw[if_neg (by omega)]at j⊢;have e2:(S.tk (S.Q.length+1) (x.1,{x.2 with step:=6})).T[S.Q.length+1]? =some (x.1,{x.2 with step:=6}):=List.getElem?_set_self K;rw[e2]at j;cases j;have aA:F5 (S.tk (S.Q.length+1) (x.1,{x.2 with step:=6})):=h.ok.tk u rfl;refine⟨E.Fu,by simp[Jq],λR Z' w' aC H' hK=>hE.kJ _ _ R w' (Rj H' aA e2 λY O=>hK _ _ Y ?_ O)⟩;refine⟨rfl,⟨{x.2 with step:=8},by show((S.T.set _ _).set _ _)[_]? =_;exact List.getElem?_set_self (by rw[List.length_set];exact K),λ_=>⟨λc=>absurd c (by grind),λc=>absurd h0 c⟩⟩,.inr ⟨rfl,U,ms,B,?_⟩⟩;exact h.sc u (st:=8) (by simp[B4.tk]) rfl ⟨rfl,rfl,rfl,rfl,rfl,rfl,rfl⟩ (.inl ⟨rfl,uP h0 v,rfl⟩) (MM.refl _) h.ma.inv rfl
   .rcases hb with ⟨_,rfl⟩|⟨c,_⟩
    .rw[u]at j;cases j;rw[h8];refine⟨E.IP,by simp[Jq],λR Z' w' aC H' hK=>hE.do1 _ _ R w' (Vr hE H' h.ok u h.wo.2 h.ma.inv λS2 n m' hs aG Y O=>hK _ _ Y ?_ O)⟩;refine⟨rfl,⟨_,List.getElem?_set_self K,λ_=>⟨λ_=>by omega,λ_=>rfl⟩⟩,.inr ⟨rfl,U,ms,B,?_⟩⟩;exact h.sc u (st:=0) rfl rfl ⟨rfl,rfl,rfl,rfl,rfl,rfl,rfl⟩ (.inr ⟨rfl,h8,rfl⟩) hs.EB aG rfl
    .omega
include hE hT in
theorem kO{w:World}(h:PA k0 o c N k1 ns F0 m S U ms B)(hm:m<=2000)(aD:S.Q.length<900)(H:Sat (AA E rb g S++Z) w){a1:AY}{vs:List Int}(hl:vs.length=a1.len)(Y:a1.len<=3000)(hr: ∀w',Sat Z w'->rowAt w' a1.base (a1.len*1) (ints .i64 vs)){K:Bool->World->Prop}
  (hK: ∀J S' U' a j,S'.Q.length=S.Q.length->PA k0 o c N k1 ns F0 0 S' U' a j->GB S'=true-> ∀w',Sat (AA E rb J S'++Z) w'->K true w'):F.CN E (sM rb) a1 K w:=by
 refine Vs hE (I:=λm S'=>S'.Q.length=S.Q.length/\ ∃U ms B,PA k0 o c N k1 ns F0 m S' U ms B) (λm' S' ⟨hq0,U',a,j,h'⟩=>⟨h'.ok,by rw[h'.ok.tn];omega,λv=> ?_⟩) hm ⟨rfl,U,ms,B,h⟩ H hl Y hr λJ S' μ _ ⟨hq0,U',a,j,h'⟩ v w' H'=> ?_
 .have u:=h'.adv (rb:=rb) (Z:=Z) hE hT v;refine⟨u.ok,u.en,u.QY,λg i x S1 x1 hx T hb aA he=>(u.go g i x S1 x1 hx T hb aA he).mono λS2 e=>⟨e.ql,e.tx,?_⟩⟩;rcases e.go with ⟨h1,m2,h2,O⟩|⟨h1,O⟩
  .exact .inl ⟨h1,m2,h2,e.ql.trans hq0,O⟩
  .exact .inr ⟨h1,e.ql.trans hq0,O⟩
 .obtain rfl:μ=0:=(h'.quiet v).2.2.2.2.2.1;exact hK J S' U' a j hq0 h' v w' H'
end
def HS.at(S:HS)(id:Int):Int:=match S.sp id with
 | some x=>x.2.base
 | none=>0
theorem HInv.Nx{S:HS}{fl:Int->Bool}(hI:HInv S fl)(l:List Int)(u:l.Nodup)(j: ∀n∈l,S.sp n≠none):l.length<1099511627776:=by
 have h:=fT S.fx.n l u λn v=>by
  obtain⟨a,e,h1,_⟩:=(hI.sf n).1 (j n v);omega
 have:=hI.fb;omega
section
variable{E:Env}{w:World}{Z:List Pr}
theorem TT(H:Sat Z w){a b:Int}{K:Int->World->Prop}(e: ∀r w',0<=r->Sat Z w'->K r w'):F.Jj E a b K w:=by
 unfold F.Jj T0.Jj F.GY T0.GY F.IT;have main: ∀(x:Nat) w',Sat Z w'->CND ((EN x x !=some .eq)) (K 9221120237041090561 w') (K (x:Int) w'):=λx w' h=>AX (λ_=>e _ _ (by decide) h) λ_=>e _ _ (by omega) h;unfold FRES;split
 .grind
 .intro t;exact main _ _ H.drew
theorem uQ(H:Sat Z w){a:Int}(v:0<=a){K:Int->World->Prop}(j: ∀r w',Sat Z w'->K r w'):F.IG E a 100 K w:=by
 unfold F.IG T0.IG F.GF cV;refine AR rfl (TT H λr O J u=>Na u λT e=>⟨⟨v,(XF _ _).1,by decide,by decide⟩,AX (λ_=>j _ _ e) λ_=>j _ _ e⟩)
theorem uR(H:Sat Z w){a b c:Int}{K:Int->World->Prop}(v: ∀r w',Sat Z w'->K r w'):F.IH E a b c K w:=by
 unfold F.IH T0.IH;refine AV (λs w'=>Sat Z w') (AX (λ_=>AZ λd hd=>H) λ_=>H) ?_;rintro⟨d,u⟩ _ O e;exact TT e λr J _ j=>v r J j
variable{W:SW}{U M:Aq}{A:vE}{dead:Bool}{ma cy:Int}
theorem Vw(hH:QI E)(H:Sat (Ou E A dead ma cy::AQ E A.b A.h A.s A.r W::Z) w)(hI:Ae W U M){K:Int->Int->World->Prop}
  (hK: ∀a b w',0<=a->((∀id,W.S.sp id=none)->b=0)->Sat (Ou E A dead ma cy::AQ E A.b A.h A.s A.r W::Z) w'->K a b w'):F.CY E (sM A.m) K w:=by
 unfold F.CY T0.CY;refine AG ⟨_,H.AW rfl,?_⟩;obtain⟨em,H1⟩:=Sat.Gw.1 (H.front 1 rfl:Sat (AQ E A.b A.h A.s A.r W::Ou E A dead ma cy::Z) w);refine Ol hH (H1.front 1 rfl) (λl h1 h2=>hI.hI.Nx l h1 h2) λs l w2 aB J H2=> ?_;have H3:Sat (AQ E A.b A.h A.s A.r W::Row E.Ar 1 s (ints .i64 l)::Ou E A dead ma cy::Z) w2:=Sat.Gw.2 ⟨em,(H2.BQ 1 rfl).perm (List.perm_middle (l₁:=Lk E A.b A.h A.s A.r W em)).symm⟩;have hlen:l.length=s.len:=by
  have:=H2.CK;rw[ints,List.length_map,Nat.mul_one]at this
  simp_all
 have aF:l.length<1000000000000000000:=by
  have:=hI.hI.Nx l aB λn hn=>(J n).1 hn;omega
 refine AM (λst w'=> ∃k:Nat,st.2.2.1=(k:Int)/\k<=l.length/\(0<=st.1/\((∀id,W.S.sp id=none)->st.2.1=0))/\Sat (Ou E A dead ma cy::AQ E A.b A.h A.s A.r W::Row E.Ar 1 s (ints .i64 l)::Z) w') (λst _=>((l.length:Int)-st.2.2.1).toNat) ⟨0,rfl,Nat.zero_le _,⟨Int.le_refl _,λ_=>rfl⟩,H3.front 2 rfl⟩ ?_;rintro⟨lv,pg,k',u⟩ _ w6 ⟨k,hk,aU,h0,Y⟩;dsimp only at hk h0⊢;subst hk;refine AE (λaV=> ?_) λaT=>hK lv pg w6 h0.1 h0.2 ((Y.front 2 rfl).tail);have O:k<l.length:=by omega
 obtain⟨id,Kv⟩: ∃id,l[k]? =some id:=⟨_,List.getElem?_eq_getElem O⟩;obtain⟨x,T⟩: ∃x,W.S.sp id=some x:=Option.ne_none_iff_exists'.1 ((J id).1 (List.mem_of_getElem? Kv));have ei:i64 ((k:Int)+1)=((k+1:Nat):Int):=by rw[AI];rfl
 refine(Y.front 2 rfl:Sat (Row E.Ar 1 s (ints .i64 l)::_) w6).O6 (j:=k) (v:=.int .i64 id) (by rw[ints,List.getElem?_map,Kv];rfl) λa ha hc=>⟨⟨by omega,by omega⟩,_,by rw[aD,Int.toNat_natCast,Nat.mul_one];exact hc,?_⟩;refine QR Y hI (λhn=>by grind) λy hy w7 H7=>Aa rfl ?_;obtain rfl:y=x:=Option.some.inj (hy.symm.trans T);refine JW (H7.front 1 rfl) T λw8 H8=>AJ (vs:=JV) H8 λaO w9 H9 _=> ?_;refine Bm (news:=Hl y.2) H9 rfl (by intro v hv;simp only[Hl,List.mem_cons,List.not_mem_nil,or_false]at hv;rcases hv with rfl|rfl|rfl|rfl|rfl|rfl|rfl|rfl|rfl|rfl<;>rfl) λaZ e=>⟨_,e.cell (o:=0) (m:=7) rfl,_,e.cell (o:=0) (m:=5) rfl,AZ λaX aA=>⟨_,e.cell (o:=0) (m:=1) rfl,AZ λaY _=> ?_⟩⟩;rw[ei];exact⟨⟨k+1,rfl,by omega,⟨by rw[aA];show 0<=u64 _;rw[KI];omega,λaC=>by rw[aC]at T;cases T⟩,e.tail.front 1 rfl⟩,by omega⟩
end
structure Flu(W:SW)(C:List (Nat×KS))(U:Aq)(k0:Int)(j:Nat)(W0:SW)(C':List (Nat×KS)):Prop where
 len:C'.length=C.length
 lo: ∀i,i<j-> ∀c,C'[i]? =some c-> ∀k np,c.2.held k np=0
 hi: ∀i,j<=i->C'[i]? =C[i]?
 S:W0.S=W.S/\W0.R=W.R/\W0.em=W.em/\W0.CD=W.CD
 inv:Ae W0 U Gf
 sw: ∀z∈W0.L,z.Ei=true
 Vv: ∀id x,W.S.sp id=some x->(∃z∈W0.L,z.id=id)∨ ∃(i:Nat) (c:Nat×KS),j<=i/\C[i]? =some c/\c.2.held k0 true=id
 no: ∀(i:Nat) (c:Nat×KS),j<=i->C[i]? =some c->Vc W0 c.2 k0 true
 ln:W0.L.length<=W.L.length+j
structure Flpd(W:SW)(C:List (Nat×KS))(U:Aq)(as_:List Int)(W':SW)(C':List (Nat×KS)):Prop where
 mw:SS W.S W'.S
 inv:Ae W' U (Gf.mark W.S as_)
 un: ∀z∈W'.L,z.Ei=false
 Vv: ∀id x,W.S.sp id=some x-> ∃z∈W'.L,z.id=id
 ln:W'.L.length<=W.L.length+C.length
 re:W'.R=W.R/\W'.em=W.em/\W'.CD=W.CD/\W'.Bq=0/\W'.Gd=0
 len:C'.length=C.length
 c0: ∀(i:Nat) c,C'[i]? =some c-> ∀k np,c.2.held k np=0
section
variable{E:Env}{rb:Nat}{g:Nu}{S:B4}{Z:List Pr}{w:World}{U M:Aq}{n:Nat}{B:List Bk}{k0 ma:Int}
theorem iF(hE:Ku E)(hH:QI E)(H:Sat (AA E rb g S++Z) w)(T:MA S.W S.C U n B k0 ma)(hn:n<=100000)(bZ:S.C.length<=1000)
  {a1:AY}{as_:List Int}(hA: ∀w',Sat Z w'->rowAt w' a1.base a1.len (ints .u64 as_))(hl:as_.length=a1.len)(b4:a1.len<=1000000)(has: ∀a∈as_,0<=a/\a<18446744073709551616){K:Int->Int->Int->World->Prop}
  (hK: ∀W' C' nn w',Flpd S.W S.C U as_ W' C'->Sat (AA E rb g {S with W:=W',C:=C',cy:=u64 (S.cy+1)}++Z) w'->K 0 nn 0 w'):F.Cy E (sM g.a.m) a1 K w:=by
 unfold F.Cy T0.Cy;have b5:S.W.L.length<=n:=T.tp.len;refine AJ (vs:=[.int .u64 0,.int .u64 0,.int .i64 0]) H λb1 w2 H2 _=> ?_
 let RP:Pr:=Cells b1 E.CT [.int .u64 0,.int .u64 0,.int .i64 0]
 have Hr:Sat (AA E rb g S++RP::Z) w2:=E8 H2;have bY:=(Hr.front 7 rfl:Sat (gX E g.a.cb g.a.cs S.C::_) w2).Jp;refine AG ⟨_,K9 Hr (k:=4) rfl,?_⟩;refine AM (λst w'=> ∃(j:Nat) (O:SW) (C':List (Nat×KS)),st.1=(j:Int)/\j<=S.C.length/\Flu S.W S.C U k0 j O C'/\Sat (AA E rb g {S with W:=O,C:=C'}++RP::Z) w') (λst _=>((S.C.length:Int)-st.1).toNat)
  ⟨0,S.W,S.C,rfl,Nat.zero_le _,⟨rfl,λi hi=>absurd hi (Nat.not_lt_zero _),λ_ _=>rfl,⟨rfl,rfl,rfl,rfl⟩,T.inv,T.tp.Gz.sw,λid x hx=> ?_,λi c _ Y=>(T.tp.own i c Y).uG k0 true,Nat.le_refl _⟩,Hr⟩ ?_
 .rcases T.Vv id x hx with h|⟨i,c,Y,e⟩
  .grind
  grind
 rintro⟨j',u⟩ _ w4 ⟨j,O,C',hj,b2,J,H4⟩;dsimp only at hj⊢;subst hj;refine AE (λa8=> ?_) λb0=> ?_
 .have aO:j<S.C.length:=by omega
  obtain⟨c,Y⟩: ∃c,S.C[j]? =some c:=⟨_,List.getElem?_eq_getElem aO⟩;have aH:C'[j]? =some c:=(J.hi j (Nat.le_refl _)).trans Y;have a5:=(List.getElem?_eq_some_iff.1 aH).1;obtain⟨a,ha,CO⟩:=(H4.front 7 rfl:Sat (gX E g.a.cb g.a.cs C'::_) w4).Kw aH;refine Ij ha ⟨⟨by omega,a8⟩,_,by rw[aD,Int.toNat_natCast,Nat.mul_one];assumption,?_⟩;obtain⟨R,HR,_,aG⟩:=Yi (S:={S with W:=O,C:=C'}) H4 aH;have a6:=T.kc j c Y;refine Yj hE.toEnvK T.k0 HR J.inv (by have:=J.ln;grind) a6 (J.no j c (Nat.le_refl _) Y) λW1 aE a3 w5 H5=>⟨⟨j+1,W1,_,by rw[AI];rfl,by omega,?_,aG H5⟩,by rw[AI];omega⟩;have hL:(∀z∈O.L,z∈W1.L)/\(∀z∈W1.L,z.Ei=true/\(z∈O.L∨(z.id=c.2.held k0 true/\0<z.id)))/\(c.2.held k0 true≠0-> ∃z∈W1.L,z.id=c.2.held k0 true)/\W1.L.length<=O.L.length+1/\W1.em=O.em/\W1.CD=O.CD:=by
   rcases aE with ⟨e,rfl⟩|⟨e,y,EC,hy,bB,rfl⟩
   .exact⟨λz hz=>hz,λz hz=>⟨J.sw z hz,.inl hz⟩,λg=>absurd e g,Nat.le_succ _,rfl,rfl⟩
   .refine⟨λz hz=>DY.2 (.inr hz),λz hz=> ?_,λ_=>⟨_,DY.2 (.inl rfl),rfl⟩,by rw[show(SW.L _)=HJ O.L _ from rfl,(Ha O.L _).length_eq];grind,rfl,rfl⟩;rcases DY.1 hz with rfl|hz
    .grind
    .exact⟨J.sw z hz,.inl hz⟩
  obtain⟨l1,l2,l3,l4,l5,l6⟩:=hL;have aN:=Vo aE;refine⟨by rw[List.length_set];exact J.len,λi hi d hd k np=> ?_,λi hi=>by rw[List.getElem?_set_ne (by omega)];exact J.hi i (by omega),⟨aN.1.trans J.S.1,aN.2.2.2.2.trans J.S.2.1,l5.trans J.S.2.2.1,l6.trans J.S.2.2.2⟩,a3,λz hz=>(l2 z hz).1,λid x hx=> ?_,λi d hi hd=> ?_,by have:=J.ln;omega⟩
  .rcases FZ a5 hd with ⟨rfl,rfl⟩|⟨b6,hd⟩
   .show(c.2.hold k0 true 0).held k np=0;by_cases e:k=k0/\np=true
    .rw[e.1,e.2,KC c.2 T.k0.1 T.k0.2]
    .rw[KD c.2 T.k0.1 e];grind
   .exact J.lo i (by omega) d hd k np
  .rcases J.Vv id x hx with ⟨z,hz,e⟩|⟨i,d,hi,hd,e⟩
   .grind
   .by_cases eij:i=j
    .subst eij;rw[Y]at hd;cases hd;have:=(T.inv.hI.sp id x hx).1
     grind
    grind
  .rcases J.no i d (by omega) hd with e|⟨e,y,hy,bB⟩
   .exact .inl e
   .refine .inr ⟨e,y,by grind,λz hz=> ?_⟩;rcases(l2 z hz).2 with g|⟨g,_⟩
    .grind
    .rw[g];exact λc'=>T.tp.ap i j d c hd Y (by omega) k0 true (by omega) c'.symm
 .obtain rfl:j=S.C.length:=by omega
  refine AG ⟨_,K9 H4 (k:=3) rfl,?_⟩
  let Q:B4:={S with W:=O,C:=C'}
  have a2: ∀w',Sat ((AA E rb g Q++RP::Z).eraseIdx 11) w'->rowAt w' a1.base a1.len (ints .u64 as_):=λw' h=>hA w' h.tail.tail.tail.tail.tail.tail.tail.tail.tail.tail.tail.tail;refine aW hE.toEnvK.toEnvC.toEnvW (H4.front 11 rfl:Sat (AQ E g.a.b g.a.h g.a.s g.a.r O::_) w4) J.inv a2 hl (by omega) has (λbI=> ?_) λ_ S' bA aB w6 H6=> ?_
  .exfalso;have:YO O.L false=0:=by
    unfold YO;rw[List.length_eq_zero_iff,List.filter_eq_nil_iff];intro z hz;rw[J.sw z hz];decide
   omega
  let W2:SW:={O with S:=S',L:=JT O.L}
  have H7:Sat (AA E rb g {Q with W:=W2}++RP::Z) w6:=Sat.back (Ps:=AA E rb g Q++RP::Z) 11 H6 (by simp[AA]);obtain⟨R3,aZ,b7,aC⟩:=SV H7;refine Vw hH aZ aB λlv pg w8 a9 _ H8=> ?_;have H9:Sat (AA E rb g {Q with W:=W2}++RP::Z) w8.drew:=(aC H8).drew;refine AG ⟨_,K9 H9 (k:=3) rfl,AG ⟨_,K9 H9 (k:=8) rfl,?_⟩⟩;refine uQ H9 a9 λgl cA aJ=>⟨K9 aJ (k:=3) rfl,uR aJ λrt bE aK=>⟨K9 aK (k:=3) rfl,?_⟩⟩;refine a7 (aK.front 11 rfl:Sat (AQ E g.a.b g.a.h g.a.s g.a.r W2::_) bE) λaQ aT=> ?_
  let W3:SW:={W2 with Lj:=rt,Bq:=0,Gd:=0}
  have aL:Sat (AA E rb g {Q with W:=W3}++RP::Z) aQ:=Sat.back (Ps:=AA E rb g {Q with W:=W2}++RP::Z) 11 aT (by simp[AA]);refine AG ⟨_,K9 aL (k:=11) rfl,AG ?_⟩;refine Af (aL.front 6 rfl:Sat (Ou E g.a false S.ma S.cy::_) aQ) (o:=0) (m:=11) rfl (by simp[K7]) λbF aU=> ?_;have aM:Sat (AA E rb g {Q with W:=W3,cy:=u64 (S.cy+1)}++RP::Z) bF:=Sat.back (Ps:=AA E rb g {Q with W:=W3}++RP::Z) 6 aU (by simp[AA]);refine AG ⟨_,K9 aM (k:=1) rfl,?_⟩;obtain⟨R5,bC,a4⟩:=gZ aM;refine NW bC λaR aV=> ?_;have aX:Sat (AA E rb g {Q with W:=W3,cy:=u64 (S.cy+1)}++RP::Z) aR:=a4 (L':=W3.L) aV;refine Bm (news:=[.int .u64 0,.int .u64 (u64 _),.int .i64 0]) (aX.front 12 rfl:Sat (RP::_) aR) rfl (by intro v hv;simp only[List.mem_cons,List.not_mem_nil,or_false]at hv;rcases hv with rfl|rfl|rfl<;>rfl) λbG aA=> ?_;refine⟨_,aA.cell (o:=0) (m:=0) rfl,_,aA.cell (o:=0) (m:=1) rfl,_,aA.cell (o:=0) (m:=2) rfl,hK W3 C' _ bG ?_ aA.tail⟩;have aP: ∀z∈JT O.L,∃y∈O.L,z=y.flip:=λz hz=>by
   obtain⟨y,hy,e⟩:=List.mem_map.1 hz
   grind
  refine⟨by rw[<-J.S.1];exact bA,⟨aB.hI,by rw[<-J.S.1];exact aB.sp,aB.it⟩,λz hz=> ?_,λid x hx=> ?_,by show(JT O.L).length<=_;unfold JT;rw[List.length_map];exact J.ln,⟨J.S.2.1,J.S.2.2.1,J.S.2.2.2,rfl,rfl⟩,J.len,λi c Y k np=>J.lo i (by rw[<-J.len];exact(List.getElem?_eq_some_iff.1 Y).1) c Y k np⟩
  .obtain⟨y,hy,rfl⟩:=aP z hz;rfl
  .rcases J.Vv id x hx with ⟨z,hz,e⟩|⟨i,d,hi,hd,e⟩
   .exact⟨z.flip,List.mem_map.2 ⟨z,hz,rfl⟩,e⟩
   grind
theorem Yn(hE:Ku E)(hH:QI E)(H:Sat (AA E rb g S++Z) w){i k:Nat}{x:Nat×Tk}{y:Nat×Ak}(hx:S.T[i]? =some x)(Y:x.2.ask=(k:Int))(hy:S.L[k]? =some y)(e:S.ord.length<1000000)(hM:MA S.W S.C U n B k0 ma)(hn:n<=100000)(u:S.C.length<=1000)
  {as_:List Int}(hA: ∀w',Sat Z w'->rowAt w' y.2.set.base y.2.set.len (ints .u64 as_))(hl:as_.length=y.2.set.len)(v:y.2.set.len<=1000000)(has: ∀a∈as_,0<=a/\a<18446744073709551616){K:World->Prop}
  (hK: ∀W' C' nn j w',Flpd S.W S.C U as_ W' C'->Sat (AA E rb j {B4.done {S with W:=W',C:=C',cy:=u64 (S.cy+1)} i x k y 0 nn 0 with wo:= -1}++Z) w'->K w'):F.FW E (sM rb) (sM x.1) K w:=by
 unfold F.FW T0.FW;have O:=H.drew;refine AG ⟨_,Gx O,JX O hx Y hy λw2 J=>⟨Gx J,?_⟩⟩;refine iF hE hH J hM hn u hA hl v has λW' C' nn w3 hF H3=> ?_;refine Jr H3 e hx Y hy λj w4 H4=>AG ?_;exact QT H4 (m:=7) (by decide) rfl λw5 H5=>hK W' C' nn j w5 hF H5
end
theorem Yo(u:Nat->Bool): ∀n,cN u n=((List.range n).filter u).length
 | 0=>rfl
 | n+1=>by
  rw[List.range_succ,List.filter_append,List.length_append,<-Yo u n];show _+(u n).toNat=_
  grind
theorem Aq.Sc{U:Aq}{id j:Int}{u:Nat->Bool}(h:j≠id):U.set id u j=U j:=if_neg h
theorem kP{α:Type}(f:α->Bool): ∀l:List α,(l.filter f).length+(l.filter λx=> !f x).length=l.length
 | []=>rfl
 | a::l=>by
  have:=kP f l
  grind
structure MC(κ:Aq)(W:SW)(U M:Aq)(tr I:List Int)(n:Nat)(B:List Bk)(ma:Int):Prop where
 inv:Ae W U M
 la: ∃b,F7 W.S.Vz b/\b<=512+512*(n:Int)
 len:W.L.length<=n
 nd:(B.map keyOf).Nodup
 bl: ∀id x (m:Nat),W.S.sp id=some x->(m:Int)<x.2.AO->(U id m=true↔(id,m)∈B.map keyOf)
 bs: ∀p∈B,∃x,W.S.sp p.id=some x/\(p.m:Int)<x.2.AO/\p.a=x.2.base+p.m*x.2.elem/\p.z=x.2.elem
 Vv: ∀id x,W.S.sp id=some x->id∈tr∨ ∃z∈W.L,z.id=id
 tn:tr.Nodup
 cI: ∀id∈tr,W.S.sp id≠none/\ ∀z∈W.L,z.id≠id
 mq: ∀id,(id∈tr∨ ∃z∈W.L,z.id=id/\z.Ei=false)->M id=κ id/\ ∀j,κ id j=true->U id j=true
 sw: ∀z∈W.L,z.Ei=true->(∀p∈B,p.id=z.id->κ p.id p.m=true)/\ ∃p∈B,p.id=z.id
 ids: ∀z∈W.L,z.Ei=false->z.id∈I
 re:W.R=[]/\W.em=[]
 rf:W.S.V.rf=[]
 fr:0<=W.CD/\ma=W.CD+B.length/\ma<=n
 rp:0<=W.Gd/\0<=W.Bq/\W.Bq<18446744073709551616
 k0:κ=Gf->M=Gf
section
variable{κ:Aq}{W W':SW}{U M U' M':Aq}{tr I:List Int}{n:Nat}{B:List Bk}{ma:Int}
theorem MC.mono(h:MC κ W U M tr I n B ma){m:Nat}(hm:n<=m):MC κ W U M tr I m B ma:=by
 obtain⟨b,a,e⟩:=h.la;exact{h with la:=⟨b,a,by omega⟩,len:=by have:=h.len;omega,fr:=by have:=h.fr;omega}
theorem MC.got(h:MC κ W U M tr I n B ma){z:EV}(hz:VV W.L z)(hI:Ae {W with L:=IZ W.L z.id} U M):MC κ {W with L:=IZ W.L z.id} U M (z.id::tr) (I.erase z.id) n B ma/\z.id∈I:=by
 have u:z.id∉tr:=λc=>(h.cI z.id c).2 z hz.1 rfl;refine⟨{h with inv:=hI,len:=Nat.le_trans (List.length_filter_le ..) h.len,Vv:=λid x v=> ?_,tn:=List.nodup_cons.2 ⟨u,h.tn⟩,cI:=λid Kv=> ?_,mq:=λid Kv=> ?_,sw:=λy a j=>h.sw y (Jo.1 a).1 j,ids:=λy a j=>(List.mem_erase_of_ne (Jo.1 a).2).2 (h.ids y (Jo.1 a).1 j)},h.ids z hz.1 hz.2.1⟩
 .by_cases e:id=z.id
  .grind
  .rcases h.Vv id x v with g|⟨y,a,g⟩
   .grind
   .exact .inr ⟨y,Jo.2 ⟨a,by omega⟩,g⟩
 .rcases List.mem_cons.1 Kv with rfl|g
  .obtain⟨y,a,_⟩:=h.inv.it z hz.1;exact⟨λc=>(by grind),λy a=>(Jo.1 a).2⟩
  .exact⟨(h.cI id g).1,λy a=>(h.cI id g).2 y (Jo.1 a).1⟩
 .rcases Kv with g|⟨y,a,e,j⟩
  .rcases List.mem_cons.1 g with rfl|g
   .exact h.mq z.id (.inr ⟨z,hz.1,rfl,hz.2.1⟩)
   .exact h.mq id (.inl g)
  .exact h.mq id (.inr ⟨y,(Jo.1 a).1,e,j⟩)
def kept(κ:Aq)(id:Int)(p:Bk):Bool:= !(p.id==id)||κ p.id p.m
theorem Lo{id:Int}{p:Bk}:p∈B.filter (kept κ id)↔p∈B/\(p.id=id->κ p.id p.m=true):=by
 rw[List.mem_filter];unfold kept
 grind
theorem MC.key(h:MC κ W U M tr I n B ma){id:Int}{m:Nat}:(id,m)∈B.map keyOf↔ ∃p∈B,p.id=id/\p.m=m:=by
 rw[List.mem_map];exact⟨λ⟨p,hp,e⟩=>⟨p,hp,(Prod.mk.inj e).1,(Prod.mk.inj e).2⟩,λ⟨p,hp,e1,e2⟩=>⟨p,hp,by unfold keyOf;simp_all⟩⟩
theorem MC.count(h:MC κ W U M tr I n B ma){id:Int}{x:Nat×SI}(O:W.S.sp id=some x)(hm:M id=κ id):(B.filter (kept κ id)).length+cN (λi=>U id i&& !M id i) x.2.AO.toNat=B.length:=by
 have h1:=kP (kept κ id) B;have h2:(B.filter λp=> !kept κ id p).length=cN (λi=>U id i&& !M id i) x.2.AO.toNat:=by
  rw[Yo,<-List.length_map (f:=Bk.m)];have u: ∀p,p∈B.filter (λp=> !kept κ id p)↔p∈B/\p.id=id/\κ id p.m=false:=λp=>by
   rw[List.mem_filter];unfold kept
   grind
  have J:((B.filter λp=> !kept κ id p).map Bk.m).Nodup:=by
   have Y:((B.filter λp=> !kept κ id p).map keyOf).Nodup:=(List.Sublist.map _ List.filter_sublist).nodup h.nd;rw[List.Nodup,List.pairwise_map]at Y⊢;refine Y.imp_of_mem λ{a b} ha hb hne e=>hne ?_;unfold keyOf
   grind
  refine Nat.le_antisymm (Vf J λj v=> ?_) (Vf (List.filter_sublist.nodup List.nodup_range) λj v=> ?_)
  .obtain⟨p,K,rfl⟩:=List.mem_map.1 v;obtain⟨g1,g2,g3⟩:=(u p).1 K;obtain⟨y,hy,T,_⟩:=h.bs p g1;rw[g2,O]at hy;cases hy;rw[List.mem_filter,List.mem_range,hm,g3];refine⟨by omega,?_⟩;rw[(h.bl id x p.m O T).2 (h.key.2 ⟨p,g1,g2,rfl⟩)];rfl
  .rw[List.mem_filter,List.mem_range,Bool.and_eq_true]at v;obtain⟨g1,g2,g3⟩:=v;obtain⟨p,K,e1,e2⟩:=h.key.1 ((h.bl id x j O (by omega)).1 g2);refine List.mem_map.2 ⟨p,(u p).2 ⟨K,e1,?_⟩,e2⟩;rw[e2,<-hm];simpa using g3
 omega
theorem MC.one(h:MC κ W U M tr I n B ma){id:Int}(Kv:id∈tr){k:Nat}{gone:Bool}(ho:YW W U M id false k gone W' U' M')(hI:Ae W' U' M')(hn:n<=1000000):MC κ W' U' M' (tr.erase id) I (n+1) (B.filter (kept κ id)) ma:=by
 obtain⟨x,t,uw,hx,aR,ht,hk,rfl,rfl,W1,aD,hc⟩:=ho;rw[QP (by rw[h.re.1];grind)]at ht;subst ht;dsimp only at hk aD hc;have hm:=(h.mq id (.inl Kv)).1;have aA:=h.count hx hm;rw[<-hk]at aA;have aU:=h.fr;have K:u64 (W.CD+k)=W.CD+k:=AP;obtain⟨b,hb,aT⟩:=h.la;have aV:=(h.inv.sp id x hx).2.sl;have aC:((B.filter (kept κ id)).map keyOf).Nodup:=(List.Sublist.map _ List.filter_sublist).nodup h.nd;have O: ∀{j:Int} {m:Nat},(j,m)∈(B.filter (kept κ id)).map keyOf↔(j,m)∈B.map keyOf/\(j=id->κ id m=true):=λ{j m}=>by
  rw[h.key,List.mem_map];constructor
  .rintro⟨p,v,e⟩;obtain⟨rfl,rfl⟩:=Prod.mk.inj e;obtain⟨g1,g2⟩:=Lo.1 v
   grind
  .rintro⟨⟨p,v,rfl,rfl⟩,g⟩;exact⟨p,Lo.2 ⟨v,λe=>by rw[e];exact g e⟩,rfl⟩
 have Y: ∀{j},j∈tr.erase id↔j≠id/\j∈tr:=λ{j}=>h.tn.mem_erase_iff;have aL: ∀z∈W.L,z.Ei=true->(∀p∈B.filter (kept κ id),p.id=z.id->κ p.id p.m=true)/\ ∃p∈B.filter (kept κ id),p.id=z.id:=λz hz hs=>by
  obtain⟨g1,p,v,e⟩:=h.sw z hz hs;exact⟨λp v e=>g1 p (List.mem_filter.1 v).1 e,p,Lo.2 ⟨v,λe2=>absurd (e.symm.trans e2) ((h.cI id Kv).2 z hz)⟩,e⟩
 have aG:κ=Gf->M.set id D8=Gf:=λe=>by rw[h.k0 e,Ia]
 rcases hc with ⟨e,_⟩|⟨_,h0,_,a,ha,e⟩|⟨_,h0,_,EC,e⟩
 .cases e
 .subst e;subst aD;have aP:(HS.free (W.S.put id (x.1,Iy x.2 uw λi=>U id i&&M id i)) a (x.2.base/8192) x.2.AD).sp id=none:=if_pos ha;have aK: ∀j,j≠id->(HS.free (W.S.put id (x.1,Iy x.2 uw λi=>U id i&&M id i)) a (x.2.base/8192) x.2.AD).sp j=W.S.sp j:=λj u=>(if_neg (by omega)).trans (HS.He u);have aJ: ∀{p},p∈B.filter (kept κ id)->p.id≠id:=λ{p} v e=>by
   obtain⟨g1,g2⟩:=Lo.1 v;obtain⟨y,J,aW,_⟩:=h.bs p g1;rw[e,hx]at J;cases J;have h3:p.m∈(List.range x.2.AO.toNat).filter λi=>U id i&&M id i:=by grind
   rw[Yo]at h0
   grind
  refine⟨hI,⟨b,hb.MQ rfl rfl,by omega⟩,Nat.le_succ_of_le h.len,aC,λj y m J aB=> ?_,λp v=> ?_,λj y J=> ?_,h.tn.erase id,λj u=> ?_,λj u=> ?_,aL,h.ids,h.re,h.rf,⟨?_,?_,by omega⟩,⟨?_,h.rp.2⟩,aG⟩
  .have u:j≠id:=λe=>by grind
   rw[Aq.Sc u,O];have:=h.bl j y m (by grind) aB
   grind
  .obtain⟨y,J,g⟩:=h.bs p (List.mem_filter.1 v).1
   grind
  .have u:j≠id:=λe=>by grind
   rcases h.Vv j y (by grind)with g|g
   .grind
   grind
  .obtain⟨g1,g2⟩:=Y.1 u;exact⟨λc=>(h.cI j g2).1 ((aK j g1).symm.trans c),(h.cI j g2).2⟩
  .have T:j≠id:=by
    rcases u with g|⟨z,hz,e,_⟩
    .exact(Y.1 g).1
    .exact λc=>(h.cI id Kv).2 z hz (e.trans c)
   rw[Aq.Sc T,Aq.Sc T];exact h.mq j (u.imp (λg=>(Y.1 g).2) λg=>g)
  .grind
  .show ma=u64 (W.CD+k)+_;rw[K];omega
  .show 0<=u64 _;rw[KI];omega
 .subst e;subst aD;have hL: ∀z,z∈HJ W.L ⟨EC,id,x.2.base,(x.2.cls,x.2.Eh,((cN (λi=>U id i&&M id i) x.2.AO.toNat:Nat):Int)==x.2.AO,true)⟩↔z=⟨EC,id,x.2.base,(x.2.cls,x.2.Eh,((cN (λi=>U id i&&M id i) x.2.AO.toNat:Nat):Int)==x.2.AO,true)⟩∨z∈W.L:=λz=>DY;refine⟨hI,⟨b,hb.MQ rfl rfl,by omega⟩,by show(HJ W.L _).length<=_;rw[(Ha W.L _).length_eq];exact Nat.succ_le_succ h.len,aC,λj y m J aB=> ?_,λp v=> ?_,λj y J=> ?_,h.tn.erase id,λj u=> ?_,λj u=> ?_,λz hz hs=> ?_,λz hz hs=> ?_,h.re,h.rf,⟨?_,?_,by omega⟩,⟨?_,h.rp.2⟩,aG⟩
  .by_cases u:j=id
   .subst u;have J:(W.S.put j (x.1,Iy x.2 uw λi=>U j i&&M j i)).sp j=some y:=J;rw[HS.F9]at J;cases J;rw[Aq.KB,O];show(U j m&&M j m)=true↔_;rw[Bool.and_eq_true,h.bl j x m hx aB,hm]
    grind
   .rw[Aq.Sc u,O];have:=h.bl j y m (by rw[<-HS.He (S:=W.S) u];exact J) aB
    grind
  .obtain⟨y,J,g⟩:=h.bs p (List.mem_filter.1 v).1;by_cases e:p.id=id
   .rw[e,hx]at J;cases J;exact⟨(x.1,Iy x.2 uw λi=>U id i&&M id i),by show(W.S.put id (x.1,Iy x.2 uw λi=>U id i&&M id i)).sp p.id=_;rw[e];exact HS.F9,g⟩
   .exact⟨y,(HS.He e).trans J,g⟩
  .by_cases u:j=id
   .simp_all
   .rcases h.Vv j y (by rw[<-HS.He (S:=W.S) u];exact J)with g|⟨z,hz,e⟩
    .grind
    grind
  .obtain⟨g1,g2⟩:=Y.1 u;refine⟨λc=>(h.cI j g2).1 ((HS.He g1).symm.trans c),λz hz=> ?_⟩;rcases(hL z).1 hz with rfl|hz
   .exact λc=>g1 c.symm
   .exact(h.cI j g2).2 z hz
  .have aI:j∈tr∨ ∃z∈W.L,z.id=j/\z.Ei=false:=by grind
   have T:j≠id:=by
    rcases u with g|⟨z,hz,e,hs⟩
    .exact(Y.1 g).1
    .rcases(hL z).1 hz with rfl|hz
     .cases hs
     .exact λc=>(h.cI id Kv).2 z hz (e.trans c)
   rw[Aq.Sc T,Aq.Sc T];exact h.mq j aI
  .rcases(hL z).1 hz with rfl|hz
   .refine⟨λp v e=>(Lo.1 v).2 e,?_⟩;rw[Yo]at h0;obtain⟨j,u⟩:=List.exists_mem_of_length_pos (Nat.pos_of_ne_zero h0);rw[List.mem_filter,List.mem_range,Bool.and_eq_true]at u;obtain⟨p,v,e1,e2⟩:=h.key.1 ((h.bl id x j hx (by omega)).1 u.2.1);exact⟨p,Lo.2 ⟨v,λ_=>by rw[e1,e2,<-hm];exact u.2.2⟩,e1⟩
   grind
  .rcases(hL z).1 hz with rfl|hz
   .cases hs
   .exact h.ids z hz hs
  .grind
  .show ma=u64 (W.CD+k)+_;rw[K];omega
  .show 0<=u64 _;rw[KI];omega
theorem MC.OY(h:MC κ W U M tr I n B ma){S':HS}(j:MM W.S S')(hI:Ae {W with S:=S'} U M):MC κ {W with S:=S'} U M tr I n B ma:=by
 have e:({W with S:=S'}:SW).S.sp=W.S.sp:=j.sp;obtain⟨b,a,u⟩:=h.la;exact{h with inv:=hI,la:=⟨b,⟨by show ∀p,mem S'.V.laid p↔_;rw[j.laid];exact a.la,a.b0,a.b1,by show 0<=S'.hint;rw[j.hint];exact a.h0,by show S'.hint<=b;rw[j.hint];exact a.h1,by show S'.V.pl=[];rw[j.pl];exact a.pl,rfl⟩,u⟩,bl:=by rw[e];exact h.bl,bs:=by rw[e];exact h.bs,Vv:=by rw[e];exact h.Vv,cI:=by rw[e];exact h.cI,rf:=j.rf.trans h.rf}
variable{C C':List (Nat×KS)}{k0:Int}{as_:List Int}
theorem MA.ids(h:MA W C U n B k0 ma){id:Int}{x:Nat×SI}(a:W.S.sp id=some x):id∈B.map Bk.id++C.map λc=>c.2.held k0 true:=by
 rcases h.Vv id x a with ⟨z,hz,e⟩|⟨i,c,j,e⟩
 .subst e;have K:x.2.used=x.2.AO:=h.tp.full z hz x a;obtain⟨v,u⟩:=h.inv.sp _ x a;have O:=v.size;have hu:U z.id 0=true:=by
   cases e:U z.id 0 with
   | true=>rfl
   | false=>have:=aF e (n:=x.2.AO.toNat) (by omega);have:=u.cnt;omega
  obtain⟨p,J,e⟩:=List.mem_map.1 ((h.tp.bl z.id x 0 a (by omega)).1 hu);exact List.mem_append_left _ (List.mem_map.2 ⟨p,J,(Prod.mk.inj e).1⟩)
 .exact List.mem_append_right _ (List.mem_map.2 ⟨c,List.mem_of_getElem? j,e⟩)
theorem MA.flip(h:MA W C U n B k0 ma)(u:Flpd W C U as_ W' C')(hu: ∀a∈as_,∀id j,mkOf W.S a=some (id,j)->U id j=true):MC (Gf.mark W.S as_) W' U (Gf.mark W.S as_) [] (B.map Bk.id++C.map λc=>c.2.held k0 true) (n+C.length) B ma:=by
 have K:=u.mw.rest;obtain⟨b,Y,aA⟩:=h.tp.la;have sp: ∀{id x},W'.S.sp id=some x-> ∃y,W.S.sp id=some y/\x.2.AO=y.2.AO/\x.2.base=y.2.base/\x.2.elem=y.2.elem:=λ{id x} J=>by
  cases e:W.S.sp id with
  | none=>rw[u.mw.no id e]at J;cases J
  | some y=>
   obtain⟨mw,g⟩:=u.mw.sp id y e
   grind
 have aD:W.L.length<=n:=h.tp.len;refine⟨u.inv,⟨b,Y.MQ (by rw[K];rfl) (by rw[K];rfl),by omega⟩,by have:=u.ln;omega,h.tp.nd,λid x m J hm=> ?_,λp hp=> ?_,λid x J=> ?_,List.nodup_nil,λid Kv=>(by cases Kv),λid _=>⟨rfl,λj hj=> ?_⟩,λz hz T=>(by rw[u.un z hz]at T;cases T),λz hz _=> ?_,by rw[u.re.1,u.re.2.1];exact h.re,by rw[K];exact h.rf,by rw[u.re.2.2.1];have:=h.fr;omega,by rw[u.re.2.2.2.1,u.re.2.2.2.2];decide,λe=>e⟩
 .obtain⟨y,v,e,_⟩:=sp J;exact h.tp.bl id y m v (by omega)
 .obtain⟨y,v,g1,g2,g3⟩:=h.tp.bs p hp;obtain⟨mw,g⟩:=u.mw.sp p.id y v
  grind
 .obtain⟨y,v,_⟩:=sp J;exact .inr (u.Vv id y v)
 .unfold Aq.mark at hj;have aC:(as_.any λa=>decide (mkOf W.S a=some (id,j)))=true:=by assumption
  grind
 .obtain⟨y,v,_⟩:=u.inv.it z hz;obtain⟨y',O,_⟩:=sp v;exact h.ids O
theorem MC.fin(h:MC κ W U M [] I n B ma)(O:κ=Gf)(T: ∀z∈W.L,z.Ei=true)(hC: ∀(i:Nat) c,C[i]? =some c-> ∀k np,c.2.held k np=0)(J:0<k0/\k0<68):B=[]/\(∀id,W.S.sp id=none)/\W.L=[]/\MA W C U n [] k0 ma:=by
 have K: ∀id,W.S.sp id=none:=λid=>by
  cases e:W.S.sp id with
  | none=>rfl
  | some x=>
   exfalso;rcases h.Vv id x e with g|⟨z,hz,rfl⟩
   .cases g
   .obtain⟨g1,p,u,e2⟩:=h.sw z hz (T z hz);have:=g1 p u e2;rw[O]at this;cases this
 have Y:B=[]:=List.eq_nil_iff_forall_not_mem.2 λp u=>by
  obtain⟨x,a,_⟩:=h.bs p u
  grind
 have hL:W.L=[]:=List.eq_nil_iff_forall_not_mem.2 λz hz=>by
  obtain⟨x,a,_⟩:=h.inv.it z hz
  grind
 subst Y;have hM:=h.k0 O;subst hM;refine⟨rfl,K,hL,⟨⟨h.inv.r0,⟨T,λx a=> ?_,rfl,h.rp.1,h.rp.2⟩,λx a=> ?_,h.la,h.len,λi c v k np=>.inl (hC i c v k np),λi j c d v hd _ k np g=>absurd (hC i c v k np) g,List.nodup_nil,h.bl,h.bs,λp u=>u,λp u=>(by cases u)⟩,λi c v k np _=>hC i c v k np,λid x a=>(by grind),h.re,h.rf,h.fr,J⟩⟩
 .have a:x∈W.L:=a
  grind
 .have a:x∈W.L:=a
  grind
end
structure CB(P c ln:Nat)(M0:Int)(m:Nat)(S:B4):Prop where
  ok:F5 S
  qk:Qk S
  ql:S.Q.length=P
  cl:S.C.length=P
  pc:S.pc≠none
  p0:0<P/\P<=800
  q0: ∀(i:Nat) q,i≠0->S.Q[i]? =some q->q.2=[]
  ti: ∀(i:Nat) x,S.T[i]? =some x->i≠0->i<P->x.2.step=0/\x.2.tr=0
  or:m<=c/\S.ord.length<=c-m/\c<=50000
  ln:S.L.length=ln
  mz:S.ma=M0
theorem CB.Fk{P c ln m m':Nat}{M0:Int}{S S':B4}(h:CB P c ln M0 m S){i:Nat}{x:Nat×Tk}{t':Tk}(hx:S.T[i]? =some x)(hi:i=0∨P<=i)(hT:S'.T=S.T.set i (x.1,t'))(hn:t'.n=x.2.n)(hQ:S'.Q=S.Q∨(i=0/\ ∃s a l s',S.Q[i]? =some (s,a::l)/\S'.Q=S.Q.set i (s',l)))
    (hL:S'.L.length=S.L.length)(hC:S'.C.length=S.C.length)(u:S'.pc=S.pc)(hH:HInv S'.W.S no)(aI:S'.o1=S.o1)(Y:Qk S')(hm:m'<=m)(aE:S'.ord=S.ord∨(S'.ord.length=S.ord.length+1/\m'<m))(O:S'.ma=S.ma):CB P c ln M0 m' S':=by
  have aG:=(List.getElem?_eq_some_iff.1 hx).1;have aA:S'.Q.length=S.Q.length:=by grind
  refine⟨h.ok.Fk hx hT hn (hQ.imp (λe=>e) λ⟨_,s,a,l,s',h1,h2⟩=>⟨s,a,l,s',h1,h2⟩) hL (λc=>⟨by rw[u];exact h.pc,hH⟩),Y,aA.trans h.ql,hC.trans h.cl,by rw[u];exact h.pc,h.p0,λj q v J=> ?_,λj z hz v K=> ?_,?_,?_,?_⟩
  . rcases hQ with e|⟨e0,_,_,_,_,_,e⟩
    . rw[e]at J;exact h.q0 j q v J
    . rw[e,List.getElem?_set_ne (by omega)]at J;exact h.q0 j q v J
  . rw[hT,List.getElem?_set_ne (by omega)]at hz;exact h.ti j z hz v K
  . have:=h.or
    grind
  . exact hL.trans h.ln
  . exact O.trans h.mz
def SwA(S:B4)(l:List Int)(b:Nat):Prop:=l=[]∨ ∃(ks:Nat) (y:Nat×Ak),l=[(ks:Int)]/\S.L[ks]? =some y/\y.2.op=7/\(b:Int)<y.2.n/\y.2.n<=1000000
def StB(S:B4)(x0 x2:Nat×Tk)(kc:Nat)(l:List Int)(σ:Nat):Prop:=
  (σ=3/\x0.2.step=0/\S.wo= -1/\ ∃s,S.Q[0]? =some (s,(kc:Int)::l))∨
  (x0.2.ask=(kc:Int)/\S.wo=0/\(∃s,S.Q[0]? =some (s,l))/\((σ=2/\x0.2.step=13)∨(σ=1/\x0.2.step=14/\x2.2.step=0)∨(σ=0/\x0.2.step=16/\x2.2.step=0)))
def ScS(S:B4)(x2:Nat×Tk)(P:Nat):Prop:=x2.2.tr=0/\((x2.2.step=0/\S.ho= -1)∨(x2.2.step=8/\S.ho=((P+1:Nat):Int)))
structure PB(k0:Int)(o:Option Nat)(κ:Aq)(B0:List Bk)(as_:List Int)(yc:Nat×Ak)(d:Bool)(P c ln:Nat)(M0:Int)(m:Nat)(S:B4)(U:Aq)(x0 x1 x2:Nat×Tk)(kc:Nat)(l:List Int)(σ:Nat):Prop where
  b:CB P c ln M0 m S
  t0:S.T[0]? =some x0
  t1:S.T[P]? =some x1
  t2:S.T[P+1]? =some x2
  e0:x0.2.tr=0
  e1:x1.2.step=0/\x1.2.tr=0
  e2:ScS S x2 P
  st:StB S x0 x2 kc l σ
  yc:S.L[kc]? =some yc/\yc.2.op=6
  lo:SwA S l (B0.length+P)/\(l=[]->d=false)
  ma:MA S.W S.C U (c-m) B0 k0 S.ma
  ka:κ=Gf.mark S.W.S as_/\ ∀a∈as_,∀id j,mkOf S.W.S a=some (id,j)->U id j=true
  ar:SZ o P S.W.S 0
  me:m=σ+3*(B0.length+P)+P+3+2*l.length
def StC(S:B4)(x0:Nat×Tk)(I:List Int)(l:List Int)(w0:Nat):Prop:=(∃s,S.Q[0]? =some (s,l))/\
  ((w0=0/\x0.2.step=0/\x0.2.tr=0/\SwA S l I.length)∨
   (l=[]/\0<=x0.2.sw/\ ∃(ks:Nat) (y:Nat×Ak),x0.2.ask=(ks:Int)/\S.L[ks]? =some y/\((w0=1/\x0.2.step=10/\x0.2.tr=0/\x0.2.sw+I.length<y.2.n)∨(w0=2/\x0.2.step=11/\x0.2.sw+1+I.length<y.2.n))/\y.2.n<=1000000))
structure PC(o:Option Nat)(κ:Aq)(B0:List Bk)(d:Bool)(P c ln:Nat)(M0:Int)(m:Nat)(S:B4)(U M:Aq)(tr I:List Int)(B:List Bk)(x0 x1 x2:Nat×Tk)(l:List Int)(w0 w1:Nat):Prop where
  b:CB P c ln M0 m S
  t0:S.T[0]? =some x0
  t1:S.T[P]? =some x1
  t2:S.T[P+1]? =some x2
  e2:ScS S x2 P
  wo:S.wo= -1
  st:StC S x0 I l w0
  s1:(w1=0/\x1.2.step=0/\x1.2.tr=0)∨(w1=1/\x1.2.step=11)
  vF: ∀id,id∈tr↔(x0.2.step=11/\x0.2.tr=id)∨(x1.2.step=11/\x1.2.tr=id)
  tne:x0.2.step=11->x1.2.step=11->x0.2.tr≠x1.2.tr
  mc:MC κ S.W U M tr I (c-m) B S.ma
  bb:(∀p∈B,p∈B0)/\ ∀p∈B0,κ p.id p.m=true->p∈B
  c0: ∀(i:Nat) c,S.C[i]? =some c-> ∀k np,c.2.held k np=0
  ar:SZ o P S.W.S 0
  dn:d=true->x0.2.step=0->l=[]-> ∀z∈S.W.L,z.Ei=true
  me:m=3*I.length+w0+w1+2*l.length
def oJ(k0:Int)(o:Option Nat)(κ:Aq)(B0:List Bk)(as_:List Int)(yc:Nat×Ak)(d:Bool)(P c ln:Nat)(M0:Int)(m:Nat)(S:B4):Prop:=
  (∃U x0 x1 x2 kc l σ,PB k0 o κ B0 as_ yc d P c ln M0 m S U x0 x1 x2 kc l σ)∨ ∃U M tr I B x0 x1 x2 l w0 w1,PC o κ B0 d P c ln M0 m S U M tr I B x0 x1 x2 l w0 w1
section
variable{E:Env}{rb:Nat}{g:Nu}{Z:List Pr}{k0:Int}{o:Option Nat}{κ:Aq}{B0 B:List Bk}{as_:List Int}{yc:Nat×Ak}{d:Bool}{P c ln m:Nat}{M0:Int}{S S':B4}{U M:Aq}{tr I:List Int}{x0 x1 x2:Nat×Tk}{kc:Nat}{l:List Int}{σ w0 w1:Nat}
theorem nW{S S2:HS}(h:MM S S2)(a:Int):mkOf S2 a=mkOf S a:=by unfold mkOf;rw[h.sp,h.own]
theorem SwA.EB{b a:Nat}(h:SwA S l b)(J:S'.L=S.L)(K:a<=b):SwA S' l a:=by
  rcases h with e|⟨ks,y,h1,v,j,u⟩
  . exact .inl e
  . exact .inr ⟨ks,y,h1,by grind,j,by omega,u.2⟩
theorem PB.sc(h:PB k0 o κ B0 as_ yc d P c ln M0 m S U x0 x1 x2 kc l σ){st:Int}(hT:S'.T=S.T.set (P+1) (x2.1,{x2.2 with step:=st}))(hQ:S'.Q=S.Q)(hL:S'.L=S.L/\S'.ord=S.ord/\S'.C=S.C/\S'.wo=S.wo/\S'.o1=S.o1/\S'.pc=S.pc/\S'.ma=S.ma)
    (hh:(st=8/\σ=3/\S'.ho=((P+1:Nat):Int))∨(st=0/\S'.ho= -1)){S2:HS}(u:MM S.W.S S2)(hI:Ae {S.W with S:=S2} U Gf)(v:S'.W={S.W with S:=S2}):PB k0 o κ B0 as_ yc d P c ln M0 m S' U x0 x1 (x2.1,{x2.2 with step:=st}) kc l σ:=by
  have aH:=(List.getElem?_eq_some_iff.1 h.t2).1;have aI:=h.b.ql;obtain⟨h1,h2,K,O,h5,h6,Y⟩:=hL;refine⟨h.b.Fk h.t2 (.inr (Nat.le_succ P)) hT rfl (.inl hQ) (by rw[h1]) (by rw[K]) h6 (by rw[v];exact hI.hI) h5 (h.b.qk.same (Me h.t2 hT hQ (.inl (by omega))) h1) (Nat.le_refl m) (.inl h2) Y,by rw[hT,List.getElem?_set_ne (by omega)];exact h.t0,by rw[hT,List.getElem?_set_ne (by omega)];exact h.t1,by grind,h.e0,h.e1,⟨h.e2.1,?_⟩,?_,by rw[h1];exact h.yc,⟨h.lo.1.EB h1 (Nat.le_refl _),h.lo.2⟩,by rw[v,K,Y];exact h.ma.OY u hI,?_,?_,h.me⟩
  . grind
  . rcases h.st with ⟨e1,e2,J,s,e4⟩|⟨e1,e2,⟨s,J⟩,e4⟩
    . exact .inl ⟨e1,e2,O.trans J,s,by grind⟩
    . refine .inr ⟨e1,O.trans e2,⟨s,by grind⟩,?_⟩
      grind
  . have e: ∀a,mkOf S'.W.S a=mkOf S.W.S a:=λa=>by rw[v];exact nW u a
    refine⟨?_,λa ha id j hj=>h.ka.2 a ha id j (by grind)⟩;rw[h.ka.1];unfold Aq.mark
    grind
  . rw[v];exact h.ar.Fk u.ca u.ks (λid x' aJ=>⟨x',by rw[<-u.sp];simp_all,rfl⟩) (Nat.le_refl _)
theorem PC.sc(h:PC o κ B0 d P c ln M0 m S U M tr I B x0 x1 x2 l w0 w1){st:Int}(hT:S'.T=S.T.set (P+1) (x2.1,{x2.2 with step:=st}))(u:S'.Q=S.Q)(hL:S'.L=S.L/\S'.ord=S.ord/\S'.C=S.C/\S'.wo=S.wo/\S'.o1=S.o1/\S'.pc=S.pc/\S'.ma=S.ma)
    (hh:(st=8/\S'.ho=((P+1:Nat):Int))∨(st=0/\S'.ho= -1)){S2:HS}(j:MM S.W.S S2)(hI:Ae {S.W with S:=S2} U M)(a:S'.W={S.W with S:=S2}):PC o κ B0 d P c ln M0 m S' U M tr I B x0 x1 (x2.1,{x2.2 with step:=st}) l w0 w1:=by
  have aC:=(List.getElem?_eq_some_iff.1 h.t2).1;have aE:=h.b.ql;obtain⟨h1,K,v,O,Y,h6,J⟩:=hL;refine⟨h.b.Fk h.t2 (.inr (Nat.le_succ P)) hT rfl (.inl u) (by rw[h1]) (by rw[v]) h6 (by rw[a];exact hI.hI) Y (h.b.qk.same (Me h.t2 hT u (.inl (by omega))) h1) (Nat.le_refl m) (.inl K) J,by rw[hT,List.getElem?_set_ne (by omega)];exact h.t0,by rw[hT,List.getElem?_set_ne (by omega)];exact h.t1,by grind,⟨h.e2.1,?_⟩,O.trans h.wo,?_,h.s1,h.vF,h.tne,by rw[a,J];exact h.mc.OY j hI,h.bb,by rw[v];exact h.c0,?_,by rw[a];exact h.dn,h.me⟩
  . grind
  . unfold StC;rw[u,h1];obtain⟨hq,hs⟩:=h.st;refine⟨hq,hs.imp (λ⟨e1,e2,e3,e4⟩=>⟨e1,e2,e3,e4.EB h1 (Nat.le_refl _)⟩) λe=>e⟩
  . rw[a];exact h.ar.Fk j.ca j.ks (λid x' aG=>⟨x',by rw[<-j.sp];simp_all,rfl⟩) (Nat.le_refl _)
theorem SZ.put{S:HS}{ps G:Nat}(h:SZ o ps S G){S':HS}(a:S'.ca=S.ca)(e:S'.ks=S.ks)(j: ∀id x,S'.sp id=some x-> ∃y,S.sp id=some y/\x.2.AD=y.2.AD):SZ o ps S' G:=h.Fk a e j (Nat.le_refl _)
theorem YW.ar{W W':SW}{U M U' M':Aq}{id:Int}{n:Nat}{gone:Bool}{ps:Nat}(ho:YW W U M id false n gone W' U' M')(h:SZ o ps W.S 0):SZ o ps W'.S 0:=by
  obtain⟨x,t,uw,hx,J,Y,T,rfl,rfl,O,v,K⟩:=ho;have h1: ∀j y,(W.S.put id (x.1,Iy x.2 uw λi=>U id i&&t.m i)).sp j=some y-> ∃z,W.S.sp j=some z/\y.2.AD=z.2.AD:=λj y u=>by
    by_cases e:j=id
    . rw[e,HS.F9]at u;cases u;exact⟨x,by grind,rfl⟩
    . rw[HS.He e]at u;grind
  rcases K with ⟨e,_⟩|⟨_,_,_,a,_,e⟩|⟨_,_,_,EC,e⟩
  . cases e
  . subst e;subst v;refine h.put rfl rfl λj y u=> ?_;have u:(if j=(a:Int)+1 then none else(W.S.put id (x.1,Iy x.2 uw λi=>U id i&&t.m i)).sp j)=some y:=u
    grind
  . subst e;subst v;exact h.put rfl rfl h1
theorem YW.swl{W W':SW}{U M U' M':Aq}{id:Int}{n:Nat}{gone:Bool}(ho:YW W U M id false n gone W' U' M'): ∀z∈W'.L,z∈W.L∨z.Ei=true:=by
  obtain⟨x,t,uw,T,u,O,K,rfl,rfl,J,j,v⟩:=ho;rcases v with ⟨e,_⟩|⟨_,_,_,a,_,e⟩|⟨_,_,_,EC,e⟩
  . cases e
  . grind
  . subst e;subst j;intro z hz;rcases DY.1 hz with rfl|hz
    . grind
    grind
end
section
variable{E:Env}{rb:Nat}{g:Nu}{Z:List Pr}{k0:Int}{o:Option Nat}{κ:Aq}{B0 B:List Bk}{as_:List Int}{yc:Nat×Ak}{d:Bool}{P c ln m:Nat}{M0:Int}{S S':B4}{U M:Aq}{tr I:List Int}{x x0 x1 x2:Nat×Tk}{kc:Nat}{l:List Int}{σ w0 w1:Nat}
theorem PB.put(h:PB k0 o κ B0 as_ yc d P c ln M0 m S U x0 x1 x2 kc l σ){σ':Nat}(hs:σ'<σ){t':Tk}(hT:S'.T=S.T.set 0 (x0.1,t'))(O:t'.n=x0.2.n/\t'.tr=x0.2.tr)(hQ:(S'.Q=S.Q)∨ ∃s a l s',S.Q[0]? =some (s,a::l)/\S'.Q=S.Q.set 0 (s',l))(hL:S'.L=S.L/\S'.ord=S.ord/\S'.C=S.C/\S'.o1=S.o1/\S'.pc=S.pc/\S'.ma=S.ma/\S'.ho=S.ho/\S'.W=S.W)
  (hp: ∀j,pls S' j=pls S j)(v:StB S' (x0.1,t') x2 kc l σ'):PB k0 o κ B0 as_ yc d P c ln M0 (m-(σ-σ')) S' U (x0.1,t') x1 x2 kc l σ':=by
 have aF:=(List.getElem?_eq_some_iff.1 h.t0).1;have aH:=h.b.p0;have hm:=h.me;obtain⟨h1,Y,J,h5,h6,K,h8,u⟩:=hL;exact⟨h.b.Fk h.t0 (.inl rfl) hT O.1 (hQ.imp (λe=>e) λe=>⟨rfl,e⟩) (by rw[h1]) (by rw[J]) h6 (by rw[u];exact h.ma.inv.hI) h5 (h.b.qk.same hp h1) (by omega) (.inl Y) K,by grind,by rw[hT,List.getElem?_set_ne (by omega)];exact h.t1,by rw[hT,List.getElem?_set_ne (by omega)];exact h.t2,O.2.trans h.e0,h.e1,by unfold ScS;rw[h8];exact h.e2,v,by rw[h1];exact h.yc,⟨h.lo.1.EB h1 (Nat.le_refl _),h.lo.2⟩,by rw[u,J,K];exact h.ma.mono (by omega),by rw[u];exact h.ka,by rw[u];exact h.ar,by omega⟩
variable(hE:Ku E)(hH:QI E)(hT: ∀w',Sat Z w'->Ec E.AH w')
include hE hH in
theorem PB.go0(h:PB k0 o κ B0 as_ yc d P c ln M0 m S U x0 x1 x2 kc l σ)(hA: ∀w',Sat Z w'->rowAt w' yc.2.set.base yc.2.set.len (ints .u64 as_))(hl:as_.length=yc.2.set.len)(aR:yc.2.set.len<=1000000)(has: ∀a∈as_,0<=a/\a<18446744073709551616)
  (aA:enB S 0 x0=true){S1:B4}{y1:Nat×Tk}(hb:Beg S 0 x0 S1)(Y:S1.T[0]? =some y1):Re E rb g Z S1 x0.1 y1.2.step (SX (oJ k0 o κ B0 as_ yc d P c ln M0) m S 0 x0):=by
 have aE:=(List.getElem?_eq_some_iff.1 h.t0).1;have bA:=h.b.p0;have bB:=h.b.ql;have hm:=h.me;have a9:=h.b.or;have J: ∀{S':B4} {t':Tk} {σ':Nat},S'.T=S.T.set 0 (x0.1,t')->S'.Q.length=S.Q.length->σ'<σ->PB k0 o κ B0 as_ yc d P c ln M0 (m-(σ-σ')) S' U (x0.1,t') x1 x2 kc l σ'->SX (oJ k0 o κ B0 as_ yc d P c ln M0) m S 0 x0 S':=λ{S' t' σ'} e e2 e3 h'=>
  ⟨e2,⟨t',by grind,λc=>by omega⟩,.inl ⟨Nat.zero_le _,_,by omega,.inl ⟨U,_,x1,x2,kc,l,σ',h'⟩⟩⟩
 rcases h.st with ⟨rfl,e0,ew,s,eq⟩|⟨ea,ew,⟨s,eq⟩,aX⟩
 .rcases hb with ⟨e,_⟩|⟨_,⟨s1,s',a,l1,y,aJ,hy,rfl⟩|⟨e,_⟩⟩
  .omega
  .rw[eq]at aJ;obtain⟨rfl,e2⟩:=Prod.mk.inj (Option.some.inj aJ);obtain⟨e3,rfl⟩:=List.cons.inj e2;obtain rfl:kc=a:=by omega
   rw[h.yc.1]at hy;cases hy;have hf:Ic yc.2.op=12:=by rw[h.yc.2];rfl
   rw[hf]at Y⊢;have e4:(S.QY 0 x0 kc s' l 12).T[0]? =some (x0.1,{x0.2 with ask:=(kc:Int),sw:=0,step:=12}):=List.getElem?_set_self aE;rw[e4]at Y;cases Y;refine⟨E.Hz,by simp[Jq],λR Z' w' K H' hK=>hE.stop1 _ _ R w' (bR H' e4 λu v=>hK _ _ u ?_ v)⟩;have aT:x0.2.n=0:=h.b.ok.ti 0 x0 h.t0;have hp: ∀j,pls ({(S.QY 0 x0 kc s' l 12).tk 0 (x0.1,{x0.2 with ask:=(kc:Int),sw:=0,step:=13})with wo:=x0.2.n}:B4) j=pls S j:=λj=>
    (Me (S:=S.QY 0 x0 kc s' l 12) (S':={(S.QY 0 x0 kc s' l 12).tk 0 (x0.1,{x0.2 with ask:=(kc:Int),sw:=0,step:=13})with wo:=x0.2.n}) (t':={x0.2 with ask:=(kc:Int),sw:=0,step:=13}) e4 rfl rfl (.inr ⟨by grind,by grind,rfl⟩) j).trans (Ym e0 h.t0 eq (by decide) j)
   refine J (t':={x0.2 with ask:=(kc:Int),sw:=0,step:=13}) (σ':=2) (by simp[B4.tk,B4.QY]) (List.length_set ..) (by decide) (h.put (by decide) (by simp[B4.tk,B4.QY]) ⟨rfl,rfl⟩ (.inr ⟨s,_,l,s',eq,rfl⟩) ⟨rfl,rfl,rfl,rfl,rfl,rfl,rfl,rfl⟩ hp (.inr ⟨rfl,aT,⟨s',List.getElem?_set_self (by omega)⟩,.inl ⟨rfl,rfl⟩⟩))
  .omega
 .have O:x0.2.step≠0:=by omega
  obtain rfl:S1=S:=by
   rcases hb with ⟨_,e⟩|⟨e,_⟩
   .exact e
   .exact absurd e O
  rw[h.t0]at Y;cases Y;rcases aX with ⟨rfl,e⟩|⟨rfl,e,e2⟩|⟨rfl,e,e2⟩
  .rw[e];refine⟨E.IA,by simp[Jq],λR Z' w' K H' hK=>hE.wt1 _ _ R w' (bS H' h.t0 λu v=>hK _ _ u ?_ v)⟩;have aP:x2.2.step=0:=by
    have a4:=bH H' h.t2 h.t0 (by omega);rw[Rk O,e]at aA;unfold Kt at aA;rw[if_neg (by decide),if_pos rfl,Bool.not_eq_true']at aA;have:=List.any_eq_false.1 aA x2 (List.mem_of_getElem? h.t2);unfold TR at this
    grind
   exact J (t':={x0.2 with step:=14}) (σ':=1) rfl rfl (by decide) (h.put (by decide) rfl ⟨rfl,rfl⟩ (.inl rfl) ⟨rfl,rfl,rfl,rfl,rfl,rfl,rfl,rfl⟩ (Me h.t0 rfl rfl (.inr ⟨by grind,O,rfl⟩)) (.inr ⟨ea,ew,⟨s,eq⟩,.inr (.inl ⟨rfl,rfl,aP⟩)⟩))
  .rw[e];refine⟨E.HO,by simp[Jq],λR Z' w' K H' hK=>hE.uE _ _ R w' (Yk hE H' h.t0 h.ma.inv (λz hz=>(h.ma.tp.Vu z hz).1) λu v=>hK _ _ u ?_ v)⟩;exact J (t':={x0.2 with step:=16}) (σ':=0) rfl rfl (by decide) (h.put (by decide) rfl ⟨rfl,rfl⟩ (.inl rfl) ⟨rfl,rfl,rfl,rfl,rfl,rfl,rfl,rfl⟩ (Me h.t0 rfl rfl (.inr ⟨by grind,O,rfl⟩)) (.inr ⟨ea,ew,⟨s,eq⟩,.inr (.inr ⟨rfl,rfl,e2⟩)⟩))
  .rw[e];have a5:=h.b.cl;have aW:pls S1 0=(kc:Int)::l:=by rw[Hf h.t0 eq,if_neg O,ea]
   have aU:=h.b.qk.nd 0;rw[aW]at aU;refine⟨E.IB,by simp[Jq],λR Z' w' K H' hK=>hE.flip1 _ _ R w' (Yn hE hH H' h.t0 ea h.yc.1 (by omega) h.ma (by omega) (by omega) (λu hz=>hA u (K u hz)) hl aR has λW' C' nn g' u hF v=>hK _ _ u ?_ v)⟩;have aG:=h.ma.flip hF h.ka.2;rw[<-h.ka.1]at aG
   let I':=B0.map Bk.id++S1.C.map λc=>c.2.held k0 true
   have a3:I'.length=B0.length+P:=by grind
   let S2:B4:={B4.done {S1 with W:=W',C:=C',cy:=u64 (S1.cy+1)} 0 x0 kc yc 0 nn 0 with wo:= -1}
   have aS:C'.length=S1.C.length:=hF.len;have aH:=hF.mw.rest;refine⟨rfl,⟨{x0.2 with step:=0},List.getElem?_set_self aE,λc=>by omega⟩,.inl ⟨Nat.zero_le _,3*(B0.length+P)+2*l.length,by omega,.inr ⟨U,κ,[],I',B0,(x0.1,{x0.2 with step:=0}),x1,x2,l,0,0,?_⟩⟩⟩;refine⟨h.b.Fk (S':=S2) h.t0 (.inl rfl) (t':={x0.2 with step:=0}) rfl rfl (.inl rfl) (List.length_set ..) aS rfl hF.inv.hI rfl (h.b.qk.done (S':=S2) h.t0 O (by omega) ea h.yc.1 (t':={x0.2 with step:=0}) rfl rfl rfl rfl) (by omega) (.inr ⟨by show(S1.ord++[_]).length=_;grind,by omega⟩) rfl,List.getElem?_set_self aE,by show(S1.T.set 0 _)[P]? =_;rw[List.getElem?_set_ne (by omega)];exact h.t1,by show(S1.T.set 0 _)[P+1]? =_;rw[List.getElem?_set_ne (by omega)];exact h.t2,h.e2,rfl,⟨⟨s,eq⟩,.inl ⟨rfl,rfl,h.e0,?_⟩⟩,.inl ⟨rfl,h.e1⟩,λid=>⟨λhc=>(by cases hc),λhc=> ?_⟩,λhc=> ?_,aG.mono (by omega),⟨λp hp=>hp,λp hp _=>hp⟩,hF.c0,?_,λhd _ aQ=> ?_,by omega⟩
   .rcases h.lo.1 with e|⟨ks,y,e,hy,aV,hn⟩
    .exact .inl e
    .refine .inr ⟨ks,y,e,?_,aV,by omega,hn.2⟩;show(S1.L.set kc _)[ks]? =some y
     grind
   .have a1:=h.e1.1
    grind
   .cases hc
   .refine h.ar.Fk (S':=W'.S) (by rw[aH]) (by rw[aH]) (λid x' bC=> ?_) (Nat.le_refl _);cases e:S1.W.S.sp id with
    | none=>have:=hF.mw.no id e;grind
    | some y=>
     obtain⟨mw,hy⟩:=hF.mw.sp id y e
     grind
   .rw[h.lo.2 aQ]at hd;cases hd
theorem PC.QY(h:PC o κ B0 d P c ln M0 m S U M tr I B x0 x1 x2 l w0 w1)(h0:x0.2.step=0){s s':AY}{a:Nat}{l':List Int}(K:S.Q[0]? =some (s,(a:Int)::l')):
  (∃y:Nat×Ak,S.L[a]? =some y/\Ic y.2.op=10)/\PC o κ B0 d P c ln M0 (m-1) (S.QY 0 x0 a s' l' 10) U M tr I B (x0.1,{x0.2 with ask:=(a:Int),sw:=0,step:=10}) x1 x2 [] 1 w1/\0<m:=by
 have v:=(List.getElem?_eq_some_iff.1 h.t0).1;have aC:=h.b.p0;have aD:=h.b.ql;obtain⟨⟨s2,j⟩,O⟩:=h.st;rw[K]at j;obtain⟨rfl,rfl⟩:=Prod.mk.inj (Option.some.inj j);rcases O with ⟨rfl,_,u,Y⟩|⟨e,_⟩
 .rcases Y with e|⟨ks,y,e,hy,J,hn⟩
  .cases e
  .obtain⟨e1,rfl⟩:=List.cons.inj e;obtain rfl:a=ks:=by omega
   have hm:=h.me;rw[List.length_singleton]at hm;refine⟨⟨y,hy,by rw[J];rfl⟩,?_,by omega⟩;refine⟨h.b.Fk h.t0 (.inl rfl) (t':={x0.2 with ask:=(a:Int),sw:=0,step:=10}) rfl rfl (.inr ⟨rfl,s,_,[],s',K,rfl⟩) rfl rfl rfl h.mc.inv.hI rfl (h.b.qk.same (Ym h0 h.t0 K (by decide)) rfl) (by omega) (.inl rfl) rfl,List.getElem?_set_self v,by show(S.T.set 0 _)[P]? =_;rw[List.getElem?_set_ne (by omega)];exact h.t1,by show(S.T.set 0 _)[P+1]? =_;rw[List.getElem?_set_ne (by omega)];exact h.t2,h.e2,h.wo,⟨⟨s',List.getElem?_set_self (by omega)⟩,.inr ⟨rfl,Int.le_refl _,a,y,rfl,hy,.inl ⟨rfl,rfl,u,by grind⟩,hn.2⟩⟩,h.s1,λid=> ?_,λe=> ?_,h.mc.mono (by omega),h.bb,h.c0,h.ar,λ_ e=> ?_,by grind⟩
   .rw[h.vF id]
    grind
   .grind
   grind
 simp_all
include hE in
theorem PC.next(h:PC o κ B0 d P c ln M0 m S U M tr I B x0 x1 x2 l w0 w1)(aK:x0.2.step=10):Re E rb g Z S x0.1 10 (λS'=>S'.Q.length=S.Q.length/\(∃t',S'.T[0]? =some (x0.1,t'))/\ ∃m',m'<m/\oJ k0 o κ B0 as_ yc d P c ln M0 m' S'):=by
 have j:=(List.getElem?_eq_some_iff.1 h.t0).1;have aO:=h.b.p0;have aP:=h.b.ql;have hm:=h.me;have aN:=h.b.or;obtain⟨hq,⟨_,e,_⟩|⟨rfl,aD,ks,y,a,hy,⟨rfl,_,aA,hn⟩|⟨_,e,_⟩,O⟩⟩:=h.st
 .omega
 .have aC: ∀id,id∈tr↔x1.2.step=11/\x1.2.tr=id:=λid=>by
   rw[h.vF id];omega
  refine⟨E.Gq,by simp[Jq],λR Z' w' aH H' hK=>hE.uD _ _ R w' ?_⟩;refine bT hE H' h.b.ok (by omega) h.t0 a hy (by omega) h.mc.inv (by omega) (λK g' J u=>hK _ _ J ?_ u) λz hz hI J u=>hK _ _ J ?_ u
  .refine⟨rfl,⟨_,List.getElem?_set_self j⟩,m-1,by omega,.inr ⟨U,M,tr,I,B,(x0.1,{x0.2 with step:=0}),x1,x2,[],0,w1,?_⟩⟩;exact⟨h.b.Fk (S':=S.done 0 x0 ks y 0 x0.2.sw 0) h.t0 (.inl rfl) (t':={x0.2 with step:=0}) rfl rfl (.inl rfl) (List.length_set ..) rfl rfl h.mc.inv.hI rfl (h.b.qk.done h.t0 (by omega) (by omega) a hy (t':={x0.2 with step:=0}) rfl rfl rfl rfl) (by omega) (.inr ⟨by show(S.ord++[_]).length=_;grind,by omega⟩) rfl,List.getElem?_set_self j,by show(S.T.set 0 _)[P]? =_;rw[List.getElem?_set_ne (by omega)];exact h.t1,by show(S.T.set 0 _)[P+1]? =_;rw[List.getElem?_set_ne (by omega)];exact h.t2,h.e2,h.wo,⟨hq,.inl ⟨rfl,rfl,aA,.inl rfl⟩⟩,h.s1,λid=>by grind,λe=>absurd e (by grind),h.mc.mono (by omega),h.bb,h.c0,h.ar,λ_ _ _=>K,by omega⟩
  .obtain⟨v,Y⟩:=h.mc.got hz hI;have aB:=(List.nodup_cons.1 v.tn).1;have aL:=List.length_erase_of_mem Y;have aM:=List.length_pos_of_mem Y;refine⟨rfl,⟨_,List.getElem?_set_self j⟩,m-2,by omega,.inr ⟨U,M,z.id::tr,I.erase z.id,B,(x0.1,{x0.2 with tr:=z.id,step:=11}),x1,x2,[],2,w1,?_⟩⟩;exact⟨h.b.Fk (S':={S.tk 0 (x0.1,{x0.2 with tr:=z.id,step:=11})with W:={S.W with L:=IZ S.W.L z.id}}) h.t0 (.inl rfl) (t':={x0.2 with tr:=z.id,step:=11}) rfl rfl (.inl rfl) rfl rfl rfl v.inv.hI rfl (h.b.qk.same (Me h.t0 rfl rfl (.inr ⟨by grind,by omega,rfl⟩)) rfl) (by omega) (.inl rfl) rfl,List.getElem?_set_self j,by show(S.T.set 0 _)[P]? =_;rw[List.getElem?_set_ne (by omega)];exact h.t1,by show(S.T.set 0 _)[P+1]? =_;rw[List.getElem?_set_ne (by omega)];exact h.t2,h.e2,h.wo,⟨hq,.inr ⟨rfl,aD,ks,y,a,hy,.inr ⟨rfl,rfl,by grind⟩,O⟩⟩,h.s1,λid=>by grind,λ_ e=>λc=>aB ((aC _).2 ⟨e,c.symm⟩),v.mono (by omega),h.bb,h.c0,h.ar,λ_ e=>absurd e (by grind),by omega⟩
 .omega
include hE hT in
theorem PC.one{i:Nat}(h:PC o κ B0 d P c ln M0 m S U M tr I B x0 x1 x2 l w0 w1)(hx:S.T[i]? =some x)(O:x.2.step=11)(hi:(i=0/\x=x0)∨(i=P/\x=x1)):Re E rb g Z S x.1 11 (λS'=>S'.Q.length=S.Q.length/\(∃t',S'.T[i]? =some (x.1,t'))/\ ∃m',m'<m/\oJ k0 o κ B0 as_ yc d P c ln M0 m' S'):=by
 have J:=(List.getElem?_eq_some_iff.1 hx).1;have aR:=h.b.p0;have aT:=h.b.ql;have hm:=h.me;have aQ:=h.b.or;have u:x.2.tr∈tr:=(h.vF _).2 (by grind);obtain⟨aH,aI⟩:=h.mc.mq _ (.inl u);have hlen:=h.mc.len;refine⟨E.Ir,by simp[Jq],λR Z' w' aC H' hK=>hE.one1 _ _ R w' ?_⟩;refine iD hE (λv hz=>hT v (aC v hz)) H' h.b.ok hx h.mc.inv (by omega) (by rw[h.mc.re.1,h.mc.re.2];decide) (h.mc.cI _ u).2 (h.mc.cI _ u).1 (λj hj=>aI j (by rw[<-aH];exact hj)) λn gone W' U' M' ho hI v aG=>hK _ _ v ?_ aG;have K:=(h.mc.one u ho hI (by omega)).mono (m:=c-(m-1)) (by
  rcases hi with ⟨_,rfl⟩|⟨_,rfl⟩
  .obtain⟨_,⟨_,e,_⟩|⟨_,_,_,_,_,_,⟨_,e,_⟩|⟨rfl,_⟩,_⟩⟩:=h.st<;>omega
  .rcases h.s1 with ⟨_,e,_⟩|⟨rfl,_⟩<;>omega)
 have Y:(∀p∈B.filter (kept κ x.2.tr),p∈B0)/\ ∀p∈B0,κ p.id p.m=true->p∈B.filter (kept κ x.2.tr):=⟨λp hp=>h.bb.1 p (List.mem_filter.1 hp).1,λp hp hk=>Lo.2 ⟨h.bb.2 p hp hk,λ_=>hk⟩⟩;have aB: ∀{S':B4},S'.T=S.T.set i (x.1,Vq S i x.2)->S'.Q=S.Q->S'.L=S.L->S'.C=S.C->S'.pc=S.pc->S'.W=W'->S'.o1=S.o1->S'.ord=S.ord->S'.ma=S.ma->CB P c ln M0 (m-1) S':=λ{S'} e1 e2 e3 e4 e5 e6 e7 e8 e9=>by
  refine h.b.Fk hx (by omega) e1 rfl (.inl e2) (by rw[e3]) (by rw[e4]) e5 (by rw[e6];exact K.inv.hI) e7 (h.b.qk.same (Me hx e1 e2 ?_) e3) (by omega) (.inl e8) e9;rcases hi with ⟨rfl,_⟩|⟨rfl,_⟩
  .exact .inr ⟨by show(if 0=S.Q.length then(0:Int)else 10)≠0;omega,by omega,rfl⟩
  omega
 have aD: ∀{j},j∈tr.erase x.2.tr↔j≠x.2.tr/\j∈tr:=λ{j}=>h.mc.tn.mem_erase_iff;refine⟨rfl,⟨_,List.getElem?_set_self J⟩,m-1,?_,.inr ?_⟩
 .rcases hi with ⟨_,rfl⟩|⟨_,rfl⟩
  .obtain⟨_,⟨_,e,_⟩|⟨_,_,_,_,_,_,⟨_,e,_⟩|⟨rfl,_⟩,_⟩⟩:=h.st<;>omega
  .rcases h.s1 with ⟨_,e,_⟩|⟨rfl,_⟩<;>omega
 .rcases hi with ⟨rfl,rfl⟩|⟨rfl,rfl⟩
  .obtain⟨hq,⟨_,e,_⟩|⟨rfl,aU,ks,y,aK,hy,⟨_,e,_⟩|⟨rfl,_,hn⟩,aA⟩⟩:=h.st
   .omega
   .omega
   .have a:Vq S 0 x.2={x.2 with tr:=0,sw:=x.2.sw+1,step:=10}:=by
     unfold Vq;rw[if_neg (by omega),AP]
    refine⟨U',M',tr.erase x.2.tr,I,B.filter (kept κ x.2.tr),(x.1,Vq S 0 x.2),x1,x2,[],1,w1,?_⟩;refine⟨aB rfl rfl rfl rfl rfl rfl rfl rfl rfl,List.getElem?_set_self J,by show(S.T.set 0 _)[P]? =_;rw[List.getElem?_set_ne (by omega)];exact h.t1,by show(S.T.set 0 _)[P+1]? =_;rw[List.getElem?_set_ne (by omega)];exact h.t2,h.e2,h.wo,⟨hq,.inr ⟨rfl,?_,ks,y,?_,hy,.inl ⟨rfl,?_,?_,?_⟩,aA⟩⟩,h.s1,λid=> ?_,λe=> ?_,K,Y,h.c0,ho.ar h.ar,λ_ e=> ?_,by omega⟩<;>rw[a]at *
    .grind
    .simp_all
    .omega
    .rw[aD,h.vF id];show _↔((10:Int)=11/\_)∨_;constructor
     .omega
     .rintro(⟨e1,_⟩|e2)
      .omega
      .exact⟨λc=>h.tne O e2.1 (c.symm.trans e2.2.symm),.inr e2⟩
    .grind
    grind
  .rcases h.s1 with ⟨_,e,_⟩|⟨rfl,_⟩
   .omega
   .have a:(Vq S i x.2).step=0/\(Vq S i x.2).tr=0:=by
     unfold Vq
     grind
    refine⟨U',M',tr.erase x.2.tr,I,B.filter (kept κ x.2.tr),x0,(x.1,Vq S i x.2),x2,l,w0,0,?_⟩;refine⟨aB rfl rfl rfl rfl rfl rfl rfl rfl rfl,by show(S.T.set i _)[0]? =_;rw[List.getElem?_set_ne (by omega)];exact h.t0,List.getElem?_set_self J,by show(S.T.set i _)[i+1]? =_;rw[List.getElem?_set_ne (by omega)];exact h.t2,h.e2,h.wo,h.st,.inl ⟨rfl,a⟩,λid=> ?_,λ_ e=> ?_,K,Y,h.c0,ho.ar h.ar,λe1 e2 e3 z hz=> ?_,by omega⟩
    .rw[aD,h.vF id];show _↔_∨((Vq S i x.2).step=11/\_);rw[a.1];constructor
     .omega
     .rintro(e2|⟨e1,_⟩)
      .exact⟨λc=>h.tne e2.1 O (e2.2.trans c),.inl e2⟩
      .omega
    .grind
    .rcases ho.swl z hz with g|g
     .exact h.dn e1 e2 e3 z g
     simp_all
end
end Go.Sh

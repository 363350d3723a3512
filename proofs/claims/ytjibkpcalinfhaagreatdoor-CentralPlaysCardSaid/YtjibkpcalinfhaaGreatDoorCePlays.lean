/- The law CentralPlays holds (its card: math/bits' table as the program's text lays it): for every input the Go function returns true and leaves its arguments alone. No further condition. -/
import Derived.Test.YtjibkpcalinfhaaGreatDoorG
import Derived.Test.YtjibkpcalinfhaaGreatDoorJ
import Derived.Test.YtjibkpcalinfhaaGreatDoorB
import Derived.Test.YtjibkpcalinfhaaGreatDoorK
import Derived.Test.YtjibkpcalinfhaaGreatDoorQ
import Derived.Test.YtjibkpcalinfhaaGreatDoorW
import Derived.Test.YtjibkpcalinfhaaGreatDoorA
import Derived.Test.YtjibkpcalinfhaaGreatDoorCards
import Derived.Test.YtjibkpcalinfhaaGreatDoorTie
import Derived.WalkKit
import Derived.ProofKit
import Derived.OpenShut
import Derived.Deep.DeepHandedRow
import Derived.Lib.LaidTab
set_option linter.all false
set_option maxRecDepth 50000
set_option maxHeartbeats 4000000
namespace Go.Sh
def sJ(S:HS):Prop:= ∀id x,S.sp id=some x->x.2.f8=false/\x.2.f9=false
def sJ.put{S:HS}(h:sJ S){id:Int}{x:Nat×SI}{I:SI}(v:S.sp id=some x)(C:I.f8=x.2.f8)(J:I.f9=x.2.f9):sJ (S.put id (x.1,I)):=λj y d=>by
 have d:(if j=id then some (x.1,I)else S.sp j)=some y:=d;by_cases c:j=id
 .rw[if_pos c]at d;cases d;have:=h id x v
  grind
 .rw[if_neg c]at d;exact h j y d
def QN{S d:HS}{p n:Int}(h:IY S p n d):d.fx=S.fx:=by
 rcases h with ⟨_,rfl⟩|⟨i,_,_,_,⟨_,q,_,rfl⟩|⟨_,rfl⟩,_⟩<;>rfl
def wG{S S2:HS}{p n page:Int}(h:dN S p n page S2):S2.fx=S.fx:=by
 rcases h with ⟨j,i,k,v,_,_,⟨_,q,_,rfl⟩|⟨_,rfl⟩,_,_,_,_,rfl⟩|⟨j,d,_,rfl⟩
 .rfl
 .rfl
 .exact(show j.fx=S.fx from QN d)
def rE{S S2:HS}{p n:Int}(h:Oo S p n S2):S2.fx=S.fx:=by
 rcases h with ⟨j,d,_,⟨r,_,rfl⟩|⟨_,_,rfl⟩⟩|⟨S1,page,r,v,_,_,rfl⟩
 .exact(show j.fx=S.fx from QN d)
 .exact(show j.fx=S.fx from QN d)
 .rcases v with v|⟨j,y,d,_,⟨_,at_,_,rfl⟩,_,rfl⟩
  .exact(show S1.fx=S.fx from wG v)
  .exact(show j.fx=S.fx from QN d)
structure ZM(W W':SW):Prop where
 n:W'.S.fx.n=W.S.fx.n
 f:sJ W.S->sJ W'.S
 out: ∀j,W.S.sp j≠none->(∀x∈W.L,x.id≠j)->W'.S.sp j≠none/\ ∀x∈W'.L,x.id≠j
def ZM.refl(W:SW):ZM W W:=⟨rfl,λc=>c,λj h1 h2=>⟨h1,h2⟩⟩
def ZM.trans{A B C:SW}(h:ZM A B)(g:ZM B C):ZM A C:=⟨g.n.trans h.n,λc=>g.f (h.f c),λj h1 h2=>let⟨a,b⟩:=h.out j h1 h2;g.out j a b⟩
def ZM.rem(W:SW)(id:Int):ZM W {W with L:=Fk W.L id}:=⟨rfl,λc=>c,λj h1 h2=>⟨h1,λx d=>h2 x (FB.1 d).1⟩⟩
def R0.Nm{W W':SW}{U M U' M':BI}{id:Int}{C5 gone:Bool}{n:Nat}(h:R0 {W with L:=Fk W.L id} U M id C5 n gone W' U' M')(aD: ∃x∈W.L,x.id=id):ZM W W':=by
 obtain⟨x,t,uw,hx,-,-,-,-,-,v,T,hc⟩:=h;have hx:W.S.sp id=some x:=hx;have O:v.L=Fk W.L id:=by rw[T]
 have C:v.S=W.S.put id (x.1,JD x.2 uw λi=>U id i&&t.m i):=by rw[T]
 have J:sJ W.S->sJ v.S:=λc=>by rw[C];exact c.put hx rfl rfl
 have K:v.S.fx.n=W.S.fx.n:=by rw[C];rfl
 have aE: ∀j,j≠id->v.S.sp j=W.S.sp j:=λj hj=>by rw[C];exact if_neg hj
 have Y: ∀j,(∀x∈W.L,x.id≠j)->j≠id:=λj hj e=>by grind
 rcases hc with ⟨_,_,_,e⟩|⟨_,_,_,a,ha,e⟩|⟨_,_,_,GR,e⟩
 .rw[e];exact⟨K,J,λj h1 h2=>⟨by grind,λy d=>h2 y (FB.1 (by rw[O]at d;exact d)).1⟩⟩
 .rw[e];refine⟨K,λc j y d=> ?_,λj h1 h2=>⟨?_,λy d=>h2 y (FB.1 (by rw[<-O];exact d)).1⟩⟩
  .have d:(if j=(a:Int)+1 then none else v.S.sp j)=some y:=d;split at d
   .cases d
   .exact J c j y d
  .show(if j=(a:Int)+1 then none else v.S.sp j)≠none
   grind
 .rw[e];refine⟨K,J,λj h1 h2=>⟨by grind,λy d=> ?_⟩⟩;rcases KI.1 d with rfl|d
  .exact λe=>Y j h2 e.symm
  .exact h2 y (FB.1 d).1
def FD.Nm{k:Int}{np full:Bool}{W W':SW}{U M U' M':BI}{id e:Int}{ok:Bool}(h:FD k np full W U M id ok e W' U' M'):ZM W W'/\(ok=true->e=0/\W'.S.sp id≠Option.none/\(∀x∈W'.L,x.id≠id)/\ ∃x∈W.L,x.id=id):=by
 have hd: ∀{L:List DF} {kd x r},Dm L kd=x::r->x∈L:=λh=>(EL.1 (by rw[h];exact List.mem_cons_self)).1
 induction h with
 | none=>exact⟨ZM.refl _,λc=>by cases c⟩
 | Qz=>exact⟨ZM.rem _ _,λc=>by cases c⟩
 | @Kx W U M x r n W' U' M' y h0 hO A6 d hlt=>
  refine⟨hO.Nm ⟨x,hd h0,rfl⟩,λ_=>⟨rfl,by grind,?_,x,hd h0,rfl⟩⟩;obtain⟨Y,t,uw,T,-,-,-,-,-,v,j,hc⟩:=hO;have O:v.S.sp x.id=some (Y.1,JD Y.2 uw λi=>U x.id i&&t.m i):=by rw[j];exact HS.IJ
  rcases hc with ⟨_,_,_,e⟩|⟨_,_,c,_⟩|⟨h1,_,_,GR,e⟩
  .rw[e,j];exact λz hz=>(FB.1 hz).2
  .cases c
  .rw[e]at d;have d:v.S.sp x.id=some y:=d;rw[O]at d;cases d;exact absurd ⟨rfl,hlt⟩ h1
 | @go W U M x r n v U1 M1 y id ok e W' U' M' h0 hO A6 d hlt hc ih=>
  have e1:=hO.Nm ⟨x,hd h0,rfl⟩;refine⟨e1.trans ih.1,λc=> ?_⟩;obtain⟨a1,a2,a3,z,hz,a4⟩:=ih.2 c;refine⟨a1,a2,a3,?_⟩;obtain⟨Y,t,uw,T,-,-,-,-,-,W2,J,K⟩:=hO;have C:W2.L=Fk W.L x.id:=by rw[J]
  rcases K with ⟨_,_,_,e⟩|⟨_,_,c,_⟩|⟨_,_,_,GR,e⟩
  .rw[e,C]at hz;exact⟨z,(FB.1 hz).1,a4⟩
  .cases c
  .rw[e]at hz;rcases KI.1 hz with rfl|hz
   .grind
   .exact⟨z,(FB.1 hz).1,a4⟩
structure LY(W:SW)(U M:BI)(l:List Int)(B:Nat):Prop where
 n:W.S.fx.n<=B
 ok:Iy W U M
 f:sJ W.S
 nd:l.Nodup
 hd: ∀id∈l,W.S.sp id≠none/\ ∀x∈W.L,x.id≠id
def LY.mono{W:SW}{U M:BI}{l:List Int}{B C:Nat}(h:LY W U M l B)(d:B<=C):LY W U M l C:={h with n:=Nat.le_trans h.n d}
def LY.Nm{W W':SW}{U M U' M':BI}{l:List Int}{B:Nat}(h:LY W U M l B)(hE:ZM W W')(A6:Iy W' U' M'):LY W' U' M' l B:=⟨hE.n▸h.n,A6,hE.f h.f,h.nd,λid Mf=>hE.out id (h.hd id Mf).1 (h.hd id Mf).2⟩
def LY.add{W:SW}{U M:BI}{l:List Int}{B:Nat}{id:Int}(h:LY W U M l B)(h1:id∉l)(h2:W.S.sp id≠none)(v: ∀x∈W.L,x.id≠id):LY W U M (l++[id]) B:=by
 refine⟨h.n,h.ok,h.f,?_,λj d=> ?_⟩
 .rw[List.nodup_append];refine⟨h.nd,by simp,λa y b C e=> ?_⟩
  grind
 .rcases List.mem_append.1 d with d|d
  .exact h.hd j d
  grind
def Ug.Nm{p k id e:Int}{np:Bool}{W W':SW}{U M U' M':BI}{l:List Int}{B:Nat}(h:Ug p k np W U M id e W' U' M')(hC:LY W U M l B)(A6:Iy W' U' M'):if e=0 then LY W' U' M' (l++[id]) (B+1)else LY W' U' M' l (B+1):=by
 have aA: ∀{L:List DF} {kd x r},Dm L kd=x::r->x∈L:=λh=>(EL.1 (by rw[h];exact List.mem_cons_self)).1;have nl: ∀{x:DF},x∈W.L->x.id∉l:=λ{x} v c=>(hC.hd _ c).2 x v rfl;cases h with
 | bad _=>exact hC.mono (Nat.le_succ B)
 | @D0 x r _ _ h0=>
  have v:=aA h0;obtain⟨y,C,_⟩:=hC.ok.inv.it x v;exact((hC.Nm (ZM.rem _ x.id) A6).mono (Nat.le_succ B)).add (nl v) (by grind) λz hz=>(FB.1 hz).2
 | @part id ok e _ _ _ _ _ h0 hc ho=>
  obtain⟨h1,h2⟩:=hc.Nm;cases hk:ok with
  | true=>
   obtain⟨T,a1,a2,x,v,O⟩:=h2 hk;rw[if_pos T];exact((hC.Nm h1 A6).mono (Nat.le_succ B)).add (O▸nl v) a1 a2
  | false=>
   rw[if_neg (ho.resolve_left (by grind))];exact(hC.Nm h1 A6).mono (Nat.le_succ B)
 | @full W1 U1 M1 id ok e _ _ _ _ _ h0 hc hok1 hc2 ho=>
  obtain⟨g1,_⟩:=hc.Nm;obtain⟨h1,h2⟩:=hc2.Nm;have J:=hC.Nm g1 hok1;cases hk:ok with
  | true=>
   obtain⟨T,a1,a2,x,v,O⟩:=h2 hk;rw[if_pos T];exact((J.Nm h1 A6).mono (Nat.le_succ B)).add (λc=>(J.hd _ c).2 x v O) a1 a2
  | false=>
   rw[if_neg (ho.resolve_left (by grind))];exact(J.Nm h1 A6).mono (Nat.le_succ B)
 | @lost W1 U1 M1 W2 U2 M2 S2 _ _ h0 hc hok1 hc2 hok2 hL=>
  have d:=(hC.Nm hc.Nm.1 hok1).Nm hc2.Nm.1 hok2;have es:S2.sp=W2.S.sp:=Yy hL;exact(d.Nm (show ZM W2 {W2 with S:=S2}from⟨congrArg FX.n (rE hL),λc j y C=>c j y (by grind),λj h1 h2=>⟨by grind,h2⟩⟩) A6).mono (Nat.le_succ B)
 | @new W1 U1 M1 W2 U2 M2 page S2 bl id X k0 k1 h0 hc hok1 hc2 hok2 hF hX hnone=>
  have d:=(hC.Nm hc.Nm.1 hok1).Nm hc2.Nm.1 hok2;have es:S2.sp=W2.S.sp:=hF.same.sp;have K: ∀j,(S2.C5 id (bl,Gw page (Aj k).2.1 k np) page (Aj k).2.1 X).sp j=if j=id then some (bl,Gw page (Aj k).2.1 k np)else S2.sp j:=λ_=>rfl
  have hn:X.n<=B+1:=by
   have h1:=d.n;have h2:S2.fx=W2.S.fx:=hF.same.fx;rcases hX with ⟨_,_,e⟩|⟨_,_,_,_,e⟩<;>rw[e,h2]<;>dsimp only<;>omega
  have Y:LY {W2 with S:=S2.C5 id (bl,Gw page (Aj k).2.1 k np) page (Aj k).2.1 X} (U2.set id F8) (M2.set id F8) l (B+1):=by
   refine⟨hn,A6,λj y C=> ?_,d.nd,λj hj=>⟨?_,(d.hd j hj).2⟩⟩
   .have C:(S2.C5 id (bl,Gw page (Aj k).2.1 k np) page (Aj k).2.1 X).sp j=some y:=C;rw[K]at C;split at C
    .cases C;exact⟨rfl,rfl⟩
    .exact d.f j y (by grind)
   .show(S2.C5 id (bl,Gw page (Aj k).2.1 k np) page (Aj k).2.1 X).sp j≠none;rw[K];split
    .grind
    .rw[es];exact(d.hd j hj).1
  refine Y.add (λc=>(d.hd _ c).1 hnone) ?_ λx v e=> ?_
  .grind
  .obtain⟨y,C,_⟩:=hok2.inv.it x v
   grind
def Wx(E:Env)(bb cb cq:Nat)(l:List Int):Pr:=Ex λs:AX=>Lo [Cells bb E.D5 [.pointer (some ⟨cb,0,none⟩),.pointer (some ⟨cq,0,none⟩),FJ s],Row E.CO 1 s (ints .i64 l)]
section
variable{E:Env}{bb cb cq b h s r b2 h2 s2 r2:Nat}{W W':SW}{U M U' M':BI}{l:List Int}{Z:List Pr}{w:World}
def Sat.bo:Sat (Wx E bb cb cq l::Z) w↔ ∃s,Sat (Cells bb E.D5 [.pointer (some ⟨cb,0,none⟩),.pointer (some ⟨cq,0,none⟩),FJ s]::Row E.CO 1 s (ints .i64 l)::Z) w:=by
 unfold Wx;rw[Sat.ex];exact⟨λ⟨s,h⟩=>⟨s,Sat.star.1 h⟩,λ⟨s,h⟩=>⟨s,Sat.star.2 h⟩⟩
def IF(H:Sat (Wx E bb cb cq l::Z) w):w.cell? (Addr.mk bb 0 none)=some (.pointer (some ⟨cb,0,none⟩))/\w.cell? ((Addr.mk bb 0 none).add 1)=some (.pointer (some ⟨cq,0,none⟩)):=by
 obtain⟨s,H1⟩:=Sat.bo.1 H;exact⟨H1.Af rfl,H1.cell rfl⟩
def wH{s:AX}{Y:List Pr}(H:Sat (Cells bb E.D5 [.pointer (some ⟨cb,0,none⟩),.pointer (some ⟨cq,0,none⟩),FJ s]::Y) w):w.cell? ((Addr.mk bb 0 none).add 2)=some (.slice s.base s.len s.cap):=H.cell (o:=0) (m:=2) rfl
def AA4{s s':AX}{Y:List Pr}(H:Sat (Cells bb E.D5 [.pointer (some ⟨cb,0,none⟩),.pointer (some ⟨cq,0,none⟩),FJ s]::Y) w){K:World->Prop}
  (d: ∀w',Sat (Cells bb E.D5 [.pointer (some ⟨cb,0,none⟩),.pointer (some ⟨cq,0,none⟩),FJ s']::Y) w'->K w'):stCells ((Addr.mk bb 0 none).add 2) 0 [.slice s'.base s'.len s'.cap] w K:=
 Ab H (o:=0) (m:=2) rfl (by simp) d
def eG: ∀v∈ints .i64 l,v.oneCell'=true:=λv d=>by
 obtain⟨x,_,rfl⟩:=List.mem_map.1 d;rfl
def Nj(H:Sat (Wx E bb cb cq l::Z) w)(hf:l.length<=1000){i:Int}{take:Bool}{K:Int->World->Prop}(aK:l=[]->K 0 w)
  (aD: ∀(j:Nat) id,l[j]? =some id-> ∀w',Sat (Wx E bb cb cq (if take=true then l.eraseIdx j else l)::Z) w'->K id w'):F.F1 E (some ⟨bb,0,none⟩) i take K w:=by
 unfold F.F1;obtain⟨s,H1⟩:=Sat.bo.1 H;have hl:l.length=s.len:=by
  have:=(H1.front 1 rfl).C1;unfold ints at this
  grind
 have aP:s.len<=s.cap:=(H1.front 1 rfl).own.cap;refine AH ⟨s,wH H1,Bc (λe=>aK (List.length_eq_zero_iff.1 (by omega))) λaS=>AH ⟨s,wH H1,by omega,?_⟩⟩;unfold HX;have hb:(Int.tmod i (s.len:Nat)).natAbs<s.len:=by
  rw[Int.natAbs_tmod,Int.natAbs_natCast];exact Nat.mod_lt _ (by omega)
 generalize Int.tmod i (s.len:Nat)=k at hb⊢;have go: ∀j:Nat,j<s.len-> ∀{P:Addr->Prop},(∀(bk:Nat) id,s.base=some ⟨bk,0,none⟩->l[j]? =some id->w.cell? ((Addr.mk bk 0 none).add (j*1))=some (.int .i64 id)->P ⟨bk,0,none⟩)->NC s.base P:=λj hj P hP=>by
  obtain⟨bk,O⟩:=(H1.front 1 rfl).own.Ep (by omega);obtain⟨id,Mf⟩: ∃id,l[j]? =some id:=⟨_,List.getElem?_eq_getElem (by omega)⟩;rw[O];exact AH (hP bk id O Mf (by rw[Nat.mul_one];exact(H1.front 1 rfl).own.cell O (JL Mf)))
 have main: ∀j:Nat,j<s.len->NC (some ⟨bb,0,none⟩) λp9=>
   ∃y:AX,w.cell? (p9.add 2)=some (.slice y.base y.len y.cap)/\
   NC y.base λaL=>
   ((0:Int)<=(j:Int)/\((j:Int):Int)<(y.len:Nat))/\
   ∃aB:Int,w.cell? (aL.add (Int.toNat (j:Int)*1))=some (.int .i64 aB)/\
   CND (take) (
    AL (.cells ⟨[]⟩ E.CO) w λaC T=>
    NC (some ⟨bb,0,none⟩) λaM=>
    ∃v:AX,T.cell? (aM.add 2)=some (.slice v.base v.len v.cap)/\
    ((0:Int)<=(j:Int)/\((j:Int):Int)<=(v.cap:Nat))/\
    APP E.CO 1 8 #[.int .i64 0] ⟨(some (Addr.mk aC 0 none)),0,0⟩ ⟨(GN v.base v.cap 0 1),(Int.toNat (j:Int)),v.cap⟩ T λcM Y=>
    NC (some ⟨bb,0,none⟩) λaN=>
    ∃d:AX,Y.cell? (aN.add 2)=some (.slice d.base d.len d.cap)/\
    ((0:Int)<=(i64 ((j:Int)+1))/\((i64 ((j:Int)+1)):Int)<=(d.len:Nat))/\
    APP E.CO 1 8 #[.int .i64 0] cM ⟨(GN d.base d.cap (Int.toNat (i64 ((j:Int)+1))) 1),(d.len-(Int.toNat (i64 ((j:Int)+1)))),(d.cap-(Int.toNat (i64 ((j:Int)+1))))⟩ Y λZh aF=>
    NC (some ⟨bb,0,none⟩) λaO=>
    stCells (aO.add 2) 0 [.slice Zh.base Zh.len Zh.cap] aF λaA=>
    K aB aA
   ) (
    K aB w
   ):=λj hj=>by
  refine AH ⟨s,wH H1,go j hj λbk id O Mf hc=>⟨⟨by omega,by omega⟩,id,by grind,?_⟩⟩;cases take with
  | false=>exact AP rfl (aD j id Mf w H)
  | true=>
   refine AR rfl (Gs (n:=0) (z:=1) H1 rfl (by decide) λaC T C=>AH ⟨s,wH (C.front 1 rfl),⟨by omega,by omega⟩,?_⟩);rw[Int.toNat_natCast,AF (n:=(j:Int)+1)];have one: ∀x:Int,[Value.int .i64 x].length=1:=λ_=>rfl;have er: ∀L:List Int,ints .i64 L=Ao (λx=>[Value.int .i64 x]) L:=λL=>by
    unfold ints Ao
    induction L with
    | nil=>rfl
    | cons a t ih=>grind
   rw[er]at C;refine FU (x:=⟨GN s.base s.cap 0 1,j,s.cap⟩) (news:=ints .i64 (l.take j)) C rfl (by rw[er];exact(C.front 2 rfl).Nx (by decide) one (show j<=l.length by omega)) (by unfold ints;grind) eG (by grind) (by grind) λcM Y J aE=> ?_;rw[List.nil_append]at J;dsimp only at aE;refine AH ⟨s,wH (J.front 1 rfl),⟨by omega,by omega⟩,?_⟩;rw[show Int.toNat ((j:Int)+1)=j+1 by omega];refine FU (x:=⟨GN s.base s.cap (j+1) 1,s.len-(j+1),s.cap-(j+1)⟩) (news:=ints .i64 (l.drop (j+1))) J rfl (by rw[er];exact(J.front 2 rfl).Ny (by decide) one (show j+1<=l.length by omega)) (by unfold ints;grind) eG (by grind) (by grind) λZh aF aG _=>AH ?_;refine AA4 (s':=Zh) (aG.front 1 rfl) λaA aH=>aD j id Mf aA (Sat.bo.2 ⟨Zh,?_⟩);have e:ints .i64 (l.take j)++ints .i64 (l.drop (j+1))=ints .i64 (l.eraseIdx j):=by
    unfold ints
    grind
   rw[if_pos rfl,<-e];exact(aH.front 2 rfl).tail
 refine AU (AB (λg j=> ?_) λg j=> ?_)
 .rw[AF (n:=0-k)];have:=main k.natAbs hb;rwa[show((k.natAbs:Nat):Int)=0-k by omega]at this
 .have:=main k.natAbs hb;rwa[show((k.natAbs:Nat):Int)=k by omega]at this
end
section
variable{E:Env}{bb cb cq b h s r b2 h2 s2 r2:Nat}{W W':SW}{U M U' M':BI}{l:List Int}{B:Nat}{Z:List Pr}{w:World}
abbrev QO(E:Env)(bb cb cq b h s r b2 h2 s2 r2:Nat)(W:SW)(U M:BI)(l:List Int)(Z:List Pr):List Pr:=Wx E bb cb cq l::Bt E cb b h s r W::Dv E cq b2 h2 s2 r2 W U M::Z
def rwSw(H:Sat (Dv E cq b2 h2 s2 r2 W U M::Z) w){S':HS}(d:S'.V=W.S.V)(j:S'.T=W.S.T)(v:S'.ca=W.S.ca)(C:S'.fx=W.S.fx)(J:S'.hint=W.S.hint)(K: ∀id,(S'.sp id).map (λy=>y.2.rs)=(W.S.sp id).map λy=>y.2.rs):Sat (Dv E cq b2 h2 s2 r2 {W with S:=S'} U M::Z) w:=
 Sat.FL.2 ((Sat.FL.1 H).wD d j v C J K)
variable(hE:SA E)
include hE
theorem bP(hT: ∀w',Sat Z w'->FQ E.AJ w')(H:Sat (QO E bb cb cq b h s r b2 h2 s2 r2 W U M l Z) w)(hC:LY W U M l B)(hf:l.length<=500){p k:Int}{np:Bool}{b1:Nat}
  (aC: ∀w',Sat Z w'->w'.cell? ((Addr.mk b1 0 none).add 1)=some (.int .i64 p)/\w'.cell? ((Addr.mk b1 0 none).add 2)=some (.int .i64 k)/\w'.cell? ((Addr.mk b1 0 none).add 5)=some (.bool np)){K:Bool->World->Prop}
  (hK: ∀W' U' M' l' w',LY W' U' M' l' (B+1)->l'.length<=l.length+1->Sat (QO E bb cb cq b h s r b2 h2 s2 r2 W' U' M' l' Z) w'->K true w'):
  NC (some ⟨bb,0,none⟩) λp4=>
  ∃x5:(Option Addr),w.cell? p4=some (.pointer x5)/\
  ∃x6:Int,w.cell? ((Addr.mk b1 0 none).add 1)=some (.int .i64 x6)/\
  ∃x7:Int,w.cell? ((Addr.mk b1 0 none).add 2)=some (.int .i64 x7)/\
  ∃x8:Bool,w.cell? ((Addr.mk b1 0 none).add 5)=some (.bool x8)/\
  F.BJ E x5 x6 x7 x8 (λr9 aD d=>
  NC (some ⟨bb,0,none⟩) λaQ=>
  ∃aG:(Option Addr),d.drew.cell? (aQ.add 1)=some (.pointer aG)/\
  ∃aH:Int,d.drew.cell? ((Addr.mk b1 0 none).add 1)=some (.int .i64 aH)/\
  ∃aI:Int,d.drew.cell? ((Addr.mk b1 0 none).add 2)=some (.int .i64 aI)/\
  ∃aJ:Bool,d.drew.cell? ((Addr.mk b1 0 none).add 5)=some (.bool aJ)/\
  F.Bi E aG aH aI aJ (λaT aU v=>
  Ai (Bool×Unit) (λaA=>
   CND ((r9:Int) !=aT) (
    aA (true,()) v
   ) (
    aA ((aD:Int) !=aU,()) v
   )
  ) λZh _ C=>
   CND (Zh.1) (
    K false C
   ) (
    CND ((aD:Int)==0) (
     NC (some ⟨bb,0,none⟩) λaR=>
     ∃J:AX,C.cell? (aR.add 2)=some (.slice J.base J.len J.cap)/\
     AL (.cells ⟨[.int .i64 r9]⟩ E.CO) C λaB aE=>
     APP E.CO 1 8 #[.int .i64 0] J ⟨(some (Addr.mk aB 0 none)),1,1⟩ aE λPW aF=>
     NC (some ⟨bb,0,none⟩) λaS=>
     stCells (aS.add 2) 0 [.slice PW.base PW.len PW.cap] aF λT=>
     K true T
    ) (
     K true C
    )
   )
  ) d.drew
  ) w:=by
 have c:=aC w H.tail.tail.tail;refine AH ⟨some ⟨cb,0,none⟩,(IF H).1,p,c.1,k,c.2.1,np,c.2.2,ZA hE (λw' h'=>hT w' h'.tail.tail) (H.front 1 rfl) hC.ok λid e W' U' M' hG A6 d aK=>AH ?_⟩;have Hd:=aK.drew;have c:=aC _ Hd.tail.tail.tail;refine⟨some ⟨cq,0,none⟩,(IF (Hd.front 1 rfl)).2,p,c.1,k,c.2.1,np,c.2.2,bO (Hd.front 2 rfl) hC.ok hG λv aL=> ?_⟩;have y:=hG.Nm hC A6;have Y:Sat (QO E bb cb cq b h s r b2 h2 s2 r2 W' U' M' l Z) v:=((aL.front 2 rfl).EM 1 rfl);refine AU (AP (by simp) λj=>AP (by simp) (Bc (λe0=>AH ?_) λe0=> ?_))
 .rw[if_pos e0]at y;obtain⟨sl,O⟩:=Sat.bo.1 Y;have hl:l.length=sl.len:=by
   have:=(O.front 1 rfl).C1;unfold ints at this
   grind
  refine⟨sl,wH O,AO (vs:=[.int .i64 id]) O λaB aE aM _=> ?_⟩;refine Er (news:=[.int .i64 id]) (aM.EM 1 rfl) rfl rfl (by simp[Value.oneCell']) (by omega) (by omega) λPW aF aN _=>AH (AA4 (s':=PW) (aN.front 1 rfl) λT a2=>hK W' U' M' (l++[id]) T y (by simp) (Sat.bo.2 ⟨PW,?_⟩));have e:ints .i64 l++[.int .i64 id]=ints .i64 (l++[id]):=by unfold ints;grind
  grind
 .rw[if_neg e0]at y;exact hK W' U' M' l v y (by omega) Y
theorem LY.back(hC:LY W U M l B){j:Nat}{id:Int}(J:l[j]? =some id){x:DF}(K:x.id=id)(A6:Iy {W with L:=IC W.L x} U M):LY {W with L:=IC W.L x} U M (l.eraseIdx j) B:=by
 have hp:=C0 J;have d:=hp.nodup_iff.1 hC.nd;rw[List.nodup_cons]at d;refine⟨hC.n,A6,hC.f,d.2,λi v=>⟨(hC.hd i (hp.mem_iff.2 (List.mem_cons_of_mem _ v))).1,λy C=> ?_⟩⟩;rcases KI.1 C with rfl|C
 .rw[K];exact λe=>d.1 (e▸v)
 .exact(hC.hd i (hp.mem_iff.2 (List.mem_cons_of_mem _ v))).2 y C
theorem Rj{j:Nat}{id:Int}(H:Sat (QO E bb cb cq b h s r b2 h2 s2 r2 W U M (l.eraseIdx j) Z) w)(hC:LY W U M l B)(hj:l[j]? =some id){K:Int->Int->World->Prop}
  (hK: ∀W' n w',LY W' U M (l.eraseIdx j) B->Sat (QO E bb cb cq b h s r b2 h2 s2 r2 W' U M (l.eraseIdx j) Z) w'->K n n w'):
  NC (some ⟨bb,0,none⟩) λaF=>
    ∃aB:(Option Addr),w.cell? aF=some (.pointer aB)/\
    NC (some ⟨bb,0,none⟩) λaA=>
    ∃J:(Option Addr),w.cell? (aA.add 1)=some (.pointer J)/\
    F.By E aB id (λaG v=>
    v.cell? (aA.add 1)=some (.pointer J)/\
    F.BZ E J id (λaH C=>
    K aG aH C
    ) v
    ) w:=by
 obtain⟨O,T⟩:=hC.hd id (List.mem_of_getElem? hj);refine AH ⟨some ⟨cb,0,none⟩,(IF H).1,AH ⟨some ⟨cq,0,none⟩,(IF H).2,Ri hE (H.front 1 rfl) hC.ok.inv hC.ok.KV (λhn=>absurd hn O) (λ_ ⟨x,Y,e⟩=>absurd e (T x Y)) λx Y _ GR aD v d=>⟨(IF (d.front 1 rfl)).2,?_⟩⟩⟩;have A6:=d.D8.Yz aD hC.ok.em;refine ZB (d.front 2 rfl) hC.ok.inv GR hC.ok.KV (λhn=>absurd hn O) (λ_ ⟨x,Y,e⟩=>absurd e (T x Y)) λy hy _ C aC=> ?_;rw[Y]at hy;cases hy;exact hK _ 0 C (hC.back hE hj rfl A6) ((aC.front 2 rfl).EM 1 rfl)
end
section
variable{E:Env}{bb cb cq b h s r b2 h2 s2 r2:Nat}{W W':SW}{U M U' M':BI}{l:List Int}{B:Nat}{Z:List Pr}{w:World}
variable(hE:SA E)
include hE
theorem Wr(hT: ∀w',Sat Z w'->FQ E.AJ w')(H:Sat (QO E bb cb cq b h s r b2 h2 s2 r2 W U M l Z) w)(hC:LY W U M l B){K:Bool->World->Prop}
  (hK: ∀W' U' M' w',LY W' U' M' l B->Sat (QO E bb cb cq b h s r b2 h2 s2 r2 W' U' M' l Z) w'->K true w'):
      NC (some ⟨bb,0,none⟩) λaV=>
      ∃aH:(Option Addr),w.cell? aV=some (.pointer aH)/\
      F.A8 E aH (λa1 bB=>
      F.C2 E a1 (λT aF Y=>
      NC (some ⟨bb,0,none⟩) λaW=>
      ∃aI:(Option Addr),Y.cell? (aW.add 1)=some (.pointer aI)/\
      NC aI λaX=>
      ∃aJ:(Option Addr),Y.cell? aX=some (.pointer aJ)/\
      F.Ba E aJ (λa2 a3 aG=>
      Ai (Bool×Unit) (λaE=>
       CND ((T:Int) !=a2) (
        aE (true,()) aG
       ) (
        aE (!(aF==a3),()) aG
       )
      ) λfB _ C=>
       CND (fB.1) (
        K false C
       ) (
        CND (aF) (
         NC (some ⟨bb,0,none⟩) λaY=>
         ∃aK:(Option Addr),C.cell? aY=some (.pointer aK)/\
         F.A8 E aK (λa4 bC=>
         F.B5 E a4 T false (λa5 a6 a7 aA=>
         NC (some ⟨bb,0,none⟩) λaZ=>
         ∃aL:(Option Addr),aA.cell? (aZ.add 1)=some (.pointer aL)/\
         NC aL λa0=>
         ∃aM:(Option Addr),aA.cell? a0=some (.pointer aM)/\
         F.A9 E aM T false (λa8 a9 bA aB=>
         CND ((a5:Int)==a8) (
          CND (a6==a9) (
           K ((a7:Int)==bA) aB
          ) (
           K false aB
          )
         ) (
          K false aB
         )
         ) aA
         ) bC
         ) C
        ) (
         K true C
        )
       )
      ) Y
      ) bB
      ) w:=by
 have fold: ∀{W1:SW} {W2:SW} {U2 M2:BI} {w'},Sat (Dv E cq b2 h2 s2 r2 W2 U2 M2::Bt E cb b h s r W1::Wx E bb cb cq l::Z) w'->Sat (Wx E bb cb cq l::Bt E cb b h s r W1::Dv E cq b2 h2 s2 r2 W2 U2 M2::Z) w':=λh'=>(h'.front 1 rfl).front 2 rfl;refine AH ⟨some ⟨cb,0,none⟩,(IF H).1,EZ (H.front 1 rfl) (YZ hE.toEnvW (H.front 1 rfl).D8 hC.ok.inv (λO w5 H5=> ?_) λx hx bS w5 H5=> ?_)⟩
 .have H6:=H5.GB;refine AH ⟨some ⟨cq,0,none⟩,(IF (H6.front 1 rfl)).2,AH ⟨some ⟨b2,0,none⟩,K9 (H6.front 2 rfl),Rf (Sat.FL.1 (H6.front 2 rfl)) hC.ok.se (λ_ w7 H7=>AU (AP rfl λj=>AP rfl (AP rfl (hK W U M w7 hC ((Sat.FL.2 H7).front 2 rfl|>.EM 1 rfl))))) λx hx=> ?_⟩⟩;have:=O x hx.1;rw[hx.2.1]at this;cases this
 .have H6:=H5.GB;refine AH ⟨some ⟨cq,0,none⟩,(IF (H6.front 1 rfl)).2,AH ⟨some ⟨b2,0,none⟩,K9 (H6.front 2 rfl),Rf (Sat.FL.1 (H6.front 2 rfl)) hC.ok.se (λO=> ?_) λx' J w7 H7=> ?_⟩⟩
  .have:=O x hx.1;rw[hx.2.1]at this;cases this
  have bI:x'=x:=by
   have h1:=hx.2.2 x' J.1 J.2.1;have h2:=J.2.2 x hx.1 hx.2.1;exact hC.ok.se.Ho.inj J.1 hx.1 (by omega)
  subst bI;have d:=hC.ok.rem x'.id;have H8:Sat (Dv E cq b2 h2 s2 r2 {W with L:=Fk W.L x'.id} U M::Bt E cb b h s r {W with L:=Fk W.L x'.id}::Wx E bb cb cq l::Z) w7:=Sat.FL.2 H7;have bM: ∃y,W.S.sp x'.id=some y:=let⟨y,hy,_⟩:=hC.ok.inv.it x' J.1;⟨y,hy⟩
  obtain⟨y,hy⟩:=bM;have aP:({W with L:=Fk W.L x'.id}:SW).S.sp x'.id≠none:=by grind
  have bK:=hC.Nm (ZM.rem W x'.id) d;refine AU (AP (by simp) λj=>AP (by simp) (AR rfl (AH ⟨some ⟨cb,0,none⟩,(IF (H8.front 2 rfl)).1,EZ (H8.front 1 rfl) ?_⟩)));refine T5 hE.toEnvW (λw' h'=>hT w' h'.tail.tail.tail) (H8.front 1 rfl).D8 d.inv d.KV d.em (λz hz=>(FB.1 hz).2) (λhn=>absurd hn aP) (λz hz bO w9 H9=> ?_) λn gone W2 U2 M2 hO aR w9 H9=> ?_
  .have v:=H9.GB;refine AH ⟨some ⟨cq,0,none⟩,(IF (v.front 2 rfl)).2,AH ⟨some ⟨b2,0,none⟩,K9 (v.front 1 rfl),?_⟩⟩;refine O4 (Sat.FL.1 (v.front 1 rfl)) d.inv d.hk d.KV d.em (λz hz=>(FB.1 hz).2) (λhn=>absurd hn aP) (λ_ _ _ aQ aN=> ?_) λz' bN aT=> ?_
   .exact AR rfl (AR rfl (hK _ _ _ aQ bK (fold (Sat.FL.2 aN))))
   grind
  .have aU:=H9.Yz aR (Nat.le_trans hO.len d.em);have v:=H9.GB;refine AH ⟨some ⟨cq,0,none⟩,(IF (v.front 2 rfl)).2,AH ⟨some ⟨b2,0,none⟩,K9 (v.front 1 rfl),?_⟩⟩;refine O4 (Sat.FL.1 (v.front 1 rfl)) d.inv d.hk d.KV d.em (λz hz=>(FB.1 hz).2) (λhn=>absurd hn aP) (λz hz bO=> ?_) λz' bN aT=>⟨n,gone,W2,U2,M2,hO,aR,λaQ aN=> ?_⟩
   .obtain⟨_,_,_,_,aT,_⟩:=hO
    grind
   .exact AR (by simp) (AR (by simp) (hK W2 U2 M2 aQ (hC.Nm (hO.Nm ⟨x',J.1,rfl⟩) aU) (fold (Sat.FL.2 aN))))
end
def AA5(x:Int):0<=Dj .i64 0 x 63/\Dj .i64 0 x 63<=63:=by
 show 0<=IntKind.wrap .i64 ((BitVec.ofInt 64 x&&&BitVec.ofInt 64 63).toNat:Int)/\IntKind.wrap .i64 ((BitVec.ofInt 64 x&&&BitVec.ofInt 64 63).toNat:Int)<=63;have h:(BitVec.ofInt 64 x&&&BitVec.ofInt 64 63).toNat<=63:=by
  rw[BitVec.toNat_and];exact Nat.le_trans Nat.and_le_right (by decide)
 have e:IntKind.wrap .i64 ((BitVec.ofInt 64 x&&&BitVec.ofInt 64 63).toNat:Int)=((BitVec.ofInt 64 x&&&BitVec.ofInt 64 63).toNat:Int):=AF;omega
def nN{α:Type}(X C B P:α)(R A Z:List α):(X::(R++(A++C::B::P::Z))).Perm (P::X::(R++(A++C::B::Z))):=by
 classical
 exact List.perm_iff_count.2 λa=>by grind
section
variable{E:Env}{bb cb cq b h s r b2 h2 s2 r2:Nat}{W W':SW}{U M U' M':BI}{l:List Int}{B:Nat}{Z:List Pr}{w:World}
variable(hE:SA E)
include hE
theorem Rk(hT: ∀w',Sat Z w'->FQ E.AJ w')(H:Sat (QO E bb cb cq b h s r b2 h2 s2 r2 W U M l Z) w)(hC:LY W U M l B){id N:Int}{b1:Nat}(Mf:W.S.sp id=none->id=0)
  (a8: ∀w',Sat Z w'->w'.cell? ((Addr.mk b1 0 none).add 4)=some (.int .i64 N)){K:Bool->World->Prop}
  (hK: ∀W' U' M' w',LY W' U' M' l B->Sat (QO E bb cb cq b h s r b2 h2 s2 r2 W' U' M' l Z) w'->K true w'):
    NC (some ⟨bb,0,none⟩) λbB=>
    ∃aV:(Option Addr),w.cell? bB=some (.pointer aV)/\
    F.A8 E aV (λbF bM=>
    F.DS E bF (λbG bN=>
    F.Dx E bG id (λaQ b7 T=>
    NC (some ⟨bb,0,none⟩) λbC=>
    ∃aW:(Option Addr),T.cell? (bC.add 1)=some (.pointer aW)/\
    NC aW λbD=>
    ∃aX:(Option Addr),T.cell? bD=some (.pointer aX)/\
    NC aX λbE=>
    ∃aY:(Option Addr),T.cell? bE=some (.pointer aY)/\
    F.Am E aY id (λaR aS=>
    Ai (Bool×Unit) (λaI=>
     CND (aQ.isNone) (
      aI (true,()) aS
     ) (
      aI (aR.isNone,()) aS
     )
    ) λZa _ aT=>
     CND (Za.1) (
      K ((id:Int)==0) aT
     ) (
      Az (Int×Unit) (0,()) aT λeZ _ d O=>
       ∃aZ:Int,d.cell? ((Addr.mk b1 0 none).add 4)=some (.int .i64 aZ)/\
       CND (decide ((eZ.1:Int)<(Dj .i64 0 aZ 63))) (
        F.Dq E aQ (λbH bI aA=>
        F.CE E aR (λbJ bK aG=>
        Ai (Bool×Unit) (λaJ=>
         CND ((bH:Int) !=bJ) (
          aJ (true,()) aG
         ) (
          aJ ((bI:Int) !=bK,()) aG
         )
        ) λtR _ aU=>
         CND (tR.1) (
          K false aU
         ) (
          O (i64 (eZ.1+1),()) aU
         )
        ) aA
        ) d
       ) (
        K true d
       )
     )
    ) T
    ) bN
    ) bM
    ) w:=by
 have H2:=H.front 2 rfl;obtain⟨em,H3⟩:=Sat.Re.1 (Sat.FL.1 H2);have cs:=(H.front 1 rfl).D8;refine AH ⟨some ⟨cb,0,none⟩,(IF H).1,EZ (H.front 1 rfl) (KM cs (Nh cs (λhn=> ?_) λx hx=> ?_))⟩
 .refine AH ⟨some ⟨cq,0,none⟩,(IF H).2,AH ⟨some ⟨b2,0,none⟩,K9 H2,AH ⟨some ⟨h2,0,none⟩,(VV H2).1,UL H3 hC.ok.inv.hI (λ_=>AU (AR rfl λj=>AR rfl ?_)) λx q R hx _ _=>by grind⟩⟩⟩;rw[Mf hn];exact hK W U M w hC H
 .refine AH ⟨some ⟨cq,0,none⟩,(IF H).2,AH ⟨some ⟨b2,0,none⟩,K9 H2,AH ⟨some ⟨h2,0,none⟩,(VV H2).1,UL H3 hC.ok.inv.hI (λhn=>by grind) λx' q R aP H5 b5=>AU (AP rfl λj=>AP rfl ?_)⟩⟩⟩;rw[hx]at aP;cases aP;obtain⟨A6,hg⟩:=hC.ok.inv.sp id x hx;have aL:=AA5 N
  let Y:List Pr:=GP E b2 h2 s2 r2 W em++Cells cq E.BT [.pointer (some ⟨b2,0,none⟩)]::Wx E bb cb cq l::Z
  let Wi:SI->SW:=λI=>{W with S:=W.S.put id (x.1,I)}
  have gA: ∀{P:Pr} {W1:SW} {w'},Sat (P::(R++(GP E b2 h2 s2 r2 W em++Cells cq E.BT [.pointer (some ⟨b2,0,none⟩)]::Wx E bb cb cq l::Bt E cb b h s r W1::Z))) w'↔Sat (Bt E cb b h s r W1::P::(R++Y)) w':=λ{P W1 w'}=>
   ⟨λh'=>h'.perm (nN _ _ _ _ _ _ _),λh'=>h'.perm (nN _ _ _ _ _ _ _).symm⟩
  have Hz: ∀{P Q:Pr} {w'},Sat (Q::P::(R++Y)) w'->Sat Z w':=λh'=>((Sat.rest (Ps:=R) h'.tail.tail):Sat Y _).tail.tail.tail.tail.tail.tail;have bZ:=hC.f id x hx;refine AI (λst w'=> ∃(k:Nat) (I:SI) (u:Nat->Bool),st.1=(k:Int)/\(k:Int)<=Dj .i64 0 N 63/\Bm (Wi I) (U.set id u) M/\I.rs=x.2.rs/\I.f8=x.2.f8/\I.f9=x.2.f9/\Sat (Bt E cb b h s r (Wi I)::A2 E q x.2 u (M id)::(R++Y)) w')
   (λst _=>(Dj .i64 0 N 63-st.1).toNat) ⟨0,x.2,U id,rfl,aL.1,?_,rfl,rfl,rfl,?_⟩ ?_
  .show Bm {W with S:=W.S.put id (x.1,x.2)} (U.set id (U id)) M;rw[show W.S.put id (x.1,x.2)=W.S from HS.QA hx,BI.L4];exact hC.ok.inv
  .refine gA.1 ?_;show Sat (_::(R++(_++_::_::Bt E cb b h s r {W with S:=W.S.put id (x.1,x.2)}::Z))) w;rw[show W.S.put id (x.1,x.2)=W.S from HS.QA hx];exact H5
  rintro⟨k',u'⟩ _ d ⟨k,I,u,aM,b0,aF,C,h8,h9,v⟩;dsimp only at aM⊢;subst aM;refine⟨N,a8 _ (Hz v),AB (λb3=> ?_) λbY=> ?_⟩
  .have a9:(Wi I).S.sp id=some (x.1,I):=HS.IJ;have b6:I.AK=x.2.AK:=by
    exact congrArg (λt=>t.2.2.2.2.2.2) C
   have hu:(U.set id u) id=u:=BI.Oy U id u;rw[AF (n:=(k:Int)+1)];refine Yw (λw' h'=>hT w' (Hz h')) v.D8 aF a9 (λaB aA y=> ?_) λn bL hn J aN aK aA y=> ?_
   .rw[hu]at aB;refine RV (y.GB.front 1 rfl) (by rw[A6.st];decide) hg.sl.1 (λ_=>AU (AP rfl λj=>AP rfl ⟨⟨k+1,I,u,by omega,by omega,aF,C,h8,h9,y.GB⟩,by omega⟩)) λn hn J=> ?_
    grind
   .rw[hu]at J aN
    let I2:SI:={I with uw:=bL,used:=I.used+1,look:=(n:Int)+1}
    have e1:(Wi I).S.put id (x.1,I2)=W.S.put id (x.1,I2):=HS.P9 W.S id _ _;have e2:((U.set id u).set id λi=>(U.set id u) id i||i==n)=U.set id λi=>u i||i==n:=by rw[hu,BI.set_set]
    rw[e2]at aK;have a7:Bm (Wi I2) (U.set id λi=>u i||i==n) M:=by
     have h:=aK
     grind
    have a1:Sat (Bt E cb b h s r (Wi I2)::A2 E q x.2 u (M id)::(R++Y)) aA:=by
     have h:=y.GB
     grind
    refine RV (a1.front 1 rfl) (by rw[A6.st];decide) hg.sl.1 (λaB=> ?_) λn' b4 aC aO aG a2=> ?_
    .grind
    .obtain rfl:n=n':=by
      rcases Nat.lt_trichotomy n n' with c|c|c
      .rw[aO n c]at J;cases J
      .exact c
      .rw[aN n' c]at aC;cases aC
     exact AU (AP (by simp) λj=>AP rfl ⟨⟨k+1,I2,λi=>u i||i==n,by omega,by omega,a7,C,h8,h9,a2.front 1 rfl⟩,by omega⟩)
  .have h1:=b5 (gA.2 v);rw[BI.L4]at h1;have a4:=h1.sH hx C;have h3:Sat (Dv E cq b2 h2 s2 r2 (Wi I) (U.set id u) M::Wx E bb cb cq l::Bt E cb b h s r (Wi I)::Z) d:=Sat.FL.2 (Sat.Re.2 ⟨em,a4⟩);refine hK (Wi I) (U.set id u) M d ⟨hC.n,v.D8.Yz aF hC.ok.em,hC.f.put hx h8 h9,hC.nd,λj hj=>⟨?_,(hC.hd j hj).2⟩⟩ ((h3.front 2 rfl).front 2 rfl);show(if j=id then some (x.1,I)else W.S.sp j)≠none;split
   .grind
   .exact(hC.hd j hj).1
end
section
variable{E:Env}{bb cb cq b h s r b2 h2 s2 r2:Nat}{W W':SW}{U M U' M':BI}{l:List Int}{B:Nat}{Z:List Pr}{w:World}
def Ox.some{S S':HS}(h:Ox S S'){id:Int}{y:Nat×SI}(d:S'.sp id=some y): ∃x mw,S.sp id=some x/\y=(x.1,{x.2 with mw:=mw}):=by
 cases hx:S.sp id with
 | none=>rw[h.no id hx]at d;cases d
 | some x=>
  obtain⟨mw,e⟩:=h.sp id x hx
  grind
def LY.mark(hC:LY W U M l B){S':HS}(hm:Ox W.S S')(A6:Iy {W with S:=S',L:=Hi W.L} U M'):LY {W with S:=S',L:=Hi W.L} U M' l B:=by
 refine⟨?_,A6,λid y j=> ?_,hC.nd,λid Mf=>⟨λv=> ?_,λx d e=> ?_⟩⟩
 .show S'.fx.n<=B;rw[hm.rest];exact hC.n
 .obtain⟨x,mw,d,rfl⟩:=hm.some j;exact hC.f id x d
 .have v:S'.sp id=none:=v;obtain⟨x,d⟩:=Option.ne_none_iff_exists'.1 (hC.hd id Mf).1;obtain⟨mw,e⟩:=hm.sp id x d
  grind
 .obtain⟨y,j,rfl⟩:=List.mem_map.1 d;exact(hC.hd id Mf).2 y j e
variable(hE:SA E)
include hE
theorem AA6{s1 sl:AX}{d:List Int}(H:Sat (Row E.AD 1 s1 (ints .u64 d)::Row E.AD 1 sl (ints .u64 d)::QO E bb cb cq b h s r b2 h2 s2 r2 W U M l Z) w)(hC:LY W U M l B)(hl:d.length<=1000000)(has: ∀a∈d,0<=a/\a<18446744073709551616){K:Bool->World->Prop}
  (hK: ∀W' M' w',LY W' U M' l B->Sat (QO E bb cb cq b h s r b2 h2 s2 r2 W' U M' l Z) w'->K true w'):
  F.B8 E (some ⟨b,0,none⟩) s1 (λT j=>
   j.cell? (Addr.mk cq 0 none)=some (.pointer (some ⟨b2,0,none⟩))/\j.cell? ((Addr.mk bb 0 none).add 1)=some (.pointer (some ⟨cq,0,none⟩))/\
   F.A3 E (some ⟨b2,0,none⟩) sl (λaA C=>C.cell? ((Addr.mk bb 0 none).add 1)=some (.pointer (some ⟨cq,0,none⟩))/\K ((T:Int)==aA) C) j) w:=by
 have row: ∀{t:AX} {Y:List Pr} {w':World},Sat (Row E.AD 1 t (ints .u64 d)::Y) w'->rowAt w' t.base t.len (ints .u64 d)/\d.length=t.len:=λ{t Y w'} y=>by
  have h1:=y.JJ;have h2:=y.C1;unfold ints at h2
  grind
 have l1:=(row H).2;have l2:=(row H.tail).2;have Hc:=(H.front 3 rfl).D8;refine Ya hE.toEnvW Hc hC.ok.inv (λw' y=>(row y.tail).1) l1 (by omega) has (λO w' H'=> ?_) λaJ S' hm aC w' H'=> ?_
 .have v:=H'.GB;refine⟨K9 (v.front 4 rfl),(IF (v.front 3 rfl)).2,Rh (Sat.FL.1 (v.front 4 rfl)) hC.ok.inv hC.ok.hk hC.ok.se (λw' y=>(row y.tail.tail.tail).1) l2 (by omega) has (λ_=>⟨(IF (v.front 3 rfl)).2,?_⟩) λaE=> ?_⟩
  .exact hK W M w' hC (((v.front 1 rfl).tail.front 1 rfl).tail.front 1 rfl)
  .have:K0 W.L false=0:=by
    unfold K0;rw[List.length_eq_zero_iff,List.filter_eq_nil_iff]
    grind
   omega
 .have A6:=H'.Yz aC hC.ok.em;have v:=H'.GB;refine⟨K9 (v.front 4 rfl),(IF (v.front 3 rfl)).2,Rh (Sat.FL.1 (v.front 4 rfl)) hC.ok.inv hC.ok.hk hC.ok.se (λw' y=>(row y.tail.tail.tail).1) l2 (by omega) has (λO=> ?_) λ_ w8 H8=> ?_⟩
  .have:K0 W.L false=0:=by
    unfold K0;rw[List.length_eq_zero_iff,List.filter_eq_nil_iff]
    grind
   omega
  .have H9:Sat (Dv E cq b2 h2 s2 r2 {W with S:=S',L:=Hi W.L} U (M.mark W.S d)::Bt E cb b h s r {W with S:=S',L:=Hi W.L}::Row E.AD 1 s1 (ints .u64 d)::Row E.AD 1 sl (ints .u64 d)::Wx E bb cb cq l::Z) w8:=by
    refine rwSw (W:={W with L:=Hi W.L}) (Sat.FL.2 H8) ?_ ?_ ?_ ?_ ?_ λid=> ?_
    .rw[hm.rest]
    .rw[hm.rest]
    .rw[hm.rest]
    .rw[hm.rest]
    .rw[hm.rest]
    .show(S'.sp id).map _=(W.S.sp id).map _;cases hx:W.S.sp id with
     | none=>rw[hm.no id hx]
     | some x=>
      obtain⟨mw,e⟩:=hm.sp id x hx;rw[e];rfl
   have J:=(H9.front 2 rfl).tail.front 2 rfl;refine⟨(IF (J.tail.front 2 rfl)).2,?_⟩;rw[show((0:Int)==0)=true from rfl];exact hK _ _ w8 (hC.mark hm A6) ((J.tail.front 1 rfl).front 2 rfl)
end
def ZL.len{S:HS}{g:RG}{fl:Int->Bool}(d:ZL S g)(hI:Bv S fl):g.L.length<=S.fx.n:=by
 have h:=Tm S.fx.n (g.L.map (·.1)) d.nd λn j=>by
  obtain⟨a,e,h1,_⟩:=(hI.sf n).1 ((d.mem n).1 j);omega
 grind
def wI{α:Type}(A D C d j:α)(R T Z:List α):(A::D::(R++(T++C::d::j::Z))).Perm (R++(T++C::d::j::A::D::Z)):=by
 classical
 exact List.perm_iff_count.2 λa=>by grind
section
variable{E:Env}{bb cb cq b h s r b2 h2 s2 r2:Nat}{W W':SW}{U M U' M':BI}{l:List Int}{B:Nat}{Z:List Pr}{w:World}
variable(hE:SA E)
include hE
theorem bQ(H:Sat (QO E bb cb cq b h s r b2 h2 s2 r2 W U M l Z) w)(hC:LY W U M l B)(hB:B<=1000){N:Int}{b1:Nat}
  (bO: ∀w',Sat Z w'->w'.cell? ((Addr.mk b1 0 none).add 4)=some (.int .i64 N)){K:Bool->World->Prop}
  (hK: ∀W' M' w',LY W' U M' l B->Sat (QO E bb cb cq b h s r b2 h2 s2 r2 W' U M' l Z) w'->K true w'):
       Az (AX×Int×Unit) (⟨none,0,0⟩,0,()) w λRr _ T aN=>
        NC (some ⟨bb,0,none⟩) λcO=>
        ∃cC:(Option Addr),T.cell? (cO.add 1)=some (.pointer cC)/\
        NC cC λcP=>
        ∃cD:(Option Addr),T.cell? cP=some (.pointer cD)/\
        NC cD λbT=>
        ∃bF:(Option Addr),T.cell? bT=some (.pointer bF)/\
        NC bF λbU=>
        ∃aP:AX,T.cell? (bU.add 8259)=some (.slice aP.base aP.len aP.cap)/\
        CND (decide ((Rr.2.1:Int)<((aP.len:Nat):Int))) (
         NC (some ⟨bb,0,none⟩) λbV=>
         ∃bG:(Option Addr),T.cell? (bV.add 1)=some (.pointer bG)/\
         NC bG λbW=>
         ∃bH:(Option Addr),T.cell? bW=some (.pointer bH)/\
         NC bH λbX=>
         ∃bI:(Option Addr),T.cell? bX=some (.pointer bI)/\
         NC bI λbY=>
         ∃aL:AX,T.cell? (bY.add 8259)=some (.slice aL.base aL.len aL.cap)/\
         NC aL.base λbZ=>
         ((0:Int)<=Rr.2.1/\(Rr.2.1:Int)<(aL.len:Nat))/\
         ∃aQ:(Option Addr),T.cell? ((bZ.add (Int.toNat Rr.2.1*2)).add 1)=some (.pointer aQ)/\
         Az (AX×Int×Unit) (Rr.1,0,()) T λJt _ aF aH=>
          NC aQ λb0=>
          ∃bJ:Int,aF.cell? (b0.add 6)=some (.int .i64 bJ)/\
          CND (decide ((Jt.2.1:Int)<bJ)) (
           CND (decide ((Jt.2.1:Int)<200)) (
            Ai (Bool×Unit) (λaT=>
             F.Ax E aQ Jt.2.1 (λb3 aI=>
             CND (b3) (
              ∃bK:Int,aI.cell? ((Addr.mk b1 0 none).add 4)=some (.int .i64 bK)/\
              CND (decide (((Dj .i64 0 bK 7):Int)>0)) (
               ∃aZ:Int,aI.cell? ((Addr.mk b1 0 none).add 4)=some (.int .i64 aZ)/\
               (Dj .i64 0 aZ 7)≠(0:Int)/\
               aT (((Int.tmod Jt.2.1 (Dj .i64 0 aZ 7)):Int)==0,()) aI
              ) (
               aT (false,()) aI
              )
             ) (
              aT (false,()) aI
             )
             ) aF
            ) λkD _ a9=>
             CND (kD.1) (
              F.Cc E aQ Jt.2.1 (λb4 c2 cB=>
              AL (.cells ⟨[.int .u64 b4]⟩ E.AD) cB λa4 bA=>
              APP E.AD 1 8 #[.int .u64 0] Jt.1 ⟨(some (Addr.mk a4 0 none)),1,1⟩ bA λXU bB=>
              aH (XU,i64 (Jt.2.1+1),()) bB
              ) a9
             ) (
              aH (Jt.1,i64 (Jt.2.1+1),()) a9
             )
           ) (
            aN (Jt.1,i64 (Rr.2.1+1),()) aF
           )
          ) (
           aN (Jt.1,i64 (Rr.2.1+1),()) aF
          )
        ) (
         NC (some ⟨bb,0,none⟩) λa8=>
         ∃aR:(Option Addr),T.drew.cell? a8=some (.pointer aR)/\
         NC (some ⟨bb,0,none⟩) λJ=>
         ∃C:(Option Addr),T.drew.cell? (J.add 1)=some (.pointer C)/\
         NC C λaA=>
         ∃O:(Option Addr),T.drew.cell? aA=some (.pointer O)/\
         (
          F.A8 E aR (λb5 aU=>
          aU.cell? aA=some (.pointer O)/\
          aU.cell? (J.add 1)=some (.pointer C)/\
          AL (.cells ⟨[]⟩ E.AD) aU λa5 aO=>
          aO.cell? aA=some (.pointer O)/\
          aO.cell? (J.add 1)=some (.pointer C)/\
          APP E.AD 1 8 #[.int .u64 0] ⟨(some (Addr.mk a5 0 none)),0,0⟩ Rr.1 aO λZi aJ=>
          aJ.cell? aA=some (.pointer O)/\
          aJ.cell? (J.add 1)=some (.pointer C)/\
          F.B8 E b5 Zi (λb6 aV=>
          aV.cell? aA=some (.pointer O)/\
          aV.cell? (J.add 1)=some (.pointer C)/\
          F.A3 E O Rr.1 (λb7 bC=>
          bC.cell? (J.add 1)=some (.pointer C)/\
          K ((b6:Int)==b7) bC
          ) aV
          ) aJ
          ) T.drew
         )/\(
          AL (.cells ⟨[]⟩ E.AD) T.drew λa6 aK=>
          aK.cell? aA=some (.pointer O)/\
          aK.cell? (J.add 1)=some (.pointer C)/\
          aK.cell? a8=some (.pointer aR)/\
          F.A8 E aR (λb8 aW=>
          aW.cell? aA=some (.pointer O)/\
          aW.cell? (J.add 1)=some (.pointer C)/\
          APP E.AD 1 8 #[.int .u64 0] ⟨(some (Addr.mk a6 0 none)),0,0⟩ Rr.1 aW λXV aX=>
          aX.cell? aA=some (.pointer O)/\
          aX.cell? (J.add 1)=some (.pointer C)/\
          F.B8 E b8 XV (λb9 aY=>
          aY.cell? aA=some (.pointer O)/\
          aY.cell? (J.add 1)=some (.pointer C)/\
          F.A3 E O Rr.1 (λcA bE=>
          bE.cell? (J.add 1)=some (.pointer C)/\
          K ((b9:Int)==cA) bE
          ) aY
          ) aX
          ) aK
         )
        ):=by
 obtain⟨em,H3⟩:=Sat.Re.1 (Sat.FL.1 (H.front 2 rfl));obtain⟨g,hR,H4⟩:=Sat.HU.1 H3;have dA:=hR.len hC.ok.inv.hI;have c6:=hC.n
 let Z2:List Pr:=GP E b2 h2 s2 r2 W em++Cells cq E.BT [.pointer (some ⟨b2,0,none⟩)]::Wx E bb cb cq l::Bt E cb b h s r W::Z
 let Q:List Pr:=Eg E h2 W.S (UJ U M) g++Z2
 have H4:Sat Q w:=H4;have aM: ∀{w'},Sat Q w'->Sat Z2 w':=λh'=>Sat.rest (Ps:=Eg E h2 W.S (UJ U M) g) h';have hz: ∀{w'},Sat Q w'->Sat Z w':=λh'=>(aM h').tail.tail.tail.tail.tail.tail.tail;have p1: ∀{w'},Sat Q w'->w'.cell? ((Addr.mk bb 0 none).add 1)=some (.pointer (some ⟨cq,0,none⟩)):=λh'=>(IF ((aM h').front 5 rfl)).2;have p2: ∀{w'},Sat Q w'->w'.cell? (Addr.mk cq 0 none)=some (.pointer (some ⟨b2,0,none⟩)):=λh'=>((aM h').front 4 rfl).Af rfl;have p3: ∀{w'},Sat Q w'->w'.cell? (Addr.mk b2 0 none)=some (.pointer (some ⟨h2,0,none⟩)):=λh'=>((aM h').front 1 rfl).Af rfl;have p4: ∀{w'},Sat Q w'->w'.cell? ((Addr.mk h2 0 none).add 8259)=some (.slice g.sl.base g.sl.len g.sl.cap):=λh'=>bD h';have back: ∀{A D:Pr} {w'},Sat (A::D::Q) w'->Sat (A::D::QO E bb cb cq b h s r b2 h2 s2 r2 W U M l Z) w':=λ{A D w'} h'=>by
  have h6:Sat (Eg E h2 W.S (UJ U M) g++(GP E b2 h2 s2 r2 W em++Cells cq E.BT [.pointer (some ⟨b2,0,none⟩)]::Wx E bb cb cq l::Bt E cb b h s r W::A::D::Z)) w':=h'.perm (wI _ _ _ _ _ _ _ _);have h5:Sat (Dv E cq b2 h2 s2 r2 W U M::Wx E bb cb cq l::Bt E cb b h s r W::A::D::Z) w':=Sat.FL.2 (Sat.Re.2 ⟨em,Sat.HU.2 ⟨g,hR,h6⟩⟩);exact(((h5.front 2 rfl).front 2 rfl).front 4 rfl).front 4 rfl
 have c8:=Mc (H4.front 4 rfl);have wl: ∀{sl:AX} {d:List Int} {Y:List Pr} {w'},Sat (Row E.AD 1 sl (ints .u64 d)::Y) w'->d.length=sl.len:=λh'=>by
  have h2:=h'.C1;unfold ints at h2
  grind
 refine AI (λst w'=> ∃(i:Nat) (d:List Int),st.2.1=(i:Int)/\i<=g.L.length/\d.length<=i*200/\(∀a∈d,0<=a/\a<18446744073709551616)/\Sat (Row E.AD 1 st.1 (ints .u64 d)::Q) w') (λst _=>((g.L.length:Int)-st.2.1).toNat) ⟨0,[],rfl,Nat.zero_le _,Nat.zero_le _,λa ha=>(by cases ha),H4.nil E.AD 1⟩ ?_;rintro⟨sl,i',u⟩ _ T ⟨i,d,hi,dB,c7,has,a0⟩;dsimp only at hi a0⊢;subst hi;have Hq:=a0.tail;refine AH ⟨_,p1 Hq,AH ⟨_,p2 Hq,AH ⟨_,p3 Hq,AH ⟨g.sl,p4 Hq,AB (λcK=>AH ⟨_,p1 Hq,AH ⟨_,p2 Hq,AH ⟨_,p3 Hq,AH ⟨g.sl,p4 Hq,?_⟩⟩⟩⟩) λc9=> ?_⟩⟩⟩⟩
 .obtain⟨x,hx⟩: ∃x,g.L[i]? =some x:=⟨_,List.getElem?_eq_getElem (by omega)⟩;obtain⟨bh,bR⟩:=(Hq.front 4 rfl).FZ (by decide) Bs (i:=i) (by omega);have Cr:=(Hq.front 4 rfl).Bu Bs bR hx (j:=1) rfl;rw[bR];refine AH ⟨⟨by omega,cK⟩,some ⟨x.2,0,none⟩,by rw[add_add];exact Cr,?_⟩;obtain⟨y,hy⟩: ∃y,W.S.sp x.1=some y:=Option.ne_none_iff_exists'.1 ((hR.mem x.1).1 (List.mem_map.2 ⟨x,List.mem_of_getElem? hx,rfl⟩));obtain⟨A6,hg⟩:=hC.ok.inv.sp x.1 y hy;have cL:=A6.size;have bP:=A6.ba;have dE:=A6.pg;have op: ∀{w'},Sat Q w'-> ∃R',Sat (A2 E x.2 y.2 (U x.1) (M x.1)::R') w':=λh'=>by
   obtain⟨y',R',bS,h6⟩:=nB (h'.front 5 rfl) hR hx;rw[hy]at bS;cases bS;exact⟨R',h6⟩
  rw[AF (n:=(i:Int)+1)];refine AI (λst w'=> ∃(k:Nat) (d:List Int),st.2.1=(k:Int)/\k<=200/\(k:Int)<=y.2.AK/\d.length<=i*200+k/\(∀a∈d,0<=a/\a<18446744073709551616)/\Sat (Row E.AD 1 st.1 (ints .u64 d)::Q) w') (λst _=>(y.2.AK-st.2.1).toNat) ⟨0,d,rfl,by decide,by omega,by omega,has,a0⟩ ?_;rintro⟨sk,k',u'⟩ _ aF ⟨k,ak,hk,dC,dD,cX,a7,aB⟩;dsimp only at hk aB⊢;subst hk;have Hk:=aB.tail;obtain⟨R',H6⟩:=op Hk;have done: ∀{w'},Sat (Row E.AD 1 sk (ints .u64 ak)::Q) w'->(∃(bL:Nat) (d:List Int),(i:Int)+1=(bL:Int)/\bL<=g.L.length/\d.length<=bL*200/\(∀a∈d,0<=a/\a<18446744073709551616)/\Sat (Row E.AD 1 sk (ints .u64 d)::Q) w')/\((g.L.length:Int)-((i:Int)+1)).toNat<((g.L.length:Int)-(i:Int)).toNat:=
   λh'=>⟨⟨i+1,ak,by omega,by omega,by omega,a7,h'⟩,by omega⟩
  refine AH ⟨y.2.AK,by obtain⟨_,_,_,_,_,_,h7⟩:=Sat.Gk.1 H6;exact h7.cell rfl,AB (λhs=>AB (λcS=> ?_) λ_=>done aB) λ_=>done aB⟩;rw[AF (n:=(k:Int)+1)];have skip:=show(∃(a1:Nat) (d:List Int),(k:Int)+1=(a1:Int)/\a1<=200/\(a1:Int)<=y.2.AK/\d.length<=i*200+a1/\(∀a∈d,0<=a/\a<18446744073709551616)/\Sat (Row E.AD 1 sk (ints .u64 d)::Q) aF)/\(y.2.AK-((k:Int)+1)).toNat<(y.2.AK-(k:Int)).toNat from⟨⟨k+1,ak,by omega,by omega,by omega,by omega,a7,aB⟩,by omega⟩
  refine AU (Nf H6 (AS (λhu=>⟨N,bO _ (hz Hk),AB (λh7=>⟨N,bO _ (hz Hk),by omega,λj=>AS (λhm=> ?_) λ_=>skip⟩) λ_ j=>AP rfl skip⟩) λ_ j=>AP rfl skip));have h1:0<=(k:Int)*y.2.elem:=Int.mul_nonneg (by omega) (by omega);have h2:((k:Int)+1)*y.2.elem<=y.2.AK*y.2.elem:=Int.mul_le_mul_of_nonneg_right (by omega) (by omega);have h3:((k:Int)+1)*y.2.elem=k*y.2.elem+y.2.elem:=by grind
  have h4:=cL.2.2.2.2;rw[Int.mul_comm y.2.elem]at h4;refine Yu H6 ⟨bP.1,bP.2.1⟩ hs ⟨by omega,by omega⟩ (by omega) ?_;have cM:=wl aB;refine AO (vs:=[.int .u64 (y.2.base+k*y.2.elem)]) aB.drew λa4 bA bN _=> ?_;refine Er (news:=[.int .u64 (y.2.base+k*y.2.elem)]) bN rfl rfl (by simp[Value.oneCell']) (by omega) (by omega) λXU bB cR _=>⟨⟨k+1,ak++[y.2.base+k*y.2.elem],by omega,by omega,by omega,by grind,λa ha=> ?_,?_⟩,by omega⟩
  .grind
  .have e:ints .u64 ak++[.int .u64 (y.2.base+k*y.2.elem)]=ints .u64 (ak++[y.2.base+k*y.2.elem]):=by unfold ints;grind
   grind
 .have Hd:=a0.drew;have Hq:=Hd.tail;have cM:=wl Hd;have p0: ∀{w'},Sat Q w'->w'.cell? (Addr.mk bb 0 none)=some (.pointer (some ⟨cb,0,none⟩)):=λh'=>(IF ((aM h').front 5 rfl)).1;have one: ∀v∈ints .u64 d,v.oneCell'=true:=λv hv=>by
   obtain⟨x,_,rfl⟩:=List.mem_map.1 hv;rfl
  refine AH ⟨_,p0 Hq,AH ⟨_,p1 Hq,AH ⟨_,p2 Hq,?_,?_⟩⟩⟩
  .refine EZ ((aM Hq).front 6 rfl) ⟨p2 Hq,p1 Hq,Gs (n:=0) (z:=1) Hd rfl (by decide) λa5 aO aS=>⟨p2 aS.tail.tail,p1 aS.tail.tail,?_⟩⟩;refine QB aS rfl one (by grind) (by grind) λZi aJ aC=>⟨p2 aC.tail.tail,p1 aC.tail.tail,AA6 hE (back aC) hC (by omega) has hK⟩
  .refine Gs (n:=0) (z:=1) Hd rfl (by decide) λa6 aK aD=>⟨p2 aD.tail.tail,p1 aD.tail.tail,p0 aD.tail.tail,EZ ((aM aD.tail.tail).front 6 rfl) ⟨p2 aD.tail.tail,p1 aD.tail.tail,?_⟩⟩;refine QB aD rfl one (by grind) (by grind) λZi aJ aC=>⟨p2 aC.tail.tail,p1 aC.tail.tail,AA6 hE (back aC) hC (by omega) has hK⟩
end
section
variable{E:Env}{bb cb cq b h s r b2 h2 s2 r2:Nat}{W W':SW}{U M U' M':BI}{l:List Int}{B:Nat}{Z:List Pr}{w:World}
def LY.drop(hC:LY W U M l B){j:Nat}:LY W U M (l.eraseIdx j) B:=
 ⟨hC.n,hC.ok,hC.f,hC.nd.sublist (List.eraseIdx_sublist l j),λid Mf=>hC.hd id ((List.eraseIdx_sublist l j).subset Mf)⟩
variable(hE:SA E)
include hE
theorem bR(hT: ∀w',Sat Z w'->FQ E.AJ w')(H:Sat (QO E bb cb cq b h s r b2 h2 s2 r2 W U M l Z) w)(hC:LY W U M l B)(hf:l.length<=500)(hB:B<=1000){y p k i n:Int}{np:Bool}{K:Bool->World->Prop}
  (O: ∀W' U' M' l' w',LY W' U' M' l' (B+1)->l'.length<=l.length+1->Sat (QO E bb cb cq b h s r b2 h2 s2 r2 W' U' M' l' Z) w'->K true w'):F.Cy E (some ⟨bb,0,none⟩) y p k i n np K w:=by
 unfold F.Cy T0.Cy;refine AO (vs:=[.int .i64 y,.int .i64 p,.int .i64 k,.int .i64 i,.int .i64 n,.bool np]) H λb1 w2 H2 _=> ?_
 let Z1:List Pr:=Cells b1 E.JP [.int .i64 y,.int .i64 p,.int .i64 k,.int .i64 i,.int .i64 n,.bool np]::Z
 have Y:Sat (QO E bb cb cq b h s r b2 h2 s2 r2 W U M l Z1) w2:=((H2.front 3 rfl).front 3 rfl).front 3 rfl;have T: ∀w',Sat Z1 w'->FQ E.AJ w':=λw' C=>hT w' C.tail;have J: ∀{W':SW} {U' M':BI} {l':List Int} {w'},Sat (QO E bb cb cq b h s r b2 h2 s2 r2 W' U' M' l' Z1) w'->Sat (QO E bb cb cq b h s r b2 h2 s2 r2 W' U' M' l' Z) w':=λC=>(C.front 3 rfl).tail;refine⟨y,H2.Af rfl,Bc (λ_=> ?_) λ_=>Bc (λ_=> ?_) λ_=>Bc (λ_=> ?_) λ_=>Bc (λ_=> ?_) λ_=>Bc (λ_=> ?_) λ_=> ?_⟩
 .exact bP hE T Y.drew hC hf (b1:=b1) (λw' C=>⟨C.cell rfl,C.cell rfl,C.cell rfl⟩) λW' U' M' l' w' d aI v=>O W' U' M' l' w' d aI (J v)
 .refine⟨i,H2.cell rfl,Nj Y (by omega) (λhl=>AR rfl (O W U M l _ (hC.mono (Nat.le_succ B)) (by omega) (J Y.drew))) λj id hj w' v=> ?_⟩;have hle:=List.length_eraseIdx_le l j;refine Bc (λ_=>O W U M (l.eraseIdx j) _ (hC.drop.mono (Nat.le_succ B)) (by omega) (J v.drew)) λ_=> ?_;exact Rj hE (K:=λa c w=>K (a==c) w) v.drew hC hj λW' m w8 d H8=>by
   rw[beq_self_eq_true];exact O W' U M _ w8 (d.mono (Nat.le_succ B)) (by omega) (J H8)
 .refine⟨i,H2.cell rfl,Nj Y (by omega) (λhl=> ?_) λj id hj w' v=> ?_⟩
  .exact Rk hE T Y hC (λ_=>rfl) (b1:=b1) (λw' C=>C.cell rfl) λW' U' M' w' d v=>O W' U' M' l w' (d.mono (Nat.le_succ B)) (by omega) (J v)
  .exact Rk hE T v hC (λhn=>absurd hn (hC.hd id (List.mem_of_getElem? hj)).1) (b1:=b1) (λw' C=>C.cell rfl) λW' U' M' w' d v=>O W' U' M' l w' (d.mono (Nat.le_succ B)) (by omega) (J v)
 .refine P7 (λm _ w'=> ∃W' l',m=l'.length/\l'.length<=l.length/\LY W' U M l' B/\Sat (QO E bb cb cq b h s r b2 h2 s2 r2 W' U M l' Z1) w') _ ⟨W,l,rfl,Nat.le_refl _,hC,Y⟩ ?_;rintro m _ _ aS ⟨W1,l1,rfl,aP,aF,aA⟩;obtain⟨sl,aE⟩:=Sat.bo.1 aA;have hlen:l1.length=sl.len:=by
   have:=(aE.front 1 rfl).C1;unfold ints at this
   grind
  refine AH ⟨sl,wH aE,AB (λg=> ?_) λg=> ?_⟩
  .refine Nj aA (by omega) (λhl=> ?_) λj id hj w' v=> ?_
   .grind
   .have aO:=(List.getElem?_eq_some_iff.1 hj).1;have hle:(l1.eraseIdx j).length+1=l1.length:=by grind
    have nx:=λ(W':SW) (w8:World) (d:LY W' U M (l1.eraseIdx j) B) (H8:Sat (QO E bb cb cq b h s r b2 h2 s2 r2 W' U M (l1.eraseIdx j) Z1) w8)=>show ∃n',n'<l1.length/\ ∃W' l',n'=l'.length/\l'.length<=l.length/\LY W' U M l' B/\Sat (QO E bb cb cq b h s r b2 h2 s2 r2 W' U M l' Z1) w8 from⟨_,by omega,W',l1.eraseIdx j,rfl,by omega,d,H8⟩
    have hb:=Rj hE (K:=λa c w=>CND (a !=c) (K false w) (∃n',n'<l1.length/\ ∃W' l',n'=l'.length/\l'.length<=l.length/\LY W' U M l' B/\Sat (QO E bb cb cq b h s r b2 h2 s2 r2 W' U M l' Z1) w)) v.drew aF hj λW' m w8 d H8=>AP (by simp) (nx W' w8 d H8);exact hb
  .exact bQ hE aA aF hB (b1:=b1) (λw' C=>C.cell rfl) λW' M' w' d v=>O W' U M' l1 w' (d.mono (Nat.le_succ B)) (by omega) (J v)
 .exact Wr hE T Y hC λW' U' M' w' d v=>O W' U' M' l w' (d.mono (Nat.le_succ B)) (by omega) (J v)
 .exact O W U M l w2 (hC.mono (Nat.le_succ B)) (by omega) (J Y)
end
section
variable{E:Env}{bb cb cq b h s r b2 h2 s2 r2:Nat}{W W':SW}{U M U' M':BI}{l:List Int}{B:Nat}{Z:List Pr}{w:World}
variable(hE:SA E)(hH:aI E)
include hE hH
theorem Rl(H:Sat (QO E bb cb cq b h s r b2 h2 s2 r2 W U M l Z) w)(hC:LY W U M l B)(hB:B<=1000){K:Bool->World->Prop}
  (hK: ∀w',Sat (QO E bb cb cq b h s r b2 h2 s2 r2 W U M l Z) w'->K true w'):F.Cj E (some ⟨bb,0,none⟩) K w:=by
 unfold F.Cj T0.Cj;obtain⟨em,H3⟩:=Sat.Re.1 (Sat.FL.1 (H.front 2 rfl));obtain⟨g,hR,H4⟩:=Sat.HU.1 H3;have bJ:=hR.len hC.ok.inv.hI;have bC:=hC.n
 let Z2:List Pr:=GP E b2 h2 s2 r2 W em++Cells cq E.BT [.pointer (some ⟨b2,0,none⟩)]::Wx E bb cb cq l::Bt E cb b h s r W::Z
 let Q:List Pr:=Eg E h2 W.S (UJ U M) g++Z2
 have H4:Sat Q w:=H4;have aF: ∀{w'},Sat Q w'->Sat Z2 w':=λJ=>Sat.rest (Ps:=Eg E h2 W.S (UJ U M) g) J;have p0: ∀{w'},Sat Q w'->w'.cell? (Addr.mk bb 0 none)=some (.pointer (some ⟨cb,0,none⟩)):=λJ=>(IF ((aF J).front 5 rfl)).1;have O: ∀{w'},Sat Q w'->w'.cell? ((Addr.mk bb 0 none).add 1)=some (.pointer (some ⟨cq,0,none⟩)):=λJ=>(IF ((aF J).front 5 rfl)).2;have T: ∀{w'},Sat Q w'->w'.cell? (Addr.mk cq 0 none)=some (.pointer (some ⟨b2,0,none⟩)):=λJ=>((aF J).front 4 rfl).Af rfl;have p3: ∀{w'},Sat Q w'->w'.cell? (Addr.mk b2 0 none)=some (.pointer (some ⟨h2,0,none⟩))/\w'.cell? ((Addr.mk b2 0 none).add 1)=some (.pointer (some ⟨s2,0,none⟩)):=λJ=>⟨((aF J).front 1 rfl).Af rfl,((aF J).front 1 rfl).cell rfl⟩;have p4: ∀{w'},Sat Q w'->w'.cell? ((Addr.mk h2 0 none).add 8259)=some (.slice g.sl.base g.sl.len g.sl.cap):=λJ=>bD J;have bH:=Mc (H4.front 4 rfl);have Y: ∀{w'},Sat Q w'->Sat (Bt E cb b h s r W::Q.eraseIdx 12) w':=λJ=>J.front 12 rfl;have aE: ∀{w'},Sat (Bt E cb b h s r W::Q.eraseIdx 12) w'->Sat Q w':=λJ=>Sat.back (Ps:=Q) 12 J (by simp[Q,Z2,Eg,GP]);refine AI (λst w'=> ∃i:Nat,st.1=(i:Int)/\i<=g.L.length/\Sat Q w') (λst _=>((g.L.length:Int)-st.1).toNat) ⟨0,rfl,Nat.zero_le _,H4⟩ ?_;rintro⟨i',u⟩ _ w2 ⟨i,hi,bK,H2⟩;dsimp only at hi⊢;subst hi;refine AH ⟨_,O H2,AH ⟨_,T H2,AH ⟨_,(p3 H2).1,AH ⟨g.sl,p4 H2,AB (λaQ=> ?_) λbI=> ?_⟩⟩⟩⟩
 .have v:=H2.drew;have He:=v.drew;obtain⟨x,hx⟩: ∃x,g.L[i]? =some x:=⟨_,List.getElem?_eq_getElem (by omega)⟩;obtain⟨bh,aJ⟩:=(H2.front 4 rfl).FZ (by decide) Bs (i:=i) (by omega);obtain⟨y,hy⟩: ∃y,W.S.sp x.1=some y:=Option.ne_none_iff_exists'.1 ((hR.mem x.1).1 (List.mem_map.2 ⟨x,List.mem_of_getElem? hx,rfl⟩));obtain⟨A6,hg⟩:=hC.ok.inv.sp x.1 y hy;have aP:=A6.ba;have bL:=A6.pg;have c0: ∀{w'},Sat Q w'->w'.cell? ((Addr.mk bh 0 none).add (Int.toNat (i:Int)*2))=some (.int .i64 x.1):=λJ=>by
   have:=(J.front 4 rfl).Bu Bs aJ hx (j:=0) rfl
   grind
  have c1: ∀{w'},Sat Q w'->w'.cell? (((Addr.mk bh 0 none).add (Int.toNat (i:Int)*2)).add 1)=some (.pointer (some ⟨x.2,0,none⟩)):=λJ=>by
   rw[add_add];exact(J.front 4 rfl).Bu Bs aJ hx (j:=1) rfl
  have rb:=λ(P:Addr->Prop) (h:P ⟨bh,0,none⟩)=>show NC g.sl.base P by rw[aJ];exact AH h
  refine AH ⟨_,p0 v,AH ⟨_,O v,AH ⟨_,T v,AH ⟨_,(p3 v).1,AH ⟨g.sl,p4 v,rb _ ⟨⟨by omega,aQ⟩,x.1,c0 v,EZ (Y v) ⟨c0 v,p4 v,(p3 v).1,T v,O v,KM (Y v).D8 ⟨c0 v,p4 v,(p3 v).1,T v,O v,Nh (Y v).D8 (λhn=>by grind) λy' aT=> ?_⟩⟩⟩⟩⟩⟩⟩⟩;rw[hy]at aT;cases aT;refine⟨p4 v,(p3 v).1,T v,O v,AU (AP rfl (AP rfl (AH ⟨_,O He,AH ⟨_,T He,AH ⟨_,(p3 He).1,AH ⟨g.sl,p4 He,rb _ ⟨⟨by omega,aQ⟩,_,c1 He,Yx (Y He).D8 hy λa4 aX=> ?_⟩⟩⟩⟩⟩)))⟩;have aC:Sat Q a4:=aE aX.GB;have h1:=(aC.front 5 rfl).F0 hx;have e:rsR E W.S.sp (UJ U M) x=A2 E x.2 y.2 (U x.1) (M x.1):=by unfold rsR;rw[hy];rfl
  rw[e]at h1;refine⟨c1 aC,p4 aC,(p3 aC).1,T aC,O aC,Ym h1 ⟨aP.1,by omega,aP.2.1⟩ ⟨by omega,by omega⟩ λa5 aL=> ?_⟩;rw[<-e]at aL;have aD:Sat Q a5:=Sat.back (Ps:=Q) 5 (aL.G5 hx) (by simp[Q,Z2,Eg,GP]);refine⟨p4 aD,(p3 aD).1,T aD,O aD,λj=>AP ?_ ⟨⟨i+1,by rw[AF];rfl,by omega,aD⟩,by rw[AF];omega⟩⟩;obtain⟨f8,f9⟩:=hC.f x.1 y hy;rw[f8,f9,hg.cnt];simp
 .have v:=H2.drew;refine AH ⟨_,p0 H2,EZ (Y H2) (LU (Y H2).D8 (AH ⟨_,p0 v,AH ⟨_,O v,AH ⟨_,T v,AH ⟨_,(p3 v).1,AH ⟨g.sl,p4 v,EZ (Y v) ⟨p4 v,(p3 v).1,T v,O v,KM (Y v).D8 ⟨p4 v,(p3 v).1,T v,O v,?_⟩⟩⟩⟩⟩⟩⟩))⟩;obtain⟨R,HH,hz,hb⟩:=(Y v).D8.Hj;refine YA hH HH (λl h1 h2=>hC.ok.inv.hI.KV l h1 h2) λsp l' a6 a2 aO aM=> ?_;have hlen:l'.length=g.L.length:=by
   have:=((List.perm_ext_iff_of_nodup a2 hR.nd).2 λn=>by rw[aO,hR.mem]).length_eq
   grind
  have bM:l'.length=sp.len:=by
   have:=aM.C1;unfold ints at this
   grind
  have Hq:Sat Q a6:=aE (hb aM.tail).GB;have cnt: ∀{w'} {sw:Bool} {K':Int->World->Prop},Sat Q w'->(∀aH,Sat Q aH->K' ((K0 W.L sw:Nat):Int) aH)->F.FM E (some ⟨s,0,none⟩) sw K' w':=λ{w' sw K'} J hk=>by
   obtain⟨R2,aY,_,a1⟩:=(Y J).D8.Lh;exact MU aY λaH aW=>hk aH (aE (a1 aW).GB)
  have back: ∀{w'},Sat Q w'->Sat (QO E bb cb cq b h s r b2 h2 s2 r2 W U M l Z) w':=λJ=>by
   have h5:Sat (Dv E cq b2 h2 s2 r2 W U M::Wx E bb cb cq l::Bt E cb b h s r W::Z) _:=Sat.FL.2 (Sat.Re.2 ⟨em,Sat.HU.2 ⟨g,hR,J⟩⟩);exact(h5.front 2 rfl).front 2 rfl
  refine⟨p4 Hq,(p3 Hq).1,T Hq,O Hq,AR (by grind) (AH ⟨_,O Hq,AH ⟨_,T Hq,AH ⟨_,(p3 Hq).2,cnt Hq λbN C=>⟨(p3 C).2,T C,O C,p4 C,(p3 C).1,T C,O C,?_⟩⟩⟩⟩)⟩;refine MV (C.front 6 rfl) hC.ok.se.KV ⟨T C,O C,p4 C,(p3 C).1,T C,O C,AR (by simp) (AH ⟨_,O C,AH ⟨_,T C,AH ⟨_,(p3 C).2,cnt C λaU d=>⟨(p3 d).2,T d,O d,T d,O d,p4 d,(p3 d).1,T d,O d,?_⟩⟩⟩⟩)⟩;refine MV (d.front 6 rfl) hC.ok.se.KV ⟨T d,O d,T d,O d,p4 d,(p3 d).1,T d,O d,?_⟩;rw[beq_self_eq_true];exact hK aU (back d)
end
def bS{E:Env}{h:Nat}{S:HS}{U M:BI}{Z:List Pr}{w:World}(H:Sat (LA E h S (UJ U M)::Z) w){K:Option Addr->World->Prop}(J: ∀b s r w',Sat (Kh E b h s r (SW.new S) U M::Z) w'->K (some ⟨b,0,none⟩) w'):F.Ii E (some ⟨h,0,none⟩) K w:=by
 unfold F.Ii;refine AO (vs:=[.slice none 0 0]) H λs Y d _=>AO (vs:=[.slice none 0 0]) d λr w4 j _=>AO (vs:=GZ h s r ⟨none,0,0⟩ (SW.new S)) j λb T v _=>J b s r T ?_;have y:=(Sat.OE (L:=[]) (q:=s) (E:=E)).2 ⟨⟨none,0,0⟩,[],.refl _,((v.nil E.Ah 6).front 3 rfl)⟩;have C:=(Sat.WR (R:=[]) (q:=r) (E:=E)).2 ⟨⟨.nil,λx O=>(by cases O),Nat.zero_le _⟩,⟨none,0,0⟩,((y.nil E.AN 3).front 3 rfl)⟩;exact Sat.Re.2 ⟨⟨none,0,0⟩,((((C.nil E.AN 3).front 1 rfl).front 3 rfl).front 3 rfl).front 4 rfl⟩
abbrev OV:AT:=.cons (.int .i64) (.cons (.int .i64) (.cons (.int .i64) (.cons (.int .i64) (.cons (.int .i64) (.cons .bool .nil)))))
def wJ{w:World}{s:AX}{z:Nat->US OV}(h:N8 w OV s z){j:Nat}(y:j<s.len): ∃x,s.base=some x/\ ∃a b c d e f,w.cell? ((x.add (j*6)).add 0)=some (.int .i64 a)/\w.cell? ((x.add (j*6)).add 1)=some (.int .i64 b)/\w.cell? ((x.add (j*6)).add 2)=some (.int .i64 c)/\
  w.cell? ((x.add (j*6)).add 3)=some (.int .i64 d)/\w.cell? ((x.add (j*6)).add 4)=some (.int .i64 e)/\w.cell? ((x.add (j*6)).add 5)=some (.bool f):=by
 obtain⟨x,C,v,A6⟩:=h.2.2 j y;have hs:AT.size OV=6:=rfl;rw[hs]at v;refine⟨x,C,(z j).1,(z j).2.1,(z j).2.2.1,(z j).2.2.2.1,(z j).2.2.2.2.1,(z j).2.2.2.2.2.1,?_,?_,?_,?_,?_,?_⟩<;>rw[add_add]
 .exact v 0 _ rfl
 .exact v 1 _ rfl
 .exact v 2 _ rfl
 .exact v 3 _ rfl
 .exact v 4 _ rfl
 .exact v 5 _ rfl
def PQ.AA7{w w':World}{s:AX}{z:Nat->US OV}(h:N8 w OV s z)(he:Ext AQ w w'):N8 w' OV s z:=
 ⟨h.1,h.2.1,λj y=>by
  obtain⟨x,h1,h2,d⟩:=h.2.2 j y;exact⟨x,h1,λi v C=>he.cell (h2 i v C) λf=>f,d⟩⟩
section
variable{E:Env}{w:World}(hE:SA E)(hH:aI E)
include hE hH
theorem QP{j v y a1:AX}{z0:Nat->Int}{z1:Nat->Bool}{z2:Nat->Int}{z:Nat->US OV}(hT:FQ E.AJ w)(h0:N8 w (.int .u64) j z0)(h1:N8 w .bool v z1)(h2:N8 w (.int .u64) y z2)(hA:N8 w OV a1 z)
  {K:Bool->World->Prop}(hK: ∀w',Ext AQ w w'->K true w'):F.BD E j v y a1 K w:=by
 unfold F.BD T0.BD;refine AO (vs:=[FJ j,FJ v,FJ y]) (Sat.start w) λb1 w2 O _=> ?_;refine Jy (λst w'=>w'=w2/\(st.1=false->a1.len<=120/\j.len<=50/\v.len<=100/\y.len<=2000)) ?_ ?_
 .have t:w2=w2/\(true=false->a1.len<=120/\j.len<=50/\v.len<=100/\y.len<=2000):=⟨rfl,λc=>by cases c⟩;refine AB (λ_=>t) λg0=>⟨j,O.Af rfl,AB (λ_=>t) λg1=>⟨v,O.cell rfl,AB (λ_=>t) λg2=>⟨y,O.cell rfl,rfl,λe=> ?_⟩⟩⟩
  grind
 rintro⟨g,u⟩ _ _ ⟨rfl,hr⟩;refine AS (λ_=>hK _ (O.N7 1 rfl)) λer=>⟨j,O.cell rfl,v,O.cell rfl,y,O.cell rfl,?_⟩;obtain⟨l3,l0,l1,l2⟩:=hr er;have r0: ∀w',Ext AQ w w'->rowAt w' j.base j.len (ints .u64 (ME j.len z0)):=λw' h=>TB (PQ.xH h0 h);have r1: ∀w',Ext AQ w w'->rowAt w' v.base v.len (BB (ME v.len z1)):=λw' h=>Wl (PQ.vZ h1 h);have r2: ∀w',Ext AQ w w'->rowAt w' y.base y.len (ints .u64 (ME y.len z2)):=λw' h=>TB (PQ.xH h2 h);have aI:=oD h0;refine QM O aI (λw' h=>r0 w' (h.N7 1 rfl)) (IP _ _) (by omega) (λw' h=>r1 w' (h.N7 1 rfl)) (IP _ _) (by omega) (λw' h=>r2 w' (h.N7 1 rfl)) (IP _ _) (by omega) λcb b h s r a7 J=>AP rfl ?_;refine⟨j,(J.front 1 rfl).cell rfl,v,(J.front 1 rfl).cell rfl,y,(J.front 1 rfl).cell rfl,?_⟩;refine iG J aI (λw' h=>r0 w' (h.N7 2 rfl)) (IP _ _) (by omega) (λw' h=>r1 w' (h.N7 2 rfl)) (IP _ _) (by omega) (λw' h=>r2 w' (h.N7 2 rfl)) (IP _ _) (by omega) λm a8 aA=> ?_;refine bI (um:=UJ (λ_=>F8) (λ_=>F8)) aA λh2 a9 aB=>bS aB λb2 s2 r2 bA aC=> ?_;refine AO (vs:=[.pointer (some ⟨b2,0,none⟩)]) aC λcq bB aD _=>AO (vs:=[.pointer (some ⟨cb,0,none⟩),.pointer (some ⟨cq,0,none⟩),.slice none 0 0]) aD λbb aS aE _=> ?_;have aF:=((Sat.bo (l:=[])).2 ⟨⟨none,0,0⟩,(aE.nil E.CO 1).front 1 rfl⟩);have C:=(Sat.FL.2 ((aF.front 1 rfl).front 2 rfl));have Y:Sat (QO E bb cb cq b h s r b2 h2 s2 r2 (SW.new (HS.new (OC (ME j.len z0) (ME v.len z1) (ME y.len z2)))) (λ_=>F8) (λ_=>F8) [] [Old w]) aS:=(((C.front 2 rfl).front 2 rfl).front 3 rfl).tail;have hC:LY (SW.new (HS.new (OC (ME j.len z0) (ME v.len z1) (ME y.len z2)))) (λ_=>F8) (λ_=>F8) [] 0:=⟨Nat.le_refl _,(Y.front 1 rfl).D8.Yz (Bm.new _ _ _) (Nat.zero_le _),λid x hx=>(by cases hx),.nil,λid Mf=>(by cases Mf)⟩;clear C aF aE aD aC aB aA J O;have aH: ∀w',Sat [Old w] w'->FQ E.AJ w':=λw' h=>hT.ext (h.N7 0 rfl);refine AI (λst w'=> ∃(i:Nat) (W:SW) (U M:BI) (l:List Int),st.1=(i:Int)/\i<=a1.len/\LY W U M l i/\l.length<=i/\Sat (QO E bb cb cq b h s r b2 h2 s2 r2 W U M l [Old w]) w') (λst _=>((a1.len:Int)-st.1).toNat)
  ⟨0,_,_,_,_,rfl,Nat.zero_le _,hC,Nat.le_refl _,Y⟩ ?_
 clear hC Y;rintro⟨i',u⟩ _ bC ⟨i,W,U,M,l,hi,a4,hC,hl,C⟩;dsimp only at hi⊢;subst hi;refine AB (λa5=> ?_) λ_=> ?_
 .refine Jy (λst w'=>st.1=false/\ ∃W U M l,LY W U M l (i+1)/\l.length<=i+1/\Sat (QO E bb cb cq b h s r b2 h2 s2 r2 W U M l [Old w]) w') ?_ ?_
  .obtain⟨x,hx,a,b,c,d,e,f,c0,c1,c2,c3,c4,c5⟩:=wJ (hA.AA7 (C.N7 3 rfl)) (show i<a1.len by omega);rw[hx];refine AH ⟨⟨by omega,by omega⟩,_,c0,_,c1,_,c2,_,c3,_,c4,_,c5,?_⟩;refine bR hE aH C hC (by omega) (by omega) λW' U' M' l' bE T aP aG=>AP rfl ⟨by decide,Bc (λ_=> ?_) λ_=> ?_⟩
   .exact Rl hE hH aG T (by omega) λbF aM=>⟨rfl,W',U',M',l',T,by omega,aM⟩
   .exact⟨rfl,W',U',M',l',T,by omega,aG⟩
  rintro⟨s,u⟩ _ bD ⟨hs,W',U',M',l',T,aP,aW⟩;dsimp only at hs⊢;subst hs;refine AP rfl ?_;rw[AF (n:=(i:Int)+1)]
  grind
 .exact Rl hE hH C hC (by omega) λbG aN=>AR rfl (Wp hE (λw' h'=>aH w' h'.tail.tail.tail) aN λaT aO=>hK aT (aO.N7 3 rfl))
theorem O6{d j v a1:AX}{z:Nat->US OV}(J:FQ E.AJ w)(h0: ∃O,N8 w (.int .u64) d O)(h1: ∃T,N8 w .bool j T)(h2: ∃Y,N8 w (.int .u64) v Y)(y:N8 w OV a1 z)
  {K:Bool->World->Prop}(C: ∀w',Ext AQ w w'->K true w'):F.BD E d j v a1 K w:=
 let⟨_,h0⟩:=h0;let⟨_,h1⟩:=h1;let⟨_,h2⟩:=h2;QP hE hH J h0 h1 h2 y C
end
end Go.Sh
namespace Go.Sh
open Go.Proofs
def envS:EnvS env where
 at1:=by
  intro i d j K w h;refine⟨(cW #[.int .i64 i,.pointer d,.pointer j] w (λv w'=> ∃b,v= .bool b/\K b w') Kk ?_).1,(cW #[.int .i64 i,.pointer d,.pointer j] w (λv w'=> ∃b,v= .bool b/\K b w') Kk ?_).2⟩<;>
  exact(show F.EI env i d j (λb w'=> ∃y,Value.bool b= .bool y/\K y w') w from kV (λb w' h=>⟨b,rfl,h⟩) h)
 mono:=Xb
def AA8:EnvA env where
 toEnvS:=envS
 pS:=by
  intro x y d j R w h;refine⟨(cV #[.int .u64 x,.int .u64 y,.pointer d,.pointer j] w R Kk ?_).1,(cV #[.int .u64 x,.int .u64 y,.pointer d,.pointer j] w R Kk ?_).2⟩<;>
  exact h
def envW:EnvW env where
 toEnvA:=AA8
 lV:=by
  intro i d j R w h;refine⟨(cU #[.int .i64 i,.pointer d,.pointer j] w R Kk ?_).1,(cU #[.int .i64 i,.pointer d,.pointer j] w R Kk ?_).2⟩<;>
  exact h
def envC:SA env where
 toEnvW:=envW
 bL:=by
  intro a p k n R w h;refine⟨(kO #[.pointer a,.agg ⟨[.int .i64 p,.int .i64 k,.bool n]⟩] w R Kk ?_).1,(kO #[.pointer a,.agg ⟨[.int .i64 p,.int .i64 k,.bool n]⟩] w R Kk ?_).2⟩<;>
  exact h
 UM:=by
  intro a p k n R w h;refine⟨(kQ #[.pointer a,.agg ⟨[.int .i64 p,.int .i64 k,.bool n]⟩] w R Kk ?_).1,(kQ #[.pointer a,.agg ⟨[.int .i64 p,.int .i64 k,.bool n]⟩] w R Kk ?_).2⟩<;>
  exact h
 nI:=by
  intro a p k n R w h;refine⟨(kR #[.pointer a,.agg ⟨[.int .i64 p,.int .i64 k,.bool n]⟩] w R Kk ?_).1,(kR #[.pointer a,.agg ⟨[.int .i64 p,.int .i64 k,.bool n]⟩] w R Kk ?_).2⟩<;>
  exact h
 bM:=by
  intro a p k n R w h;refine⟨(kT #[.pointer a,.agg ⟨[.int .i64 p,.int .i64 k,.bool n]⟩] w R Kk ?_).1,(kT #[.pointer a,.agg ⟨[.int .i64 p,.int .i64 k,.bool n]⟩] w R Kk ?_).2⟩<;>
  exact h
def envH:aI env where
 toEnvA:=AA8
 lS:=by
  intro x y p R w h;refine⟨(kU #[.int .i64 x,.int .i64 y,.pointer p] w R Kk ?_).1,(kU #[.int .i64 x,.int .i64 y,.pointer p] w R Kk ?_).2⟩<;>
  exact h
end Go.Sh
namespace Go.Proofs.YtjibkpcalinfhaaGreatDoor.centralPlays
open Go.ChangeShapes Go.WideShapes Go.ChangeAt Go.RowKit
set_option linter.unusedVariables false
set_option linter.unusedSimpArgs false
theorem own:ownKnob Tryz.prog.godebug=none:=by kernel_rfl
theorem laidOut:laidOutB Tryz.prog=true:=by kernel_rfl
theorem gTab:Tryz.prog.globalNamed "math/bits.deBruijn64tab" =some 0:=by kernel_rfl
theorem gTabType:(Tryz.prog.globals[0]?).map (·.type)=some 246:=by kernel_rfl
theorem und1:Tryz.prog.underlying 246=some (.array 64 5):=by kernel_rfl
theorem und2:Tryz.prog.underlying 5=some (.int .u8):=by kernel_rfl
theorem cells1:Tryz.prog.cellsOf 246=64:=by kernel_rfl
theorem cells2:Tryz.prog.cellsOf 5=1:=by kernel_rfl
theorem table{W:World}(h:laidMetH Tryz.prog Rows.centralPlaysRow.laid W):Go.Sh.FQ Go.Sh.env.AJ W:=by
 have j:=Lib.tabIs_of_head (rest:=[]) (k:=.u8) (zs:=Lib.deBruijn64tab.map fun n:Nat=>(n:Int)) gTab gTabType und1 und2 cells2 cells1 h;intro i d;have:=j.cell gTab i (by rw[List.length_map];exact d);rw[show(Lib.deBruijn64tab.map fun n:Nat=>(n:Int)).getD i 0=((Lib.deBruijn64tab.getD i 0:Nat):Int) by rw[List.getD_eq_getElem?_getD,List.getD_eq_getElem?_getD,List.getElem?_map];cases Lib.deBruijn64tab[i]? <;>rfl]at this;exact this
theorem walk(x:Go.Sh.XP [.cons (.sl (.int .u64)) (.cons (.sl (.bool)) (.cons (.sl (.int .u64)) (.nil))),.sl (.cons (.int .i64) (.cons (.int .i64) (.cons (.int .i64) (.cons (.int .i64) (.cons (.int .i64) (.cons (.bool) (.nil)))))))])(w:World)(h:Go.Sh.Zc w [.cons (.sl (.int .u64)) (.cons (.sl (.bool)) (.cons (.sl (.int .u64)) (.nil))),.sl (.cons (.int .i64) (.cons (.int .i64) (.cons (.int .i64) (.cons (.int .i64) (.cons (.int .i64) (.cons (.bool) (.nil)))))))] x)(d:Go.Sh.FQ Go.Sh.env.AJ w):
  Calls Tryz.prog 3 ⟨Go.Sh.SG [.cons (.sl (.int .u64)) (.cons (.sl (.bool)) (.cons (.sl (.int .u64)) (.nil))),.sl (.cons (.int .i64) (.cons (.int .i64) (.cons (.int .i64) (.cons (.int .i64) (.cons (.int .i64) (.cons (.bool) (.nil)))))))] x⟩ w fun e w'=>e= .returned (.bool true)/\Below w.heap.size w w':=by
 obtain⟨a0,a1,u⟩:=x;obtain⟨w0,w1,_⟩:=h;obtain⟨j,w1⟩:=w1;refine(Go.Sh.y8 _ w (fun v w'=>v= .bool true/\Below w.heap.size w w') Go.Sh.Kk ?_).2.mono ?_
 ·show Go.Sh.F.BD Go.Sh.env a0.1 a0.2.1 a0.2.2.1 a1 (fun r w'=>Value.bool r= .bool true/\Below w.heap.size w w') w;exact Go.Sh.O6 Go.Sh.envC Go.Sh.envH d w0.1 w0.2.1 w0.2.2.1 w1 fun w' h=>⟨rfl,h.below (Nat.le_refl _) fun _ f=>f.elim⟩
 ·intro e w' hE;obtain⟨v,rfl,rfl,h⟩:=hE.val;exact⟨rfl,h⟩
noncomputable def laidWorld(os:Os):World:=
 {World.holding Tryz.prog os ⟨#[],#[],[]⟩with heap:=(World.holding Tryz.prog os ⟨#[],#[],[]⟩).heap.modify 0 fun
   | .cells _ t frozen=>.cells ⟨Lib.deBruijn64tab.map fun n:Nat=>.int .u8 (n:Int)⟩ t frozen
   | o=>o}
theorem laid_met(os:Os):laidMet Tryz.prog Rows.centralPlaysRow.laid ((laidWorld os).forCall (fun _ _=>0) ⟨#[],#[.agg #[.slice none 0 0,.slice none 0 0,.slice none 0 0],.slice none 0 0],[]⟩).memory:=
 laidMet_of_run' 8 (by kernel_rfl) (by kernel_rfl)
theorem reads(os:Os){H:Type}(enc:TypeId×Value->H): ∃places,DataW.whole enc Tryz.prog ((laidWorld os).forCall (fun _ _=>0) ⟨#[],#[.agg #[.slice none 0 0,.slice none 0 0,.slice none 0 0],.slice none 0 0],[]⟩).memory Tryz.f3.params.toList Rows.centralPlaysSpec.vars false (#[.agg #[.slice none 0 0,.slice none 0 0,.slice none 0 0],.slice none 0 0]:Array Value).toList 8=some ([.agg [.nil,.nil,.nil],.nil],[],places):=
 ⟨[],by kernel_rfl⟩
set_option maxRecDepth 100000 in
theorem lifted(os:Os)(started:os.Started)(H:Type)(enc:TypeId×Value->H)(F:Stop.Interp):
  ReturnsInHanded {} Tryz.checked os 3 .any ((OpenSpec.ofChange Rows.centralPlaysSpec).preRow enc Tryz.prog Tryz.f3 Rows.centralPlaysRow.domain false Rows.centralPlaysRow.laid) (((OpenSpec.ofChange Rows.centralPlaysSpec).at F).post enc Tryz.prog Tryz.f3 false true false false):=by
 obtain⟨places,T⟩:=reads os enc;refine returnsInHanded_of_row (C:=Tryz.checked) (s:=OpenSpec.ofChange Rows.centralPlaysSpec) own started (by kernel_rfl) Tryz.func3
  (witness_row_at (enc:=enc) (C:=Tryz.checked) false (laidWorld os) #[.agg #[.slice none 0 0,.slice none 0 0,.slice none 0 0],.slice none 0 0] rfl (by kernel_rfl) (by kernel_rfl) (by kernel_rfl)
   (OpenSpec.preRow_of_cond 8 T (by kernel_rfl) (fun k hk=>by cases hk) (by kernel_rfl) (laid_met os))) ?_
 intro W base args J gs before y Y _ _ _ hL _ _;have O:=Y;obtain⟨p,q,K,hV,rfl,aC,aE⟩:=Y;obtain⟨rfl,rfl⟩:=trodVars_none hV;have d:=Go.Sh.cA (P:=Tryz.prog) (shs:=[.cons (.sl (.int .u64)) (.cons (.sl (.bool)) (.cons (.sl (.int .u64)) (.nil))),.sl (.cons (.int .i64) (.cons (.int .i64) (.cons (.int .i64) (.cons (.int .i64) (.cons (.int .i64) (.cons (.bool) (.nil)))))))]) (by kernel_rfl) (fun j t v ht hv=>y j t v (by simpa using ht) (by simpa using hv)) K;obtain⟨x,T,A6⟩:=Go.Sh.S4 d;obtain rfl:args=⟨Go.Sh.SG [.cons (.sl (.int .u64)) (.cons (.sl (.bool)) (.cons (.sl (.int .u64)) (.nil))),.sl (.cons (.int .i64) (.cons (.int .i64) (.cons (.int .i64) (.cons (.int .i64) (.cons (.int .i64) (.cons (.bool) (.nil)))))))] x⟩:=Array.toList_inj.1 (by simpa using T);have hlen:=Go.Sh.RB K;obtain⟨d0,d1,rfl⟩: ∃d0 d1,J=[d0,d1]:=by
  have hl:J.length=2:=hlen
  match J,hl with
  | [d0,d1],_=>exact⟨d0,d1,rfl⟩
 refine(walk x W A6 (table hL)).mono fun e W' ⟨he,bel⟩=> ?_;subst he;exact⟨_,rfl,_,_,_,[],_,[],O,trodAll_mk1 (shut_bool Tryz.underlying4 _),Go.Sh.OJ laidOut bel (by kernel_rfl) K,rfl,bel.frame _,fun h=>by cases h⟩
theorem said:Rows.CentralPlaysSaid:=
 OpenClaim.holds_of_cond 3 Tryz.f3 rfl rfl rfl rfl rfl rfl rfl ⟨rfl,rfl,rfl,rfl,rfl⟩ rfl rfl rfl rfl rfl (by kernel_rfl) Tryz.func3 (by kernel_rfl)
  (of_decide_eq_true (by kernel_rfl)) (by unfold Func.isWrapper;first|(rw[if_pos (by decide+kernel)];kernel_rfl)|(rw[if_neg (by decide+kernel)];exact⟨rfl,rfl⟩))
  (fun os started H enc _ F=>by rw[OpenClaim.pre_eq_preRow];exact lifted os started H enc F)
theorem plain(f:FuncId)(fn:Func)(hf:Tryz.pinned.checked.prog.funcNamed "mallow/mallowlaw19.CentralPlays" =some f)(v:Tryz.pinned.checked.prog.funcs[f]? =some fn):
  true=Tryz.pinned.checked.prog.looks []/\ ∀(j:Nat) t,fn.params[j]? =some t->Tryz.pinned.checked.prog.wantsStandIn t=false:=by
 obtain rfl:f=3:=Option.some.inj ((show Tryz.prog.funcNamed "mallow/mallowlaw19.CentralPlays" =some 3 by kernel_rfl).symm.trans hf)|>.symm;obtain rfl:fn=Tryz.f3:=(Option.some.inj (Tryz.func3.symm.trans v)).symm;refine⟨by kernel_rfl,fun j t y=> ?_⟩;have d:(Tryz.f3.params.toList.all fun t=> !(Tryz.prog.wantsStandIn t))=true:=by kernel_rfl
 have:=List.all_eq_true.1 d t (Array.mem_toList_iff.2 (Array.mem_of_getElem? y));exact Bool.not_eq_true' _▸this
theorem proved:Rows.CentralPlaysCardSaid:=
 Claim7.holds_tied_plain_at .later [] _ _ _ _ said (fun _ h=>by cases h) (by kernel_rfl) (fun _ h=>by cases h) centralPlays_row_tie rfl ⟨rfl,rfl⟩ (by kernel_rfl) rfl plain (by kernel_rfl)
#print axioms proved
end Go.Proofs.YtjibkpcalinfhaaGreatDoor.centralPlays

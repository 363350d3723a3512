/- What the law's functions do. No further condition. -/
import Derived.Test.YtjibkpcalinfhaaGreatDoorQ
import Derived.Test.YtjibkpcalinfhaaGreatDoorJ
import Derived.Test.YtjibkpcalinfhaaGreatDoorH
import Derived.Test.YtjibkpcalinfhaaGreatDoorL
import Derived.Test.YtjibkpcalinfhaaGreatDoorA
import Derived.Test.YtjibkpcalinfhaaGreatDoorK
import Derived.Test.YtjibkpcalinfhaaGreatDoorM
import Derived.Test.YtjibkpcalinfhaaGreatDoorF
set_option linter.all false
set_option maxRecDepth 50000
set_option maxHeartbeats 8000000
namespace Go.Sh
def el(l:List Int)(i:Int):Int:=if i<0 then 0 else l.getD i.toNat 0
def sw(l:List Int)(i j:Int):List Int:=(l.set j.toNat (el l i)).set i.toNat (el l j)
def SO(E:Env)(s:AX)(Z:List Pr)(l0 l:List Int)(w:World):Prop:=l.Perm l0/\Sat (Row E.CO 1 s (ints .i64 l)::Z) w
def wC(E:Env)(cmp:Value)(s:AX)(Z:List Pr)(key:Int->Int)(l0:List Int):Prop:= ∀x y l w (R:Value->World->Prop),x∈l0->y∈l0->SO E s Z l0 l w->(∀r w',(r<0↔key x<key y)->SO E s Z l0 l w'->R (.int .i64 r) w')->DYN E.call cmp #[.int .i64 x,.int .i64 y] w R
section
variable{E:Env}{cmp:Value}{s:AX}{Z:List Pr}{key:Int->Int}{l0 l:List Int}{w:World}
variable(hC:wC E cmp s Z key l0)(hsm:s.len<1099511627776)
include hC hsm
end
section
variable{E:Env}{cmp:Value}{s:AX}{Z:List Pr}{key:Int->Int}{l0 l:List Int}{w:World}
variable(hC:wC E cmp s Z key l0)(hsm:s.len<1099511627776)
include hC hsm
end
section
variable{E:Env}{cmp:Value}{s:AX}{Z:List Pr}{key:Int->Int}{l0 l:List Int}{w:World}
section
variable(hC:wC E cmp s Z key l0)(hsm:s.len<1099511627776)
include hC hsm
end
end
section
variable{E:Env}{w:World}{Z:List Pr}{h:Nat}{S:HS}(hE:aI E)
include hE
end
section
variable{E:Env}{w:World}(hE:aI E)
include hE
end
section
variable{E:Env}{h r:Nat}{S S':HS}{um um':eB}{g:RG}{Z:List Pr}{w:World}
def bJ{id:Int}:KO um id (um id).1 (um id).2=um:=by
 funext j;unfold KO;by_cases c:j=id
 .rw[if_pos c,c]
 .rw[if_neg c]
def Sat.sH{id:Int}{x:Nat×SI}{I:SI}{um:eB}(H:Sat (LA E r S um::Z) w)(d:S.sp id=some x)(he:I.rs=x.2.rs):Sat (LA E r (S.put id (x.1,I)) um::Z) w:=by
 refine H.nD rfl rfl rfl rfl rfl (λj=> ?_) λ_ _=>rfl;show Option.map _ (if j=id then some (x.1,I)else S.sp j)=_
 grind
variable(hE:aI E)
include hE
end
def GZ(h s r:Nat)(em:AX)(W:SW):List Value:=[.pointer (some ⟨h,0,none⟩),.pointer (some ⟨s,0,none⟩),.pointer (some ⟨r,0,none⟩),FJ em,.int .u64 W.aU,.int .u64 W.MY,.int .u64 W.KU,.int .u64 W.Mm]
def UJ(U M:BI):eB:=λid=>(U id,M id)
def GP(E:Env)(b h s r:Nat)(W:SW)(em:AX):List Pr:=[Gj E s W.L,Cells b E.BS (GZ h s r em W),Gz E r W.R,Row E.AN 3 em (Ao Jf W.em)]
def Kh(E:Env)(b h s r:Nat)(W:SW)(U M:BI):Pr:=Ex λem:AX=>Lo (LA E h W.S (UJ U M)::GP E b h s r W em)
section
variable{E:Env}{b h s r:Nat}{W:SW}{U M:BI}{Z:List Pr}{w:World}
def Sat.Re:Sat (Kh E b h s r W U M::Z) w↔ ∃em,Sat (LA E h W.S (UJ U M)::(GP E b h s r W em++Z)) w:=by
 unfold Kh;rw[Sat.ex];constructor
 .rintro⟨em,h⟩;rw[Sat.star]at h
  grind
 .rintro⟨em,h⟩;refine⟨em,?_⟩;rw[Sat.star];exact h
def Sat.AA2{P Q:Pr}{R Y:List Pr}:Sat (P::(R++Q::Y)) w↔Sat (Q::P::(R++Y)) w:=
 ⟨λh=>h.perm (((List.perm_middle (l₁:=R)).cons _).trans (List.Perm.swap _ _ _)),λh=>h.perm ((List.Perm.swap _ _ _).trans ((List.perm_middle (l₁:=R)).symm.cons _))⟩
def eD{id:Int}{u m:Nat->Bool}:KO (UJ U M) id u m=UJ (U.set id u) (M.set id m):=by
 funext j;unfold KO UJ BI.set
 grind
def UK(H:Sat (Kh E b h s r W U M::Z) w)(hI:Bm W U M){id:Int}{sw:Bool}(GR:Nat)(hf:W.L.length<1099511627776){K:Int->World->Prop}
  (aA:W.S.sp id=none-> ∀w',Sat (Kh E b h s r W U M::Z) w'->K 35 w')(aB:W.S.sp id≠none->(∃x∈W.L,x.id=id)-> ∀w',Sat (Kh E b h s r W U M::Z) w'->K 34 w')
  (aC: ∀x,W.S.sp id=some x->(∀y∈W.L,y.id≠id)-> ∀w',Sat (Kh E b h s r {W with L:=IC W.L ⟨GR,id,x.2.base,(x.2.cls,x.2.Fv,x.2.used==x.2.AK,sw)⟩} U M::Z) w'->K 0 w'):
  F.BO E (some ⟨b,0,none⟩) id sw K w:=by
 unfold F.BO T0.BO;obtain⟨em,H1⟩:=Sat.Re.1 H;obtain⟨g,C,H2⟩:=Sat.HU.1 H1;refine AH ⟨some ⟨h,0,none⟩,(H1.front 2 rfl).Af rfl,Rb H2 C (C.KV hI.hI) (λhs=>AR rfl (aA hs w H)) λi q hi=>AP rfl (AH ?_)⟩;obtain⟨x,v⟩: ∃x,W.S.sp id=some x:=Option.ne_none_iff_exists'.1 ((C.mem id).1 (List.mem_map.2 ⟨(id,q),List.mem_of_getElem? hi,rfl⟩));obtain⟨A6,hg⟩:=hI.sp id x v;obtain⟨R,H3,b3⟩:=VU H2 C hi v;have rd:=λ{w':World} {Y:List Pr} {u m:Nat->Bool} (T:Sat (A2 E q x.2 u m::Y) w')=>show w'.cell? (Addr.mk q 0 none)=some (.int .u64 (x.2.base/8192))/\w'.cell? ((Addr.mk q 0 none).add 2)=some (.int .i64 x.2.state)/\w'.cell? ((Addr.mk q 0 none).add 3)=some (.int .i64 x.2.cls)/\w'.cell? ((Addr.mk q 0 none).add 4)=some (.bool x.2.Fv)/\w'.cell? ((Addr.mk q 0 none).add 6)=some (.int .i64 x.2.AK) by
  obtain⟨ul,ml,s1,s2,lk,_,h2⟩:=Sat.Gk.1 T;exact⟨h2.Af rfl,h2.cell rfl,h2.cell rfl,h2.cell rfl,h2.cell rfl⟩
 have aT:=A6.st;have aP:=A6.ba;have aS:=A6.pg.1;have O:=H3.drew;have c:=rd O;have j:=(H1.front 2 rfl).drew;refine⟨_,(rd H3).2.1,AP (by grind) (AH ⟨some ⟨s,0,none⟩,j.cell rfl,AH ⟨_,c.1,AH ⟨_,c.2.2.1,AH ⟨_,c.2.2.2.1,AH ⟨_,c.2.2.2.2,ID O ⟨c.2.2.2.2,c.2.2.2.1,c.2.2.1,c.1,j.cell rfl,?_⟩⟩⟩⟩⟩⟩)⟩;have hc:=hg.cnt;rw[AM (n:=x.2.base/8192*8192),show x.2.base/8192*8192=x.2.base by omega,show((cN (UJ U M id).1 x.2.AK.toNat:Nat):Int)=x.2.used from hc.symm];have H6:=Sat.AA2.1 O;have aK:=(hI.hI.sp id x v).1;have aI:=A6.cls;have fin: ∀{L':List DF} {w':World},Sat (Gj E s L'::A2 E q x.2 (UJ U M id).1 (UJ U M id).2::(R++(Cells b E.BS (GZ h s r em W)::Gz E r W.R::Row E.AN 3 em (Ao Jf W.em)::Z))) w'->Sat (Kh E b h s r {W with L:=L'} U M::Z) w':=λ{L' w'} T=>by
  have h2:=b3 (Y:=Gj E s L'::Cells b E.BS (GZ h s r em W)::Gz E r W.R::Row E.AN 3 em (Ao Jf W.em)::Z) (Sat.AA2.2 T);rw[bJ]at h2;exact Sat.Re.2 ⟨em,h2⟩
 refine aO H6 ⟨GR,id,x.2.base,(x.2.cls,x.2.Fv,x.2.used==x.2.AK,sw)⟩ hf (λhb=> ?_) (λ_ hex w' d=> ?_) λ_ aD w' d=> ?_
 .unfold Mk at hb;grind
 .have c:=rd (d.front 1 rfl);refine⟨c.2.2.2.2,c.2.2.2.1,c.2.2.1,c.1,aB (by grind) ?_ w' (fin d)⟩;obtain⟨y,J,e⟩:=hex;refine⟨y,J,?_⟩;rcases e with e|e
  .exact e
  .obtain⟨z,aE,aF⟩:=hI.it y J;exact YY hI.hI aE v (by rw[aF,e])
 .have c:=rd (d.front 1 rfl);exact⟨c.2.2.2.2,c.2.2.2.1,c.2.2.1,c.1,aC x v (λy J=>(aD y J).1) w' (fin d)⟩
def Rf(H:Sat (Kh E b h s r W U M::Z) w)(C:KJ W.L){K:Int->Bool->World->Prop}(j:(∀x∈W.L,x.D0=true)-> ∀w',Sat (Kh E b h s r W U M::Z) w'->K 0 false w')
  (v: ∀x,WJ W.L x-> ∀w',Sat (Kh E b h s r {W with L:=Fk W.L x.id} U M::Z) w'->K x.id true w'):F.Ba E (some ⟨b,0,none⟩) K w:=by
 unfold F.Ba T0.Ba;obtain⟨em,H1⟩:=Sat.Re.1 H;have y:=λ{w':World} {L':List DF} (Y:Sat (Gj E s L'::LA E h W.S (UJ U M)::Cells b E.BS (GZ h s r em W)::Gz E r W.R::Row E.AN 3 em (Ao Jf W.em)::Z) w')=>show Sat (Kh E b h s r {W with L:=L'} U M::Z) w' from Sat.Re.2 ⟨em,Y.front 1 rfl⟩
 refine AH ⟨some ⟨s,0,none⟩,(H1.front 2 rfl).cell rfl,WM (H1.front 1 rfl) C (λhs O d=>AP rfl (j hs O (y d))) λx J O d=>AR rfl (AH ⟨some ⟨s,0,none⟩,(d.front 2 rfl).cell rfl,?_⟩)⟩;exact aP d C (λhn=>absurd rfl (hn x J.1)) λ_ _ _ w9 T=>v x J w9 (y T)
end
section
variable{E:Env}{q:Nat}{S:SI}{U M:Nat->Bool}{Z:List Pr}{w:World}
def Nf(H:Sat (A2 E q S U M::Z) w){n:Nat}{K:Bool->World->Prop}(d:K (U n) w):F.Ax E (some ⟨q,0,none⟩) n K w:=by
 obtain⟨ul,ml,s1,s2,j,hI,H⟩:=Sat.Gk.1 H;rw[hI.u]at d;unfold F.Ax T0.Ax;exact AH ⟨s1,H.cell rfl,Nc (H.front 1 rfl) d⟩
def OS(H:Sat (A2 E q S U M::Z) w){n:Nat}{K:Bool->World->Prop}(d:K (M n) w):F.BN E (some ⟨q,0,none⟩) n K w:=by
 obtain⟨ul,ml,s1,s2,j,hI,H⟩:=Sat.Gk.1 H;rw[hI.m]at d;unfold F.BN T0.BN;exact AH ⟨s2,H.cell rfl,Nc (H.front 2 rfl) d⟩
def Ng(H:Sat (A2 E q S U M::Z) w)(C:S.state=1){n:Nat}(hn:(n:Int)<S.AK){K:Int->World->Prop}(T: ∀w',Sat (A2 E q S U (λi=>M i||i==n)::Z) w'->K 0 w'):F.BC E (some ⟨q,0,none⟩) n K w:=by
 obtain⟨ul,ml,s1,s2,Y,hI,H⟩:=Sat.Gk.1 H;have O:=hI.Ju;unfold F.BC T0.BC;refine AH ⟨S.state,H.cell rfl,AP (by rw[C];rfl) (AU (AP (by simp) (AH ⟨S.AK,H.cell rfl,λj=>AP (decide_eq_false (by omega)) (AH ⟨s2,H.cell rfl,?_⟩)⟩)))⟩;refine QE (H.front 2 rfl) (by omega) λs' l' aA y hlen d=>AH ?_;refine Ab (d.front 1 rfl) (o:=0) (m:=8) rfl (by simp[GM]) λJ v=>T J (Sat.Gk.2 ⟨ul,l',s1,s',Y,⟨hI.u,λi=> ?_,hI.lu,?_,hI.Ju,hI.lk0,hI.lk1⟩,(v.EM 1 rfl)⟩)
 .rw[y i,hI.m];by_cases e:i=n
  .rw[if_pos e,e];simp
  .rw[if_neg e];simp[e]
 .have:=hI.lm;omega
def Yu(H:Sat (A2 E q S U M::Z) w)(O:0<=S.base/\S.base %8192=0){n:Nat}(T:(n:Int)<S.AK)(he:0<=S.elem/\S.elem<9223372036854775808)(Y:S.base+n*S.elem<18446744073709551616){K:Int->Int->World->Prop}
  (J:K (S.base+n*S.elem) 0 w.drew):F.Cc E (some ⟨q,0,none⟩) n K w:=by
 have C:=H.drew;obtain⟨ul,ml,s1,s2,lk,hI,H1⟩:=Sat.Gk.1 H;obtain⟨_,_,_,_,_,_,v⟩:=Sat.Gk.1 C;have y:=hI.Ju;have d:0<=(n:Int)*S.elem:=Int.mul_nonneg (by omega) he.1;unfold F.Cc;refine AU (AP (by simp) (AH ⟨S.AK,H1.cell rfl,λj=>AP (decide_eq_false (by omega)) (AH ⟨S.base/8192,v.Af rfl,AH ⟨S.elem,v.cell rfl,?_⟩⟩)⟩));have e:u64 (u64 (S.base/8192*8192)+u64 (u64 (n:Int)*u64 S.elem))=S.base+n*S.elem:=by
  rw[AM (n:=S.base/8192*8192),AM (n:=(n:Int)),AM (n:=S.elem),AM (n:=(n:Int)*S.elem) d (by omega),AM];omega
 unfold HX
 try dsimp only
 rw[e];exact J
def Yv(H:Sat (A2 E q S U M::Z) w)(j:0<=S.base/\S.base %8192=0){n:Nat}(v:(n:Int)<S.AK)(he:0<=S.elem/\S.elem<9223372036854775808)(y:S.base+n*S.elem<18446744073709551616){K:Int->Int->World->Prop}
  (d: ∀w',Sat (A2 E q S U M::Z) w'->K (S.base+n*S.elem) 0 w'):F.Cc E (some ⟨q,0,none⟩) n K w:=Yu H j v he y (d _ H.drew)
def Wo(H:Sat (A2 E q S U M::Z) w)(he:0<S.elem)(Y:S.elem<=2199023255552)(hs:0<=S.AK/\S.AK<=1048576)(hb:0<=S.base/\S.base<=281474976710656/\S.base %8192=0){a:Int}(ha:0<=a/\a<18446744073709551616){K:Int->Int->World->Prop}
  (d: ¬(S.base<=a/\a<S.base+S.AK*S.elem)-> ∀w',Sat (A2 E q S U M::Z) w'->K 0 10 w')(J:S.base<=a->a<S.base+S.AK*S.elem-> ∀w',Sat (A2 E q S U M::Z) w'->K ((a-S.base)/S.elem) 0 w'):
  F.FW E (some ⟨q,0,none⟩) a K w:=by
 have v:=H.drew;obtain⟨ul,ml,s1,s2,lk,hI,H1⟩:=Sat.Gk.1 H;obtain⟨_,_,_,_,_,_,y⟩:=Sat.Gk.1 v;unfold F.FW;have T:u64 (S.base/8192*8192)=S.base:=by rw[AM];omega
 have C:u64 S.elem=S.elem:=AM;have es:u64 S.AK=S.AK:=AM;refine AH ⟨S.base/8192,H1.Af rfl,AU ?_⟩;rw[T];refine AB (λg j=>AR rfl (d (by omega) _ v)) λg=>AH ⟨S.elem,y.cell rfl,by rw[C];omega,AH ⟨S.AK,y.cell rfl,λj=> ?_⟩⟩;have O:u64 (Int.tdiv (u64 (a-S.base)) (u64 S.elem))=(a-S.base)/S.elem:=by
  rw[C,AM (n:=a-S.base),Int.tdiv_eq_ediv_of_nonneg (by omega)];have h1:(a-S.base)/S.elem<=a-S.base:=Int.ediv_le_self _ (by omega);have h2:0<=(a-S.base)/S.elem:=Int.ediv_nonneg (by omega) (by omega);exact AM
 rw[O,es];refine AB (λh=>d (λc=> ?_) _ v) λh=>AH ⟨S.elem,y.cell rfl,by rw[C];omega,?_⟩
 .have:(a-S.base)/S.elem<S.AK:=Int.ediv_lt_of_lt_mul he (by omega);omega
 .have h2:0<=(a-S.base)/S.elem:=Int.ediv_nonneg (by omega) (by omega);unfold HX;rw[O,AF (n:=(a-S.base)/S.elem)];refine J (by omega) ?_ _ v;have:=(Int.ediv_lt_iff_lt_mul he).1 (show(a-S.base)/S.elem<S.AK by omega);omega
end
section
variable{E:Env}{b h s r:Nat}{W:SW}{U M:BI}{Z:List Pr}{w:World}
def UL(H:Sat (LA E h W.S (UJ U M)::Z) w)(hI:Bv W.S no){id:Int}{K:Option Addr->World->Prop}(j:W.S.sp id=none->K none w)
  (v: ∀(x:Nat×SI) (q:Nat) (R:List Pr),W.S.sp id=some x->Sat (A2 E q x.2 (U id) (M id)::(R++Z)) w->(∀{Y:List Pr} {u m:Nat->Bool} {w'},Sat (A2 E q x.2 u m::(R++Y)) w'->Sat (LA E h W.S (UJ (U.set id u) (M.set id m))::Y) w')->K (some ⟨q,0,none⟩) w):
  F.Am E (some ⟨h,0,none⟩) id K w:=by
 obtain⟨g,d,y⟩:=Sat.HU.1 H;refine Rb y d (d.KV hI) j λi q C=> ?_;obtain⟨x,J⟩: ∃x,W.S.sp id=some x:=Option.ne_none_iff_exists'.1 ((d.mem id).1 (List.mem_map.2 ⟨(id,q),List.mem_of_getElem? C,rfl⟩));obtain⟨R,O,T⟩:=VU y d C J;refine v x q R J O λ{Y u m w'} h'=> ?_;have:=T h';rwa[eD]at this
def BI.iE{S:HS}{d:List Int}{i:Nat}{a:Int}(v:d[i]? =some a)(y:mkOf S a=none):M.mark S (d.take (i+1))=M.mark S (d.take i):=by
 funext j k;unfold BI.mark;rw[Et v,List.any_append];simp[y]
def BI.nF{S:HS}{d:List Int}{i n:Nat}{a id:Int}(v:d[i]? =some a)(hm:mkOf S a=some (id,n)):M.mark S (d.take (i+1))=(M.mark S (d.take i)).set id λk=>M.mark S (d.take i) id k||k==n:=by
 funext j k;have e:M.mark S (d.take (i+1)) j k=(M.mark S (d.take i) j k||decide (mkOf S a=some (j,k))):=by
  unfold BI.mark;rw[Et v,List.any_append,<-Bool.or_assoc];simp only[List.any_cons,List.any_nil,Bool.or_false]
 rw[e,hm];unfold BI.set;by_cases c:j=id
 .subst c;rw[if_pos rfl];congr 1;rw[Bool.eq_iff_iff,decide_eq_true_eq,beq_iff_eq,Option.some.injEq,Prod.mk.injEq];exact⟨λh=>h.2.symm,λh=>⟨rfl,h.symm⟩⟩
 .rw[if_neg c,decide_eq_false (λh=>c (by cases h;rfl)),Bool.or_false]
def Rh(H:Sat (Kh E b h s r W U M::Z) w)(hI:Bm W U M)(hk:KQ W.S)(hL:KJ W.L){a1:AX}{d:List Int}(hA: ∀w',Sat Z w'->rowAt w' a1.base a1.len (ints .u64 d))(hl:d.length=a1.len)(a7:a1.len<=1099511627776)(has: ∀a∈d,0<=a/\a<18446744073709551616)
  {K:Int->World->Prop}(aP:0<K0 W.L false->K 33 w)(aO:(∀x∈W.L,x.D0=true)-> ∀w',Sat (Kh E b h s r {W with L:=Hi W.L} U (M.mark W.S d)::Z) w'->K 0 w'):
  F.A3 E (some ⟨b,0,none⟩) a1 K w:=by
 unfold F.A3 T0.A3;obtain⟨em,H1⟩:=Sat.Re.1 H;refine AH ⟨some ⟨s,0,none⟩,(H1.front 2 rfl).cell rfl,MV (H1.front 1 rfl) hL.KV (AB (λg=>aP (by omega)) λg=> ?_)⟩;have e0:M.mark W.S (d.take 0)=M:=by funext i k;simp[BI.mark]
 refine AI (λst w'=> ∃i:Nat,st.1=(i:Int)/\i<=d.length/\Sat (LA E h W.S (UJ U (M.mark W.S (d.take i)))::(GP E b h s r W em++Z)) w') (λst _=>((d.length:Int)-st.1).toNat) ⟨0,rfl,Nat.zero_le _,by rw[e0];exact H1⟩ ?_;rintro⟨i',u⟩ _ w6 ⟨i,hi,a6,H6⟩;dsimp only at hi⊢;subst hi;have Hz: ∀{P:Pr} {w':World},Sat (P::(GP E b h s r W em++Z)) w'->Sat Z w':=λy=>y.tail.tail.tail.tail.tail;have Hp: ∀{P:Pr} {w':World},Sat (P::(GP E b h s r W em++Z)) w'->w'.cell? (Addr.mk b 0 none)=some (.pointer (some ⟨h,0,none⟩)):=λy=>(y.front 2 rfl).Af rfl;refine AB (λa8=> ?_) λa5=> ?_
 .obtain⟨a,T⟩: ∃a,d[i]? =some a:=⟨_,List.getElem?_eq_getElem (by omega)⟩;have C:=has a (List.mem_of_getElem? T);have ra: ∀{w'},Sat Z w'-> ∃q,a1.base=some q/\w'.cell? (q.add (Int.toNat (i:Int)*1))=some (.int .u64 a):=λ{w'} y=>by
   have hr:=hA w' y;cases hb1:a1.base with
   | none=>rw[hb1]at hr;have:ints .u64 d=[]:=hr;simp[ints]at this;subst this;simp at T
   | some q=>rw[hb1]at hr;exact⟨q,rfl,by rw[Int.toNat_natCast,Nat.mul_one];exact hr.2 i _ (JL T)⟩
  have Hd:=H6.drew;obtain⟨q,hq,aR⟩:=ra (Hz Hd);rw[hq];rw[AF (n:=(i:Int)+1)];have skip:mkOf W.S a=none-> ∀w',Sat (LA E h W.S (UJ U (M.mark W.S (d.take i)))::(GP E b h s r W em++Z)) w'->(∃j:Nat,(i:Int)+1=(j:Int)/\j<=d.length/\Sat (LA E h W.S (UJ U (M.mark W.S (d.take j)))::(GP E b h s r W em++Z)) w')/\((d.length:Int)-((i:Int)+1)).toNat<((d.length:Int)-(i:Int)).toNat:=
   λJ w' y=>⟨⟨i+1,by omega,by omega,by rw[BI.iE T J];exact y⟩,by omega⟩
  refine AH ⟨some ⟨h,0,none⟩,Hp Hd,AH ⟨some ⟨h,0,none⟩,Hp Hd,AH ⟨⟨by omega,by omega⟩,a,aR,iB Hd hI.hI hk C.1 C.2 λaU v=>⟨Hp v,?_⟩⟩⟩⟩;refine UL v hI.hI (λJ=>AR rfl (skip ?_ aU v)) λx p R hx aJ O=>AP rfl (AH ?_)
  .unfold mkOf;rw[J]
  .obtain⟨q',aB,aD⟩:=ra (Hz v);rw[hq]at aB;cases aB;obtain⟨A6,hg⟩:=hI.sp _ x hx;have aE:=A6.size;have a4:=A6.ba;have a9:=A6.pg;refine⟨⟨by omega,by omega⟩,a,aD,Wo aJ aE.1 (by omega) (by omega) (by omega) C (λY w' H'=>AP rfl (skip ?_ w' ?_)) λh1 h2 w' H'=>AR rfl ?_⟩
   .unfold mkOf;rw[hx];simp only;rw[if_neg Y]
   .have:=O H';rwa[BI.L4,BI.L4]at this
   .have aQ:0<=(a-x.2.base)/x.2.elem:=Int.ediv_nonneg (by omega) (by omega);have aC:(a-x.2.base)/x.2.elem<x.2.AK:=Int.ediv_lt_of_lt_mul aE.1 (by omega);obtain⟨n,J⟩:=Int.eq_ofNat_of_zero_le aQ;rw[J]at aC⊢;refine Ng H' A6.st aC λbA aK=>⟨⟨i+1,by omega,by omega,?_⟩,by omega⟩;have:=O aK;rw[BI.L4]at this;rw[BI.nF T (id:=W.S.own (a/8192)) (n:=n)]
    .exact this
    .unfold mkOf;rw[hx];simp only;rw[if_pos ⟨h1,h2⟩,J,Int.toNat_natCast]
 .have aN:i=d.length:=by omega
  rw[aN,List.take_length]at H6;refine AH ⟨some ⟨s,0,none⟩,(H6.front 2 rfl).cell rfl,YN (H6.front 1 rfl) hL.KV (λaA=>absurd aA (by omega)) λaS aV aL=>aO aS aV (Sat.Re.2 ⟨em,aL.front 1 rfl⟩)⟩
end
section
variable{E:Env}{b h s r:Nat}{W:SW}{U M:BI}{Z:List Pr}{w:World}
def KY(E:Env)(b h s r:Nat)(W:SW)(em:AX)(R e:List Rc)(Z:List Pr):List Pr:=Gj E s W.L::Cells b E.BS (GZ h s r em W)::Gz E r R::Row E.AN 3 em (Ao Jf e)::Z
def eE{α:Type}(X S C P T:α)(R Z:List α):(X::(R++S::C::P::T::Z)).Perm (P::T::C::X::(R++S::Z)):=by
 classical
 exact List.perm_iff_count.2 λa=>by grind
def bK{q:Nat}{x:Nat×SI}{R:List Pr}{em:AX}(A6:Ry x.2){u m:Nat->Bool}(bX:W.em.length+W.R.length<=1099511627776)(H:Sat (A2 E q x.2 u m::(R++KY E b h s r W em W.R W.em Z)) w){K:World->Prop}{J:Int×Unit->(Int×Unit->World->Prop)->World->Prop}
  (aG: ∀(k:Nat) (next:Int×Unit->World->Prop) w',J ((k:Int),()) next w'=(
       F.Ax E (some ⟨q,0,none⟩) k (λbP aZ=>
       CND (!bP) (
        next (i64 ((k:Int)+1),()) aZ
       ) (
        F.BN E (some ⟨q,0,none⟩) k (λbQ a0=>
        CND (bQ) (
         next (i64 ((k:Int)+1),()) a0
        ) (
         F.Cc E (some ⟨q,0,none⟩) k (λaI b1 aJ=>
         NC (some ⟨b,0,none⟩) λbJ=>
         ∃a7:(Option Addr),aJ.cell? (bJ.add 2)=some (.pointer a7)/\
         F.Av E a7 aI 1 (λbR bS d=>
         CND ((bS:Int)==0) (
          NC (some ⟨b,0,none⟩) λbL=>
          ∃aC:AX,d.cell? (bL.add 3)=some (.slice aC.base aC.len aC.cap)/\
          AL (.cells ⟨[.int .u64 aI,.int .i64 1,.int .u64 bR]⟩ E.AN) d λaQ a1=>
          APP E.AN 3 24 #[.int .u64 0,.int .i64 0,.int .u64 0] aC ⟨(some (Addr.mk aQ 0 none)),1,1⟩ a1 λZJ a2=>
          NC (some ⟨b,0,none⟩) λbM=>
          stCells (bM.add 3) 0 [.slice ZJ.base ZJ.len ZJ.cap] a2 λaK=>
          F.BC E (some ⟨q,0,none⟩) k (λb3 a3=>
          next (i64 ((k:Int)+1),()) a3
          ) aK
         ) (
          NC (some ⟨b,0,none⟩) λaY=>
          ∃j:AX,d.drew.cell? (aY.add 3)=some (.slice j.base j.len j.cap)/\
          NC (some ⟨b,0,none⟩) λbN=>
          ∃a8:(Option Addr),d.drew.cell? (bN.add 2)=some (.pointer a8)/\
          F.BQ E a8 aI (λbT aL=>
          aL.cell? (aY.add 3)=some (.slice j.base j.len j.cap)/\
          APP E.AN 3 24 #[.int .u64 0,.int .i64 0,.int .u64 0] j bT aL λZF a4=>
          NC (some ⟨b,0,none⟩) λbO=>
          stCells (bO.add 3) 0 [.slice ZF.base ZF.len ZF.cap] a4 λa5=>
          next (i64 ((k:Int)+1),()) a5
          ) d.drew
         )
         ) aJ
         ) a0
        )
        ) aZ
       )
       ) w'))
  (hK: ∀em' w',Sat (A2 E q x.2 u (LW u x.2.base x.2.elem x.2.AK.toNat ⟨W.R,m,W.em⟩).m::(R++KY E b h s r W em' (LW u x.2.base x.2.elem x.2.AK.toNat ⟨W.R,m,W.em⟩).R (LW u x.2.base x.2.elem x.2.AK.toNat ⟨W.R,m,W.em⟩).em Z)) w'->K w'):
  Az (Int×Unit) (0,()) w λFT _ O aB=>
   NC (some ⟨q,0,none⟩) λbI=> ∃a6:Int,O.cell? (bI.add 6)=some (.int .i64 a6)/\CND (decide ((FT.1:Int)<a6)) (J FT aB O) (K O):=by
 have bF:=A6.size;have aS:=A6.ba;have b0:=A6.pg
 let tk:Nat->aW:=λk=>LW u x.2.base x.2.elem k ⟨W.R,m,W.em⟩
 refine AI (λst w'=> ∃(k:Nat) (em:AX),st.1=(k:Int)/\k<=x.2.AK.toNat/\Sat (A2 E q x.2 u (tk k).m::(R++KY E b h s r W em (tk k).R (tk k).em Z)) w') (λst _=>(x.2.AK-st.1).toNat) ⟨0,em,rfl,Nat.zero_le _,H⟩ ?_;rintro⟨k',u'⟩ _ O ⟨k,em,aT,bZ,v⟩;dsimp only at aT⊢;subst aT;refine AH ⟨x.2.AK,by obtain⟨ul,ml,s1,s2,lk,_,h2⟩:=Sat.Gk.1 v;exact h2.cell rfl,AB (λaU=> ?_) λbY=> ?_⟩
 .rw[aG,AF (n:=(k:Int)+1)];have C:=N3 (u:=u) (base:=x.2.base) (elem:=x.2.elem) (t:=⟨W.R,m,W.em⟩) k;have C:(tk k).em.length+(tk k).R.length<=W.em.length+W.R.length:=C;have aH: ∀{t':aW} {em':AX} {w'},spStep u x.2.base x.2.elem k (tk k)=t'->Sat (A2 E q x.2 u t'.m::(R++KY E b h s r W em' t'.R t'.em Z)) w'->
    (∃(k1:Nat) (em:AX),(k:Int)+1=(k1:Int)/\k1<=x.2.AK.toNat/\Sat (A2 E q x.2 u (tk k1).m::(R++KY E b h s r W em (tk k1).R (tk k1).em Z)) w')/\(x.2.AK-((k:Int)+1)).toNat<(x.2.AK-(k:Int)).toNat:=λ{t' em' w'} ht hS=>by
   refine⟨⟨k+1,em',by omega,by omega,?_⟩,by omega⟩;have e:tk (k+1)=t':=ht
   grind
  have same:=λaF: ¬(u k=true/\(tk k).m k=false)=>aH (em':=em) (w':=O) (show spStep u x.2.base x.2.elem k (tk k)=tk k by unfold spStep;rw[if_neg aF]) v;refine Nf v ?_;cases hu:u k with
  | false=>exact AR rfl (same (by grind))
  | true=>
  refine AP rfl (OS v ?_);cases hm:(tk k).m k with
  | true=>exact AR rfl (same (by grind))
  | false=>
  have aE:u k=true/\(tk k).m k=false:=⟨hu,hm⟩;have h1:0<=(k:Int)*x.2.elem:=Int.mul_nonneg (by omega) (by omega);have h2:((k:Int)+1)*x.2.elem<=x.2.AK*x.2.elem:=Int.mul_le_mul_of_nonneg_right (by omega) (by omega);have h3:((k:Int)+1)*x.2.elem=k*x.2.elem+x.2.elem:=by grind
  have h4:=bF.2.2.2.2;rw[Int.mul_comm x.2.elem]at h4;refine AP rfl (Yv v ⟨aS.1,aS.2.1⟩ aU ⟨by omega,by omega⟩ (by omega) λaJ a9=> ?_);have P1: ∀{em':AX} {R' e':List Rc} {m':Nat->Bool} {w'},Sat (A2 E q x.2 u m'::(R++KY E b h s r W em' R' e' Z)) w'-> ∃Y,Sat (Gz E r R'::Row E.AN 3 em' (Ao Jf e')::Cells b E.BS (GZ h s r em' W)::Y) w'/\
    ∀{em'' R'' e'' w''},Sat (Gz E r R''::Row E.AN 3 em'' (Ao Jf e'')::Cells b E.BS (GZ h s r em'' W)::Y) w''->Sat (A2 E q x.2 u m'::(R++KY E b h s r W em'' R'' e'' Z)) w'':=λ{em' R' e' m' w'} h'=>by
   refine⟨A2 E q x.2 u m'::(R++Gj E s W.L::Z),?_,λ{em'' R'' e'' w''} h''=> ?_⟩
   .refine h'.perm ?_;unfold KY;exact eE _ _ _ _ _ _ _
   .refine h''.perm ?_;unfold KY;exact(eE _ _ _ _ _ _ _).symm
  obtain⟨Y,aD,aP⟩:=P1 a9;refine AH ⟨some ⟨r,0,none⟩,(aD.front 2 rfl).cell rfl,OP aD (λaF d T=>AP rfl (AH ?_)) λA y B hR bG bH d T=>AR rfl (AH ?_)⟩
  .have Hd:=T.drew;refine⟨em,(Hd.front 2 rfl).cell rfl,AH ⟨some ⟨r,0,none⟩,(Hd.front 2 rfl).cell rfl,YU Hd λxV aL aA=>⟨(aA.front 3 rfl).cell rfl,?_⟩⟩⟩;have l1:=RP aA;have l2:=RP (aA.front 2 rfl);have l3:=aX (tk k).R (x.2.base+k*x.2.elem);refine QB (aA.front 2 rfl) rfl (HE LR _) (by omega) (by omega) λZF a4 aO=>AH ?_;rw[<-FR]at aO;refine Ab (aO.front 3 rfl) (o:=0) (m:=3) rfl (by simp[GZ]) λa5 bD=>aH (t':=⟨Ou (tk k).R (x.2.base+k*x.2.elem),(tk k).m,(tk k).em++O8 (tk k).R (x.2.base+k*x.2.elem)⟩) (em':=ZF) ?_ (aP ?_)
   .unfold spStep;rw[if_pos aE,rcN aF]
   .exact((((bD.front 2 rfl).tail).front 1 rfl).front 2 rfl)
  .refine⟨em,(T.front 2 rfl).cell rfl,AO (vs:=[.int .u64 (x.2.base+k*x.2.elem),.int .i64 1,.int .u64 y.data]) T λaQ a1 aM _=> ?_⟩;have l2:=RP (aM.front 2 rfl);refine Er (news:=Jf ⟨0,x.2.base+k*x.2.elem,1,y.data⟩) (aM.EM 1 rfl) rfl rfl (LR _) (by omega) (by omega) λZJ a2 aN _=>AH ?_;have e:Ao Jf (tk k).em++Jf ⟨0,x.2.base+k*x.2.elem,1,y.data⟩=Ao Jf ((tk k).em++[⟨0,x.2.base+k*x.2.elem,1,y.data⟩]):=by rw[FR];simp[Ao]
   rw[e]at aN;have aR:=(Sat.WR.1 aD).1;refine Ab (aN.front 2 rfl) (o:=0) (m:=3) rfl (by simp[GZ]) λaK bA=> ?_;have bB:Sat (A2 E q x.2 u (tk k).m::(R++KY E b h s r W ZJ (A++B) ((tk k).em++[(⟨0,x.2.base+k*x.2.elem,1,y.data⟩:Rc)]) Z)) aK:=aP ((bA.front 1 rfl).front 2 rfl);refine Ng bB A6.st aU λa3 bC=>aH (t':=⟨A++B,λi=>(tk k).m i||i==k,(tk k).em++[⟨0,x.2.base+k*x.2.elem,1,y.data⟩]⟩) (em':=ZJ) ?_ bC;rw[hR]at aR;obtain⟨e1,e2⟩:=rcF aR bG bH;unfold spStep
   grind
 .have e:k=x.2.AK.toNat:=by omega
  grind
end
section
variable{E:Env}{b h s r:Nat}{W:SW}{U M:BI}{Z:List Pr}{w:World}
def nG{α:Type}(X S C:α)(R Z:List α):(X::(R++S::C::Z)).Perm (C::X::(R++S::Z)):=by
 classical
 exact List.perm_iff_count.2 λa=>by grind
def Sat.wD{S':HS}(H:Sat (Kh E b h s r W U M::Z) w)(d:S'.V=W.S.V)(j:S'.T=W.S.T)(v:S'.ca=W.S.ca)(C:S'.fx=W.S.fx)(J:S'.hint=W.S.hint)(K: ∀id,(S'.sp id).map (λy=>y.2.rs)=(W.S.sp id).map λy=>y.2.rs):Sat (Kh E b h s r {W with S:=S'} U M::Z) w:=by
 obtain⟨em,H1⟩:=Sat.Re.1 H;exact Sat.Re.2 ⟨em,H1.nD d j v C J K λ_ _=>rfl⟩
def iF{q:Nat}{x:SI}{u m:Nat->Bool}(H:Sat (A2 E q x u m::Z) w)(hs:0<=x.AK)(aI:x.AK<=1099511627776){K:World->Prop}{Kz:World->Prop}
  (hz:(∃i,m i=true/\u i=false)->Kz w)(hk:(∀i:Nat,(i:Int)<x.AK->m i=true->u i=true)->K w):
  Az (Int×Unit) (0,()) w λs7 _ v d=>
    NC (some ⟨q,0,none⟩) λaB=>
    ∃T:Int,v.cell? (aB.add 6)=some (.int .i64 T)/\
    CND (decide ((s7.1:Int)<T)) (
     Ai (Bool×Unit) (λy=>
      F.BN E (some ⟨q,0,none⟩) s7.1 (λaC O=>
      CND (aC) (
       F.Ax E (some ⟨q,0,none⟩) s7.1 (λaD aE=>
       y (!aD,()) aE
       ) O
      ) (
       y (false,()) O
      )
      ) v
     ) λJk _ J=>
      CND (Jk.1) (
       Kz J
      ) (
       d (i64 (s7.1+1),()) J
      )
    ) (K v):=by
 refine AI (λst w'=>w'=w/\ ∃i:Nat,st.1=(i:Int)/\(i:Int)<=x.AK/\ ∀j,j<i->m j=true->u j=true) (λst _=>(x.AK-st.1).toNat) ⟨rfl,0,rfl,hs,λj hj=>by omega⟩ ?_;rintro⟨i',u'⟩ _ v ⟨rfl,i,hi,aK,Y⟩;dsimp only at hi⊢;subst hi;have C:(m i=true->u i=true)->(v=v/\ ∃j:Nat,i64 ((i:Int)+1)=(j:Int)/\(j:Int)<=x.AK/\ ∀j',j'<j->m j'=true->u j'=true)/\(x.AK-i64 ((i:Int)+1)).toNat<(x.AK-(i:Int)).toNat∨ ¬(i:Int)<x.AK:=λh=>by
  by_cases g:(i:Int)<x.AK
  .rw[AF (n:=(i:Int)+1)];refine .inl ⟨⟨rfl,i+1,by omega,by omega,λj hj=> ?_⟩,by omega⟩
   grind
  omega
 refine AH ⟨x.AK,by obtain⟨ul,ml,s1,s2,lk,_,h2⟩:=Sat.Gk.1 H;exact h2.cell rfl,AB (λaL=>AU (OS H ?_)) λaJ=>hk λj hj=>Y j (by omega)⟩;cases hm:m i with
 | false=>exact AP rfl λj=>AP rfl ((C λh=>by rw[hm]at h;cases h).resolve_right (by omega))
 | true=>
  refine AR rfl (Nf H ?_);cases hu:u i with
  | false=>exact λj=>AR rfl (hz ⟨i,hm,hu⟩)
  | true=>exact λj=>AP rfl ((C λ_=>hu).resolve_right (by omega))
def KQ.put{S:HS}(h:KQ S)(id:Int)(y:Nat×SI):KQ (S.put id y):=⟨h.tv,h.vv,h.ci,h.ok,h.fx⟩
def O4(H:Sat (Kh E b h s r W U M::Z) w)(hI:Bm W U M)(hk:KQ W.S){id:Int}{C5:Bool}(hf:W.L.length<1099511627776)(bA:W.em.length+W.R.length<=1099511627776)(hL: ∀y∈W.L,y.id≠id)
  {K:Int->Bool->Int->World->Prop}(bB:W.S.sp id=none-> ∀w',Sat (Kh E b h s r W U M::Z) w'->K 0 false 35 w')
  (bD: ∀x,W.S.sp id=some x->(∃i,M id i=true/\U id i=false)-> ∀w',Sat (Kh E b h s r W U M::Z) w'->K 0 false 40 w')
  (hK: ∀x,W.S.sp id=some x->(∀i,M id i=true->U id i=true)-> ∃(n:Nat) (gone:Bool) (W':SW) (U' M':BI),R0 W U M id C5 n gone W' U' M'/\Bm W' U' M'/\ ∀w',Sat (Kh E b h s r W' U' M'::Z) w'->K n gone 0 w'):
  F.A9 E (some ⟨b,0,none⟩) id C5 K w:=by
 unfold F.A9 T0.A9;obtain⟨em,H1⟩:=Sat.Re.1 H;refine AH ⟨some ⟨h,0,none⟩,(H1.front 2 rfl).Af rfl,UL (Z:=GP E b h s r W em++Z) H1 hI.hI (λhs=>AR rfl (bB hs w H)) λx q R hx H3 b3=>AP rfl (AH ?_)⟩;obtain⟨A6,hg⟩:=hI.sp id x hx;have bY:=A6.size;have bX:=A6.pg;refine⟨x.2.state,by obtain⟨ul,ml,s1,s2,lk,_,h2⟩:=Sat.Gk.1 H3;exact h2.cell rfl,AP (by rw[A6.st];rfl) ?_⟩;refine iF H3 (by omega) (by omega) (λhz=>bD x hx hz w H) λaU=> ?_;have aT: ∀i,M id i=true->U id i=true:=λi hi=>aU i (hg.vQ i hi) hi;obtain⟨n,gone,W',U',M',hO,a5,O⟩:=hK x hx aT;refine bK (W:=W) (em:=em) A6 bA H3 (λk next w'=>rfl) λem' b6 aL=> ?_;obtain⟨x',t,uw,aW,-,ht,hn,aR,a9,v,d,C⟩:=hO;rw[hx]at aW;cases aW;rw[<-ht]at aL;have bF:=A6.st;refine We aL (by omega) (λc=>absurd bF c) (λ_ hz=> ?_) λ_ b0 jL b7 aM=> ?_
 .obtain⟨i,h1,h2⟩:=hz;have:=WV (u:=U id) (base:=x.2.base) (elem:=x.2.elem) (t:=⟨W.R,M id,W.em⟩) aT x.2.AK.toNat i (by grind)
  grind
 have hlen:jL.len=n:=by
  have:=aM.C1;unfold ints at this;rw[List.length_map,K6]at this;omega
 have Hd:=aM.tail.drew;have cb: ∀{W'':SW} {P:Pr} {aG:World},Sat (P::(R++KY E b h s r W'' em' t.R t.em Z)) aG->Sat (Cells b E.BS (GZ h s r em' W'')::P::(R++Gj E s W''.L::Gz E r t.R::Row E.AN 3 em' (Ao Jf t.em)::Z)) aG/\
   ∀{W3:SW} {w3},W3.L=W''.L->Sat (Cells b E.BS (GZ h s r em' W3)::P::(R++Gj E s W''.L::Gz E r t.R::Row E.AN 3 em' (Ao Jf t.em)::Z)) w3->Sat (P::(R++KY E b h s r W3 em' t.R t.em Z)) w3:=λ{W'' P aG} h'=>by
  refine⟨h'.perm (nG _ _ _ _ _),λ{W3 w3} e h3=> ?_⟩;unfold KY;rw[e];exact h3.perm (nG _ _ _ _ _).symm
 obtain⟨aN,a3⟩:=cb (W'':=W) Hd;have aF: ∀{u m:Nat->Bool} {Y:List Pr} {w':World},Sat (A2 E q x.2 u m::Y) w'->w'.cell? ((Addr.mk q 0 none).add 6)=some (.int .i64 x.2.AK)/\w'.cell? ((Addr.mk q 0 none).add 1)=some (.int .u64 x.2.AA):=λh'=>by
  obtain⟨ul,ml,s1,s2,lk,_,h2⟩:=Sat.Gk.1 h';exact⟨h2.cell rfl,h2.cell rfl⟩
 refine AH ⟨W.KU,aN.cell rfl,AH ⟨x.2.AA,(aF Hd).2,AH ?_⟩⟩;refine Ab aN (o:=0) (m:=6) rfl (by simp[GZ]) λb8 aO=>AH ⟨W.Mm,aO.cell rfl,AH ?_⟩;refine Ab aO (o:=0) (m:=7) rfl (by simp[GZ]) λb9 aP=> ?_;have bU:=PS (λi=>U id i&& !t.m i) x.2.AK.toNat;rw[AM (n:=((jL.len:Nat):Int)),hlen]at aP;have a0:=a3 (W3:=v) (by rw[d]) (by rw[d];exact aP);rw[hlen];have J:=a0.drew;have close: ∀{w':World},Sat (A2 E q x.2 (λi=>U id i&&t.m i) (λ_=>false)::(R++KY E b h s r v em' t.R t.em Z)) w'->Sat (Kh E b h s r v U' M'::Z) w':=λ{w'} h'=>by
  have h2:=b3 (Y:=GP E b h s r v em'++Z) (by
   have e:KY E b h s r v em' t.R t.em Z=GP E b h s r v em'++Z:=by rw[d];rfl
   rw[<-e];exact h')
  refine Sat.Re.2 ⟨em',?_⟩;have e2:v.S=W.S.put id (x.1,JD x.2 uw λi=>U id i&&t.m i):=by rw[d]
  rw[e2,aR,a9];exact h2.sH hx rfl
 generalize hu2:(λi=>U id i&&t.m i)=u2 at *
 have bV:u2=U' id:=by rw[aR,BI.Oy]
 have aB: ¬(C5=true/\((cN u2 x.2.AK.toNat:Nat):Int)<x.2.AK)-> ∀w',Sat (A2 E q x.2 u2 (λ_=>false)::(R++KY E b h s r v em' t.R t.em Z)) w'->F.BE E (some ⟨q,0,none⟩) (λbH aH=>
         CND ((bH:Int)==0) (
          NC (some ⟨b,0,none⟩) λbG=>
          ∃aX:(Option Addr),aH.cell? bG=some (.pointer aX)/\
          F.CB E aX id (λb4 aI=>
          K ((n:Nat):Int) true 0 aI
          ) aH
         ) (
          F.BO E (some ⟨b,0,none⟩) id true (λb5 aJ=>
          K ((n:Nat):Int) false 0 aJ
          ) aH
         )
         ) w':=λbE w' h'=>by
  have aE:v.S.sp id=some (x.1,JD x.2 uw u2):=by rw[d];exact HS.IJ
  have a6:Bv v.S no:=by
   have:v.S=W.S.put id (x.1,JD x.2 uw u2):=by rw[d]
   rw[this];exact hI.hI.put hx rfl rfl (by show x.2.state≠0;omega)
  have bC:KQ v.S:=by rw[d];exact hk.put _ _
  have Hc:=close h';obtain⟨a4,a2⟩:=Sat.Re.1 Hc;refine ID h' (Bc (λe0=>AH ?_) λe0=> ?_)
  .have aS:cN u2 x.2.AK.toNat=0:=by omega
   have aY: ¬(C5=true/\((0:Nat):Int)<x.2.AK):=by grind
   refine⟨some ⟨h,0,none⟩,(cb (W'':=v) h').1.Af rfl,Yt a2 a6 bC (λhn=>by grind) (λy hy aV=> ?_) λy a hy _ ha aI a1=> ?_⟩
   .rw[aE]at hy;cases hy;exact absurd aV (by show ¬0<cN (U' id) x.2.AK.toNat;grind)
   .rw[aE]at hy;cases hy;rcases C with ⟨c1,c2,_⟩|⟨_,_,aA,a',bT,T⟩|⟨_,c2,_⟩
    .exact absurd ⟨c1,c2⟩ bE
    .have:a=a':=by omega
     subst this;rw[aA]at O;refine O aI ?_;rw[T];exact Sat.Re.2 ⟨a4,a1⟩
    .exact absurd aS c2
  .have aS:cN u2 x.2.AK.toNat≠0:=by omega
   rcases C with ⟨c1,c2,_⟩|⟨_,c2,_⟩|⟨_,_,aA,GR,T⟩
   .grind
   .omega
   .have a7:Bm v U' M':=by
     have:=Bm.wX (L:=W.L) a5 λy hy=>by
      rw[T];show ∃z,v.S.sp y.id=some z/\z.2.base=y.base;obtain⟨z,h1,h2⟩:=hI.it y hy;refine⟨z,?_,h2⟩;rw[d];show(if y.id=id then _ else W.S.sp y.id)=_
      grind
     grind
    have a8:v.L=W.L:=by rw[d]
    refine UK Hc a7 GR (by grind) (λhn=>by grind) (λ_ hex=> ?_) λy hy _ aJ aQ=> ?_
    .grind
    .rw[aE]at hy;cases hy;rw[aA]at O;refine O aJ ?_;rw[T];rw[a8]at aQ;exact aQ
 cases C5 with
 | false=>exact AU (AP rfl λj=>AP rfl (aB (by simp) _ J))
 | true=>
  refine AU (AR rfl (AH ⟨x.2.AK,(aF J).1,ID J ⟨(aF J).1,λj=>AB (λg=> ?_) λg=>aB (λc=>g c.2) _ J⟩⟩));rcases C with ⟨_,_,aA,T⟩|⟨c,_⟩|⟨c,_⟩
  .rw[aA]at O;refine O _ ?_;rw[T];exact close J
  .exact absurd ⟨rfl,g⟩ c
  .exact absurd ⟨rfl,g⟩ c
end
section
variable{E:Env}{w:World}{Rs Z:List Pr}
end
section
variable{W:SW}{U M:BI}
def Bm.C5(hI:Bm W U M){S2:HS}{p n c page id:Int}{np:Bool}{C:Nat}{X:FX}(hf:Found W.S p n page S2)(hX:Next S2 id X)(h0:0<=page)(h1:page+n<=34359738368)(hb: ¬F7 0 n c)(hn:0<=n)(K:Bv (S2.C5 id (C,Gw page n c np) page n X) no):
  Bm {W with S:=S2.C5 id (C,Gw page n c np) page n X} (U.set id F8) (M.set id F8)/\W.S.sp id=none:=by
 have es:=hf.same;have d:W.S.sp id=none:=by
  refine Classical.byContradiction λg=> ?_;obtain⟨a,ha,h2,K⟩:=(hI.hI.sf id).1 g;rcases hX with ⟨O,T,_⟩|⟨b',r',O,T,_⟩
  .rw[es.fx]at T;omega
  .rw[es.fx]at O
   grind
 have A6:=qN (np:=np) h0 h1 hb hn;refine⟨⟨K,λj y v=> ?_,λit J=> ?_⟩,d⟩
 .have v:(if j=id then some (C,Gw page n c np)else S2.sp j)=some y:=v;by_cases e:j=id
  .rw[if_pos e]at v;cases v;subst e;rw[BI.Oy,BI.Oy];exact⟨A6,vR A6⟩
  .rw[if_neg e,es.sp]at v;have Y:U.set id F8 j=U j:=if_neg e;have e2:M.set id F8 j=M j:=if_neg e;rw[Y,e2];exact hI.sp j y v
 .obtain⟨y,g1,g2⟩:=hI.it it J;have:it.id≠id:=λe=>by grind
  refine⟨y,?_,g2⟩;show(if it.id=id then _ else S2.sp it.id)=_;rw[if_neg this,es.sp];exact g1
def Bm.new(pl:List Int)(rf:List Bool)(fl:List Int):Bm (SW.new (HS.new (OC pl rf fl))) (λ_=>F8) (λ_=>F8):=
 ⟨Bv.OC pl rf fl,λid x d=>(by cases d),λx d=>(by cases d)⟩
end
section
variable{E:Env}{w:World}{Z:List Pr}{b h s r:Nat}{W:SW}{U M:BI}
end
def nH{a:Addr}{K:Bool->Prop}(h:K true):wK (some a) (some a) K:=by
 unfold wK;refine⟨rfl,?_⟩
 grind
structure First(T:HS)(bl:Nat)(n c:Int)(np:Bool):Prop where
 sp:T.sp 1=some (bl,Gw 512 n c np)
 no: ∀i,i≠1->T.sp i=none
 la:Fw T (512+IZ n)
 own: ∀p,T.own p=if 512<=p/\p<512+n then 1 else 0
 fx:T.fx=⟨1,[]⟩
 pg:T.AA=n
 fr:FrR T (512+n) (512+IZ n)
 ca: ∀j,(T.ca j).empty
section
variable{E:Env}{w:World}{Z:List Pr}{b h s r:Nat}{W:SW}{U M:BI}
variable(hE:EnvW E)
include hE
end
def u2:Nat->Bool:=λi=>((F8 i||i==0)||i==1)
def sI:Aj 5=(48,1,170,89478486):=by decide+kernel
section
variable{E:Env}{w:World}{Z:List Pr}(hE:EnvW E)
include hE
end
section
variable{E:Env}{w:World}{Z:List Pr}{b h s r:Nat}{W:SW}{U M:BI}
def Yw(hT: ∀w',Sat Z w'->FQ E.AJ w')(H:Sat (A4 E b h s r W::Z) w)(hI:Bm W U M){id:Int}{x:Nat×SI}(C:W.S.sp id=some x){K:Int->Int->World->Prop}
  (T:(∀i:Nat,(i:Int)<x.2.AK->U id i=true)-> ∀w',Sat (A4 E b h s r W::Z) w'->K 0 30 w')
  (Y: ∀(n:Nat) d,(n:Int)<x.2.AK->U id n=false->(∀i,i<n->U id i=true)->Bm {W with S:=W.S.put id (x.1,{x.2 with uw:=d,used:=x.2.used+1,look:=(n:Int)+1})} (U.set id λi=>U id i||i==n) M->
   ∀w',Sat (A4 E b h s r {W with S:=W.S.put id (x.1,{x.2 with uw:=d,used:=x.2.used+1,look:=(n:Int)+1})}::Z) w'->K n 0 w'):F.Dq E (some ⟨x.1,0,none⟩) K w:=by
 obtain⟨A6,hg⟩:=hI.sp id x C;obtain⟨R,HH,hz,hb⟩:=H.Hj;obtain⟨R2,y,aA,v⟩:=HH.Yc C;refine WS (hT _ (hz (aA y.tail))) y hg (by rw[A6.st];decide) (λj w' J=> ?_) λn d hn hu hl O w' J=> ?_
 .have:=hb (v J);rw[show W.S.put id (x.1,x.2)=W.S from HS.QA C]at this;exact T j w' this
 .refine Y n d hn hu hl ?_ w' (hb (v J));have:=hI.zY C (I:={x.2 with uw:=d,used:=x.2.used+1,look:=(n:Int)+1}) rfl rfl rfl rfl rfl rfl rfl O;rwa[BI.L4]at this
def Yx(H:Sat (A4 E b h s r W::Z) w){id:Int}{x:Nat×SI}(O:W.S.sp id=some x){K:Int->Int->Int->Int->Bool->Int->Int->Int->Bool->Bool->World->Prop}
  (C: ∀w',Sat (A4 E b h s r W::Z) w'->K x.2.base x.2.AA x.2.state x.2.cls x.2.Fv x.2.elem x.2.AK x.2.used x.2.f8 x.2.f9 w'):F.B7 E (some ⟨x.1,0,none⟩) K w:=by
 obtain⟨R,y,hz,J⟩:=H.Hj;obtain⟨T,j,d⟩:=y.Lx O;exact I8 j λw' v=>C w' (J (d v))
def Nh(H:Sat (A4 E b h s r W::Z) w){id:Int}{K:Option Addr->Int->World->Prop}(d:W.S.sp id=none->K none 35 w)(j: ∀x,W.S.sp id=some x->K (some ⟨x.1,0,none⟩) 0 w):F.Dx E (some ⟨h,0,none⟩) id K w:=by
 obtain⟨R,v,hz,y⟩:=H.Hj;exact Tf v d j
end
def QJ{S d:HS}{p n:Int}(h:IY S p n d):d.sp=S.sp:=by
 rcases h with ⟨_,rfl⟩|⟨i,_,_,_,⟨_,q,_,rfl⟩|⟨_,rfl⟩,_⟩<;>rfl
def wE{S S2:HS}{p n page:Int}(h:dN S p n page S2):S2.sp=S.sp:=by
 rcases h with ⟨j,i,k,v,_,_,⟨_,q,_,rfl⟩|⟨_,rfl⟩,_,_,_,_,rfl⟩|⟨j,d,_,rfl⟩
 .rfl
 .rfl
 .exact(show j.sp=S.sp from QJ d)
def Yy{S S2:HS}{p n:Int}(h:Oo S p n S2):S2.sp=S.sp:=by
 rcases h with ⟨j,d,_,⟨r,_,rfl⟩|⟨_,_,rfl⟩⟩|⟨S1,page,r,v,_,_,rfl⟩
 .exact(show j.sp=S.sp from QJ d)
 .exact(show j.sp=S.sp from QJ d)
 .rcases v with v|⟨j,y,d,_,⟨_,at_,_,rfl⟩,_,rfl⟩
  .exact(show S1.sp=S.sp from wE v)
  .exact(show j.sp=S.sp from QJ d)
structure SA(E:Env):Prop extends EnvW E where
 bL: ∀a p k n (R:Value->World->Prop) w,F.CF E a p k n (λi b e w'=>R (.tuple ⟨[.int .i64 i,.bool b,.int .i64 e]⟩) w') w->E.call E.EB #[.pointer a,.agg ⟨[.int .i64 p,.int .i64 k,.bool n]⟩] w R Kk
 UM: ∀a p k n (R:Value->World->Prop) w,F.BP E a p k n (λi b e w'=>R (.tuple ⟨[.int .i64 i,.bool b,.int .i64 e]⟩) w') w->E.call E.Dd #[.pointer a,.agg ⟨[.int .i64 p,.int .i64 k,.bool n]⟩] w R Kk
 nI: ∀a p k n (R:Value->World->Prop) w,F.B2 E a p k n (λi b e w'=>R (.tuple ⟨[.int .i64 i,.bool b,.int .i64 e]⟩) w') w->E.call E.ET #[.pointer a,.agg ⟨[.int .i64 p,.int .i64 k,.bool n]⟩] w R Kk
 bM: ∀a p k n (R:Value->World->Prop) w,F.CG E a p k n (λi b e w'=>R (.tuple ⟨[.int .i64 i,.bool b,.int .i64 e]⟩) w') w->E.call E.EC #[.pointer a,.agg ⟨[.int .i64 p,.int .i64 k,.bool n]⟩] w R Kk
def Bt(E:Env)(cb b h s r:Nat)(W:SW):Pr:=Lo [Cells cb E.ES [.pointer (some ⟨b,0,none⟩)],A4 E b h s r W]
section
variable{E:Env}{w:World}{Z:List Pr}{cb b h s r:Nat}{W:SW}{U M:BI}
def Sat.rA:Sat (Bt E cb b h s r W::Z) w↔Sat (Cells cb E.ES [.pointer (some ⟨b,0,none⟩)]::A4 E b h s r W::Z) w:=Sat.star
def Sat.D8(H:Sat (Bt E cb b h s r W::Z) w):Sat (A4 E b h s r W::Cells cb E.ES [.pointer (some ⟨b,0,none⟩)]::Z) w:=(Sat.rA.1 H).perm (.swap _ _ _)
def Sat.GB(H:Sat (A4 E b h s r W::Cells cb E.ES [.pointer (some ⟨b,0,none⟩)]::Z) w):Sat (Bt E cb b h s r W::Z) w:=Sat.rA.2 (H.perm (.swap _ _ _))
def Sat.LX(H:Sat (Bt E cb b h s r W::Z) w):w.cell? (Addr.mk cb 0 none)=some (.pointer (some ⟨b,0,none⟩)):=(Sat.rA.1 H).Af rfl
def bN(H:Sat (A4 E b h s r W::Z) w){K:Option Addr->World->Prop}(j: ∀cb w',Sat (Bt E cb b h s r W::Z) w'->K (some ⟨cb,0,none⟩) w'):F.LJ E (some ⟨b,0,none⟩) K w:=by
 unfold F.LJ;exact AO (vs:=[.pointer (some ⟨b,0,none⟩)]) H λb1 v d _=>j b1 v (Sat.rA.2 d)
def EZ(H:Sat (Bt E cb b h s r W::Z) w){K:Option Addr->World->Prop}(d:K (some ⟨b,0,none⟩) w):F.A8 E (some ⟨cb,0,none⟩) K w:=by
 unfold F.A8;exact AH ⟨_,H.LX,d⟩
def Bm.heap(hI:Bm W U M){S2:HS}(h1:Bv S2 no)(h2:S2.sp=W.S.sp):Bm {W with S:=S2} U M:=
 ⟨h1,λid x d=>hI.sp id x (by grind),λx d=>by rw[show({W with S:=S2}:SW).S.sp=W.S.sp from h2];exact hI.it x d⟩
def wF{L:List DF}(h: ∀x∈L,x.D0=true){k:Kd}(hk:k.2.2.2=false):Dm L k=[]:=YE λx d e=>by grind
variable(hE:SA E)
include hE
theorem Ri(H:Sat (Bt E cb b h s r W::Z) w)(hI:Bm W U M){id:Int}(hf:W.L.length<1099511627776){K:Int->World->Prop}
  (v:W.S.sp id=none-> ∀w',Sat (Bt E cb b h s r W::Z) w'->K 35 w')(C:W.S.sp id≠none->(∃x∈W.L,x.id=id)-> ∀w',Sat (Bt E cb b h s r W::Z) w'->K 34 w')
  (J: ∀x,W.S.sp id=some x->(∀y∈W.L,y.id≠id)-> ∀GR,Bm {W with L:=IC W.L ⟨GR,id,x.2.base,(x.2.cls,x.2.Fv,x.2.used==x.2.AK,true)⟩} U M-> ∀w',
   Sat (Bt E cb b h s r {W with L:=IC W.L ⟨GR,id,x.2.base,(x.2.cls,x.2.Fv,x.2.used==x.2.AK,true)⟩}::Z) w'->K 0 w'):F.By E (some ⟨cb,0,none⟩) id K w:=by
 unfold F.By T0.By;exact AH ⟨_,H.LX,T3 hE.toEnvW H.D8 hI hf (λO w' d=>v O w' d.GB) (λO Y w' d=>C O Y w' d.GB) λx Y T GR j w' d=>J x Y T GR j w' d.GB⟩
theorem QK(H:Sat (Bt E cb b h s r W::Z) w)(hI:Bm W U M){p k:Int}{np:Bool}{K:Int->Bool->Int->World->Prop}(v:Dm W.L (k,np,false,true)=[]-> ∀w',Sat (Bt E cb b h s r W::Z) w'->K 0 false 0 w')
  (C: ∀x l,Dm W.L (k,np,false,true)=x::l->Bm {W with L:=Fk W.L x.id} U M-> ∀w',Sat (Bt E cb b h s r {W with L:=Fk W.L x.id}::Z) w'->K x.id true 0 w'):F.CF E (some ⟨cb,0,none⟩) p k np K w:=by
 unfold F.CF T0.CF;refine AO (vs:=[.int .i64 p,.int .i64 k,.bool np]) H λb1 w2 O _=>AH ?_;have d:=O.drew;have j:Sat (Bt E cb b h s r W::Cells b1 E.B6 [.int .i64 p,.int .i64 k,.bool np]::Z) w2.drew:=d.front 1 rfl;refine⟨_,j.LX,_,d.cell rfl,_,d.cell rfl,LU j.D8 ⟨d.cell rfl,d.cell rfl,?_⟩⟩;obtain⟨R,T,hz,Y⟩:=j.D8.Lh;refine NZ hE.toEnvW (k:=(k,np,false,true)) T (λh0=>v h0 _ d.tail) λx l hx w' J=> ?_;exact C x l hx (hI.wX λy hy=>hI.it y (FB.1 hy).1) w' ((Y J).GB.front 1 rfl).tail
theorem OT(H:Sat (Bt E cb b h s r W::Z) w){p k:Int}{np full:Bool}(y: ∀x∈W.L,x.D0=true){K:Int->Bool->Int->World->Prop}(v: ∀w',Sat (Bt E cb b h s r W::Z) w'->K 0 false 0 w'):F.Ay E (some ⟨cb,0,none⟩) p k np full K w:=by
 unfold F.Ay T0.Ay;refine AO (vs:=[.int .i64 p,.int .i64 k,.bool np]) H λb1 w2 J _=> ?_;refine AI (λ_ w'=>Sat (Cells b1 E.B6 [.int .i64 p,.int .i64 k,.bool np]::Bt E cb b h s r W::Z) w') (λ_ _=>0) J ?_;rintro _ _ Y O;have d:=O.drew;have j:Sat (Bt E cb b h s r W::Cells b1 E.B6 [.int .i64 p,.int .i64 k,.bool np]::Z) Y.drew:=d.front 1 rfl;refine AH ⟨_,j.LX,_,d.cell rfl,_,d.cell rfl,LU j.D8 ⟨d.cell rfl,d.cell rfl,?_⟩⟩;obtain⟨R,T,hz,hb⟩:=j.D8.Lh;refine NZ hE.toEnvW (k:=(k,np,full,false)) T (λh0=>AR rfl (v _ d.tail)) λx l C w' H'=> ?_;rw[wF y rfl]at C;cases C
theorem QL(hT: ∀w',Sat Z w'->FQ E.AJ w')(H:Sat (Bt E cb b h s r W::Z) w)(hI:Bm W U M){p k:Int}{np:Bool}(k0:1<=k)(k1:k<68){K:Int->Bool->Int->World->Prop}
  (aJ: ∀S2,Oo W.S p (Aj k).2.1 S2->Bm {W with S:=S2} U M-> ∀w',Sat (Bt E cb b h s r {W with S:=S2}::Z) w'->K 0 false 13 w')
  (aK: ∀page S2 bl id X,Found W.S p (Aj k).2.1 page S2->KQ W.S->Bv S2 (inr page (Aj k).2.1)->Next S2 id X->W.S.sp id=none->0<=page->page+(Aj k).2.1<=34359738368->Bm {W with S:=S2.C5 id (bl,Gw page (Aj k).2.1 k np) page (Aj k).2.1 X} (U.set id F8) (M.set id F8)->
   ∀w',Sat (Bt E cb b h s r {W with S:=S2.C5 id (bl,Gw page (Aj k).2.1 k np) page (Aj k).2.1 X}::Z) w'->K id true 0 w'):F.CG E (some ⟨cb,0,none⟩) p k np K w:=by
 unfold F.CG T0.CG;refine AO (vs:=[.int .i64 p,.int .i64 k,.bool np]) H λb1 w2 H2 _=>AH ?_;have C:=H2.drew;have Hc:Sat (Bt E cb b h s r W::Cells b1 E.B6 [.int .i64 p,.int .i64 k,.bool np]::Z) w2.drew:=C.front 1 rfl;refine⟨_,Hc.LX,_,C.Af rfl,_,C.cell rfl,_,C.cell rfl,_,C.cell rfl,KM Hc.D8 ⟨C.cell rfl,C.cell rfl,C.cell rfl,C.Af rfl,?_⟩⟩;refine MR C λaE aM v=> ?_;have hl:=v.F9 (by decide) Al;rw[Jb]at hl;have J:=v.front 1 rfl;obtain⟨x,hx⟩:=v.FZ (by decide) Al (i:=k.toNat) (by rw[Jb];omega);have cell: ∀{w'} {Y:List Pr},Sat (Row E.Ar 4 aE (Ao HW KH)::Y) w'->w'.cell? (((Addr.mk x 0 none).add (Int.toNat k*4)).add 1)=some (.int .i64 (Aj k).2.1):=λh=>by
  rw[add_add];exact h.Bu Al hx (Ky (by omega) k1) (j:=1) rfl
 refine⟨J.cell rfl,J.cell rfl,J.cell rfl,J.Af rfl,?_⟩;rw[hx];have aX:=Ke (c:=k) (by omega) k1;have aY:=Ov (c:=k) (by omega) k1;refine AH ⟨⟨by omega,by omega⟩,_,cell v,?_⟩;rw[AM (n:=(Aj k).2.1)];have O: ¬F7 0 (Aj k).2.1 k:=by unfold F7;omega
 have aD:Sat (Bt E cb b h s r W::Row E.Ar 4 aE (Ao HW KH)::Cells b1 E.B6 [.int .i64 p,.int .i64 k,.bool np]::Z) aM:=v.front 2 rfl;have A6:=(aD.D8.Hj.choose_spec.1).A6;obtain⟨R,HH,hz,hb⟩:=aD.D8.Hj;refine X3 hE.toEnvA (λw' h'=>hT w' (hz h').tail.tail.tail) HH hI.hI (by omega) (by omega) (λh=>absurd h O) (λ_ S2 y aA aC T=> ?_) λ_ page S2 bl id X hf aA q0 q1 hX aG aC T=> ?_
 .have aI:S2.sp=W.S.sp:=Yy y;have d:=(hb T).GB;exact⟨cell (d.front 1 rfl),(d.front 2 rfl).cell rfl,aJ S2 y (hI.heap aA aI) aC ((d.front 1 rfl).tail.front 1 rfl).tail⟩
 .have d:=(hb T).GB;obtain⟨aH,aB⟩:=hI.C5 (np:=np) hf hX q0 q1 O (by omega) aG;exact⟨cell (d.front 1 rfl),(d.front 2 rfl).cell rfl,aK page S2 bl id X hf A6 aA hX aB q0 q1 aH aC ((d.front 1 rfl).tail.front 1 rfl).tail⟩
theorem O5(hT: ∀w',Sat Z w'->FQ E.AJ w')(H:Sat (Bt E cb b h s r W::Z) w)(hI:Bm W U M)(aC: ∀x∈W.L,x.D0=true){p k:Int}{np:Bool}{K:Int->Int->World->Prop}
  (aL: ¬(1<=k/\k<68)-> ∀w',Sat (Bt E cb b h s r W::Z) w'->K 0 1 w')
  (aM:1<=k->k<68-> ∀x l,Dm W.L (k,np,false,true)=x::l->Bm {W with L:=Fk W.L x.id} U M-> ∀w',Sat (Bt E cb b h s r {W with L:=Fk W.L x.id}::Z) w'->K x.id 0 w')
  (aN:1<=k->k<68->Dm W.L (k,np,false,true)=[]-> ∀S2,Oo W.S p (Aj k).2.1 S2->Bm {W with S:=S2} U M-> ∀w',Sat (Bt E cb b h s r {W with S:=S2}::Z) w'->K 0 13 w')
  (aO:1<=k->k<68->Dm W.L (k,np,false,true)=[]-> ∀page S2 bl id X,Found W.S p (Aj k).2.1 page S2->KQ W.S->Bv S2 (inr page (Aj k).2.1)->Next S2 id X->W.S.sp id=none->0<=page->page+(Aj k).2.1<=34359738368->Bm {W with S:=S2.C5 id (bl,Gw page (Aj k).2.1 k np) page (Aj k).2.1 X} (U.set id F8) (M.set id F8)->
   ∀w',Sat (Bt E cb b h s r {W with S:=S2.C5 id (bl,Gw page (Aj k).2.1 k np) page (Aj k).2.1 X}::Z) w'->K id 0 w'):F.BJ E (some ⟨cb,0,none⟩) p k np K w:=by
 unfold F.BJ T0.BJ;refine AV (λst w'=>Sat (Bt E cb b h s r W::Z) w'/\(st.1=true↔ ¬(1<=k/\k<68))) (AB (λg=>⟨H,by simp;omega⟩) λg=>MR H λr4 w5 H5=> ?_) ?_
 .have hl:=H5.F9 (by decide) Al;rw[Jb]at hl;refine⟨H5.tail,?_⟩
  grind
 rintro⟨st,u⟩ _ w3 ⟨H3,aB⟩;dsimp only at aB⊢;refine AS (λhq=>aL (aB.1 hq) w3 H3) λhq=> ?_;have aP:1<=k/\k<68:=Classical.byContradiction λg=>by grind
 obtain⟨k0,k1⟩:=aP
 let fs:List Value:=[.func (.func E.EB) #[.pointer (some ⟨cb,0,none⟩)] #[],.func (.func E.Dd) #[.pointer (some ⟨cb,0,none⟩)] #[],.func (.func E.ET) #[.pointer (some ⟨cb,0,none⟩)] #[],.func (.func E.EC) #[.pointer (some ⟨cb,0,none⟩)] #[]]
 refine AO (vs:=fs) H3 λb6 w7 H7 _=> ?_;refine AI (λst w'=> ∃i:Nat,st.1=0/\st.2.1=0/\st.2.2.1=(i:Int)/\i<=3/\(1<=i->Dm W.L (k,np,false,true)=[])/\Sat (Cells b6 E.EO fs::Bt E cb b h s r W::Z) w') (λst _=>(4-st.2.2.1).toNat) ⟨0,rfl,rfl,rfl,by decide,λh=>by omega,H7⟩ ?_;rintro⟨z0,z1,i',u⟩ _ w9 ⟨i,rfl,rfl,hi,aY,d,Y⟩;dsimp only at hi⊢;subst hi;refine AB (λ_=>⟨⟨by omega,by omega⟩,?_⟩) λg=>absurd (by omega) g;have J:Sat (Bt E cb b h s r W::Cells b6 E.EO fs::Z) w9:=Y.front 1 rfl;have aJ: ∀w',Sat (Cells b6 E.EO fs::Z) w'->FQ E.AJ w':=λw' h'=>hT w' h'.tail;rw[Int.toNat_natCast,Nat.mul_one];have go: ∀{w'},i<3->(Dm W.L (k,np,false,true)=[])->Sat (Bt E cb b h s r W::Cells b6 E.EO fs::Z) w'->(∃T:Nat,(0:Int)=0/\(0:Int)=0/\i64 ((i:Int)+1)=(T:Int)/\T<=3/\(1<=T->Dm W.L (k,np,false,true)=[])/\Sat (Cells b6 E.EO fs::Bt E cb b h s r W::Z) w')/\(4-i64 ((i:Int)+1)).toNat<(4-(i:Int)).toNat:=λ{w'} hi3 d h'=>by
  rw[show i64 ((i:Int)+1)=((i+1:Nat):Int) by rw[AF];rfl];exact⟨⟨i+1,rfl,rfl,rfl,by omega,λ_=>d,h'.front 1 rfl⟩,by omega⟩
 have aK:i=0∨i=1∨i=2∨i=3:=by omega
 rcases aK with rfl|rfl|rfl|rfl
 .refine⟨_,Y.cell (o:=0) (m:=0) rfl,hE.bL (some ⟨cb,0,none⟩) p k np _ w9 (QK hE J hI (λh0 w' v=> ?_) λx l hx y w' v=> ?_)⟩
  .exact⟨0,false,0,rfl,AU (AP rfl λj=>AP rfl (go (by decide) h0 v))⟩
  .exact⟨x.id,true,0,rfl,AU (AR rfl λj=>AR rfl (aM k0 k1 x l hx y w' (v.front 1 rfl).tail))⟩
 .refine⟨_,Y.cell (o:=0) (m:=1) rfl,hE.UM (some ⟨cb,0,none⟩) p k np _ w9 ?_⟩;unfold F.BP T0.BP;refine AO (vs:=[.int .i64 p,.int .i64 k,.bool np]) J λb1 w2 C _=>⟨_,C.cell rfl,_,C.cell rfl,_,C.cell rfl,OT hE (C.front 1 rfl) aC λw' v=> ?_⟩;exact⟨0,false,0,rfl,AU (AP rfl λj=>AP rfl (go (by decide) (d (by decide)) (v.front 1 rfl).tail))⟩
 .refine⟨_,Y.cell (o:=0) (m:=2) rfl,hE.nI (some ⟨cb,0,none⟩) p k np _ w9 ?_⟩;unfold F.B2 T0.B2;refine AO (vs:=[.int .i64 p,.int .i64 k,.bool np]) J λb1 w2 C _=>⟨_,C.cell rfl,_,C.cell rfl,_,C.cell rfl,OT hE (C.front 1 rfl) aC λw' v=> ?_⟩;exact⟨0,false,0,rfl,AU (AP rfl λj=>AP rfl (go (by decide) (d (by decide)) (v.front 1 rfl).tail))⟩
 .refine⟨_,Y.cell (o:=0) (m:=3) rfl,hE.bM (some ⟨cb,0,none⟩) p k np _ w9 (QL hE aJ J hI k0 k1 (λS2 hl y w' v=> ?_) λpage S2 bl id X hf A6 y hX O q0 q1 aI w' v=> ?_)⟩
  .exact⟨0,false,13,rfl,AU (AP rfl λj=>AR rfl (aN k0 k1 (d (by decide)) S2 hl y w' (v.front 1 rfl).tail))⟩
  .exact⟨id,true,0,rfl,AU (AR rfl λj=>AR rfl (aO k0 k1 (d (by decide)) page S2 bl id X hf A6 y hX O q0 q1 aI w' (v.front 1 rfl).tail))⟩
end
structure Iy(W:SW)(U M:BI):Prop where
 inv:Bm W U M
 hk:KQ W.S
 se:KJ W.L
 em:W.em.length+W.R.length<=1099511627776
def Iy.KV{W:SW}{U M:BI}(h:Iy W U M):W.L.length<1099511627776:=by
 have:=h.inv.hI.KV (W.L.map (·.id)) h.se.nd λn d=>by
  obtain⟨x,j,rfl⟩:=List.mem_map.1 d;obtain⟨y,v,_⟩:=h.inv.it x j
  grind
 grind
def R0.len{W W':SW}{U M U' M':BI}{id:Int}{C5 gone:Bool}{n:Nat}(h:R0 W U M id C5 n gone W' U' M'):W'.em.length+W'.R.length<=W.em.length+W.R.length:=by
 obtain⟨x,t,uw,-,-,y,-,-,-,j,d,v⟩:=h;have:=N3 (u:=U id) (base:=x.2.base) (elem:=x.2.elem) (t:=⟨W.R,M id,W.em⟩) x.2.AK.toNat
 grind
def Iy.rem{W:SW}{U M:BI}(h:Iy W U M)(id:Int):Iy {W with L:=Fk W.L id} U M:=⟨h.inv.wX λx d=>h.inv.it x (FB.1 d).1,h.hk,YG h.se id,h.em⟩
inductive FD(k:Int)(np full:Bool):SW->BI->BI->Int->Bool->Int->SW->BI->BI->Prop
 | none {W U M}:Dm W.L (k,np,full,false)=[]->FD k np full W U M 0 false 0 W U M
 | Qz {W U M x r y}:Dm W.L (k,np,full,false)=x::r->W.S.sp x.id=some y->(∃i,M x.id i=true/\U x.id i=false)->FD k np full W U M 0 false 40 {W with L:=Fk W.L x.id} U M
 | Kx {W U M x r n W' U' M' y}:Dm W.L (k,np,full,false)=x::r->R0 {W with L:=Fk W.L x.id} U M x.id true n false W' U' M'->Iy W' U' M'->W'.S.sp x.id=some y->y.2.used<y.2.AK->FD k np full W U M x.id true 0 W' U' M'
 | go {W U M x r n W1 U1 M1 y id ok e W' U' M'}:Dm W.L (k,np,full,false)=x::r->R0 {W with L:=Fk W.L x.id} U M x.id true n false W1 U1 M1->Iy W1 U1 M1->W1.S.sp x.id=some y->y.2.used=y.2.AK->FD k np full W1 U1 M1 id ok e W' U' M'->FD k np full W U M id ok e W' U' M'
def nU(L:List DF):Nat:=(L.filter λx=> !x.D0).length
def eF{L:List DF}(h:KJ L){x:DF}(d:x∈L)(hs:x.D0=false):nU (Fk L x.id)+1=nU L:=by
 have:=((L1 h.nd d).filter λx=> !x.D0).length_eq;unfold nU
 grind
def rC{L:List DF}{x:DF}(hs:x.D0=true):nU (IC L x)=nU L:=by
 have:=((I9 L x).filter λx=> !x.D0).length_eq;unfold nU
 grind
def R0.kept{W W':SW}{U M U' M':BI}{id:Int}{gone:Bool}{n:Nat}(h:R0 W U M id true n gone W' U' M')(hI:Bm W U M):gone=false/\nU W'.L=nU W.L/\ ∃y,W'.S.sp id=some y/\(y.2.used<y.2.AK∨y.2.used=y.2.AK):=by
 obtain⟨x,t,uw,T,-,Y,-,-,-,C,d,J⟩:=h;have O:=(hI.sp id x T).1.size;have K:=PS (λi=>U id i&&t.m i) x.2.AK.toNat;have j:C.S.sp id=some (x.1,JD x.2 uw λi=>U id i&&t.m i):=by rw[d];exact HS.IJ
 rcases J with ⟨_,h2,v,e⟩|⟨h1,h2,_⟩|⟨h1,h2,v,GR,e⟩
 .rw[e];exact⟨v,by rw[d],_,j,.inl h2⟩
 .grind
 .rw[e];refine⟨v,?_,_,j,.inr ?_⟩
  .exact rC rfl
  .have: ¬((cN (λi=>U id i&&t.m i) x.2.AK.toNat:Nat):Int)<x.2.AK:=λc=>h1 ⟨rfl,c⟩;show((cN (λi=>U id i&&t.m i) x.2.AK.toNat:Nat):Int)=x.2.AK;omega
section
variable{E:Env}{cb b h s r:Nat}{W:SW}{U M:BI}{Z:List Pr}{w:World}
def Sat.Yz{W':SW}{U' M':BI}{Y:List Pr}{w':World}(H:Sat (A4 E b h s r W'::Y) w')(hI:Bm W' U' M')(he:W'.em.length+W'.R.length<=1099511627776):Iy W' U' M':=by
 obtain⟨R,h1,_⟩:=H.Hj;obtain⟨d,h2,_⟩:=H.Lh;exact⟨hI,h1.A6,h2.qG,he⟩
variable(hE:SA E)
include hE
theorem OU(hT: ∀w',Sat Z w'->FQ E.AJ w')(H:Sat (Bt E cb b h s r W::Z) w)(hI:Iy W U M){p k:Int}{np full:Bool}{K:Int->Bool->Int->World->Prop}
  (hK: ∀id ok e W' U' M',FD k np full W U M id ok e W' U' M'->Iy W' U' M'-> ∀w',Sat (Bt E cb b h s r W'::Z) w'->K id ok e w'):F.Ay E (some ⟨cb,0,none⟩) p k np full K w:=by
 unfold F.Ay T0.Ay;refine AO (vs:=[.int .i64 p,.int .i64 k,.bool np]) H λb1 w2 H2 _=> ?_;refine P7 (λn _ w'=> ∃C U1 M1,Iy C U1 M1/\n=nU C.L/\(∀id ok e W' U' M',FD k np full C U1 M1 id ok e W' U' M'->FD k np full W U M id ok e W' U' M')/\Sat (Cells b1 E.B6 [.int .i64 p,.int .i64 k,.bool np]::Bt E cb b h s r C::Z) w') _ ⟨W,U,M,hI,rfl,λ_ _ _ _ _ _ h=>h,H2⟩ ?_;rintro n _ _ w4 ⟨C,U1,M1,O,rfl,Y,H4⟩;have H3:=H4.drew;have Hc:Sat (Bt E cb b h s r C::Cells b1 E.B6 [.int .i64 p,.int .i64 k,.bool np]::Z) w4.drew:=H3.front 1 rfl;refine AH ⟨_,Hc.LX,_,H3.cell rfl,_,H3.cell rfl,LU Hc.D8 ⟨H3.cell rfl,H3.cell rfl,?_⟩⟩;obtain⟨R,HH,hz,hb⟩:=Hc.D8.Lh;refine NZ hE.toEnvW (k:=(k,np,full,false)) HH (λh0=>AR rfl (hK _ _ _ C U1 M1 (Y _ _ _ _ _ _ (.none h0)) O _ H3.tail)) λx l hx w' H'=>AP rfl ?_;have hm:=EL.1 (show x∈Dm C.L (k,np,full,false) by rw[hx];exact List.mem_cons_self);have aP:x.D0=false:=by grind
 have H5:Sat (Bt E cb b h s r {C with L:=Fk C.L x.id}::Cells b1 E.B6 [.int .i64 p,.int .i64 k,.bool np]::Z) w':=(hb H').GB;have j:=O.rem x.id;have aK: ∀w',Sat (Cells cb E.ES [.pointer (some ⟨b,0,none⟩)]::Cells b1 E.B6 [.int .i64 p,.int .i64 k,.bool np]::Z) w'->FQ E.AJ w':=λw' h'=>hT w' h'.tail.tail;have aU:=eF O.se hm.1 aP;refine AH ⟨_,H5.LX,T5 hE.toEnvW aK H5.D8 j.inv j.KV j.em (λz hz=>(FB.1 hz).2) (λhn=> ?_) (λz hz aR w6 H6=> ?_) λn gone W2 U2 M2 d aI w6 H6=>AP rfl ?_⟩
 .obtain⟨y,hy,_⟩:=O.inv.it x hm.1
  grind
 .exact AR rfl (hK _ _ _ _ _ _ (Y _ _ _ _ _ _ (.Qz hx hz aR)) j w6 (H6.GB.front 1 rfl).tail)
 .have T:=H6.Yz aI (Nat.le_trans d.len j.em);obtain⟨hg,a8,y,hy,aQ⟩:=d.kept j.inv;subst hg;have J:=H6.GB;refine AH ⟨_,J.LX,KM J.D8 (Nh J.D8 (λhn=>by grind) λv hv=> ?_)⟩;rw[hy]at hv;cases hv;refine AU (AR rfl ?_);obtain⟨R3,aG,a9,aL⟩:=J.D8.Hj;obtain⟨R4,aO,aM⟩:=aG.Lx hy;refine X4 aO λw8 H8=>λ_=> ?_;have H9:=(aL (aM H8)).GB;rcases aQ with aN|heq
  .refine AR ?_ (hK _ _ _ W2 U2 M2 (Y _ _ _ _ _ _ (.Kx hx d T hy aN)) T w8 (H9.front 1 rfl).tail)
   grind
  .refine AP (by grind) ⟨_,?_,W2,U2,M2,T,rfl,λid ok e W' U' M' hc=>Y _ _ _ _ _ _ (.go hx d T hy heq hc),H9.front 1 rfl⟩
   grind
inductive Ug(p k:Int)(np:Bool)(W:SW)(U M:BI):Int->Int->SW->BI->BI->Prop
 | bad: ¬(1<=k/\k<68)->Ug p k np W U M 0 1 W U M
 | D0 {x l}:1<=k->k<68->Dm W.L (k,np,false,true)=x::l->Ug p k np W U M x.id 0 {W with L:=Fk W.L x.id} U M
 | part {id ok e W' U' M'}:1<=k->k<68->Dm W.L (k,np,false,true)=[]->FD k np false W U M id ok e W' U' M'->(ok=true∨e≠0)->Ug p k np W U M id e W' U' M'
 | full {W1 U1 M1 id ok e W' U' M'}:1<=k->k<68->Dm W.L (k,np,false,true)=[]->FD k np false W U M 0 false 0 W1 U1 M1->Iy W1 U1 M1->FD k np true W1 U1 M1 id ok e W' U' M'->(ok=true∨e≠0)->Ug p k np W U M id e W' U' M'
 | lost {W1 U1 M1 W2 U2 M2 S2}:1<=k->k<68->Dm W.L (k,np,false,true)=[]->FD k np false W U M 0 false 0 W1 U1 M1->Iy W1 U1 M1->FD k np true W1 U1 M1 0 false 0 W2 U2 M2->Iy W2 U2 M2->Oo W2.S p (Aj k).2.1 S2->Ug p k np W U M 0 13 {W2 with S:=S2} U2 M2
 | new {W1 U1 M1 W2 U2 M2 page S2 bl id X}:1<=k->k<68->Dm W.L (k,np,false,true)=[]->FD k np false W U M 0 false 0 W1 U1 M1->Iy W1 U1 M1->FD k np true W1 U1 M1 0 false 0 W2 U2 M2->Iy W2 U2 M2->Found W2.S p (Aj k).2.1 page S2->Next S2 id X->W2.S.sp id=none->
   Ug p k np W U M id 0 {W2 with S:=S2.C5 id (bl,Gw page (Aj k).2.1 k np) page (Aj k).2.1 X} (U2.set id F8) (M2.set id F8)
omit hE in
theorem FD.id0{k:Int}{np full:Bool}{W W':SW}{U M U' M':BI}{id e:Int}{ok:Bool}(h:FD k np full W U M id ok e W' U' M'):ok=false->id=0:=by
 induction h with
 | none=>omega
 | Qz=>omega
 | Kx=>grind
 | go _ _ _ _ _ _ ih=>exact ih
def AA3(k:Int)(np:Bool)(W:SW)(U M:BI):Nat->SW->BI->BI->Prop
 | 0,W1,U1,M1=>W1=W/\U1=U/\M1=M
 | 1,W1,U1,M1=>Dm W.L (k,np,false,true)=[]/\W1=W/\U1=U/\M1=M
 | 2,W1,U1,M1=>Dm W.L (k,np,false,true)=[]/\FD k np false W U M 0 false 0 W1 U1 M1
 | _,W1,U1,M1=>Dm W.L (k,np,false,true)=[]/\ ∃W2 U2 M2,FD k np false W U M 0 false 0 W2 U2 M2/\Iy W2 U2 M2/\FD k np true W2 U2 M2 0 false 0 W1 U1 M1
theorem ZA(hT: ∀w',Sat Z w'->FQ E.AJ w')(H:Sat (Bt E cb b h s r W::Z) w)(hI:Iy W U M){p k:Int}{np:Bool}{K:Int->Int->World->Prop}
  (hK: ∀id e W' U' M',Ug p k np W U M id e W' U' M'->Iy W' U' M'-> ∀w',Sat (Bt E cb b h s r W'::Z) w'->K id e w'):F.BJ E (some ⟨cb,0,none⟩) p k np K w:=by
 unfold F.BJ T0.BJ;refine AV (λst w'=>Sat (Bt E cb b h s r W::Z) w'/\(st.1=true↔ ¬(1<=k/\k<68))) (AB (λg=>⟨H,by simp;omega⟩) λg=>MR H λr4 w5 H5=> ?_) ?_
 .have hl:=H5.F9 (by decide) Al;rw[Jb]at hl;refine⟨H5.tail,?_⟩
  grind
 rintro⟨st,u⟩ _ w3 ⟨H3,aM⟩;dsimp only at aM⊢;refine AS (λhq=>hK _ _ _ _ _ (.bad (aM.1 hq)) hI w3 H3) λhq=> ?_;have aR:1<=k/\k<68:=Classical.byContradiction λg=>by grind
 obtain⟨k0,k1⟩:=aR
 let fs:List Value:=[.func (.func E.EB) #[.pointer (some ⟨cb,0,none⟩)] #[],.func (.func E.Dd) #[.pointer (some ⟨cb,0,none⟩)] #[],.func (.func E.ET) #[.pointer (some ⟨cb,0,none⟩)] #[],.func (.func E.EC) #[.pointer (some ⟨cb,0,none⟩)] #[]]
 refine AO (vs:=fs) H3 λb6 w7 H7 _=> ?_;refine AI (λst w'=> ∃(i:Nat) (W1:SW) (U1 M1:BI),st.1=0/\st.2.1=0/\st.2.2.1=(i:Int)/\i<=3/\Iy W1 U1 M1/\AA3 k np W U M i W1 U1 M1/\Sat (Cells b6 E.EO fs::Bt E cb b h s r W1::Z) w') (λst _=>(4-st.2.2.1).toNat) ⟨0,W,U,M,rfl,rfl,rfl,by decide,hI,⟨rfl,rfl,rfl⟩,H7⟩ ?_;rintro⟨z0,z1,i',u⟩ _ w9 ⟨i,W1,U1,M1,rfl,rfl,hi,a1,v,T,H9⟩;dsimp only at hi⊢;subst hi;refine AB (λ_=>⟨⟨by omega,by omega⟩,?_⟩) λg=>absurd (by omega) g;have O:Sat (Bt E cb b h s r W1::Cells b6 E.EO fs::Z) w9:=H9.front 1 rfl;have aE: ∀w',Sat (Cells b6 E.EO fs::Z) w'->FQ E.AJ w':=λw' h'=>hT w' h'.tail;rw[Int.toNat_natCast,Nat.mul_one];have nx:i<3->i64 ((i:Int)+1)=((i+1:Nat):Int):=λ_=>by rw[AF];rfl
 have aQ:i=0∨i=1∨i=2∨i=3:=by omega
 rcases aQ with rfl|rfl|rfl|rfl
 .obtain⟨rfl,rfl,rfl⟩:=T;refine⟨_,H9.cell (o:=0) (m:=0) rfl,hE.bL (some ⟨cb,0,none⟩) p k np _ w9 (QK hE O hI.inv (λh0 w' y=> ?_) λx l hx d w' y=> ?_)⟩
  .refine⟨0,false,0,rfl,AU (AP rfl λj=>AP rfl ?_)⟩;rw[nx (by decide)];exact⟨⟨1,W1,U1,M1,rfl,rfl,rfl,by decide,hI,⟨h0,rfl,rfl,rfl⟩,y.front 1 rfl⟩,by decide⟩
  .exact⟨x.id,true,0,rfl,AU (AR rfl λj=>AR rfl (hK _ _ _ _ _ (.D0 k0 k1 hx) (hI.rem x.id) w' (y.front 1 rfl).tail))⟩
 .obtain⟨h0,rfl,rfl,rfl⟩:=T;refine⟨_,H9.cell (o:=0) (m:=1) rfl,hE.UM (some ⟨cb,0,none⟩) p k np _ w9 ?_⟩;unfold F.BP T0.BP;refine AO (vs:=[.int .i64 p,.int .i64 k,.bool np]) O λb1 w2 J _=>⟨_,J.cell rfl,_,J.cell rfl,_,J.cell rfl,OU hE (λw' h'=>aE w' h'.tail) (J.front 1 rfl) v λid ok e W2 U2 M2 Y d w' y=>⟨id,ok,e,rfl,?_⟩⟩;cases A6:ok with
  | true=>exact AU (AR rfl λj=>AR rfl (hK _ _ _ _ _ (.part k0 k1 h0 Y (.inl A6)) d w' (((y.front 1 rfl).tail.front 1 rfl).tail)))
  | false=>
   refine AU (AP rfl λj=> ?_);by_cases he:e=0
   .have Mf:=Y.id0 A6;subst he Mf A6;refine AP rfl ?_;rw[nx (by decide)];exact⟨⟨2,W2,U2,M2,rfl,rfl,rfl,by decide,d,⟨h0,Y⟩,(y.front 1 rfl).tail.front 1 rfl⟩,by decide⟩
   .exact AR (by grind) (hK _ _ _ _ _ (.part k0 k1 h0 Y (.inr he)) d w' (((y.front 1 rfl).tail.front 1 rfl).tail))
 .obtain⟨h0,C⟩:=T;refine⟨_,H9.cell (o:=0) (m:=2) rfl,hE.nI (some ⟨cb,0,none⟩) p k np _ w9 ?_⟩;unfold F.B2 T0.B2;refine AO (vs:=[.int .i64 p,.int .i64 k,.bool np]) O λb1 w2 J _=>⟨_,J.cell rfl,_,J.cell rfl,_,J.cell rfl,OU hE (λw' h'=>aE w' h'.tail) (J.front 1 rfl) v λid ok e W2 U2 M2 Y d w' y=>⟨id,ok,e,rfl,?_⟩⟩;cases A6:ok with
  | true=>exact AU (AR rfl λj=>AR rfl (hK _ _ _ _ _ (.full k0 k1 h0 C v Y (.inl A6)) d w' (((y.front 1 rfl).tail.front 1 rfl).tail)))
  | false=>
   refine AU (AP rfl λj=> ?_);by_cases he:e=0
   .have Mf:=Y.id0 A6;subst he Mf A6;refine AP rfl ?_;rw[nx (by decide)];exact⟨⟨3,W2,U2,M2,rfl,rfl,rfl,by decide,d,⟨h0,W1,U1,M1,C,v,Y⟩,(y.front 1 rfl).tail.front 1 rfl⟩,by decide⟩
   .exact AR (by grind) (hK _ _ _ _ _ (.full k0 k1 h0 C v Y (.inr he)) d w' (((y.front 1 rfl).tail.front 1 rfl).tail))
 .obtain⟨h0,W2,U2,M2,C,d,aL⟩:=T;refine⟨_,H9.cell (o:=0) (m:=3) rfl,hE.bM (some ⟨cb,0,none⟩) p k np _ w9 (QL hE aE O v.inv k0 k1 (λS2 hl aK w' y=> ?_) λpage S2 bl id X hf A6 aK hX aF q0 q1 aP w' y=> ?_)⟩
  .exact⟨0,false,13,rfl,AU (AP rfl λj=>AR rfl (hK _ _ _ _ _ (.lost k0 k1 h0 C d aL v hl) (y.D8.Yz aK v.em) w' (y.front 1 rfl).tail))⟩
  .exact⟨id,true,0,rfl,AU (AR rfl λj=>AR rfl (hK _ _ _ _ _ (.new k0 k1 h0 C d aL v hf hX aF) (y.D8.Yz aP v.em) w' (y.front 1 rfl).tail))⟩
end
def Dv(E:Env)(cb b h s r:Nat)(W:SW)(U M:BI):Pr:=Lo [Cells cb E.BT [.pointer (some ⟨b,0,none⟩)],Kh E b h s r W U M]
section
variable{E:Env}{cb b h s r:Nat}{W W':SW}{U M U' M':BI}{Z:List Pr}{w:World}
def Sat.FL:Sat (Dv E cb b h s r W U M::Z) w↔Sat (Kh E b h s r W U M::Cells cb E.BT [.pointer (some ⟨b,0,none⟩)]::Z) w:=
 ⟨λh=>(Sat.star.1 h).perm (.swap _ _ _),λh=>Sat.star.2 (h.perm (.swap _ _ _))⟩
def K9(H:Sat (Dv E cb b h s r W U M::Z) w):w.cell? (Addr.mk cb 0 none)=some (.pointer (some ⟨b,0,none⟩)):=((Sat.FL.1 H).front 1 rfl).Af rfl
def VV(H:Sat (Dv E cb b h s r W U M::Z) w):w.cell? (Addr.mk b 0 none)=some (.pointer (some ⟨h,0,none⟩))/\w.cell? ((Addr.mk b 0 none).add 1)=some (.pointer (some ⟨s,0,none⟩)):=by
 obtain⟨em,H1⟩:=Sat.Re.1 (Sat.FL.1 H);exact⟨(H1.front 2 rfl).Af rfl,(H1.front 2 rfl).cell rfl⟩
def ZB(H:Sat (Dv E cb b h s r W U M::Z) w)(hI:Bm W U M){id:Int}(GR:Nat)(hf:W.L.length<1099511627776){K:Int->World->Prop}
  (j:W.S.sp id=none-> ∀w',Sat (Dv E cb b h s r W U M::Z) w'->K 35 w')(v:W.S.sp id≠none->(∃x∈W.L,x.id=id)-> ∀w',Sat (Dv E cb b h s r W U M::Z) w'->K 34 w')
  (C: ∀x,W.S.sp id=some x->(∀y∈W.L,y.id≠id)-> ∀w',Sat (Dv E cb b h s r {W with L:=IC W.L ⟨GR,id,x.2.base,(x.2.cls,x.2.Fv,x.2.used==x.2.AK,true)⟩} U M::Z) w'->K 0 w'):
  F.BZ E (some ⟨cb,0,none⟩) id K w:=by
 unfold F.BZ T0.BZ;exact AH ⟨some ⟨b,0,none⟩,K9 H,UK (Sat.FL.1 H) hI GR hf (λJ w' d=>j J w' (Sat.FL.2 d)) (λJ T w' d=>v J T w' (Sat.FL.2 d)) λx T O w' d=>C x T O w' (Sat.FL.2 d)⟩
def nJ(H:Sat (Dv E cb b h s r W U M::Z) w)(y:KJ W.L){k:Kd}{K:Int->Bool->World->Prop}(j:Dm W.L k=[]-> ∀w',Sat (Dv E cb b h s r W U M::Z) w'->K 0 false w')
  (v: ∀x l,Dm W.L k=x::l-> ∀w',Sat (Dv E cb b h s r {W with L:=Fk W.L x.id} U M::Z) w'->K x.id true w'):F.Bn E (some ⟨s,0,none⟩) k.1 k.2.1 k.2.2.1 k.2.2.2 K w:=by
 obtain⟨em,H1⟩:=Sat.Re.1 (Sat.FL.1 H);exact YM (H1.front 1 rfl) y (λh0 w' d=>j h0 w' (Sat.FL.2 (Sat.Re.2 ⟨em,d.front 1 rfl⟩))) λx l C w' d=>v x l C w' (Sat.FL.2 (Sat.Re.2 ⟨em,d.front 1 rfl⟩))
def Ki{k id e:Int}{np full ok:Bool}(H:Sat (Dv E cb b h s r W U M::Z) w)(hI:Iy W U M)(hc:FD k np full W U M id ok e W' U' M'){K:Int->Int->World->Prop}{K2:World->Prop}
  (h1:(ok=true∨e≠0)-> ∀w',Sat (Dv E cb b h s r W' U' M'::Z) w'->K id e w')(h2:ok=false->e=0-> ∀w',Sat (Dv E cb b h s r W' U' M'::Z) w'->K2 w'):
      Az (Unit) (()) w λcM _ aD aC=>
       NC (some ⟨cb,0,none⟩) λa1=>
       ∃aT:(Option Addr),aD.cell? a1=some (.pointer aT)/\
       NC aT λa2=>
       ∃aU:(Option Addr),aD.cell? (a2.add 1)=some (.pointer aU)/\
       F.Bn E aU k np full false (λaM a4 aO=>
       CND (!a4) (
        K2 aO
       ) (
        NC (some ⟨cb,0,none⟩) λa3=>
        ∃aV:(Option Addr),aO.cell? a3=some (.pointer aV)/\
        F.A9 E aV aM true (λbE bF aS aE=>
        CND ((aS:Int) !=0) (
         K 0 aS aE
        ) (
         NC (some ⟨cb,0,none⟩) λaK=>
         ∃T:(Option Addr),aE.cell? aK=some (.pointer T)/\
         NC T λaL=>
         ∃Y:(Option Addr),aE.cell? aL=some (.pointer Y)/\
         F.Am E Y aM (λJ O=>
         NC J λC=>
         ∃j:Int,O.drew.cell? (C.add 6)=some (.int .i64 j)/\
         F.BE E J (λaN d=>
         d.cell? (C.add 6)=some (.int .i64 j)/\
         CND (decide ((aN:Int)<j)) (
          K aM 0 d
         ) (
          aC (()) d
         )
         ) O.drew
         ) aE
        )
        ) aO
       )
       ) aD:=by
 refine P7 (λn _ w'=> ∃W1 U1 M1,Iy W1 U1 M1/\n=nU W1.L/\FD k np full W1 U1 M1 id ok e W' U' M'/\Sat (Dv E cb b h s r W1 U1 M1::Z) w') _ ⟨W,U,M,hI,rfl,hc,H⟩ ?_;rintro n _ _ aD ⟨W1,U1,M1,aA,rfl,hc,H1⟩;refine AH ⟨some ⟨b,0,none⟩,K9 H1,AH ⟨some ⟨s,0,none⟩,(VV H1).2,nJ H1 aA.se (k:=(k,np,full,false)) (λh0 w' H'=>AR rfl ?_) λx l hx w' H'=>AP rfl (AH ⟨some ⟨b,0,none⟩,K9 H',?_⟩)⟩⟩
 .cases hc with
  | none=>exact h2 rfl rfl w' H'
  | Qz h=>rw[h0]at h;cases h
  | Kx h=>rw[h0]at h;cases h
  | go h=>rw[h0]at h;cases h
 .have v:=aA.rem x.id;have hm:=EL.1 (show x∈Dm W1.L (k,np,full,false) by rw[hx];exact List.mem_cons_self);have a0:x.D0=false:=by grind
  have a7:=eF aA.se hm.1 a0;obtain⟨y0,bD,_⟩:=aA.inv.it x hm.1;refine O4 (Sat.FL.1 H') v.inv v.hk v.KV v.em (λz hz=>(FB.1 hz).2) (λhn=> ?_) (λz hz aJ w6 H6=> ?_) λz hz aB=> ?_
  .grind
  .refine AR rfl ?_;cases hc with
   | none h=>rw[hx]at h;cases h
   | Qz h=>rw[hx]at h;cases h;exact h1 (.inr (by decide)) w6 (Sat.FL.2 H6)
   | Kx h hO=>
    rw[hx]at h;cases h;obtain⟨_,_,_,_,aB,_⟩:=hO;obtain⟨i,i1,i2⟩:=aJ;rw[aB i i1]at i2;cases i2
   | go h hO=>
    rw[hx]at h;cases h;obtain⟨_,_,_,_,aB,_⟩:=hO;obtain⟨i,i1,i2⟩:=aJ;rw[aB i i1]at i2;cases i2
  .have cnt: ∀{W2 U2 M2 w2 y} {P Q:World->Prop},Iy W2 U2 M2->W2.S.sp x.id=some y->Sat (Kh E b h s r W2 U2 M2::Cells cb E.BT [.pointer (some ⟨b,0,none⟩)]::Z) w2->(y.2.used<y.2.AK-> ∀w',Sat (Dv E cb b h s r W2 U2 M2::Z) w'->P w')->(¬y.2.used<y.2.AK-> ∀w',Sat (Dv E cb b h s r W2 U2 M2::Z) w'->Q w')->
     NC (some ⟨cb,0,none⟩) λaK=>
         ∃T:(Option Addr),w2.cell? aK=some (.pointer T)/\
         NC T λaL=>
         ∃Y:(Option Addr),w2.cell? aL=some (.pointer Y)/\
         F.Am E Y x.id (λJ O=>
         NC J λC=>
         ∃j:Int,O.drew.cell? (C.add 6)=some (.int .i64 j)/\
         F.BE E J (λaN d=>
         d.cell? (C.add 6)=some (.int .i64 j)/\
         CND (decide ((aN:Int)<j)) (P d) (Q d)
         ) O.drew
         ) w2:=λ{W2 U2 M2 w2 y P Q} hI2 hy H2 hP hQ=>by
    have H3:=Sat.FL.2 H2;refine AH ⟨some ⟨b,0,none⟩,K9 H3,AH ⟨some ⟨h,0,none⟩,(VV H3).1,?_⟩⟩;obtain⟨em,H4⟩:=Sat.Re.1 H2;refine UL H4 hI2.inv.hI (λhn=>by grind) λy' q R aR H5 _=>AH ?_;rw[hy]at aR;cases aR;have H6:=H5.drew;have c6:w2.drew.cell? ((Addr.mk q 0 none).add 6)=some (.int .i64 y.2.AK):=by
     obtain⟨_,_,_,_,_,_,h7⟩:=Sat.Gk.1 H6;exact h7.cell rfl
    have hg:=(hI2.inv.sp _ _ hy).2.cnt;refine⟨_,c6,ID H6 ⟨c6,AB (λg=>hP (by omega) _ H3.drew) λg=>hQ (by omega) _ H3.drew⟩⟩
   cases hc with
   | none h=>grind
   | Qz h hzs aJ=>grind
   | Kx h hO hOk hy hlt=>
    rw[hx]at h;cases h;exact⟨_,_,_,_,_,hO,hOk.inv,λw2 H2=>AP rfl (cnt hOk hy H2 (λ_ w' H'=>h1 (.inl rfl) w' H') λg=>absurd hlt g)⟩
   | go h hO hOk hy heq hc=>
    rw[hx]at h;cases h;obtain⟨_,bC,_⟩:=hO.kept v.inv;refine⟨_,_,_,_,_,hO,hOk.inv,λw2 H2=>AP rfl (cnt hOk hy H2 (λg=>absurd g (by omega)) λ_ w' H'=>⟨_,?_,_,_,_,hOk,rfl,hc,H'⟩)⟩
    grind
def nK(p k:Int)(np:Bool)(id e:Int)(W':SW)(U' M':BI)(d:SW)(v j:BI):Prop:=
 (∃S2,Oo d.S p (Aj k).2.1 S2/\id=0/\e=13/\W'={d with S:=S2}/\U'=v/\M'=j)∨
 ∃page S2 y X,Found d.S p (Aj k).2.1 page S2/\Next S2 id X/\e=0/\W'={d with S:=S2.C5 id (y,Gw page (Aj k).2.1 k np) page (Aj k).2.1 X}/\U'=v.set id F8/\M'=j.set id F8
def nL(k:Int)(np full:Bool)(id e:Int)(W':SW)(U' M':BI)(N:SW->BI->BI->Prop)(v:SW)(j d:BI):Prop:=
 (∃ok,FD k np full v j d id ok e W' U' M'/\(ok=true∨e≠0))∨ ∃W2 U2 M2,FD k np full v j d 0 false 0 W2 U2 M2/\Iy W2 U2 M2/\N W2 U2 M2
def nM(p k:Int)(np:Bool)(id e:Int)(W':SW)(U' M':BI):Nat->SW->BI->BI->Prop
 | 0=>nL k np false id e W' U' M' (nL k np true id e W' U' M' (nK p k np id e W' U' M'))
 | 1=>nL k np true id e W' U' M' (nK p k np id e W' U' M')
 | _=>nK p k np id e W' U' M'
def bO{p k id e:Int}{np:Bool}(H:Sat (Dv E cb b h s r W U M::Z) w)(hI:Iy W U M)(hG:Ug p k np W U M id e W' U' M'){K:Int->Int->World->Prop}(hK: ∀w',Sat (Dv E cb b h s r W' U' M'::Z) w'->K id e w'):
  F.Bi E (some ⟨cb,0,none⟩) p k np K w:=by
 unfold F.Bi T0.Bi;have bL:(decide (k<1)||decide (k>67))=decide (¬(1<=k/\k<68)):=by grind
 suffices hs:1<=k/\k<68->NC (some ⟨cb,0,none⟩) _ by
  refine AU (AB (λg j=>AR rfl ?_) λg j=>AB (λg2=> ?_) λg2=>hs (by omega))
  all_goals
   cases hG with
   | bad _=>exact hK w H
   | _=>omega
 rintro⟨k0,k1⟩;have aR:(∃x l,Dm W.L (k,np,false,true)=x::l/\id=x.id/\e=0/\W'={W with L:=Fk W.L x.id}/\U'=U/\M'=M)∨(Dm W.L (k,np,false,true)=[]/\nM p k np id e W' U' M' 0 W U M):=by
  cases hG with
  | bad h=>omega
  | D0 _ _ h=>grind
  | part _ _ h y ho=>exact .inr ⟨h,.inl ⟨_,y,ho⟩⟩
  | full _ _ h y A6 hc2 ho=>exact .inr ⟨h,.inr ⟨_,_,_,y,A6,.inl ⟨_,hc2,ho⟩⟩⟩
  | lost _ _ h y A6 hc2 hok2 hl=>exact .inr ⟨h,.inr ⟨_,_,_,y,A6,.inr ⟨_,_,_,hc2,hok2,.inl ⟨_,hl,rfl,rfl,rfl,rfl,rfl⟩⟩⟩⟩
  | new _ _ h y A6 hc2 hok2 hf hx _=>exact .inr ⟨h,.inr ⟨_,_,_,y,A6,.inr ⟨_,_,_,hc2,hok2,.inr ⟨_,_,_,_,hf,hx,rfl,rfl,rfl,rfl⟩⟩⟩⟩
 refine AH ⟨some ⟨b,0,none⟩,K9 H,AH ⟨some ⟨s,0,none⟩,(VV H).2,nJ H hI.se (k:=(k,np,false,true)) (λh0 aS aE=>AP rfl ?_) λx l hx aS aE=>AR rfl ?_⟩⟩
 rotate_left
 .rcases aR with ⟨x',l',T,e1,e2,e3,e4,e5⟩|⟨h0,_⟩
  .rw[hx]at T;cases T;rw[e1,e2,e3,e4,e5]at hK;exact hK aS aE
  .rw[hx]at h0;cases h0
 have hR:nM p k np id e W' U' M' 0 W U M:=by
  rcases aR with ⟨x',l',T,_⟩|⟨_,h⟩
  .rw[h0]at T;cases T
  .exact h
 refine AO (vs:=[.bool false,.bool true]) aE λO bM aY _=> ?_;refine AI (λst w'=> ∃(i:Nat) (C:SW) (U1 M1:BI),st.1=(i:Int)/\i<=2/\Iy C U1 M1/\nM p k np id e W' U' M' i C U1 M1/\Sat (Dv E cb b h s r C U1 M1::Cells O E.Ad [.bool false,.bool true]::Z) w') (λst _=>(2-st.1).toNat) ⟨0,W,U,M,rfl,by decide,hI,hR,aY.front 1 rfl⟩ ?_;rintro⟨i',u⟩ _ bN ⟨i,C,U1,M1,hi,bK,d,aG,v⟩;dsimp only at hi⊢;subst hi;have fin: ∀w',Sat (Dv E cb b h s r W' U' M'::Cells O E.Ad [.bool false,.bool true]::Z) w'->K id e w':=λw' H'=>hK w' (H'.front 1 rfl).tail;have bad: ∀{ok:Bool} {P:Prop},(ok=true∨e≠0)->ok=false->e=0->P:=λ{ok P} ho h1 h2=>by grind
 have aC: ∀{P:Prop},(false=true∨(0:Int)≠0)->P:=λ{P} ho=>by grind
 have a4:i=0∨i=1∨i=2:=by omega
 rcases a4 with rfl|rfl|rfl
 .refine AR rfl ⟨⟨by decide,by decide⟩,false,(v.front 1 rfl).Af rfl,?_⟩;rcases aG with ⟨ok,y,ho⟩|⟨W2,U2,M2,y,A6,hn⟩
  .exact Ki v d y (λ_=>fin) λh1 h2=>bad ho h1 h2
  .exact Ki v d y (λg=>aC g) λ_ _ w' H'=>⟨⟨1,W2,U2,M2,by rw[AF (by decide) (by decide)];rfl,by decide,A6,hn,H'⟩,by rw[AF (by decide) (by decide)];decide⟩
 .refine AR rfl ⟨⟨by decide,by decide⟩,true,(v.front 1 rfl).cell (o:=0) (m:=1) rfl,?_⟩;rcases aG with ⟨ok,y,ho⟩|⟨W2,U2,M2,y,A6,hn⟩
  .exact Ki v d y (λ_=>fin) λh1 h2=>bad ho h1 h2
  .exact Ki v d y (λg=>aC g) λ_ _ w' H'=>⟨⟨2,W2,U2,M2,by rw[AF (by decide) (by decide)];rfl,by decide,A6,hn,H'⟩,by rw[AF (by decide) (by decide)];decide⟩
 .refine AP rfl (RT v λaB bP aZ=>AH ?_);have Hd:=aZ.drew;have Hc:=Hd.front 1 rfl;refine⟨some ⟨b,0,none⟩,K9 Hc,AH ⟨some ⟨h,0,none⟩,(VV Hc).1,?_⟩⟩;have hl:=Hd.F9 (by decide) Al;rw[Jb]at hl;obtain⟨x,hx⟩:=Hd.FZ (by decide) Al (i:=k.toNat) (by rw[Jb];omega);have cell: ∀{w'} {Y:List Pr},Sat (Row E.Ar 4 aB (Ao HW KH)::Y) w'->w'.cell? (((Addr.mk x 0 none).add (Int.toNat k*4)).add 1)=some (.int .i64 (Aj k).2.1):=λh=>by
   rw[add_add];exact h.Bu Al hx (Ky (by omega) k1) (j:=1) rfl
  rw[hx];have bI:=Ke (c:=k) (by omega) k1;have bJ:=Ov (c:=k) (by omega) k1;refine AH ⟨⟨by omega,by omega⟩,_,cell Hd,?_⟩;rw[AM (n:=(Aj k).2.1)];have aD: ¬F7 0 (Aj k).2.1 k:=by unfold F7;omega
  obtain⟨em,aM⟩:=Sat.Re.1 (Sat.FL.1 Hc);have cl: ∀{W2:SW} {U2 M2:BI} {w'},W2.L=C.L->W2.R=C.R->W2.em=C.em->GZ h s r em W2=GZ h s r em C->Sat (LA E h W2.S (UJ U2 M2)::(GP E b h s r C em++Cells cb E.BT [.pointer (some ⟨b,0,none⟩)]::Row E.Ar 4 aB (Ao HW KH)::Cells O E.Ad [.bool false,.bool true]::Z)) w'->
    Sat (Dv E cb b h s r W2 U2 M2::Row E.Ar 4 aB (Ao HW KH)::Cells O E.Ad [.bool false,.bool true]::Z) w':=λ{W2 U2 M2 w'} e1 e2 e3 e4 h'=>by
   have er:GP E b h s r W2 em=GP E b h s r C em:=by unfold GP;grind
   exact Sat.FL.2 (Sat.Re.2 ⟨em,by rw[er];exact h'⟩)
  have last: ∀{w'},Sat (Dv E cb b h s r W' U' M'::Row E.Ar 4 aB (Ao HW KH)::Cells O E.Ad [.bool false,.bool true]::Z) w'->w'.cell? (((Addr.mk x 0 none).add (Int.toNat k*4)).add 1)=some (.int .i64 (Aj k).2.1)/\w'.cell? (Addr.mk cb 0 none)=some (.pointer (some ⟨b,0,none⟩))/\K id e w':=λ{w'} h'=>
   ⟨cell (h'.front 1 rfl),K9 h',fin w' (h'.front 1 rfl).tail⟩
  rcases aG with ⟨S2,hL,e1,e2,e3,e4,e5⟩|⟨page,S2,bl,X,hF,hX,e2,e3,e4,e5⟩
  .rw[e1,e2,e3,e4,e5]at last;refine QI aM d.inv.hI d.hk (by omega) (by omega) (λc=>absurd c aD) (λ_ S3 aF aT J=> ?_) λ_ page S3 a7 X hF _ _ _=>(hF.not hL).elim;rw[aF.uniq hL]at J;exact last (cl (W2:={C with S:=S2}) rfl rfl rfl rfl J)
  .rw[e2,e3,e4,e5]at last;refine QI aM d.inv.hI d.hk (by omega) (by omega) (λc=>absurd c aD) (λ_ S3 aF aT J=>(hF.not aF).elim) λ_ a9 S3 a7 X' a2 a3 aT J=> ?_;obtain⟨rfl,rfl⟩:=hF.uniq a2;obtain⟨rfl,rfl⟩:=hX.uniq a3;have aN:=J bl;rw[eD]at aN;exact last (cl (W2:={C with S:=S2.C5 id (bl,Gw page (Aj k).2.1 k np) page (Aj k).2.1 X}) (U2:=U1.set id F8) (M2:=M1.set id F8) rfl rfl rfl rfl aN)
end
section
variable{E:Env}{w:World}{Rs Z:List Pr}
def ZC{b1 t1:Nat}{us:List Value}{s0 s1 s2:AX}{pl:List Int}{rf:List Bool}{fl:List Int}(j: ∀x∈pl,0<=x/\x<18446744073709551616)
  (T:pl.length<=1099511627776)(Y:rf.length<=1099511627776)(k2:fl.length<=1099511627776)
  {K:Option Addr->World->Prop}(O: ∀b w',Sat (Co E b (OC pl rf fl)::Rs) w'->K (some ⟨b,0,none⟩) w')
  (H:Sat (Cells b1 t1 us::Row E.AD 1 s0 (ints .u64 pl)::Row E.Ad 1 s1 (BB rf)::Row E.AD 1 s2 (ints .u64 fl)::Rs) w):F.JQ E s0 s1 s2 K w:=by
 have y:pl.length=s0.len:=by have:=(H.front 1 rfl).C1;rw[ints,List.length_map]at this;omega
 have C:rf.length=s1.len:=by have:=(H.front 2 rfl).C1;rw[BB,List.length_map]at this;omega
 have J:fl.length=s2.len:=by have:=(H.front 3 rfl).C1;rw[ints,List.length_map]at this;omega
 refine fR H j (λw' h=>by simpa using(h.front 1 rfl).JJ) y (by omega) (λw' h=>by simpa using(h.front 2 rfl).JJ) C (by omega) (λw' h=>by simpa using(h.front 3 rfl).JJ) J (by omega) λb v d=>O b v ?_;exact((((d.front 1 rfl).tail.front 1 rfl).tail.front 1 rfl).tail.front 1 rfl).tail
def QM(H:Sat Rs w){a0 a1 a2:AX}{pl:List Int}{rf:List Bool}{fl:List Int}(C: ∀x∈pl,0<=x/\x<18446744073709551616)
  (h0: ∀w',Sat Rs w'->rowAt w' a0.base a0.len (ints .u64 pl))(l0:pl.length=a0.len)(k0:a0.len<=1099511627776)
  (h1: ∀w',Sat Rs w'->rowAt w' a1.base a1.len (BB rf))(l1:rf.length=a1.len)(k1:a1.len<=1099511627776)
  (h2: ∀w',Sat Rs w'->rowAt w' a2.base a2.len (ints .u64 fl))(l2:fl.length=a2.len)(k2:a2.len<=1099511627776)
  {K:Option Addr->World->Prop}(hK: ∀cb b h s r w',Sat (Bt E cb b h s r (SW.new (HS.new (OC pl rf fl)))::Rs) w'->K (some ⟨cb,0,none⟩) w'):F.Cq E a0 a1 a2 K w:=by
 unfold F.Cq T0.Cq;have J:(ints IntKind.u64 pl).length=a0.len:=by rw[ints,List.length_map];exact l0
 have Y:(BB rf).length=a1.len:=by rw[BB,List.length_map];exact l1
 have O:(ints IntKind.u64 fl).length=a2.len:=by rw[ints,List.length_map];exact l2
 refine AO (vs:=[FJ a0,FJ a1,FJ a2]) H λb1 w2 H2 _=> ?_;refine AV (λst w'=> ∃b,st.1=some ⟨b,0,none⟩/\Sat (Co E b (OC pl rf fl)::Rs) w') ?_ ?_
 .have T:Sat (Cells b1 E.HI [FJ a0,FJ a1,FJ a2]::cB::cB::cB::Rs) w2.drew:=(H2.drew.emp.emp.emp).front 3 rfl;clear H2;have t4: ∀{P0 P1 P2:Pr} {w'},Sat (P0::P1::P2::Rs) w'->Sat Rs w':=λh=>h.tail.tail.tail;refine⟨a0,T.Af rfl,a1,T.cell rfl,a2,T.cell rfl,?_⟩
  repeat' first
   | (exact Sat.cell (by assumption) (by rfl))
   | (exact Sat.Af (by assumption) (by rfl))
   | (refine Ly 1 (a:=a0) (vs:=ints .u64 pl) (by assumption) (by rfl) rfl (by intro w' h;exact h0 w' (t4 h)) J k0 (by decide) (Pw _ _) λs' w' d=> ?_)
   | (refine Ly 1 (a:=a2) (vs:=ints .u64 fl) (by assumption) (by rfl) rfl (by intro w' h;exact h2 w' (t4 h)) O k2 (by decide) (Pw _ _) λs' w' d=> ?_)
   | (refine Ly 2 (a:=a1) (vs:=BB rf) (by assumption) (by rfl) rfl (by intro w' h;exact h1 w' (t4 h)) Y k1 (by decide) (gL _) λs' w' d=> ?_)
   | (refine Ly 3 (a:=a0) (vs:=ints .u64 pl) (by assumption) (by rfl) rfl (by intro w' h;exact h0 w' (t4 h)) J k0 (by decide) (Pw _ _) λs' w' d=> ?_)
   | (refine Ly 3 (a:=a2) (vs:=ints .u64 fl) (by assumption) (by rfl) rfl (by intro w' h;exact h2 w' (t4 h)) O k2 (by decide) (Pw _ _) λs' w' d=> ?_)
   | (refine Tl 2 (t:=E.Ad) (by assumption) (by rfl) λb' w' d=> ?_)
   | (refine Tl 1 (t:=E.AD) (by assumption) (by rfl) λb' w' d=> ?_)
   | (refine Tl 3 (t:=E.AD) (by assumption) (by rfl) λb' w' d=> ?_)
   | (exact ZC C (by omega) (by omega) (by omega) (λb w' h=>⟨b,rfl,h⟩) (by assumption))
   | (exact ZC C (by omega) (by omega) (by omega) (λb w' h=>⟨b,rfl,h⟩) (Sat.perm (by assumption) (.cons _ (((List.Perm.swap _ _ _).trans (.cons _ (.swap _ _ _))).trans (.swap _ _ _)))))
   | (refine And.intro ?_ ?_)
 .rintro⟨r,u⟩ _ w5 ⟨b,rfl,H5⟩;refine AP rfl (gH H5 λh aA v=>aL v λs w6 H6=>YO H6 λr w8 H8=> ?_);refine AU (AP rfl (AP rfl λj=>AP rfl (aV H8 λb aA v=>AP rfl (bN v λcb aB y=> ?_))));exact AU (AP rfl (EZ y (nH λj=>AP rfl (hK cb b h s r aB y))))
def ZD(H:Sat Rs w){K:Option Addr->World->Prop}(d: ∀cb b h s r w',Sat (Bt E cb b h s r (SW.new (HS.new (OC [] [] [])))::Rs) w'->K (some ⟨cb,0,none⟩) w'):F.Cq E ⟨none,0,0⟩ ⟨none,0,0⟩ ⟨none,0,0⟩ K w:=
 QM (a0:=⟨none,0,0⟩) (a1:=⟨none,0,0⟩) (a2:=⟨none,0,0⟩) H (pl:=[]) (rf:=[]) (fl:=[]) (by simp) (λ_ _=>show([]:List Value)=[]from rfl) rfl (by decide) (λ_ _=>show([]:List Value)=[]from rfl) rfl (by decide) (λ_ _=>show([]:List Value)=[]from rfl) rfl (by decide) d
end
section
variable{E:Env}{w:World}{Z:List Pr}(hE:SA E)
include hE
theorem Wp(hT: ∀w',Sat Z w'->FQ E.AJ w')(H:Sat Z w){K:Bool->World->Prop}(hK: ∀w',Sat Z w'->K true w'):F.Dh E K w:=by
 unfold F.Dh T0.Dh;have O:(Aj 5).2.1=1:=by rw[sI]
 refine ZD (E:=E) H λcb b h s r w3 H3=>AP rfl ?_;refine O5 hE hT H3 (Bm.new [] [] []) (λx d=>by cases d) (λg=>absurd (by decide) g) (λ_ _ x l d=>by cases d) (λ_ _ _ S2 hl aL=> ?_) λ_ _ _ page S2 bl id X hf A6 aL hX aT q0 q1 j w5 Y=> ?_
 .rw[O]at hl;exact((Fw.new []).lost (by decide) (by decide) hl).elim
 have es:=hf.same;obtain⟨rfl,rfl⟩:=hX.top (n:=0) (by rw[es.fx];rfl);rw[O]at hf q1 j Y;obtain⟨b',aP,hL⟩:=hf.laid (Fw.new []) A6 (by decide) (by decide);have a0:b'<=1024:=by rcases aP with rfl|rfl<;>decide
 have aB:=hL.C5 ((0:Nat)+1) (bl,Gw page 1 5 false) page 1 ⟨0+1,[]⟩;obtain⟨T,C⟩: ∃T,T=S2.C5 ((0:Nat)+1) (bl,Gw page 1 5 false) page 1 ⟨0+1,[]⟩:=⟨_,rfl⟩;rw[<-C]at j Y aB;have aR:T.fx=⟨1,[]⟩:=by rw[C];rfl
 have aV:T.sp 1=some (bl,Gw page 1 5 false):=by
  rw[C];show(if(1:Int)=((0:Nat):Int)+1 then some (bl,Gw page 1 5 false)else S2.sp 1)=_
  grind
 have Y:Sat (Bt E cb b h s r ⟨T,[],[],[],0,0,0,0⟩::Z) w5:=Y;obtain⟨U1,M1,j⟩: ∃U1 M1:BI,Bm ⟨T,[],[],[],0,0,0,0⟩ U1 M1:=⟨_,_,j⟩;refine Ri hE Y j (show([]:List DF).length<1099511627776 by decide) (λhn=> ?_) (λ_ ⟨y,hy,_⟩=>by cases hy) λx d bE GR v w7 H7=> ?_
 .grind
 have d:T.sp 1=some x:=d;rw[aV]at d;cases d;have aS:((Gw page 1 5 false).used==(Gw page 1 5 false).AK)=false:=by
  show((0:Int)==if(5:Int)=0 then(1:Int)else(Aj 5).2.2.1)=false;rw[sI];rfl
 obtain⟨it,J⟩: ∃it:DF,it=⟨GR,((0:Nat):Int)+1,(Gw page 1 5 false).base,((Gw page 1 5 false).cls,(Gw page 1 5 false).Fv,(Gw page 1 5 false).used==(Gw page 1 5 false).AK,true)⟩:=⟨_,rfl⟩;have a1:it.kd=(5,false,false,true):=by rw[J];show(5,false,_,true)=_;rw[aS]
 have aK:Sat (Bt E cb b h s r ⟨T,[it],[],[],0,0,0,0⟩::Z) w7:=by rw[J];exact H7
 have v:Bm ⟨T,[it],[],[],0,0,0,0⟩ U1 M1:=by rw[J];exact v
 have aU:Dm [it] (5,false,false,true)=[it]:=by unfold Dm;grind
 have aW: ∀x∈[it],x.D0=true:=λx d=>by grind
 refine O5 hE hT aK v aW (λg=>absurd (by decide) g) (λ_ _ x l d a9 aY aF=> ?_) (λ_ _ h0=>by grind) (λ_ _ h0=>by grind);have d:Dm [it] (5,false,false,true)=x::l:=d;rw[aU]at d;cases d;have a3:Fk [it] it.id=[]:=by unfold Fk;simp
 have aA:Sat (Bt E cb b h s r ⟨T,[],[],[],0,0,0,0⟩::Z) aY:=by
  have:=aF
  grind
 have Mf:it.id=1:=by grind
 refine O5 hE hT aA j (λx d=>by cases d) (λg=>absurd (by decide) g) (λ_ _ x l d=>by cases d) (λ_ _ _ S3 hl aM=> ?_) λ_ _ _ aX S3 a8 id X aQ a2 aM aO aE r0 r1 bA aZ aG=> ?_
 .rw[O]at hl;exact(Fw.lost (S:=T) aB (by decide) (by have:IZ 1=512:=(by decide);omega) hl).elim
 have aJ:=aQ.same;obtain⟨rfl,rfl⟩:=aO.top (n:=1) (by rw[aJ.fx];exact aR);rw[Mf];exact AR rfl (AR rfl (AR rfl (AR rfl (AR rfl (AR rfl (hK aZ aG.tail))))))
end
section
variable{E:Env}{c:Nat}{V:VS}{Z:List Pr}{w:World}{g:MG}{P:nS}{W:qV}
end
def Wq(i:Nat){t:Nat}{Ps:List Pr}{w:World}{K:Nat->World->Prop}(H:Sat Ps w)(d:Ps[i]? =some cB)(v: ∀b w',Sat (Ps.set i (Row t 1 ⟨some ⟨b,0,none⟩,0,0⟩ [])) w'->K b w'):AL (.cells ⟨[]⟩ t) w K:=
 Gs (n:=0) (z:=1) (H.front i d).tail rfl (by decide) λb w' j=>v b w' (Sat.back i j (List.getElem?_eq_some_iff.1 d).1)
def Ni(i:Nat){t bytes b:Nat}{zs:Array Value}{a:AX}{vs:List Value}{Ps:List Pr}{w:World}{K:AX->World->Prop}(H:Sat Ps w)(y:Ps[i]? =some (Row t 1 ⟨some ⟨b,0,none⟩,0,0⟩ []))(hz:zs.size=1)
  (d: ∀w',Sat (Ps.eraseIdx i) w'->rowAt w' a.base a.len vs)(T:vs.length=a.len)(hlen:a.len<=1099511627776)(j:bytes<=8)(O: ∀v∈vs,v.oneCell'=true)(J: ∀s' w',Sat (Ps.set i (Row t 1 s' vs)) w'->K s' w'):
  APP t 1 bytes zs ⟨some ⟨b,0,none⟩,0,0⟩ a w K:=by
 have hm:(0+a.len)*bytes<=1099511627776*8:=Nat.mul_le_mul (by omega) j;exact FU (H.front i y) hz (by simpa using d w (H.front i y).tail) (by omega) O (by grind) (by grind) λs' w' C _=>J s' w' (Sat.back i C (List.getElem?_eq_some_iff.1 y).1)
section
variable{E:Env}{b c:Nat}{V:VS}{Z Rs:List Pr}{w:World}
def rD(pl:List Int)(rf:List Bool)(fl:List Int):UY (OC pl rf fl):=
 ⟨trivial,trivial,trivial,λp h=>absurd h (CM p),λp h=>absurd h (CM p),λp h=>absurd h (CM p),λp h=>absurd h (CM p),λ_ _ _ _ _=>rfl,by show Ig []+Ig []<=Ig [];decide⟩
def ZE{b1 t1:Nat}{vs:List Value}{s0 s1 s2:AX}{pl:List Int}{rf:List Bool}{fl:List Int}(d: ∀x∈pl,0<=x/\x<18446744073709551616)
  (H:Sat (Cells c E.Au [FJ s0,FJ s1,FJ s2,.slice none 0 0,.slice none 0 0]::Cells b1 t1 vs::Row E.AD 1 s0 (ints .u64 pl)::Row E.Ad 1 s1 (BB rf)::Row E.AD 1 s2 (ints .u64 fl)::Rs) w):Sat (GU E c (OC pl rf fl)::Rs) w:=by
 refine Sat.UG.2 ⟨⟨s0,s1,s2,⟨none,0,0⟩,⟨none,0,0⟩⟩,[],[],⟨rD pl rf fl,.nil,.nil,λp=>⟨λh=>absurd h (CM p),λ⟨e,he,_⟩=>(by cases he)⟩,λe he=>(by cases he),λe he=>(by cases he),λe he=>(by cases he),d⟩,?_⟩;have h1:=(H.front 1 rfl).tail;have h2:=(h1.front 1 rfl).oA;have j:=(h2.front 2 rfl).oA;have v:=(j.front 3 rfl).oA;have y:=(v.nil E.Ap 3);have C:=(y.nil E.HO 2);exact C.perm ((List.reverse_perm [_,_,_,_,_,_]).symm.append_right Rs)
def iG(H:Sat Rs w){a0 a1 a2:AX}{pl:List Int}{rf:List Bool}{fl:List Int}(j: ∀x∈pl,0<=x/\x<18446744073709551616)
  (h0: ∀w',Sat Rs w'->rowAt w' a0.base a0.len (ints .u64 pl))(l0:pl.length=a0.len)(k0:a0.len<=1099511627776)
  (h1: ∀w',Sat Rs w'->rowAt w' a1.base a1.len (BB rf))(l1:rf.length=a1.len)(k1:a1.len<=1099511627776)
  (h2: ∀w',Sat Rs w'->rowAt w' a2.base a2.len (ints .u64 fl))(l2:fl.length=a2.len)(k2:a2.len<=1099511627776)
  {K:Option Addr->World->Prop}(Y: ∀b w',Sat (GU E b (OC pl rf fl)::Rs) w'->K (some ⟨b,0,none⟩) w'):F.JR E a0 a1 a2 K w:=by
 unfold F.JR;have v:(ints IntKind.u64 pl).length=a0.len:=by rw[ints,List.length_map];exact l0
 have O:(BB rf).length=a1.len:=by rw[BB,List.length_map];exact l1
 have y:(ints IntKind.u64 fl).length=a2.len:=by rw[ints,List.length_map];exact l2
 refine AO (vs:=[FJ a0,FJ a1,FJ a2]) H.emp.emp.emp λb1 w2 T _=> ?_;have J:=T.drew;clear T;have t4: ∀{P0 P1 P2:Pr} {w'},Sat (P0::P1::P2::Rs) w'->Sat Rs w':=λh=>h.tail.tail.tail;refine⟨a0,J.Af rfl,a1,J.cell rfl,a2,J.cell rfl,?_⟩
 repeat' first
  | (exact Sat.cell (by assumption) (by rfl))
  | (exact Sat.Af (by assumption) (by rfl))
  | (refine Ni 1 (a:=a0) (vs:=ints .u64 pl) (by assumption) (by rfl) rfl (by intro w' h;exact h0 w' (t4 h)) v k0 (by decide) (SV _ _) λs' w' d=> ?_)
  | (refine Ni 1 (a:=a2) (vs:=ints .u64 fl) (by assumption) (by rfl) rfl (by intro w' h;exact h2 w' (t4 h)) y k2 (by decide) (SV _ _) λs' w' d=> ?_)
  | (refine Ni 2 (a:=a1) (vs:=BB rf) (by assumption) (by rfl) rfl (by intro w' h;exact h1 w' (t4 h)) O k1 (by decide) (mX _) λs' w' d=> ?_)
  | (refine Ni 3 (a:=a0) (vs:=ints .u64 pl) (by assumption) (by rfl) rfl (by intro w' h;exact h0 w' (t4 h)) v k0 (by decide) (SV _ _) λs' w' d=> ?_)
  | (refine Ni 3 (a:=a2) (vs:=ints .u64 fl) (by assumption) (by rfl) rfl (by intro w' h;exact h2 w' (t4 h)) y k2 (by decide) (SV _ _) λs' w' d=> ?_)
  | (refine Wq 2 (t:=E.Ad) (by assumption) (by rfl) λC w' d=> ?_)
  | (refine Wq 1 (t:=E.AD) (by assumption) (by rfl) λC w' d=> ?_)
  | (refine Wq 3 (t:=E.AD) (by assumption) (by rfl) λC w' d=> ?_)
  | (refine AO (vs:=[FJ _,FJ _,FJ _,.slice none 0 0,.slice none 0 0]) (by assumption) λC w' d _=>Y _ _ (ZE j d))
  | (refine AO (vs:=[FJ _,FJ _,FJ _,.slice none 0 0,.slice none 0 0]) (by assumption) λC w' d _=>Y _ _ (ZE j (d.perm (.cons _ (.cons _ (((List.Perm.swap _ _ _).trans (.cons _ (.swap _ _ _))).trans (.swap _ _ _)))))))
  | (refine And.intro ?_ ?_)
end
end Go.Sh

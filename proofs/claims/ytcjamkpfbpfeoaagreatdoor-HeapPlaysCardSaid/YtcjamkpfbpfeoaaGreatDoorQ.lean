/- The heap tells its spans in a row: a range over a map, and the sort of the row. No further condition. -/
import Derived.Test.YtcjamkpfbpfeoaaGreatDoorA
import Derived.Test.YtcjamkpfbpfeoaaGreatDoorF
import Derived.Test.YtcjamkpfbpfeoaaGreatDoorH
import Derived.Test.YtcjamkpfbpfeoaaGreatDoorB
import Derived.Test.YtcjamkpfbpfeoaaGreatDoorV
set_option linter.all false
set_option maxRecDepth 8000
set_option maxHeartbeats 4000000
namespace Go.Sh
def SP(E:Env)(s:AZ)(Z:List Pr)(l0:List Int)(w:World):Prop:= ∃l:List Int,l.Perm l0/\Sat (Row E.CV 1 s (ints .i64 l)::Z) w
def CmpOk(E:Env)(cmp:Value)(s:AZ)(Z:List Pr)(l0:List Int):Prop:= ∀x y w (R:Value->World->Prop),x∈l0->y∈l0->SP E s Z l0 w->(∀r w',SP E s Z l0 w'->R (.int .i64 r) w')->DYN E.call cmp #[.int .i64 x,.int .i64 y] w R
section
variable{E:Env}{cmp:Value}{s:AZ}{Z:List Pr}{l0:List Int}{w:World}
variable(hC:CmpOk E cmp s Z l0)(hsm:s.len<1099511627776)
include hC hsm
end
end Go.Sh
set_option linter.all false
set_option maxRecDepth 8000
set_option maxHeartbeats 4000000
namespace Go.Sh
def vY:ByteArray:=⟨#[0,1,2,2,3,3,3,3,4,4,4,4,4,4,4,4,5,5,5,5,5,5,5,5,5,5,5,5,5,5,5,5,6,6,6,6,6,6,6,6,6,6,6,6,6,6,6,6,6,6,6,6,6,6,6,6,6,6,6,6,6,6,6,6,7,7,7,7,7,7,7,7,7,7,7,7,7,7,7,7,7,7,7,7,7,7,7,7,7,7,7,7,7,7,7,7,7,7,7,7,7,7,7,7,7,7,7,7,7,7,7,7,7,7,7,7,7,7,7,7,7,7,7,7,7,7,7,7,8,8,8,8,8,8,8,8,8,8,8,8,8,8,8,8,8,8,8,8,8,8,8,8,8,8,8,8,8,8,8,8,8,8,8,8,8,8,8,8,8,8,8,8,8,8,8,8,8,8,8,8,8,8,8,8,8,8,8,8,8,8,8,8,8,8,8,8,8,8,8,8,8,8,8,8,8,8,8,8,8,8,8,8,8,8,8,8,8,8,8,8,8,8,8,8,8,8,8,8,8,8,8,8,8,8,8,8,8,8,8,8,8,8,8,8,8,8,8,8,8,8,8,8,8,8,8,8]⟩
theorem len8_all:((List.range 256).all fun i=>match vY[i]? with|some b=>decide (i<2^b.toNat)&&(decide (i=0)&&decide (b.toNat=0)||decide (2^(b.toNat-1)<=i)&&decide (1<=b.toNat))&&decide (b.toNat<=8)|none=>false)=true:=by decide+kernel
theorem mM{n:Int}(h0:0<=n)(h1:n<256){K:Int->Prop}(y: ∀b:Nat,b<=8->n<2^b->(n=0->b=0)->(0<n->1<=b/\2^(b-1)<=n)->K (b:Int)):bN vY n K:=by
 obtain⟨k,rfl⟩:=Int.eq_ofNat_of_zero_le h0;have h:=List.all_eq_true.1 len8_all k (List.mem_range.2 (by omega));refine⟨h0,?_⟩;rw[Int.toNat_natCast];split at h
 ·rename_i b hb;simp only[Bool.and_eq_true,Bool.or_eq_true,decide_eq_true_eq]at h;obtain⟨⟨v,d⟩,j⟩:=h;refine⟨b,hb,y b.toNat j (by exact_mod_cast v) (fun e=> ?_) fun e=> ?_⟩
  ·rcases d with d|d
   ·exact d.2
   ·have:0<2^(b.toNat-1):=Nat.pow_pos (by decide);omega
  ·rcases d with d|d
   ·omega
   ·exact⟨d.2,by exact_mod_cast d.1⟩
 ·cases h
section
variable{E:Env}{w:World}
structure nV(x r:Int):Prop where
 r0:0<=r
 r1:r<=64
 up:x<2^r.toNat
 lo:0<x->1<=r/\2^(r.toNat-1)<=x
theorem Xk{X:Int}(h0:0<=X)(h1:X<18446744073709551616){K:Int->World->Prop}(hK: ∀r,nV X r->K r w):F.GY E X K w:=by
 unfold F.GY;have aA:(2:Int)^(min (Int.toNat 32) (IntKind.bits .u64))=4294967296:=by decide
 have aC:(2:Int)^(min (Int.toNat 16) (IntKind.bits .u64))=65536:=by decide
 have e8:(2:Int)^(min (Int.toNat 8) (IntKind.bits .u64))=256:=by decide
 rw[aA,aC,e8];refine AX (fun st w'=>w'=w/\ ∃n:Nat,st.2.1=(n:Int)/\n<=32/\st.1=X/2^n/\(n=0∨0<st.1)/\st.1<4294967296) ?_ ?_
 ·refine AD (fun h=>⟨by decide,AU fun x d=> ?_⟩) fun h=>⟨rfl,0,rfl,by decide,by simp,.inl rfl,by show X<_;omega⟩;rw[Int.fdiv_eq_ediv_of_nonneg _ (by decide)]at d;exact⟨rfl,32,rfl,by decide,d,.inr (by show 0<x;omega),by show x<_;omega⟩
 rintro⟨x,n',u⟩ _ w3 ⟨rfl,n,C,j,d,hz,v⟩;dsimp only at C d hz v⊢;subst C;have O:0<=x:=by rw[d];exact Int.ediv_nonneg h0 (Int.le_of_lt (Int.pow_pos (by decide)))
 refine AX (fun st w'=>w'=w3/\ ∃n:Nat,st.2.1=(n:Int)/\n<=48/\st.1=X/2^n/\(n=0∨0<st.1)/\st.1<65536) ?_ ?_
 ·refine AD (fun h=>⟨by decide,AU fun y T=> ?_⟩) fun h=>⟨rfl,n,rfl,by omega,d,hz,by show x<_;omega⟩;rw[Int.fdiv_eq_ediv_of_nonneg _ (by decide)]at T;rw[AH (n:=(n:Int)+16)];refine⟨rfl,n+16,by show(n:Int)+16=((n+16:Nat):Int);omega,by omega,?_,.inr (by show 0<y;omega),by show y<_;omega⟩;show y=X/2^(n+16);rw[T,d,Int.pow_add,<-Int.ediv_ediv_of_nonneg (Int.le_of_lt (Int.pow_pos (by decide)))];rfl
 clear d hz v O j;rintro⟨x,n',u⟩ _ w7 ⟨rfl,n,C,j,d,hz,v⟩;dsimp only at C d hz v⊢;subst C;have O:0<=x:=by rw[d];exact Int.ediv_nonneg h0 (Int.le_of_lt (Int.pow_pos (by decide)))
 refine AX (fun st w'=>w'=w7/\ ∃n:Nat,st.2.1=(n:Int)/\n<=56/\st.1=X/2^n/\(n=0∨0<st.1)/\st.1<256) ?_ ?_
 ·refine AD (fun h=>⟨by decide,AU fun y T=> ?_⟩) fun h=>⟨rfl,n,rfl,by omega,d,hz,by show x<_;omega⟩;rw[Int.fdiv_eq_ediv_of_nonneg _ (by decide)]at T;rw[AH (n:=(n:Int)+8)];refine⟨rfl,n+8,by show(n:Int)+8=((n+8:Nat):Int);omega,by omega,?_,.inr (by show 0<y;omega),by show y<_;omega⟩;show y=X/2^(n+8);rw[T,d,Int.pow_add,<-Int.ediv_ediv_of_nonneg (Int.le_of_lt (Int.pow_pos (by decide)))];rfl
 clear d hz v O j;rintro⟨x,n',u⟩ _ aH ⟨rfl,n,C,j,d,hz,v⟩;dsimp only at C d hz v⊢;subst C;have p0:(0:Int)<2^n:=Int.pow_pos (by decide);have O:0<=x:=by rw[d];exact Int.ediv_nonneg h0 (Int.le_of_lt p0)
 have ew:IntKind.wrap .u8 x=x:=by show x %256=x;omega
 rw[ew];refine(show bN vY x _ from mM O v fun b aP aE aI J=>AU fun r hr=> ?_);rw[AH (n:=(b:Int)),AH (n:=(n:Int)+(b:Int))]at hr;subst hr;have et:((n:Int)+(b:Int)).toNat=b+n:=by omega
 refine hK _ ⟨by omega,by omega,?_,fun hX=> ?_⟩
 ·rw[et,Int.pow_add];have:=(Int.ediv_lt_iff_lt_mul p0).1 (d▸aE);exact this
 ·by_cases hn0:n=0
  ·subst hn0;have ex:x=X:=by rw[d];simp
   have:=J (by omega);refine⟨by omega,?_⟩;rw[et,Nat.add_zero];rw[<-ex];exact this.2
  ·have Y:0<x:=hz.resolve_left hn0;have hl:=J Y;refine⟨by omega,?_⟩;rw[et,show b+n-1=(b-1)+n by omega,Int.pow_add];have:2^(b-1)<=X/2^n:=d▸hl.2;exact(Int.le_ediv_iff_mul_le p0).1 this
theorem Vv{X:Int}(h0:0<=X)(h1:X<18446744073709551616){K:Int->World->Prop}(d: ∀r,nV X r->K r w):F.Ek E X K w:=by
 unfold F.Ek T0.Ek;exact Xk h0 h1 d
theorem vZ(a:Int){b:Int}(h0:0<=b)(h1:b<18446744073709551616):0<=D8 .u64 0 a b/\D8 .u64 0 a b<=b:=by
 obtain⟨k,rfl⟩:=Int.eq_ofNat_of_zero_le h0;have e:D8 .u64 0 a (k:Int)=((BitVec.ofInt 64 a&&&BitVec.ofInt 64 (k:Int)).toNat:Int):=by
  show IntKind.wrap .u64 ((BitVec.ofInt 64 a&&&BitVec.ofInt 64 (k:Int)).toNat:Int)=_;exact Qi (BitVec.isLt _)
 rw[e,BitVec.toNat_and,BitVec.ofInt_natCast,BitVec.toNat_ofNat];have d:((BitVec.ofInt 64 a).toNat&&&k %2^64)<=k %2^64:=Nat.and_le_right;have j:k %2^64=k:=Nat.mod_eq_of_lt (by omega);rw[j]at d⊢;omega
theorem aM{n:Int}(h0:1<=n)(h1:n<1099511627776){K:Int->World->Prop}(O: ∀m,n<m->m<=2*n->K m w):F.CQ E n K w:=by
 unfold F.CQ T0.CQ;rw[AM (n:=n)];refine Vv (by omega) (by omega) fun r d=>⟨d.r0,AU fun t v=> ?_⟩;obtain⟨k,rfl⟩:=Int.eq_ofNat_of_zero_le d.r0;have j:=d.lo (by omega);have y:=d.up;rw[Int.toNat_natCast]at j y v;have T:1<=k:=by omega
 have J:(2:Int)^k=2*2^(k-1):=by
  rw[show k=(k-1)+1 by omega,Int.pow_succ];simp;omega
 have hle:(2:Int)^k<=2*n:=by rw[J];omega
 have C:k<64:=by
  refine Classical.byContradiction fun g=> ?_;have:k=64:=by have:=d.r1;omega
  subst this;have:(2:Int)^64=18446744073709551616:=by decide
  omega
 rw[show min k (IntKind.bits .u64)=k by show min k 64=k;omega,Int.one_mul,AM]at v;subst v;exact O _ (by omega) hle
end
section
variable{E:Env}{cmp:Value}{s:AZ}{Z:List Pr}{l0:List Int}{w:World}
theorem aN{b t:Nat}{x:Int}(H:Sat (Cells b t [.int .u64 x]::Z) w){K:Int->World->Prop}(O: ∀y w',Sat (Cells b t [.int .u64 y]::Z) w'->K y w'):F.Ev E (some ⟨b,0,none⟩) K w:=by
 unfold F.Ev;simp only[AI];have H1:=H.drew;refine⟨_,H1.A2 rfl,_,H1.A2 rfl,by decide,El H1 (o:=0) rfl (by simp) fun w6 Y=> ?_⟩;have J:=Y.drew;refine⟨_,J.A2 rfl,_,J.A2 rfl,by decide,El J (o:=0) rfl (by simp) fun T C=> ?_⟩;have d:=C.drew;refine⟨_,d.A2 rfl,_,d.A2 rfl,by decide,El d (o:=0) rfl (by simp) fun v j=> ?_⟩;exact⟨_,j.A2 rfl,O _ v j⟩
end
end Go.Sh
set_option linter.all false
set_option maxRecDepth 8000
set_option maxHeartbeats 4000000
namespace Go.Sh
structure Vw(E:Env):Prop extends EnvA E where
 fL: ∀x y p (R:Value->World->Prop) w,F.C9 E x y p (fun r w'=>R (.int .i64 r) w') w->E.call E.Fq #[.int .i64 x,.int .i64 y,.pointer p] w R LU
def Vx(b:Nat)(es:Array MapEntry)(c:Nat):Pr where
 holds D w:=(∀i,D i↔i=b)/\w.heap[b]? =some (.map es c)
 loc h he hS:=⟨h.1,he.obj h.2 (hS _ ((h.1 _).2 rfl))⟩
 lt h hk:=by have:=(h.1 _).1 hk;subst this;exact FU h.2
section
variable{E:Env}{w:World}{Z:List Pr}
theorem Sat.v7{b:Nat}{k:IntKind}{g:Int->Option Value}(H:Sat (Ef b k g::Z) w): ∃es c m,MapI k es c m/\(∀i,aget m i=g i)/\Sat (Vx b es c::Z) w:=by
 obtain⟨D,h,hs⟩:=H.step;obtain⟨es,c,m,h1,d,v⟩:=h.2;exact⟨es,c,m,d,v,hs w D _ (Ext.refl _ _) ⟨h.1,h1⟩ fun _ j=>.inl j⟩
theorem Sat.mN{b:Nat}{k:IntKind}{g:Int->Option Value}{es:Array MapEntry}{c:Nat}{m:List (Int×Value)}(H:Sat (Vx b es c::Z) w)(d:MapI k es c m)(v: ∀i,aget m i=g i):Sat (Ef b k g::Z) w:=by
 obtain⟨D,h,hs⟩:=H.step;exact hs w D _ (Ext.refl _ _) ⟨h.1,es,c,m,h.2,d,v⟩ fun _ j=>.inl j
theorem Sat.mapX{b:Nat}{es:Array MapEntry}{c:Nat}(H:Sat (Vx b es c::Z) w):w.heap[b]? =some (.map es c):=let⟨_,h⟩:=H.head;h.2
theorem fM{k:IntKind}{n:Int}{K:Int->Prop}(h:K n):QF k (.int k n) K:=by cases k<;>exact h
theorem Xl{x y:Int}{K:Int->World->Prop}(d: ∀r,(r<0↔x<y)->K r w):F.Cv E x y K w:=by
 unfold F.Cv T0.Cv F.Gj;simp only[bne_self_eq_false,ZY];refine AD (fun h=>d _ ⟨fun _=>h,fun _=>by decide⟩) fun h=>AD (fun v=>d _ ⟨fun h=>absurd h (by decide),fun j=>absurd j h⟩) fun v=>d _ ⟨fun h=>absurd h (by decide),fun j=>absurd j h⟩
variable{h:Nat}{S:HS}(hE:Vw E)
include hE
theorem Vy{b1 t:Nat}(H:Sat (Aj E h S::Cells b1 t [.pointer (some ⟨h,0,none⟩)]::Z) w){x y:Int}{X Y:Nat×SI}(hx:S.sp x=some X)(hy:S.sp y=some Y){K:Int->World->Prop}
  (hK: ∀r w',(r<0↔X.2.base<Y.2.base)->Sat (Aj E h S::Cells b1 t [.pointer (some ⟨h,0,none⟩)]::Z) w'->K r w'):F.C9 E x y (some ⟨b1,0,none⟩) K w:=by
 unfold F.C9 T0.C9
 try simp only[AI]
 obtain⟨g,hI,H1⟩:=Sat.heap.1 H.drew;obtain⟨es,c,m,hm,hg,H2⟩:=(H1.front 5 rfl).v7;have H3:Sat ([Cells h E.Ae (Bm g S.hint S.AB),BR E g.m S.V,BI E g.t S.T,Bu E g.a S.ks S.own,GC E g.f S.fx,Vx g.sm es c,Ap (JF E S.sp) g.ids,Ap (fun i:Nat=>A3 E (g.cb i) (S.ca i)) (List.range 64),Cells b1 t [.pointer (some ⟨h,0,none⟩)]]++Z) w.drew:=
  Sat.back (Ps:=CH E h S g++Cells b1 t [.pointer (some ⟨h,0,none⟩)]::Z) 5 H2 (by simp[CH])
 have facts: ∀{w':World},Sat ([Cells h E.Ae (Bm g S.hint S.AB),BR E g.m S.V,BI E g.t S.T,Bu E g.a S.ks S.own,GC E g.f S.fx,Vx g.sm es c,Ap (JF E S.sp) g.ids,Ap (fun i:Nat=>A3 E (g.cb i) (S.ca i)) (List.range 64),Cells b1 t [.pointer (some ⟨h,0,none⟩)]]++Z) w'->
   w'.cell? ((Addr.mk h 0 none).add 4)=some (.map (some g.sm))/\w'.cell? (Addr.mk b1 0 none)=some (.pointer (some ⟨h,0,none⟩))/\w'.heap[g.sm]? =some (.map es c):=fun C=>
  ⟨(Ba (S:=S) (g:=g) C).2.2.2.2.1,(C.front 8 rfl).A2 rfl,(C.front 5 rfl).mapX⟩
 have d: ∀{w':World} {z:Int} {U:Nat×SI},S.sp z=some U->Sat ([Cells h E.Ae (Bm g S.hint S.AB),BR E g.m S.V,BI E g.t S.T,Bu E g.a S.ks S.own,GC E g.f S.fx,Vx g.sm es c,Ap (JF E S.sp) g.ids,Ap (fun i:Nat=>A3 E (g.cb i) (S.ca i)) (List.range 64),Cells b1 t [.pointer (some ⟨h,0,none⟩)]]++Z) w'->
   ∀{R:Int->Int->Int->Int->Bool->Int->Int->Int->Bool->Bool->World->Prop},(∀r2 r3 r4 r5 r6 r7 r8 r9 aB w2,Sat ([Cells h E.Ae (Bm g S.hint S.AB),BR E g.m S.V,BI E g.t S.T,Bu E g.a S.ks S.own,GC E g.f S.fx,Vx g.sm es c,Ap (JF E S.sp) g.ids,Ap (fun i:Nat=>A3 E (g.cb i) (S.ca i)) (List.range 64),Cells b1 t [.pointer (some ⟨h,0,none⟩)]]++Z) w2->
    R U.2.base r2 r3 r4 r5 r6 r7 r8 r9 aB w2)->F.Dd E (some ⟨U.1,0,none⟩) R w':=by
  intro w' z U hz C R hR;have J:z∈g.ids:=(hI.mem z).2 (by rw[hz];exact fun h=>by cases h);obtain⟨i,hi⟩:=List.mem_iff_getElem?.1 J;have h1:=(C.front 6 rfl).Hs hi;have e:JF E S.sp z=Ed E U.1 U.2:=by unfold JF;rw[hz]
  rw[e]at h1;refine KF h1 fun w2 h2=>hR _ _ _ _ _ _ _ _ _ _ ?_;rw[<-e]at h2;exact Sat.back (Ps:=[Cells h E.Ae (Bm g S.hint S.AB),BR E g.m S.V,BI E g.t S.T,Bu E g.a S.ks S.own,GC E g.f S.fx,Vx g.sm es c,Ap (JF E S.sp) g.ids,Ap (fun i:Nat=>A3 E (g.cb i) (S.ca i)) (List.range 64),Cells b1 t [.pointer (some ⟨h,0,none⟩)]]++Z) 6 (Sat.Gq h2 hi) (by simp)
 obtain⟨f1,f2,f3⟩:=facts H3;have lk: ∀(z:Int) {U:Nat×SI},S.sp z=some U->((aget m z).getD (.pointer none))= .pointer (some ⟨U.1,0,none⟩):=fun z U hz=>by rw[hg];unfold EG;rw[hz];rfl
 refine⟨_,f2,?_⟩
 try simp only[AI]
 refine⟨_,f1,KV f3 hm ?_⟩;refine⟨_,lk x hx,?_⟩
 try simp only[AI]
 refine⟨_,f2,?_⟩
 try simp only[AI]
 refine⟨_,f1,KV f3 hm ?_⟩;refine⟨_,lk y hy,?_⟩;refine d hx H3 fun _ _ _ _ _ _ _ _ _ aM v=> ?_;obtain⟨g1,g2,g3⟩:=facts v;refine⟨⟨_,g3⟩,g1,g2,g1,g2,d hy v fun _ _ _ _ _ _ _ _ _ aP j=> ?_⟩;obtain⟨O,k2,k3⟩:=facts j;refine⟨O,k2,O,k2,Xl fun r hr=>⟨O,k2,O,k2,hK r _ hr ?_⟩⟩;have h1:=(j.front 5 rfl).mN (g:=EG S.sp) hm hg;exact Sat.heap.2 ⟨g,hI,Sat.back (Ps:=CH E h S g++Cells b1 t [.pointer (some ⟨h,0,none⟩)]::Z) 5 h1 (by simp[CH])⟩
end
end Go.Sh
set_option linter.all false
namespace Go.Sh
open Go.Proofs
theorem envS:EnvS env where
 at1:=by
  intro i d j K w h;refine⟨(Yo #[.int .i64 i,.pointer d,.pointer j] w (fun v w'=> ∃b,v= .bool b/\K b w') LU ?_).1,(Yo #[.int .i64 i,.pointer d,.pointer j] w (fun v w'=> ∃b,v= .bool b/\K b w') LU ?_).2⟩<;>
  exact(show F.D5 env i d j (fun b w'=> ∃y,Value.bool b= .bool y/\K y w') w from eC (fun b w' h=>⟨b,rfl,h⟩) h)
 mono:=VC
theorem envA:EnvA env where
 toEnvS:=envS
 mC:=by
  intro x y d j R w h;refine⟨(Yn #[.int .u64 x,.int .u64 y,.pointer d,.pointer j] w R LU ?_).1,(Yn #[.int .u64 x,.int .u64 y,.pointer d,.pointer j] w R LU ?_).2⟩<;>
  exact h
theorem envH:Vw env where
 toEnvA:=envA
 fL:=by
  intro x y p R w h;refine⟨(eB #[.int .i64 x,.int .i64 y,.pointer p] w R LU ?_).1,(eB #[.int .i64 x,.int .i64 y,.pointer p] w R LU ?_).2⟩<;>
  exact h
end Go.Sh

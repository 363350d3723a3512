/- The heap tells its spans in a row: a range over a map, and the sort of the row. No further condition. -/
import Derived.Test.YtnhmgaodhjgdaaaGreatDoorA
import Derived.Test.YtnhmgaodhjgdaaaGreatDoorF
import Derived.Test.YtnhmgaodhjgdaaaGreatDoorH
set_option linter.all false
set_option maxRecDepth 50000
set_option maxHeartbeats 4000000
namespace Go.Sh
def SP(E:Env)(s:AW)(Z:List Pr)(l0:List Int)(w:World):Prop:= ∃l:List Int,l.Perm l0/\Sat (Row E.Ag 1 s (ints .i64 l)::Z) w
def CmpOk(E:Env)(cmp:Value)(s:AW)(Z:List Pr)(l0:List Int):Prop:= ∀x y w (R:Value->World->Prop),x∈l0->y∈l0->SP E s Z l0 w->(∀r w',SP E s Z l0 w'->R (.int .i64 r) w')->DYN E.call cmp #[.int .i64 x,.int .i64 y] w R
section
variable{E:Env}{cmp:Value}{s:AW}{Z:List Pr}{l0:List Int}{w:World}
variable(hC:CmpOk E cmp s Z l0)(hsm:s.len<1099511627776)
include hC hsm
end
def len8:ByteArray:=⟨#[0,1,2,2,3,3,3,3,4,4,4,4,4,4,4,4,5,5,5,5,5,5,5,5,5,5,5,5,5,5,5,5,6,6,6,6,6,6,6,6,6,6,6,6,6,6,6,6,6,6,6,6,6,6,6,6,6,6,6,6,6,6,6,6,7,7,7,7,7,7,7,7,7,7,7,7,7,7,7,7,7,7,7,7,7,7,7,7,7,7,7,7,7,7,7,7,7,7,7,7,7,7,7,7,7,7,7,7,7,7,7,7,7,7,7,7,7,7,7,7,7,7,7,7,7,7,7,7,8,8,8,8,8,8,8,8,8,8,8,8,8,8,8,8,8,8,8,8,8,8,8,8,8,8,8,8,8,8,8,8,8,8,8,8,8,8,8,8,8,8,8,8,8,8,8,8,8,8,8,8,8,8,8,8,8,8,8,8,8,8,8,8,8,8,8,8,8,8,8,8,8,8,8,8,8,8,8,8,8,8,8,8,8,8,8,8,8,8,8,8,8,8,8,8,8,8,8,8,8,8,8,8,8,8,8,8,8,8,8,8,8,8,8,8,8,8,8,8,8,8,8,8,8,8,8,8]⟩
def len8_all:((List.range 256).all λi=>match len8[i]? with|some b=>decide (i<2^b.toNat)&&(decide (i=0)&&decide (b.toNat=0)||decide (2^(b.toNat-1)<=i)&&decide (1<=b.toNat))&&decide (b.toNat<=8)|none=>false)=true:=by decide+kernel
def vW{n:Int}(h0:0<=n)(h1:n<256){K:Int->Prop}(m: ∀b:Nat,b<=8->n<2^b->(n=0->b=0)->(0<n->1<=b/\2^(b-1)<=n)->K (b:Int)):mC len8 n K:=by
 obtain⟨k,rfl⟩:=Int.eq_ofNat_of_zero_le h0;have h:=List.all_eq_true.1 len8_all k (List.mem_range.2 (by omega));refine⟨h0,?_⟩;rw[Int.toNat_natCast];split at h
 .rename_i b hb;simp only[Bool.and_eq_true,Bool.or_eq_true,decide_eq_true_eq]at h;obtain⟨⟨u,a⟩,d⟩:=h;refine⟨b,hb,m b.toNat d (by grind) (λe=> ?_) λe=> ?_⟩
  .grind
  .rcases a with a|a
   .omega
   grind
 .cases h
section
variable{E:Env}{w:World}
structure yD(x r:Int):Prop where
 r0:0<=r
 r1:r<=64
 up:x<2^r.toNat
 lo:0<x->1<=r/\2^(r.toNat-1)<=x
def dC{X:Int}(h0:0<=X)(h1:X<18446744073709551616){K:Int->World->Prop}(hK: ∀r,yD X r->K r w):F.JA E X K w:=by
 unfold F.JA;have T:(2:Int)^(min (Int.toNat 32) (IntKind.bits .u64))=4294967296:=by decide
 have O:(2:Int)^(min (Int.toNat 16) (IntKind.bits .u64))=65536:=by decide
 have e8:(2:Int)^(min (Int.toNat 8) (IntKind.bits .u64))=256:=by decide
 rw[T,O,e8];refine AV (λst w'=>w'=w/\ ∃n:Nat,st.2.1=(n:Int)/\n<=32/\st.1=X/2^n/\(n=0∨0<st.1)/\st.1<4294967296) ?_ ?_
 .refine AG (λh=>⟨by decide,Ac λx a=> ?_⟩) λh=>⟨rfl,0,rfl,by decide,by simp,.inl rfl,by omega⟩;rw[Int.fdiv_eq_ediv_of_nonneg _ (by decide)]at a;exact⟨rfl,32,rfl,by decide,a,.inr (by omega),by omega⟩
 rintro⟨x,n',u⟩ _ w3 ⟨rfl,n,m,d,a,hz,e⟩;dsimp only at m a hz e⊢;subst m;have J:0<=x:=by rw[a];grind
 refine AV (λst w'=>w'=w3/\ ∃n:Nat,st.2.1=(n:Int)/\n<=48/\st.1=X/2^n/\(n=0∨0<st.1)/\st.1<65536) ?_ ?_
 .refine AG (λh=>⟨by decide,Ac λy v=> ?_⟩) λh=>⟨rfl,n,rfl,by omega,a,hz,by omega⟩;rw[Int.fdiv_eq_ediv_of_nonneg _ (by decide)]at v;rw[AI (n:=(n:Int)+16)];refine⟨rfl,n+16,by grind,by omega,?_,.inr (by omega),by omega⟩;show y=X/2^(n+16);rw[v,a,Int.pow_add,<-Int.ediv_ediv_of_nonneg (Int.le_of_lt (Int.pow_pos (by decide)))];rfl
 clear a hz e J d;rintro⟨x,n',u⟩ _ w7 ⟨rfl,n,m,d,a,hz,e⟩;dsimp only at m a hz e⊢;subst m;have J:0<=x:=by rw[a];grind
 refine AV (λst w'=>w'=w7/\ ∃n:Nat,st.2.1=(n:Int)/\n<=56/\st.1=X/2^n/\(n=0∨0<st.1)/\st.1<256) ?_ ?_
 .refine AG (λh=>⟨by decide,Ac λy v=> ?_⟩) λh=>⟨rfl,n,rfl,by omega,a,hz,by omega⟩;rw[Int.fdiv_eq_ediv_of_nonneg _ (by decide)]at v;rw[AI (n:=(n:Int)+8)];refine⟨rfl,n+8,by grind,by omega,?_,.inr (by omega),by omega⟩;show y=X/2^(n+8);rw[v,a,Int.pow_add,<-Int.ediv_ediv_of_nonneg (Int.le_of_lt (Int.pow_pos (by decide)))];rfl
 clear a hz e J d;rintro⟨x,n',u⟩ _ aL ⟨rfl,n,m,d,a,hz,e⟩;dsimp only at m a hz e⊢;subst m;have p0:(0:Int)<2^n:=Int.pow_pos (by decide);have J:0<=x:=by rw[a];grind
 have ew:IntKind.wrap .u8 x=x:=by show x %256=x;omega
 rw[ew];refine(show mC len8 x _ from vW J e λb aI aA aK Y=>Ac λr hr=> ?_);rw[AI (n:=(b:Int)),AI (n:=(n:Int)+(b:Int))]at hr;subst hr;have et:((n:Int)+(b:Int)).toNat=b+n:=by omega
 refine hK _ ⟨by omega,by omega,?_,λhX=> ?_⟩
 .rw[et,Int.pow_add];have:=(Int.ediv_lt_iff_lt_mul p0).1 (a▸aA);exact this
 .by_cases hn0:n=0
  .grind
  .have aB:0<x:=hz.resolve_left hn0;have hl:=Y aB;refine⟨by omega,?_⟩;rw[et,show b+n-1=(b-1)+n by omega,Int.pow_add];have:2^(b-1)<=X/2^n:=a▸hl.2;exact(Int.le_ediv_iff_mul_le p0).1 this
def ZL{X:Int}(h0:0<=X)(h1:X<18446744073709551616){K:Int->World->Prop}(a: ∀r,yD X r->K r w):F.Ei E X K w:=by
 unfold F.Ei T0.Ei;exact dC h0 h1 a
def and_le(a:Int){b:Int}(h0:0<=b)(h1:b<18446744073709551616):0<=DQ .u64 0 a b/\DQ .u64 0 a b<=b:=by
 obtain⟨k,rfl⟩:=Int.eq_ofNat_of_zero_le h0;have e:DQ .u64 0 a (k:Int)=((BitVec.ofInt 64 a&&&BitVec.ofInt 64 (k:Int)).toNat:Int):=by
  show IntKind.wrap .u64 ((BitVec.ofInt 64 a&&&BitVec.ofInt 64 (k:Int)).toNat:Int)=_;exact T7 (BitVec.isLt _)
 rw[e,BitVec.toNat_and,BitVec.ofInt_natCast,BitVec.toNat_ofNat];have d:((BitVec.ofInt 64 a).toNat&&&k %2^64)<=k %2^64:=Nat.and_le_right;omega
def k8{n:Int}(h0:1<=n)(h1:n<1099511627776){K:Int->World->Prop}(T: ∀m,n<m->m<=2*n->K m w):F.B5 E n K w:=by
 unfold F.B5 T0.B5;rw[AR (n:=n)];refine ZL (by omega) (by omega) λr a=>⟨a.r0,Ac λt v=> ?_⟩;obtain⟨k,rfl⟩:=Int.eq_ofNat_of_zero_le a.r0;have d:=a.lo (by omega);have e:=a.up;rw[Int.toNat_natCast]at d e v;have J:1<=k:=by omega
 have O:(2:Int)^k=2*2^(k-1):=by
  rw[show k=(k-1)+1 by omega,Int.pow_succ];simp;omega
 have hle:(2:Int)^k<=2*n:=by omega
 have u:k<64:=by
  refine Classical.byContradiction λg=> ?_;have:k=64:=by have:=a.r1;omega
  grind
 rw[show min k (IntKind.bits .u64)=k by show min k 64=k;omega,Int.one_mul,AR]at v
 grind
end
section
variable{E:Env}{cmp:Value}{s:AW}{Z:List Pr}{l0:List Int}{w:World}
def k9{b t:Nat}{x:Int}(H:Sat (Cells b t [.int .u64 x]::Z) w){K:Int->World->Prop}(J: ∀y w',Sat (Cells b t [.int .u64 y]::Z) w'->K y w'):F.GQ E (some ⟨b,0,none⟩) K w:=by
 unfold F.GQ;simp only[AK];have H1:=H.drew;refine⟨_,H1.AU rfl,_,H1.AU rfl,by decide,BT H1 (o:=0) rfl (by simp) λT v=> ?_⟩;have m:=v.drew;refine⟨_,m.AU rfl,_,m.AU rfl,by decide,BT m (o:=0) rfl (by simp) λO e=> ?_⟩;have a:=e.drew;refine⟨_,a.AU rfl,_,a.AU rfl,by decide,BT a (o:=0) rfl (by simp) λu d=> ?_⟩;exact⟨_,d.AU rfl,J _ u d⟩
end
structure Rx(E:Env):Prop extends EnvA E where
 pX: ∀x y p (R:Value->World->Prop) w,F.CO E x y p (λr w'=>R (.int .i64 r) w') w->E.call E.GL #[.int .i64 x,.int .i64 y,.pointer p] w R EW
def ZM(b:Nat)(es:Array MapEntry)(c:Nat):Pr where
 holds D w:=(∀i,D i↔i=b)/\w.heap[b]? =some (.map es c)
 loc h he hS:=⟨h.1,he.obj h.2 (hS _ ((h.1 _).2 rfl))⟩
 lt h hk:=by have:=(h.1 _).1 hk;grind
section
variable{E:Env}{w:World}{Z:List Pr}
def Sat.mapFix{b:Nat}{k:IntKind}{g:Int->Option Value}(H:Sat (CH b k g::Z) w): ∃es c m,MapI k es c m/\(∀i,aget m i=g i)/\Sat (ZM b es c::Z) w:=by
 obtain⟨D,h,u⟩:=H.step;obtain⟨es,c,m,h1,a,d⟩:=h.2;exact⟨es,c,m,a,d,u w D _ (Ext.refl _ _) ⟨h.1,h1⟩ λ_ e=>.inl e⟩
def Sat.vX{b:Nat}{k:IntKind}{g:Int->Option Value}{es:Array MapEntry}{c:Nat}{m:List (Int×Value)}(H:Sat (ZM b es c::Z) w)(a:MapI k es c m)(d: ∀i,aget m i=g i):Sat (CH b k g::Z) w:=by
 obtain⟨D,h,u⟩:=H.step;exact u w D _ (Ext.refl _ _) ⟨h.1,es,c,m,h.2,a,d⟩ λ_ e=>.inl e
def Sat.mapX{b:Nat}{es:Array MapEntry}{c:Nat}(H:Sat (ZM b es c::Z) w):w.heap[b]? =some (.map es c):=let⟨_,h⟩:=H.head;h.2
def pY{k:IntKind}{n:Int}{K:Int->Prop}(h:K n):Vl k (.int k n) K:=by cases k<;>exact h
def dD{x y:Int}{K:Int->World->Prop}(d: ∀r,(r<0↔x<y)->K r w):F.Cg E x y K w:=by
 unfold F.Cg T0.Cg F.Jg;simp only[bne_self_eq_false,jI];refine AG (λh=>d _ ⟨λ_=>h,λ_=>by decide⟩) λh=>AG (λe=>d _ ⟨λh=>absurd h (by decide),λa=>absurd a h⟩) λe=>d _ ⟨λh=>absurd h (by decide),λa=>absurd a h⟩
variable{h:Nat}{S:HS}(hE:Rx E)
include hE
theorem ZN{b1 t:Nat}(H:Sat (BF E h S::Cells b1 t [.pointer (some ⟨h,0,none⟩)]::Z) w){x y:Int}{X Y:Nat×SI}(hx:S.sp x=some X)(hy:S.sp y=some Y){K:Int->World->Prop}
  (hK: ∀r w',(r<0↔X.2.base<Y.2.base)->Sat (BF E h S::Cells b1 t [.pointer (some ⟨h,0,none⟩)]::Z) w'->K r w'):F.CO E x y (some ⟨b1,0,none⟩) K w:=by
 unfold F.CO T0.CO
 try simp only[AK]
 obtain⟨g,hI,H1⟩:=Sat.heap.1 H.drew;obtain⟨es,c,m,hm,hg,H2⟩:=(H1.front 5 rfl).mapFix;have H3:Sat ([Cells h E.Ad (BX g S.hint S.AF),Bj E g.m S.V,BR E g.t S.T,Bq E g.a S.ks S.own,Gi E g.f S.fx,ZM g.sm es c,Al (spR E S.sp) g.ids,Al (λi:Nat=>BH E (g.cb i) (S.ca i)) (List.range 64),Cells b1 t [.pointer (some ⟨h,0,none⟩)]]++Z) w.drew:=
  Sat.back (Ps:=Bz E h S g++Cells b1 t [.pointer (some ⟨h,0,none⟩)]::Z) 5 H2 (by simp[Bz])
 have facts: ∀{w':World},Sat ([Cells h E.Ad (BX g S.hint S.AF),Bj E g.m S.V,BR E g.t S.T,Bq E g.a S.ks S.own,Gi E g.f S.fx,ZM g.sm es c,Al (spR E S.sp) g.ids,Al (λi:Nat=>BH E (g.cb i) (S.ca i)) (List.range 64),Cells b1 t [.pointer (some ⟨h,0,none⟩)]]++Z) w'->
   w'.cell? ((Addr.mk h 0 none).add 4)=some (.map (some g.sm))/\w'.cell? (Addr.mk b1 0 none)=some (.pointer (some ⟨h,0,none⟩))/\w'.heap[g.sm]? =some (.map es c):=λJ=>
  ⟨(Cq (S:=S) (g:=g) J).2.2.2.2.1,(J.front 8 rfl).AU rfl,(J.front 5 rfl).mapX⟩
 have d: ∀{w':World} {z:Int} {U:Nat×SI},S.sp z=some U->Sat ([Cells h E.Ad (BX g S.hint S.AF),Bj E g.m S.V,BR E g.t S.T,Bq E g.a S.ks S.own,Gi E g.f S.fx,ZM g.sm es c,Al (spR E S.sp) g.ids,Al (λi:Nat=>BH E (g.cb i) (S.ca i)) (List.range 64),Cells b1 t [.pointer (some ⟨h,0,none⟩)]]++Z) w'->
   ∀{R:Int->Int->Int->Int->Bool->Int->Int->Int->Bool->Bool->World->Prop},(∀r2 r3 r4 r5 r6 r7 r8 r9 aB w2,Sat ([Cells h E.Ad (BX g S.hint S.AF),Bj E g.m S.V,BR E g.t S.T,Bq E g.a S.ks S.own,Gi E g.f S.fx,ZM g.sm es c,Al (spR E S.sp) g.ids,Al (λi:Nat=>BH E (g.cb i) (S.ca i)) (List.range 64),Cells b1 t [.pointer (some ⟨h,0,none⟩)]]++Z) w2->
    R U.2.base r2 r3 r4 r5 r6 r7 r8 r9 aB w2)->F.Ax E (some ⟨U.1,0,none⟩) R w':=by
  intro w' z U hz J R hR;have O:z∈g.ids:=(hI.mem z).2 (by grind);obtain⟨i,hi⟩:=List.mem_iff_getElem?.1 O;have h1:=(J.front 6 rfl).FO hi;have e:spR E S.sp z=Cb E U.1 U.2:=by unfold spR;rw[hz]
  rw[e]at h1;refine JP h1 λw2 h2=>hR _ _ _ _ _ _ _ _ _ _ ?_;rw[<-e]at h2;exact Sat.back (Ps:=[Cells h E.Ad (BX g S.hint S.AF),Bj E g.m S.V,BR E g.t S.T,Bq E g.a S.ks S.own,Gi E g.f S.fx,ZM g.sm es c,Al (spR E S.sp) g.ids,Al (λi:Nat=>BH E (g.cb i) (S.ca i)) (List.range 64),Cells b1 t [.pointer (some ⟨h,0,none⟩)]]++Z) 6 (Sat.Jb h2 hi) (by simp)
 obtain⟨f1,f2,f3⟩:=facts H3;have lk: ∀(z:Int) {U:Nat×SI},S.sp z=some U->((aget m z).getD (.pointer none))= .pointer (some ⟨U.1,0,none⟩):=λz U hz=>by rw[hg];unfold Dc;grind
 refine⟨_,f2,?_⟩
 try simp only[AK]
 refine⟨_,f1,MS f3 hm ?_⟩;refine⟨_,lk x hx,?_⟩
 try simp only[AK]
 refine⟨_,f2,?_⟩
 try simp only[AK]
 refine⟨_,f1,MS f3 hm ?_⟩;refine⟨_,lk y hy,?_⟩;refine d hx H3 λ_ _ _ _ _ _ _ _ _ aV u=> ?_;obtain⟨g1,g2,g3⟩:=facts u;refine⟨⟨_,g3⟩,g1,g2,g1,g2,d hy u λ_ _ _ _ _ _ _ _ _ aW v=> ?_⟩;obtain⟨k1,k2,k3⟩:=facts v;refine⟨k1,k2,k1,k2,dD λr hr=>⟨k1,k2,k1,k2,hK r _ hr ?_⟩⟩;have h1:=(v.front 5 rfl).vX (g:=Dc S.sp) hm hg;exact Sat.heap.2 ⟨g,hI,Sat.back (Ps:=Bz E h S g++Cells b1 t [.pointer (some ⟨h,0,none⟩)]::Z) 5 h1 (by simp[Bz])⟩
end
end Go.Sh

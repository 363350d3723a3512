/- The heap tells its spans in a row: a range over a map, and the sort of the row. No further condition. -/
import Derived.Test.YtgcgcligdjnmaaaGreatDoorA
import Derived.Test.YtgcgcligdjnmaaaGreatDoorF
import Derived.Test.YtgcgcligdjnmaaaGreatDoorH
set_option linter.all false
set_option maxRecDepth 50000
set_option maxHeartbeats 4000000
namespace Go.Sh
def SP(E:Env)(s:Aa)(Z:List Pr)(l0:List Int)(w:World):Prop:= ∃l:List Int,l.Perm l0/\Sat (Row E.Bx 1 s (ints .i64 l)::Z) w
def ME(E:Env)(cmp:Value)(s:Aa)(Z:List Pr)(l0:List Int):Prop:= ∀x y w (R:Value->World->Prop),x∈l0->y∈l0->SP E s Z l0 w->(∀r w',SP E s Z l0 w'->R (.int .i64 r) w')->DYN E.call cmp #[.int .i64 x,.int .i64 y] w R
section
variable{E:Env}{cmp:Value}{s:Aa}{Z:List Pr}{l0:List Int}{w:World}
def SP.drew(h:SP E s Z l0 w):SP E s Z l0 w.drew:=let⟨l,h1,h2⟩:=h;⟨l,h1,h2.drew⟩
def SP.at(h:SP E s Z l0 w){i:Int}(h0:0<=i)(h1:i<s.len): ∃p x,s.base=some p/\w.cell? (p.add (Int.toNat i*1))=some (.int .i64 x)/\x∈l0:=by
 obtain⟨l,hp,hs⟩:=h;have y:=hs.Du;rw[ints,List.length_map,Nat.mul_one]at y;have j:i.toNat<l.length:=by omega
 obtain⟨b,d⟩:=hs.own.Eo (by omega);refine⟨_,l[i.toNat],d,?_,hp.mem_iff.1 (List.getElem_mem j)⟩;have v:(ints IntKind.i64 l)[i.toNat]? =some (.int .i64 l[i.toNat]):=IF (List.getElem?_eq_getElem j);rw[Nat.mul_one];exact hs.own.cell d v
def Ia(hC:ME E cmp s Z l0)(hS:SP E s Z l0 w){i j:Int}(i0:0<=i)(i1:i<s.len)(O:0<=j)(T:j<s.len){R:Int->World->Prop}(Y: ∀z w',SP E s Z l0 w'->R z w'):
  NC s.base λp=>((0:Int)<=i/\(i:Int)<(s.len:Nat))/\ ∃x:Int,w.drew.cell? (p.add (Int.toNat i*1))=some (.int .i64 x)/\
  NC s.base λq=>((0:Int)<=j/\(j:Int)<(s.len:Nat))/\ ∃y:Int,w.drew.cell? (q.add (Int.toNat j*1))=some (.int .i64 y)/\
  DYN E.call cmp #[.int .i64 x,.int .i64 y] w.drew λr w'=> ∃z:Int,r= .int .i64 z/\R z w':=by
 obtain⟨p,x,K,hx,v⟩:=hS.drew.at i0 i1;obtain⟨q,y,d,hy,J⟩:=hS.drew.at O T;rw[K]at d;cases d;rw[K];simp only[AG];exact⟨⟨i0,i1⟩,x,hx,⟨O,T⟩,y,hy,hC x y _ _ v J hS.drew λr w' h=>⟨r,rfl,Y r w' h⟩⟩
def GD(hS:SP E s Z l0 w){i j:Int}(i0:0<=i)(i1:i<s.len)(O:0<=j)(T:j<s.len){R:World->Prop}(hR: ∀w',SP E s Z l0 w'->R w'):
  NC s.base λp=>((0:Int)<=i/\(i:Int)<(s.len:Nat))/\ ∃x:Int,w.drew.cell? (p.add (Int.toNat i*1))=some (.int .i64 x)/\
  NC s.base λq=>((0:Int)<=j/\(j:Int)<(s.len:Nat))/\ ∃y:Int,w.drew.cell? (q.add (Int.toNat j*1))=some (.int .i64 y)/\
  NC s.base λp'=>((0:Int)<=j/\(j:Int)<(s.len:Nat))/\stCells (p'.add (Int.toNat j*1)) 0 [.int .i64 x] w.drew λw1=>
  NC s.base λq'=>((0:Int)<=i/\(i:Int)<(s.len:Nat))/\stCells (q'.add (Int.toNat i*1)) 0 [.int .i64 y] w1 λv=>R v:=by
 obtain⟨l,hp,hs⟩:=hS.drew;have hl:=hs.Du;rw[ints,List.length_map,Nat.mul_one]at hl;have J:i.toNat<l.length:=by omega
 have K:j.toNat<l.length:=by omega
 obtain⟨b,d⟩:=hs.own.Eo (by omega);have Y:(ints IntKind.i64 l)[i.toNat]? =some (.int .i64 l[i.toNat]):=IF (List.getElem?_eq_getElem J);have gj:(ints IntKind.i64 l)[j.toNat]? =some (.int .i64 l[j.toNat]):=IF (List.getElem?_eq_getElem K);rw[d];simp only[AG,Nat.mul_one];refine⟨⟨i0,i1⟩,_,hs.own.cell d Y,⟨O,T⟩,_,hs.own.cell d gj,⟨O,T⟩,?_⟩;refine HE hs (j:=j.toNat) rfl (by grind) d λw1 H1=>⟨⟨i0,i1⟩,?_⟩;refine HE H1 (j:=i.toNat) rfl (by grind) d λv H2=> ?_;refine hR v ⟨(l.set j.toNat l[i.toNat]).set i.toNat l[j.toNat],(List.set_set_perm K J).trans hp,?_⟩;have e:ints IntKind.i64 ((l.set j.toNat l[i.toNat]).set i.toNat l[j.toNat])=((ints .i64 l).set j.toNat (.int .i64 l[i.toNat])).set i.toNat (.int .i64 l[j.toNat]):=by
  unfold ints;rw[List.map_set,List.map_set]
 grind
variable(hC:ME E cmp s Z l0)(hsm:s.len<1099511627776)
include hC hsm
theorem US(hS:SP E s Z l0 w){a b:Int}(a0:0<=a)(ab:a<=b)(b1:b<=s.len){K:World->Prop}(Y: ∀w',SP E s Z l0 w'->K w'):F.Bk E s a b cmp K w:=by
 unfold F.Bk;by_cases hab:a+1<=b
 .rw[AE (n:=a+1)];refine AH (λst w'=>a+1<=st.1/\st.1<=b/\SP E s Z l0 w') (λst _=>(b-st.1).toNat) ⟨Int.le_refl _,hab,hS⟩ ?_;rintro⟨i,u⟩ _ w2 ⟨h1,h2,v⟩;dsimp only at h1 h2⊢;refine AB (λO=> ?_) λ_=>Y w2 v;have T: ∀w',SP E s Z l0 w'->(a+1<=i64 (i+1)/\i64 (i+1)<=b/\SP E s Z l0 w')/\(b-i64 (i+1)).toNat<(b-i).toNat:=λw' h=>by
   rw[AE (n:=i+1)]
   grind
  refine AH (λst w'=>a<=st.1/\st.1<=i/\SP E s Z l0 w') (λst _=>(st.1-a).toNat) ⟨by show a<=i;omega,Int.le_refl _,v⟩ ?_;rintro⟨j,u⟩ _ w5 ⟨h3,h4,J⟩;dsimp only at h3 h4⊢;refine AB (λaD=> ?_) λ_=>T _ J.drew;rw[AE (n:=j-1)];refine Ia hC J (by omega) (by omega) (by omega) (by omega) λz aE d=>AB (λ_=> ?_) λ_=>T _ d;exact GD d (by omega) (by omega) (by omega) (by omega) λaF y=>⟨⟨by show a<=j-1;omega,by show j-1<=i;omega,y⟩,by omega⟩
 .refine AH (λst w'=>b<=st.1/\w'=w) (λ_ _=>0) ⟨?_,rfl⟩ ?_
  .rw[AE (n:=a+1)];omega
  .rintro⟨i,u⟩ _ w2 ⟨h1,rfl⟩;exact AB (λO=>by dsimp only at h1 O;omega) λ_=>Y _ hS
theorem Oo(hS:SP E s Z l0 w){lo O first:Int}(h0:0<=lo)(f0:0<=first)(hh:0<=O)(h1:first+O<=s.len){K:World->Prop}(hK: ∀w',SP E s Z l0 w'->K w')(aA:lo<1099511627776):F.ET E s lo O first cmp K w:=by
 unfold F.ET;refine AH (λst w'=>0<=st.1/\st.1<1099511627776/\SP E s Z l0 w') (λst _=>(1099511627776-st.1).toNat) ⟨h0,aA,hS⟩ ?_;rintro⟨root,u⟩ _ w2 ⟨r0,r1,y⟩;dsimp only at r0 r1⊢;refine AY λchild Y=> ?_;rw[AE (n:=2*root),AE (n:=2*root+1)]at Y;refine AB (λ_=>hK w2 y) λaE=> ?_;refine AX (λst w'=>root<st.1/\st.1<O/\SP E s Z l0 w') ?_ ?_
 .refine AV ?_;rw[AE (n:=child+1)];refine AB (λaD=> ?_) λ_ j=>AO rfl ⟨by omega,by omega,y.drew⟩;rw[AE (n:=first+child),AE (n:=first+child+1)];exact Ia hC y (by omega) (by omega) (by omega) (by omega) λz aF d j=>AB (λ_=>⟨by show root<child+1;omega,by show child+1<O;omega,d⟩) λ_=>⟨by omega,by omega,d⟩
 .rintro⟨c,u⟩ _ w7 ⟨c0,c1,T⟩;dsimp only at c0 c1⊢;rw[AE (n:=first+root),AE (n:=first+c)];refine Ia hC T (by omega) (by omega) (by omega) (by omega) λz aB v=>I1 (AB (λ_=> ?_) λ_=>hK aB v);exact GD v (by omega) (by omega) (by omega) (by omega) λaH J=>⟨⟨by show 0<=c;omega,by show c<_;omega,J⟩,by omega⟩
theorem VI(hS:SP E s Z l0 w){a b:Int}(a0:0<=a)(ab:a<b)(b1:b<=s.len){K:World->Prop}(hK: ∀w',SP E s Z l0 w'->K w'):F.Aw E s a b cmp K w:=by
 unfold F.Aw T0.Aw;rw[AE (n:=b-a),AE (n:=b-a-1),Int.tdiv_eq_ediv_of_nonneg (by omega),AE (n:=(b-a-1)/2)];refine⟨by decide,AY λi hi=> ?_⟩;refine AH (λst w'=> -1<=st.1/\st.1<b-a/\SP E s Z l0 w') (λst _=>(st.1+1).toNat) ⟨by omega,by omega,hS⟩ ?_;rintro⟨k,u⟩ _ w3 ⟨O,T,v⟩;dsimp only at O T⊢;refine AB (λd=> ?_) λJ=> ?_
 .refine Oo hC hsm v d a0 (by omega) (by omega) (λw5 aB=> ?_) (by omega);rw[AE (n:=k-1)]
  grind
 .refine AY λi2 aC=> ?_;refine AH (λst w'=> -1<=st.1/\st.1<b-a/\SP E s Z l0 w') (λst _=>(st.1+1).toNat) ⟨by omega,by omega,v⟩ ?_;rintro⟨k,u⟩ _ w8 ⟨O,T,y⟩;dsimp only at O T⊢;refine AB (λd=> ?_) λJ=>hK w8 y;rw[AE (n:=a+k)];refine GD y (by omega) (by omega) a0 (by omega) λaD j=> ?_;refine Oo hC hsm j (Int.le_refl 0) a0 d (by omega) (λaE Y=> ?_) (by decide);rw[AE (n:=k-1)]
  grind
theorem W6(hS:SP E s Z l0 w){a b:Int}(a0:0<=a)(ab:a<b)(b1:b<=s.len){K:World->Prop}(y: ∀w',SP E s Z l0 w'->K w'):F.Br E s a b cmp K w:=by
 unfold F.Br;rw[AE (n:=b-1)];refine AH (λst w'=>0<=st.1/\st.2.1<b/\0<=st.2.1+1/\st.1<=b/\SP E s Z l0 w') (λst _=>(st.2.1-st.1).toNat) ⟨a0,by show b-1<b;omega,by grind,by show a<=b;omega,hS⟩ ?_;rintro⟨i,j,u⟩ _ w2 ⟨i0,T,O,i1,v⟩;dsimp only at i0 T O i1⊢;refine AB (λJ=> ?_) λ_=>y w2 v;rw[AE (n:=i+1),AE (n:=j-1)];exact GD v (by omega) (by omega) (by omega) (by omega) λY d=>⟨⟨by omega,by show j-1<b;omega,by omega,by show i+1<=b;omega,d⟩,by omega⟩
theorem NG(hS:SP E s Z l0 w){a b:Int}(a0:0<=a)(ab:a<b)(b1:b<=s.len){K:Bool->World->Prop}(hK: ∀r w',SP E s Z l0 w'->K r w'):F.A0 E s a b cmp K w:=by
 unfold F.A0;rw[AE (n:=a+1)];refine AH (λst w'=>a+1<=st.1/\st.1<=b/\0<=st.2.1/\st.2.1<=5/\SP E s Z l0 w') (λst _=>(5-st.2.1).toNat) ⟨Int.le_refl _,by show a+1<=b;omega,Int.le_refl 0,by grind,hS⟩ ?_;rintro⟨i,n,u⟩ _ w2 ⟨i0,i1,n0,n1,aC⟩;dsimp only at i0 i1 n0 n1⊢;refine AB (λhn=> ?_) λ_=>hK false w2 aC;refine AX (λst w'=>i<=st.1/\st.1<=b/\SP E s Z l0 w') ?_ ?_
 .refine AH (λst w'=>i<=st.1/\st.1<=b/\SP E s Z l0 w') (λst _=>(b-st.1).toNat) ⟨Int.le_refl _,i1,aC⟩ ?_;rintro⟨k,u⟩ _ w8 ⟨k0,k1,aF⟩;dsimp only at k0 k1⊢;refine AB (λaJ=> ?_) λ_=>⟨k0,k1,aF.drew⟩;rw[AE (n:=k-1),AE (n:=k+1)];exact Ia hC aF (by omega) (by omega) (by omega) (by omega) λz aS d=>I1 (AB (λ_=>⟨k0,k1,d⟩) λ_=>⟨⟨by show i<=k+1;omega,by show k+1<=b;omega,d⟩,by omega⟩)
 rintro⟨k,u⟩ _ w6 ⟨k0,k1,aA⟩;dsimp only at k0 k1⊢;refine BF (λ_=>hK true w6 aA) λaP=> ?_;rw[AE (n:=b-a)];refine AB (λ_=>hK false w6 aA) λ_=> ?_;rw[AE (n:=k-1),AE (n:=k-a),AE (n:=b-k),AE (n:=k+1),AE (n:=n+1)];have aB: ∀w',SP E s Z l0 w'->(a+1<=k/\k<=b/\0<=n+1/\n+1<=5/\SP E s Z l0 w')/\(5-(n+1)).toNat<(5-n).toNat:=λw' h=>⟨⟨by omega,by omega,by omega,by omega,h⟩,by omega⟩;refine GD aA (by omega) (by omega) (by omega) (by omega) λaU v=> ?_;refine AX (λ_ w'=>SP E s Z l0 w') ?_ ?_
 .refine AB (λ_=> ?_) λ_=>v;refine AH (λst w'=>0<=st.1/\st.1<b/\SP E s Z l0 w') (λst _=>st.1.toNat) ⟨by omega,by show k-1<b;omega,v⟩ ?_;rintro⟨j,u⟩ _ aV ⟨j0,j1,J⟩;dsimp only at j0 j1⊢;refine AB (λaO=> ?_) λ_=>J;rw[AE (n:=j-1)];refine Ia hC J (by omega) (by omega) (by omega) (by omega) λz aW O=>I1 (AB (λ_=> ?_) λ_=>O);exact GD O (by omega) (by omega) (by omega) (by omega) λaX aD=>⟨⟨by omega,by show j-1<b;omega,aD⟩,by omega⟩
 .intro _ _ aM y;refine AB (λ_=> ?_) λ_=>aB aM y;refine AH (λst w'=>k+1<=st.1/\st.1<=b/\SP E s Z l0 w') (λst _=>(b-st.1).toNat) ⟨Int.le_refl _,by show k+1<=b;omega,y⟩ ?_;rintro⟨j,u⟩ _ aY ⟨j0,j1,T⟩;dsimp only at j0 j1⊢;refine AB (λaJ=> ?_) λ_=>aB _ T;rw[AE (n:=j-1),AE (n:=j+1)];refine Ia hC T (by omega) (by omega) (by omega) (by omega) λz aZ Y=>I1 (AB (λ_=> ?_) λ_=>aB _ Y);exact GD Y (by omega) (by omega) (by omega) (by omega) λa1 aE=>⟨⟨by omega,by show j+1<=b;omega,aE⟩,by omega⟩
theorem OZ(hS:SP E s Z l0 w){a b p:Int}(a0:0<=a)(ab:a<b)(b1:b<=s.len)(p0:a<=p)(p1:p<b){K:Int->World->Prop}(hK: ∀r w',a<r->r<=b->SP E s Z l0 w'->K r w'):F.Bc E s a b p cmp K w:=by
 unfold F.Bc;refine GD hS (by omega) (by omega) (by omega) (by omega) λw8 aF=> ?_;rw[AE (n:=a+1),AE (n:=b-1)];refine AH (λst w'=>a+1<=st.1/\st.1<=b/\a<=st.2.1/\st.2.1<b/\SP E s Z l0 w') (λst _=>(st.2.1+1-st.1).toNat) ⟨Int.le_refl _,by show a+1<=b;omega,by show a<=b-1;omega,by show b-1<b;omega,aF⟩ ?_;rintro⟨i,j,u⟩ _ aL ⟨i0,i1,j0,j1,T⟩;dsimp only at i0 i1 j0 j1⊢;refine AX (λst w'=>i<=st.1/\st.1<=max i (j+1)/\SP E s Z l0 w') ?_ ?_
 .refine AH (λst w'=>i<=st.1/\st.1<=max i (j+1)/\st.2.1=j/\SP E s Z l0 w') (λst _=>(b-st.1).toNat) ⟨Int.le_refl _,by omega,rfl,T⟩ ?_;rintro⟨k,jj,u⟩ _ aN ⟨k0,k1,aB,d⟩;dsimp only at k0 k1 aB⊢;have aC:=aB.symm;subst aC;refine AB (λhle=> ?_) λ_=>⟨k0,k1,d.drew⟩;rw[AE (n:=k+1)];exact Ia hC d (by omega) (by omega) (by omega) (by omega) λz aO v=>I1 (AB (λ_=>⟨k0,k1,v⟩) λ_=>⟨⟨by show i<=k+1;omega,by omega,rfl,v⟩,by omega⟩)
 rintro⟨i2,u⟩ _ aM ⟨k0,k1,Y⟩;dsimp only at k0 k1⊢;refine AX (λst w'=>st.1<=j/\min j (i2-1)<=st.1/\SP E s Z l0 w') ?_ ?_
 .refine AH (λst w'=>st.1<=j/\min j (i2-1)<=st.1/\SP E s Z l0 w') (λst _=>(st.1+1).toNat) ⟨Int.le_refl _,by omega,Y⟩ ?_;rintro⟨k,u⟩ _ aP ⟨m0,m1,J⟩;dsimp only at m0 m1⊢;refine AB (λhle=> ?_) λ_=>⟨m0,m1,J.drew⟩;rw[AE (n:=k-1)];exact Ia hC J (by omega) (by omega) (by omega) (by omega) λz aQ O=>AB (λ_=>⟨⟨by show k-1<=j;omega,by omega,O⟩,by omega⟩) λ_=>⟨m0,m1,O⟩
 rintro⟨j2,u⟩ _ aH ⟨m0,m1,y⟩;dsimp only at m0 m1⊢;refine AB (λ_=>hK i2 aH (by omega) (by omega) y) λhle=> ?_;rw[AE (n:=i2+1),AE (n:=j2-1)];exact GD y (by omega) (by omega) (by omega) (by omega) λaR aA=>⟨⟨by omega,by show i2+1<=b;omega,by show a<=j2-1;omega,by show j2-1<b;omega,aA⟩,by omega⟩
theorem UT(hS:SP E s Z l0 w){a b p:Int}(a0:0<=a)(ab:a<b)(b1:b<=s.len)(p0:a<=p)(p1:p<b){K:Int->Bool->World->Prop}(hK: ∀r t w',a<=r->r<b->SP E s Z l0 w'->K r t w'):F.CN E s a b p cmp K w:=by
 unfold F.CN;refine GD hS (by omega) (by omega) (by omega) (by omega) λw8 bA=> ?_;rw[AE (n:=a+1),AE (n:=b-1)];have left: ∀(i j:Int) (aA:World) (J:Int×Unit->World->Prop),a+1<=i->i<=b->a<=j->j<b->SP E s Z l0 aA->(∀k w',i<=k->k<=max i (j+1)->SP E s Z l0 w'->J (k,()) w')->
   At (Int×Unit) (i,()) aA λHR _ v d=>
   CND (decide ((HR.1:Int)<=j)) (
    NC s.base λaQ=>
    ((0:Int)<=HR.1/\(HR.1:Int)<(s.len:Nat))/\
    ∃aD:Int,v.drew.cell? (aQ.add (Int.toNat HR.1*1))=some (.int .i64 aD)/\
    NC s.base λaR=>
    ((0:Int)<=a/\(a:Int)<(s.len:Nat))/\
    ∃aE:Int,v.drew.cell? (aR.add (Int.toNat a*1))=some (.int .i64 aE)/\
    DYN E.call cmp #[.int .i64 aD,.int .i64 aE] v.drew λaS aC=>
    ∃aF:Int,aS= .int .i64 aF/\
    CND (decide ((aF:Int)<0)) (
     d (i64 (HR.1+1),()) aC
    ) (
     J (HR.1,()) aC
    )
   ) (
    J (HR.1,()) v.drew
   ):=by
  intro i j aA J i0 i1 j0 j1 aB hJ;refine AH (λst w'=>i<=st.1/\st.1<=max i (j+1)/\SP E s Z l0 w') (λst _=>(b-st.1).toNat) ⟨Int.le_refl _,by omega,aB⟩ ?_;rintro⟨k,u⟩ _ bF ⟨T,Y,y⟩;dsimp only at T Y⊢;refine AB (λhle=> ?_) λ_=>hJ k _ T Y y.drew;rw[AE (n:=k+1)];exact Ia hC y (by omega) (by omega) (by omega) (by omega) λz bG O=>AB (λ_=>⟨⟨by show i<=k+1;omega,by omega,O⟩,by omega⟩) λ_=>hJ k _ T Y O
 have aP: ∀(i j:Int) (aA:World) (J:Int×Unit->World->Prop),a+1<=i->i<=b->a<=j->j<b->SP E s Z l0 aA->(∀k w',i<=k->k<=max i (j+1)->SP E s Z l0 w'->J (k,()) w')->
   At (Int×Int×Unit) (i,j,()) aA λHR _ v d=>
   CND (decide ((HR.1:Int)<=HR.2.1)) (
    NC s.base λaQ=>
    ((0:Int)<=HR.1/\(HR.1:Int)<(s.len:Nat))/\
    ∃aD:Int,v.drew.cell? (aQ.add (Int.toNat HR.1*1))=some (.int .i64 aD)/\
    NC s.base λaR=>
    ((0:Int)<=a/\(a:Int)<(s.len:Nat))/\
    ∃aE:Int,v.drew.cell? (aR.add (Int.toNat a*1))=some (.int .i64 aE)/\
    DYN E.call cmp #[.int .i64 aD,.int .i64 aE] v.drew λaS aC=>
    ∃aF:Int,aS= .int .i64 aF/\
    CND (decide ((aF:Int)<0)) (
     d (i64 (HR.1+1),HR.2.1,()) aC
    ) (
     J (HR.1,()) aC
    )
   ) (
    J (HR.1,()) v.drew
   ):=by
  intro i j aA J i0 i1 j0 j1 aB hJ;refine AH (λst w'=>i<=st.1/\st.1<=max i (j+1)/\st.2.1=j/\SP E s Z l0 w') (λst _=>(b-st.1).toNat) ⟨Int.le_refl _,by omega,rfl,aB⟩ ?_;rintro⟨k,jj,u⟩ _ bF ⟨T,Y,a3,y⟩;dsimp only at T Y a3⊢;have a4:=a3.symm;subst a4;refine AB (λhle=> ?_) λ_=>hJ k _ T Y y.drew;rw[AE (n:=k+1)];exact Ia hC y (by omega) (by omega) (by omega) (by omega) λz bG O=>AB (λ_=>⟨⟨by show i<=k+1;omega,by omega,rfl,O⟩,by omega⟩) λ_=>hJ k _ T Y O
 have right: ∀(i2 j:Int) (aT:World) (J:Int×Unit->World->Prop),a+1<=i2->a<=j->j<b->SP E s Z l0 aT->(∀k w',k<=j->min j (i2-1)<=k->SP E s Z l0 w'->J (k,()) w')->
   At (Int×Unit) (j,()) aT λQ5 _ aJ aI=>
    CND (decide ((i2:Int)<=Q5.1)) (
     NC s.base λbB=>
     ((0:Int)<=Q5.1/\(Q5.1:Int)<(s.len:Nat))/\
     ∃a6:Int,aJ.drew.cell? (bB.add (Int.toNat Q5.1*1))=some (.int .i64 a6)/\
     NC s.base λbC=>
     ((0:Int)<=a/\(a:Int)<(s.len:Nat))/\
     ∃a7:Int,aJ.drew.cell? (bC.add (Int.toNat a*1))=some (.int .i64 a7)/\
     DYN E.call cmp #[.int .i64 a6,.int .i64 a7] aJ.drew λbD a5=>
     ∃a8:Int,bD= .int .i64 a8/\
     CND (!(decide ((a8:Int)<0))) (
      aI (i64 (Q5.1-1),()) a5
     ) (
      J (Q5.1,()) a5
     )
    ) (
     J (Q5.1,()) aJ.drew
    ):=by
  intro i2 j aT J i0 j0 j1 aV hJ;refine AH (λst w'=>st.1<=j/\min j (i2-1)<=st.1/\SP E s Z l0 w') (λst _=>(st.1+1).toNat) ⟨Int.le_refl _,by omega,aV⟩ ?_;rintro⟨k,u⟩ _ bN ⟨m0,m1,aM⟩;dsimp only at m0 m1⊢;refine AB (λhle=> ?_) λ_=>hJ k _ m0 m1 aM.drew;rw[AE (n:=k-1)];exact Ia hC aM (by omega) (by omega) (by omega) (by omega) λz bO aN=>I1 (AB (λ_=>hJ k _ m0 m1 aN) λ_=>⟨⟨by show k-1<=j;omega,by omega,aN⟩,by omega⟩)
 refine AX (λst w'=>a+1<=st.1/\st.1<=b/\SP E s Z l0 w') (left (a+1) (b-1) w8 (λst w'=>a+1<=st.1/\st.1<=b/\SP E s Z l0 w') (Int.le_refl _) (by omega) (by omega) (by omega) bA λk w' T Y h=>⟨T,by show k<=b;omega,h⟩) ?_;rintro⟨i,u⟩ _ bE ⟨i0,i1,aU⟩;dsimp only at i0 i1⊢;refine AX (λst w'=>a<=st.1/\st.1<b/\SP E s Z l0 w') (right i (b-1) bE (λst w'=>a<=st.1/\st.1<b/\SP E s Z l0 w') i0 (by omega) (by omega) aU λk w' T Y h=>⟨by show a<=k;omega,by show k<b;omega,h⟩) ?_;rintro⟨j,u⟩ _ bM ⟨j0,j1,aL⟩;dsimp only at j0 j1⊢;refine AB (λ_=> ?_) λhle=> ?_
 .exact GD aL (by omega) (by omega) (by omega) (by omega) λbH aW=>hK j true bH j0 j1 aW
 refine GD aL (by omega) (by omega) (by omega) (by omega) λbP aX=> ?_;rw[AE (n:=i+1),AE (n:=j-1)];refine AH (λst w'=>a+1<=st.1/\st.1<=b/\a<=st.2.1/\st.2.1<b/\SP E s Z l0 w') (λst _=>(st.2.1+1-st.1).toNat) ⟨by omega,by show i+1<=b;omega,by show a<=j-1;omega,by show j-1<b;omega,aX⟩ ?_;rintro⟨i,j,u⟩ _ bI ⟨i0,i1,j0,j1,aY⟩;dsimp only at i0 i1 j0 j1⊢;refine AX (λst w'=>i<=st.1/\st.1<=max i (j+1)/\SP E s Z l0 w') (aP i j bI (λst w'=>i<=st.1/\st.1<=max i (j+1)/\SP E s Z l0 w') i0 i1 j0 j1 aY λk w' T Y h=>⟨T,Y,h⟩) ?_;rintro⟨i2,u⟩ _ bJ ⟨T,Y,aZ⟩;dsimp only at T Y⊢;refine AX (λst w'=>st.1<=j/\min j (i2-1)<=st.1/\SP E s Z l0 w') (right i2 j bJ (λst w'=>st.1<=j/\min j (i2-1)<=st.1/\SP E s Z l0 w') (by omega) j0 j1 aZ λk w' T Y h=>⟨T,Y,h⟩) ?_;rintro⟨j2,u⟩ _ bQ ⟨m0,m1,aO⟩;dsimp only at m0 m1⊢;refine AB (λ_=> ?_) λhle=> ?_
 .exact GD aO (by omega) (by omega) (by omega) (by omega) λbK a1=>hK j2 false bK (by omega) (by omega) a1
 .rw[AE (n:=i2+1),AE (n:=j2-1)];exact GD aO (by omega) (by omega) (by omega) (by omega) λbS a2=>⟨⟨by omega,by show i2+1<=b;omega,by show a<=j2-1;omega,by show j2-1<b;omega,a2⟩,by omega⟩
end
def yH:ByteArray:=⟨#[0,1,2,2,3,3,3,3,4,4,4,4,4,4,4,4,5,5,5,5,5,5,5,5,5,5,5,5,5,5,5,5,6,6,6,6,6,6,6,6,6,6,6,6,6,6,6,6,6,6,6,6,6,6,6,6,6,6,6,6,6,6,6,6,7,7,7,7,7,7,7,7,7,7,7,7,7,7,7,7,7,7,7,7,7,7,7,7,7,7,7,7,7,7,7,7,7,7,7,7,7,7,7,7,7,7,7,7,7,7,7,7,7,7,7,7,7,7,7,7,7,7,7,7,7,7,7,7,8,8,8,8,8,8,8,8,8,8,8,8,8,8,8,8,8,8,8,8,8,8,8,8,8,8,8,8,8,8,8,8,8,8,8,8,8,8,8,8,8,8,8,8,8,8,8,8,8,8,8,8,8,8,8,8,8,8,8,8,8,8,8,8,8,8,8,8,8,8,8,8,8,8,8,8,8,8,8,8,8,8,8,8,8,8,8,8,8,8,8,8,8,8,8,8,8,8,8,8,8,8,8,8,8,8,8,8,8,8,8,8,8,8,8,8,8,8,8,8,8,8,8,8,8,8,8,8]⟩
def len8_all:((List.range 256).all λi=>match yH[i]? with|some b=>decide (i<2^b.toNat)&&(decide (i=0)&&decide (b.toNat=0)||decide (2^(b.toNat-1)<=i)&&decide (1<=b.toNat))&&decide (b.toNat<=8)|none=>false)=true:=by decide+kernel
def tZ{n:Int}(h0:0<=n)(h1:n<256){K:Int->Prop}(v: ∀b:Nat,b<=8->n<2^b->(n=0->b=0)->(0<n->1<=b/\2^(b-1)<=n)->K (b:Int)):mC yH n K:=by
 obtain⟨k,rfl⟩:=Int.eq_ofNat_of_zero_le h0;have h:=List.all_eq_true.1 len8_all k (List.mem_range.2 (by omega));refine⟨h0,?_⟩;rw[Int.toNat_natCast];split at h
 .rename_i b hb;simp only[Bool.and_eq_true,Bool.or_eq_true,decide_eq_true_eq]at h;obtain⟨⟨h2,d⟩,j⟩:=h;refine⟨b,hb,v b.toNat j (by grind) (λe=> ?_) λe=> ?_⟩
  .grind
  .rcases d with d|d
   .omega
   grind
 .cases h
section
variable{E:Env}{w:World}
structure vQ(x r:Int):Prop where
 r0:0<=r
 r1:r<=64
 up:x<2^r.toNat
 lo:0<x->1<=r/\2^(r.toNat-1)<=x
def dB{X:Int}(h0:0<=X)(h1:X<18446744073709551616){K:Int->World->Prop}(hK: ∀r,vQ X r->K r w):F.I8 E X K w:=by
 unfold F.I8;have aA:(2:Int)^(min (Int.toNat 32) (IntKind.bits .u64))=4294967296:=by decide
 have Y:(2:Int)^(min (Int.toNat 16) (IntKind.bits .u64))=65536:=by decide
 have e8:(2:Int)^(min (Int.toNat 8) (IntKind.bits .u64))=256:=by decide
 rw[aA,Y,e8];refine AX (λst w'=>w'=w/\ ∃n:Nat,st.2.1=(n:Int)/\n<=32/\st.1=X/2^n/\(n=0∨0<st.1)/\st.1<4294967296) ?_ ?_
 .refine AB (λh=>⟨by decide,AY λx d=> ?_⟩) λh=>⟨rfl,0,rfl,by decide,by simp,.inl rfl,by omega⟩;rw[Int.fdiv_eq_ediv_of_nonneg _ (by decide)]at d;exact⟨rfl,32,rfl,by decide,d,.inr (by omega),by omega⟩
 rintro⟨x,n',u⟩ _ w3 ⟨rfl,n,J,j,d,hz,v⟩;dsimp only at J d hz v⊢;subst J;have T:0<=x:=by rw[d];grind
 refine AX (λst w'=>w'=w3/\ ∃n:Nat,st.2.1=(n:Int)/\n<=48/\st.1=X/2^n/\(n=0∨0<st.1)/\st.1<65536) ?_ ?_
 .refine AB (λh=>⟨by decide,AY λy O=> ?_⟩) λh=>⟨rfl,n,rfl,by omega,d,hz,by omega⟩;rw[Int.fdiv_eq_ediv_of_nonneg _ (by decide)]at O;rw[AE (n:=(n:Int)+16)];refine⟨rfl,n+16,by grind,by omega,?_,.inr (by omega),by omega⟩;show y=X/2^(n+16);rw[O,d,Int.pow_add,<-Int.ediv_ediv_of_nonneg (Int.le_of_lt (Int.pow_pos (by decide)))];rfl
 clear d hz v T j;rintro⟨x,n',u⟩ _ w7 ⟨rfl,n,J,j,d,hz,v⟩;dsimp only at J d hz v⊢;subst J;have T:0<=x:=by rw[d];grind
 refine AX (λst w'=>w'=w7/\ ∃n:Nat,st.2.1=(n:Int)/\n<=56/\st.1=X/2^n/\(n=0∨0<st.1)/\st.1<256) ?_ ?_
 .refine AB (λh=>⟨by decide,AY λy O=> ?_⟩) λh=>⟨rfl,n,rfl,by omega,d,hz,by omega⟩;rw[Int.fdiv_eq_ediv_of_nonneg _ (by decide)]at O;rw[AE (n:=(n:Int)+8)];refine⟨rfl,n+8,by grind,by omega,?_,.inr (by omega),by omega⟩;show y=X/2^(n+8);rw[O,d,Int.pow_add,<-Int.ediv_ediv_of_nonneg (Int.le_of_lt (Int.pow_pos (by decide)))];rfl
 clear d hz v T j;rintro⟨x,n',u⟩ _ aO ⟨rfl,n,J,j,d,hz,v⟩;dsimp only at J d hz v⊢;subst J;have p0:(0:Int)<2^n:=Int.pow_pos (by decide);have T:0<=x:=by rw[d];grind
 have ew:IntKind.wrap .u8 x=x:=by show x %256=x;omega
 rw[ew];refine(show mC yH x _ from tZ T v λb aL aC aN aB=>AY λr hr=> ?_);rw[AE (n:=(b:Int)),AE (n:=(n:Int)+(b:Int))]at hr;subst hr;have et:((n:Int)+(b:Int)).toNat=b+n:=by omega
 refine hK _ ⟨by omega,by omega,?_,λhX=> ?_⟩
 .rw[et,Int.pow_add];have:=(Int.ediv_lt_iff_lt_mul p0).1 (d▸aC);exact this
 .by_cases hn0:n=0
  .grind
  .have aD:0<x:=hz.resolve_left hn0;have hl:=aB aD;refine⟨by omega,?_⟩;rw[et,show b+n-1=(b-1)+n by omega,Int.pow_add];have:2^(b-1)<=X/2^n:=d▸hl.2;exact(Int.le_ediv_iff_mul_le p0).1 this
def Yz{X:Int}(h0:0<=X)(h1:X<18446744073709551616){K:Int->World->Prop}(d: ∀r,vQ X r->K r w):F.E7 E X K w:=by
 unfold F.E7 T0.E7;exact dB h0 h1 d
def yI(a:Int){b:Int}(h0:0<=b)(h1:b<18446744073709551616):0<=D5 .u64 0 a b/\D5 .u64 0 a b<=b:=by
 obtain⟨k,rfl⟩:=Int.eq_ofNat_of_zero_le h0;have e:D5 .u64 0 a (k:Int)=((BitVec.ofInt 64 a&&&BitVec.ofInt 64 (k:Int)).toNat:Int):=by
  show IntKind.wrap .u64 ((BitVec.ofInt 64 a&&&BitVec.ofInt 64 (k:Int)).toNat:Int)=_;exact Tk (BitVec.isLt _)
 rw[e,BitVec.toNat_and,BitVec.ofInt_natCast,BitVec.toNat_ofNat];have h2:((BitVec.ofInt 64 a).toNat&&&k %2^64)<=k %2^64:=Nat.and_le_right;omega
def kI{n:Int}(h0:1<=n)(h1:n<1099511627776){K:Int->World->Prop}(Y: ∀m,n<m->m<=2*n->K m w):F.Ci E n K w:=by
 unfold F.Ci T0.Ci;rw[AK (n:=n)];refine Yz (by omega) (by omega) λr d=>⟨d.r0,AY λt J=> ?_⟩;obtain⟨k,rfl⟩:=Int.eq_ofNat_of_zero_le d.r0;have j:=d.lo (by omega);have v:=d.up;rw[Int.toNat_natCast]at j v J;have O:1<=k:=by omega
 have T:(2:Int)^k=2*2^(k-1):=by
  rw[show k=(k-1)+1 by omega,Int.pow_succ];simp;omega
 have hle:(2:Int)^k<=2*n:=by omega
 have y:k<64:=by
  refine Classical.byContradiction λg=> ?_;have:k=64:=by have:=d.r1;omega
  grind
 rw[show min k (IntKind.bits .u64)=k by show min k 64=k;omega,Int.one_mul,AK]at J
 grind
end
section
variable{E:Env}{cmp:Value}{s:Aa}{Z:List Pr}{l0:List Int}{w:World}
def kJ{b t:Nat}{x:Int}(H:Sat (Cells b t [.int .u64 x]::Z) w){K:Int->World->Prop}(Y: ∀y w',Sat (Cells b t [.int .u64 y]::Z) w'->K y w'):F.GY E (some ⟨b,0,none⟩) K w:=by
 unfold F.GY;simp only[AG];have H1:=H.drew;refine⟨_,H1.Ah rfl,_,H1.Ah rfl,by decide,CO H1 (o:=0) rfl (by simp) λw6 T=> ?_⟩;have J:=T.drew;refine⟨_,J.Ah rfl,_,J.Ah rfl,by decide,CO J (o:=0) rfl (by simp) λaA v=> ?_⟩;have d:=v.drew;refine⟨_,d.Ah rfl,_,d.Ah rfl,by decide,CO d (o:=0) rfl (by simp) λO j=> ?_⟩;exact⟨_,j.Ah rfl,Y _ O j⟩
def SP.add{P:Pr}{w':World}(h: ∃l:List Int,l.Perm l0/\Sat (P::Row E.Bx 1 s (ints .i64 l)::Z) w'):SP E s (P::Z) l0 w':=let⟨l,h1,h2⟩:=h;⟨l,h1,h2.perm (.swap _ _ _)⟩
def SP.out{P:Pr}{w':World}(h:SP E s (P::Z) l0 w'): ∃l:List Int,l.Perm l0/\Sat (P::Row E.Bx 1 s (ints .i64 l)::Z) w':=let⟨l,h1,h2⟩:=h;⟨l,h1,h2.perm (.swap _ _ _)⟩
def SP.drop{P:Pr}{w':World}(h:SP E s (P::Z) l0 w'):SP E s Z l0 w':=let⟨l,h1,h2⟩:=h;⟨l,h1,(h2.perm (.swap _ _ _)).tail⟩
def PH(hsm:s.len<1099511627776)(hS:SP E s Z l0 w){a b:Int}(a0:0<=a)(ab:a<b)(b1:b<=s.len){K:World->Prop}(hK: ∀w',SP E s Z l0 w'->K w'):F.Aj E s a b cmp K w:=by
 unfold F.Aj T0.Aj;rw[AE (n:=b-a)];refine AB (λh8=> ?_) λ_=>hK w hS;obtain⟨l,hp,H⟩:=hS;refine AR (vs:=[.int .u64 0]) H λd w2 H2 _=>CO H2 (o:=0) rfl (by simp) λw3 H3=> ?_;rw[Int.tdiv_eq_ediv_of_nonneg (by omega),AE (n:=(b-a)/4),AE (n:=(b-a)/4*2),AE (n:=a+(b-a)/4*2),AE (n:=a+(b-a)/4*2-1),AE (n:=a+(b-a)/4*2+1)];refine kI (n:=b-a) (by omega) (by omega) λm m0 m1=>⟨by decide,AY λidx aC=> ?_⟩;refine AH (λst w'=>idx<=st.1/\st.1<=idx+3/\ ∃x,SP E s (Cells d E.Hu [.int .u64 x]::Z) l0 w') (λst _=>(idx+3-st.1).toNat) ⟨Int.le_refl _,by omega,_,SP.add ⟨l,hp,H3⟩⟩ ?_;rintro⟨i,u⟩ _ w8 ⟨i0,i1,x,J⟩;dsimp only at i0 i1⊢;refine⟨by decide,AB (λhle=> ?_) λ_=>hK w8 J.drop⟩;obtain⟨l8,aA,H8⟩:=J.out;refine kJ H8 λy O T=>AY λother ho=> ?_;rw[AK (n:=m-1)]at ho;have aH:=yI y (b:=m-1) (by omega) (by omega);rw[AE]at ho;have j:SP E s (Cells d E.Hu [.int .u64 y]::Z) l0 O:=SP.add ⟨l8,aA,T⟩;refine AX (λst w'=>0<=st.1/\st.1<b-a/\w'=O) ?_ ?_
 .refine AB (λh=>AY λo2 Y=> ?_) λh=>⟨by omega,by omega,rfl⟩;rw[AE (n:=other-(b-a))]at Y;exact⟨by omega,by omega,rfl⟩
 rintro⟨o,u⟩ _ aK ⟨o0,o1,rfl⟩;dsimp only at o0 o1⊢;rw[AE (n:=a+o),AE (n:=i+1)];exact GD j (by omega) (by omega) (by omega) (by omega) λaL v=>⟨⟨by show idx<=i+1;omega,by omega,y,v⟩,by omega⟩
def yJ(E:Env)(s:Aa)(Z:List Pr)(l0:List Int)(b:Nat)(w:World):Prop:= ∃n,SP E s (Cells b E.Bx [.int .i64 n]::Z) l0 w
def Nw(hC: ∀P,ME E cmp s (P::Z) l0){b:Nat}(hS:yJ E s Z l0 b w){i j:Int}(i0:0<=i)(i1:i<s.len)(T:0<=j)(Y:j<s.len){K:Int->Int->World->Prop}
  (O: ∀x y w',(x=i/\y=j)∨(x=j/\y=i)->yJ E s Z l0 b w'->K x y w'):F.Es E s i j (some ⟨b,0,none⟩) cmp K w:=by
 obtain⟨n,hS⟩:=hS;unfold F.Es;refine Ia (hC _) hS T Y i0 i1 λz w6 d=>AB (λ_=> ?_) λ_=>O i j w6 (.inl ⟨rfl,rfl⟩) ⟨n,d⟩;obtain⟨l,hp,H⟩:=d.out;simp only[AG];refine⟨_,H.Ah rfl,CO H (o:=0) rfl (by simp) λJ v=>O j i J (.inr ⟨rfl,rfl⟩) ⟨_,SP.add ⟨l,hp,v⟩⟩⟩
def Lj(hC: ∀P,ME E cmp s (P::Z) l0){b:Nat}(hS:yJ E s Z l0 b w){i j k:Int}(i0:0<=i)(i1:i<s.len)(T:0<=j)(Y:j<s.len)(k0:0<=k)(k1:k<s.len){K:Int->World->Prop}
  (O: ∀x w',x=i∨x=j∨x=k->yJ E s Z l0 b w'->K x w'):F.BM E s i j k (some ⟨b,0,none⟩) cmp K w:=by
 unfold F.BM T0.BM;refine Nw hC hS i0 i1 T Y λx y w3 h3 d=> ?_;refine Nw hC d (i:=y) (j:=k) (by omega) (by omega) k0 k1 λx2 y2 w6 h6 v=> ?_;refine Nw hC v (i:=x) (j:=x2) (by omega) (by omega) (by omega) (by omega) λx3 y3 w9 h9 J=>O y3 w9 (by omega) J
def RE(hC: ∀P,ME E cmp s (P::Z) l0)(hsm:s.len<1099511627776)(hS:SP E s Z l0 w){a b:Int}(a0:0<=a)(ab:a+12<b)(b1:b<=s.len){K:Int->Int->World->Prop}
  (hK: ∀p h w',a<=p->p<b->SP E s Z l0 w'->K p h w'):F.Am E s a b cmp K w:=by
 unfold F.Am T0.Am;obtain⟨l,hp,H⟩:=hS;refine AR (vs:=[.int .i64 0]) H λbb w2 H2 _=> ?_;rw[AE (n:=b-a),Int.tdiv_eq_ediv_of_nonneg (by omega),AE (n:=(b-a)/4),AE (n:=(b-a)/4*1),AE (n:=(b-a)/4*2),AE (n:=(b-a)/4*3),
  AE (n:=a+(b-a)/4*1),AE (n:=a+(b-a)/4*2),AE (n:=a+(b-a)/4*3)]
 refine⟨by decide,AY λi hi=>⟨by decide,AY λj hj=>⟨by decide,AY λk hk=> ?_⟩⟩⟩;have aA:yJ E s Z l0 bb w2:=⟨0,SP.add ⟨l,hp,H2⟩⟩;refine AX (λst w'=>a<=st.1/\st.1<b/\yJ E s Z l0 bb w') ?_ ?_
 .refine AB (λh8=> ?_) λ_=>by omega
  refine AX (λst w'=>(a<=st.1/\st.1<b)/\(a<=st.2.1/\st.2.1<b)/\(a<=st.2.2.1/\st.2.2.1<b)/\yJ E s Z l0 bb w') ?_ ?_
  .refine AB (λaH=> ?_) λ_=>⟨⟨by show a<=i;omega,by show i<b;omega⟩,⟨by show a<=j;omega,by show j<b;omega⟩,⟨by show a<=k;omega,by show k<b;omega⟩,aA⟩;unfold F.A5 T0.A5;rw[AE (n:=i-1),AE (n:=i+1),AE (n:=j-1),AE (n:=j+1),AE (n:=k-1),AE (n:=k+1)];refine Lj hC aA (by omega) (by omega) (by omega) (by omega) (by omega) (by omega) λx aK hx J=> ?_;refine Lj hC J (by omega) (by omega) (by omega) (by omega) (by omega) (by omega) λy aL hy O=> ?_;refine Lj hC O (by omega) (by omega) (by omega) (by omega) (by omega) (by omega) λz aM hz T=> ?_;exact⟨⟨by show a<=x;omega,by show x<b;omega⟩,⟨by show a<=y;omega,by show y<b;omega⟩,⟨by show a<=z;omega,by show z<b;omega⟩,T⟩
  .rintro⟨x,y,z,u⟩ _ aJ ⟨⟨x0,x1⟩,⟨y0,y1⟩,⟨z0,z1⟩,v⟩;dsimp only at x0 x1 y0 y1 z0 z1⊢;refine Lj hC v (by omega) (by omega) (by omega) (by omega) (by omega) (by omega) λq aN hq Y=>⟨by show a<=q;omega,by show q<b;omega,Y⟩
 .rintro⟨p,u⟩ _ w8 ⟨p0,p1,n,d⟩;dsimp only at p0 p1⊢;obtain⟨l8,aI,H8⟩:=d.out;refine⟨n,H8.Ah rfl,BF (λ_=>hK p 1 w8 p0 p1 d.drop) λ_=>BF (λ_=>hK p 2 w8 p0 p1 d.drop) λ_=>hK p 0 w8 p0 p1 d.drop⟩
def UU(hC:ME E cmp s Z l0)(aB: ∀P,ME E cmp s (P::Z) l0)(hsm:s.len<1099511627776): ∀(n0:Nat) {a b Ja:Int} {w:World} {K:World->Prop},SP E s Z l0 w->0<=a->a<=b->b<=s.len->b-a<n0->(∀w',SP E s Z l0 w'->K w')->F.slices_pdqsortCmpFunc_int_ E n0 s a b Ja cmp K w
 | 0,a,b,Ja,w,K,_,_,_,_,h,_=>by omega
 | n0+1,a,b,Ja,w,K,hS,a0,ab,b1,hf,hK=>by
  unfold F.slices_pdqsortCmpFunc_int_;refine AH (λst w'=>a<=st.1/\st.1<=st.2.1/\st.2.1<=b/\SP E s Z l0 w') (λst _=>(st.2.1-st.1).toNat) ⟨Int.le_refl _,ab,Int.le_refl _,hS⟩ ?_;rintro⟨x,y,lm,wb,wp,u⟩ _ w2 ⟨x0,xy,y1,j⟩;dsimp only at x0 xy y1⊢;rw[AE (n:=y-x)];refine AB (λ_=>US hC hsm j (by omega) xy (by omega) hK) λaS=>BF (λ_=>VI hC hsm j (by omega) (by omega) (by omega) hK) λ_=> ?_;refine AX (λ_ w'=>SP E s Z l0 w') (I1 (AQ (λ_=>j) λ_=>PH hsm j (by omega) (by omega) (by omega) λw9 aJ=>aJ)) ?_;rintro⟨aU,u⟩ _ w8 aI;dsimp only;refine RE aB hsm aI (by omega) (by omega) (by omega) λp hint aX p0 p1 v=> ?_;refine AX (λst w'=>x<=st.1/\st.1<y/\SP E s Z l0 w') (BF (λ_=>W6 hC hsm v (by omega) (by omega) (by omega) λaZ aC=>AY λq hq=> ?_) λ_=>⟨p0,p1,v⟩) ?_
  .rw[AE (n:=y-1),AE (n:=p-x),AE]at hq;exact⟨by show x<=q;omega,by show q<y;omega,aC⟩
  rintro⟨q,aK,u⟩ _ aY ⟨q0,q1,d⟩;dsimp only at q0 q1⊢;refine AX (λ_ w'=>SP E s Z l0 w') ?_ ?_
  .refine AX (λ_ w'=>SP E s Z l0 w') (AQ (λ_=>AQ (λ_=>d) λ_=>d) λ_=>d) ?_;rintro⟨t,u⟩ _ a2 O;exact AQ (λ_=>NG hC hsm O (by omega) (by omega) (by omega) λr aN T=>AQ (λ_=>hK aN T) λ_=>T) λ_=>O
  intro _ _ a1 J;refine AX (λ_ w'=>SP E s Z l0 w') ?_ ?_
  .refine AB (λaP=> ?_) λ_=>J.drew;rw[AE (n:=x-1)];exact Ia hC J (by omega) (by omega) (by omega) (by omega) λz a4 aD=>aD
  rintro⟨t,u⟩ _ a3 Y;refine AQ (λ_=> ?_) λ_=> ?_
  .exact OZ hC hsm Y (by omega) (by omega) (by omega) q0 q1 λr a5 r0 r1 aE=>⟨⟨by show a<=r;omega,by show r<=y;omega,y1,aE⟩,by omega⟩
  .refine UT hC hsm Y (by omega) (by omega) (by omega) q0 q1 λr t a6 r0 r1 aA=>⟨by decide,AY λaR _=> ?_⟩;rw[AE (n:=r+1)];refine AB (λ_=> ?_) λ_=> ?_
   .exact UU hC aB hsm n0 aA (by omega) (by omega) (by omega) (by omega) λa7 aF=>⟨⟨by show a<=r+1;omega,by show r+1<=y;omega,y1,aF⟩,by omega⟩
   .exact UU hC aB hsm n0 aA (by omega) (by omega) (by omega) (by omega) λa8 aG=>⟨⟨by show a<=x;omega,by show x<=r;omega,by show r<=b;omega,aG⟩,by omega⟩
def VJ(hC:ME E cmp s Z l0)(d: ∀P,ME E cmp s (P::Z) l0)(hsm:s.len<1099511627776)(hS:SP E s Z l0 w){K:World->Prop}(j: ∀w',SP E s Z l0 w'->K w'):F.Bg E s cmp K w:=by
 unfold F.Bg T0.Bg;rw[AK (n:=(s.len:Int))];exact Yz (by omega) (by omega) λr _=>⟨s.len+1,UU hC d hsm _ hS (Int.le_refl 0) (by omega) (Int.le_refl _) (by omega) j⟩
end
structure dC(E:Env):Prop extends EnvA E where
 pB: ∀x y p (R:Value->World->Prop) w,F.C8 E x y p (λr w'=>R (.int .i64 r) w') w->E.call E.GS #[.int .i64 x,.int .i64 y,.pointer p] w R NI
def ZA(b:Nat)(es:Array MapEntry)(c:Nat):Pr where
 holds D w:=(∀i,D i↔i=b)/\w.heap[b]? =some (.map es c)
 loc h he hS:=⟨h.1,he.obj h.2 (hS _ ((h.1 _).2 rfl))⟩
 lt h hk:=by have:=(h.1 _).1 hk;grind
section
variable{E:Env}{w:World}{Z:List Pr}
def Sat.yK{b:Nat}{k:IntKind}{g:Int->Option Value}(H:Sat (Dm b k g::Z) w): ∃es c m,MapI k es c m/\(∀i,aget m i=g i)/\Sat (ZA b es c::Z) w:=by
 obtain⟨D,h,hs⟩:=H.step;obtain⟨es,c,m,h1,h2,d⟩:=h.2;exact⟨es,c,m,h2,d,hs w D _ (Ext.refl _ _) ⟨h.1,h1⟩ λ_ hk=>.inl hk⟩
def Sat.uA{b:Nat}{k:IntKind}{g:Int->Option Value}{es:Array MapEntry}{c:Nat}{m:List (Int×Value)}(H:Sat (ZA b es c::Z) w)(h2:MapI k es c m)(d: ∀i,aget m i=g i):Sat (Dm b k g::Z) w:=by
 obtain⟨D,h,hs⟩:=H.step;exact hs w D _ (Ext.refl _ _) ⟨h.1,es,c,m,h.2,h2,d⟩ λ_ hk=>.inl hk
def Sat.mapX{b:Nat}{es:Array MapEntry}{c:Nat}(H:Sat (ZA b es c::Z) w):w.heap[b]? =some (.map es c):=let⟨_,h⟩:=H.head;h.2
def pC{k:IntKind}{n:Int}{K:Int->Prop}(h:K n):eZ k (.int k n) K:=by cases k<;>exact h
def dD{x y:Int}{K:Int->World->Prop}(j: ∀r,(r<0↔x<y)->K r w):F.DK E x y K w:=by
 unfold F.DK T0.DK F.Jm;simp only[bne_self_eq_false,iR];refine AB (λh=>j _ ⟨λ_=>h,λ_=>by decide⟩) λh=>AB (λh2=>j _ ⟨λh=>absurd h (by decide),λd=>absurd d h⟩) λh2=>j _ ⟨λh=>absurd h (by decide),λd=>absurd d h⟩
def SP.perm{s:Aa}{Y d:List Pr}{l0:List Int}(h:SP E s Y l0 w)(hp:Y.Perm d):SP E s d l0 w:=let⟨l,h1,h2⟩:=h;⟨l,h1,h2.perm (hp.cons _)⟩
def ME.perm{cmp:Value}{s:Aa}{Y d:List Pr}{l0:List Int}(h:ME E cmp s Y l0)(hp:Y.Perm d):ME E cmp s d l0:=
 λx y w R J K hS v=>h x y w R J K (hS.perm hp.symm) λr w' j=>v r w' (j.perm hp)
variable{h:Nat}{S:HS}(hE:dC E)
include hE
theorem ZB{b1 t:Nat}(H:Sat (BQ E h S::Cells b1 t [.pointer (some ⟨h,0,none⟩)]::Z) w){x y:Int}{X Y:Nat×SI}(hx:S.sp x=some X)(hy:S.sp y=some Y){K:Int->World->Prop}
  (hK: ∀r w',(r<0↔X.2.base<Y.2.base)->Sat (BQ E h S::Cells b1 t [.pointer (some ⟨h,0,none⟩)]::Z) w'->K r w'):F.C8 E x y (some ⟨b1,0,none⟩) K w:=by
 unfold F.C8 T0.C8
 try simp only[AG]
 obtain⟨g,hI,H1⟩:=Sat.heap.1 H.drew;obtain⟨es,c,m,hm,hg,H2⟩:=(H1.front 5 rfl).yK;have H3:Sat ([Cells h E.Ae (B4 g S.hint S.AA),Cx E g.m S.V,Bi E g.t S.T,CK E g.a S.ks S.own,Gk E g.f S.fx,ZA g.sm es c,Ad (spR E S.sp) g.ids,Ad (λi:Nat=>BE E (g.cb i) (S.ca i)) (List.range 64),Cells b1 t [.pointer (some ⟨h,0,none⟩)]]++Z) w.drew:=
  Sat.back (Ps:=Ct E h S g++Cells b1 t [.pointer (some ⟨h,0,none⟩)]::Z) 5 H2 (by simp[Ct])
 have facts: ∀{w':World},Sat ([Cells h E.Ae (B4 g S.hint S.AA),Cx E g.m S.V,Bi E g.t S.T,CK E g.a S.ks S.own,Gk E g.f S.fx,ZA g.sm es c,Ad (spR E S.sp) g.ids,Ad (λi:Nat=>BE E (g.cb i) (S.ca i)) (List.range 64),Cells b1 t [.pointer (some ⟨h,0,none⟩)]]++Z) w'->
   w'.cell? ((Addr.mk h 0 none).add 4)=some (.map (some g.sm))/\w'.cell? (Addr.mk b1 0 none)=some (.pointer (some ⟨h,0,none⟩))/\w'.heap[g.sm]? =some (.map es c):=λJ=>
  ⟨(Ca (S:=S) (g:=g) J).2.2.2.2.1,(J.front 8 rfl).Ah rfl,(J.front 5 rfl).mapX⟩
 have d: ∀{w':World} {z:Int} {U:Nat×SI},S.sp z=some U->Sat ([Cells h E.Ae (B4 g S.hint S.AA),Cx E g.m S.V,Bi E g.t S.T,CK E g.a S.ks S.own,Gk E g.f S.fx,ZA g.sm es c,Ad (spR E S.sp) g.ids,Ad (λi:Nat=>BE E (g.cb i) (S.ca i)) (List.range 64),Cells b1 t [.pointer (some ⟨h,0,none⟩)]]++Z) w'->
   ∀{R:Int->Int->Int->Int->Bool->Int->Int->Int->Bool->Bool->World->Prop},(∀r2 r3 r4 r5 r6 r7 r8 r9 aC w2,Sat ([Cells h E.Ae (B4 g S.hint S.AA),Cx E g.m S.V,Bi E g.t S.T,CK E g.a S.ks S.own,Gk E g.f S.fx,ZA g.sm es c,Ad (spR E S.sp) g.ids,Ad (λi:Nat=>BE E (g.cb i) (S.ca i)) (List.range 64),Cells b1 t [.pointer (some ⟨h,0,none⟩)]]++Z) w2->
    R U.2.base r2 r3 r4 r5 r6 r7 r8 r9 aC w2)->F.Be E (some ⟨U.1,0,none⟩) R w':=by
  intro w' z U hz J R hR;have O:z∈g.ids:=(hI.mem z).2 (by grind);obtain⟨i,hi⟩:=List.mem_iff_getElem?.1 O;have h1:=(J.front 6 rfl).GG hi;have e:spR E S.sp z=C9 E U.1 U.2:=by unfold spR;rw[hz]
  rw[e]at h1;refine IL h1 λw2 h2=>hR _ _ _ _ _ _ _ _ _ _ ?_;rw[<-e]at h2;exact Sat.back (Ps:=[Cells h E.Ae (B4 g S.hint S.AA),Cx E g.m S.V,Bi E g.t S.T,CK E g.a S.ks S.own,Gk E g.f S.fx,ZA g.sm es c,Ad (spR E S.sp) g.ids,Ad (λi:Nat=>BE E (g.cb i) (S.ca i)) (List.range 64),Cells b1 t [.pointer (some ⟨h,0,none⟩)]]++Z) 6 (Sat.HW h2 hi) (by simp)
 obtain⟨f1,f2,f3⟩:=facts H3;have lk: ∀(z:Int) {U:Nat×SI},S.sp z=some U->((aget m z).getD (.pointer none))= .pointer (some ⟨U.1,0,none⟩):=λz U hz=>by rw[hg];unfold EA;grind
 refine⟨_,f2,?_⟩
 try simp only[AG]
 refine⟨_,f1,L0 f3 hm ?_⟩;refine⟨_,lk x hx,?_⟩
 try simp only[AG]
 refine⟨_,f2,?_⟩
 try simp only[AG]
 refine⟨_,f1,L0 f3 hm ?_⟩;refine⟨_,lk y hy,?_⟩;refine d hx H3 λ_ _ _ _ _ _ _ _ _ aV j=> ?_;obtain⟨g1,g2,g3⟩:=facts j;refine⟨⟨_,g3⟩,g1,g2,g1,g2,d hy j λ_ _ _ _ _ _ _ _ _ aW v=> ?_⟩;obtain⟨k1,k2,k3⟩:=facts v;refine⟨k1,k2,k1,k2,dD λr hr=>⟨k1,k2,k1,k2,hK r _ hr ?_⟩⟩;have h1:=(v.front 5 rfl).uA (g:=EA S.sp) hm hg;exact Sat.heap.2 ⟨g,hI,Sat.back (Ps:=Ct E h S g++Cells b1 t [.pointer (some ⟨h,0,none⟩)]::Z) 5 h1 (by simp[Ct])⟩
theorem ZC{b1 t:Nat}{s:Aa}{l0:List Int}(d: ∀n∈l0,S.sp n≠none):ME E (.func (.func E.GS) #[] #[.pointer (some (Addr.mk b1 0 none))]) s (BQ E h S::Cells b1 t [.pointer (some ⟨h,0,none⟩)]::Z) l0:=by
 intro x y w R K O ⟨l,hp,H⟩ hR;refine hE.pB x y _ R w ?_;obtain⟨X,v⟩:=Option.ne_none_iff_exists'.1 (d x K);obtain⟨Y,J⟩:=Option.ne_none_iff_exists'.1 (d y O);refine ZB hE (h:=h) (t:=t) (Z:=Row E.Bx 1 s (ints .i64 l)::Z) (H.perm ?_) v J λr w' _ j=>hR r w' ⟨l,hp,j.perm ?_⟩
 .exact(List.perm_middle (l₁:=[BQ E h S,Cells b1 t [.pointer (some ⟨h,0,none⟩)]])).symm
 .exact List.perm_middle (l₁:=[BQ E h S,Cells b1 t [.pointer (some ⟨h,0,none⟩)]])
theorem ZD(H:Sat (BQ E h S::Z) w)(hb: ∀l:List Int,l.Nodup->(∀n∈l,S.sp n≠none)->l.length<1099511627776){K:Aa->World->Prop}
  (hK: ∀s l w',l.Nodup->(∀n,n∈l↔S.sp n≠none)->Sat (Row E.Bx 1 s (ints .i64 l)::BQ E h S::Z) w'->K s w'):F.EO E (some ⟨h,0,none⟩) K w:=by
 have aF: ∀n,EA S.sp n≠none↔S.sp n≠none:=λn=>by unfold EA;cases S.sp n<;>simp
 unfold F.EO T0.EO;refine AR (vs:=[.pointer (some ⟨h,0,none⟩)]) H λb1 w2 H2 _=>⟨_,H2.Ah rfl,?_⟩
 try simp only[AG]
 obtain⟨g,hI,H3⟩:=Sat.heap.1 (H2.front 1 rfl);refine⟨_,(Ca (S:=S) (g:=g) H3).2.2.2.2.1,wI (H3.front 5 rfl) λb7 N0 w8 H8=> ?_⟩;have aH:=H8.nil E.Bx 1;refine AH (λst w'=> ∃cur done N,Sat (U8 b7 g.sm .i64 (EA S.sp) cur done N::Row E.Bx 1 st.1 (ints .i64 done)::(Ct E h S g++Cells b1 E.BH [.pointer (some ⟨h,0,none⟩)]::Z).eraseIdx 5) w') (λ_ w'=>nA b7 g.sm w') ⟨none,[],N0,aH.front 1 rfl⟩ ?_;rintro⟨s,u⟩ _ a0 ⟨cur,done,N,T⟩;dsimp only at T⊢;rw[T.fG];refine AV (nB T (λaM Y aR j=>AV (AO rfl ?_)) λn v a1 N' aY aA hN y j=>AV (AU rfl λj2=>rU y λv' S' aZ=> ?_))
 .obtain⟨aA,aI⟩:=Y.fH;have aB:=Sat.Th (Ps:=Ct E h S g++Cells b1 E.BH [.pointer (some ⟨h,0,none⟩)]::Z) 5 ((Y.wH).front 1 rfl) (by simp[Ct]);have aC:Sat (Ct E h S g++(Row E.Bx 1 s (ints .i64 done)::Cells b1 E.BH [.pointer (some ⟨h,0,none⟩)]::Z)) aM:=Sat.perm aB (List.perm_middle (l₁:=Ct E h S g)).symm;have aD:=(Sat.heap.2 ⟨g,hI,aC⟩).front 1 rfl;have d: ∀n∈done,S.sp n≠none:=λn hn=>(aF n).1 (aI n hn);have hlen:=hb done aA d;have aL:s.len<1099511627776:=by
   have:=(Y.front 1 rfl).Du;simp only[ints,List.length_map]at this;omega
  have hC:=ZC (h:=h) (S:=S) hE (b1:=b1) (t:=E.BH) (s:=s) (l0:=done) (Z:=Z) d;refine VJ hC (λP=>(ZC (h:=h) (S:=S) hE (b1:=b1) (t:=E.BH) (s:=s) (l0:=done) (Z:=P::Z) d).perm ?_) aL ⟨done,.refl _,aD⟩ λaN ⟨l,hp,H22⟩=> ?_
  .exact List.perm_middle (l₁:=[BQ E h S,Cells b1 E.BH [.pointer (some ⟨h,0,none⟩)]])
  .refine hK s l aN (hp.nodup_iff.2 aA) (λn=> ?_) (H22.front 2 rfl).tail
   grind
 .refine pC ?_;have O:=y.fH;have hlen:=hb _ O.1 λn hn=>(aF n).1 (O.2 n hn);have aK:=(y.front 1 rfl).Du;simp only[ints,List.length_map]at aK;simp only[List.length_append,List.length_singleton]at hlen;refine AR (vs:=[.int .i64 n]) y λaV a2 aG _=>EX (zs:= #[.int .i64 0]) (bytes:=8) ((aG.front 2 rfl).front 1 rfl) rfl rfl (by simp[Value.oneCell']) (by omega) (by omega) λJR a3 aE _=> ?_;rw[show ints .i64 done++[.int .i64 n]=ints .i64 (done++[n]) by simp[ints]]at aE;have J:=aE.front 1 rfl;refine⟨⟨_,_,_,J⟩,?_⟩;rw[J.fG];exact hN
end
end Go.Sh

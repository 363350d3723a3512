/- The heap tells its spans in a row: a range over a map, and the sort of the row. No further condition. -/
import Derived.Test.YtjibkpcalinfhaaGreatDoorA
import Derived.Test.YtjibkpcalinfhaaGreatDoorF
import Derived.Test.YtjibkpcalinfhaaGreatDoorH
set_option linter.all false
set_option maxRecDepth 50000
set_option maxHeartbeats 4000000
namespace Go.Sh
def SP(E:Env)(s:AX)(Z:List Pr)(l0:List Int)(w:World):Prop:= ∃l:List Int,l.Perm l0/\Sat (Row E.CO 1 s (ints .i64 l)::Z) w
def Lz(E:Env)(cmp:Value)(s:AX)(Z:List Pr)(l0:List Int):Prop:= ∀x y w (R:Value->World->Prop),x∈l0->y∈l0->SP E s Z l0 w->(∀r w',SP E s Z l0 w'->R (.int .i64 r) w')->DYN E.call cmp #[.int .i64 x,.int .i64 y] w R
section
variable{E:Env}{cmp:Value}{s:AX}{Z:List Pr}{l0:List Int}{w:World}
def SP.drew(h:SP E s Z l0 w):SP E s Z l0 w.drew:=let⟨l,h1,h2⟩:=h;⟨l,h1,h2.drew⟩
def SP.at(h:SP E s Z l0 w){i:Int}(h0:0<=i)(h1:i<s.len): ∃p x,s.base=some p/\w.cell? (p.add (Int.toNat i*1))=some (.int .i64 x)/\x∈l0:=by
 obtain⟨l,hp,hs⟩:=h;have y:=hs.C1;rw[ints,List.length_map,Nat.mul_one]at y;have j:i.toNat<l.length:=by omega
 obtain⟨b,d⟩:=hs.own.Ep (by omega);refine⟨_,l[i.toNat],d,?_,hp.mem_iff.1 (List.getElem_mem j)⟩;have v:(ints IntKind.i64 l)[i.toNat]? =some (.int .i64 l[i.toNat]):=JL (List.getElem?_eq_getElem j);rw[Nat.mul_one];exact hs.own.cell d v
def IB(hC:Lz E cmp s Z l0)(v:SP E s Z l0 w){i j:Int}(i0:0<=i)(i1:i<s.len)(O:0<=j)(T:j<s.len){R:Int->World->Prop}(Y: ∀z w',SP E s Z l0 w'->R z w'):
  NC s.base λp=>((0:Int)<=i/\(i:Int)<(s.len:Nat))/\ ∃x:Int,w.drew.cell? (p.add (Int.toNat i*1))=some (.int .i64 x)/\
  NC s.base λq=>((0:Int)<=j/\(j:Int)<(s.len:Nat))/\ ∃y:Int,w.drew.cell? (q.add (Int.toNat j*1))=some (.int .i64 y)/\
  DYN E.call cmp #[.int .i64 x,.int .i64 y] w.drew λr w'=> ∃z:Int,r= .int .i64 z/\R z w':=by
 obtain⟨p,x,K,hx,C⟩:=v.drew.at i0 i1;obtain⟨q,y,d,hy,J⟩:=v.drew.at O T;rw[K]at d;cases d;rw[K];simp only[AG];exact⟨⟨i0,i1⟩,x,hx,⟨O,T⟩,y,hy,hC x y _ _ C J v.drew λr w' h=>⟨r,rfl,Y r w' h⟩⟩
def Fx(hS:SP E s Z l0 w){i j:Int}(i0:0<=i)(i1:i<s.len)(K:0<=j)(O:j<s.len){R:World->Prop}(hR: ∀w',SP E s Z l0 w'->R w'):
  NC s.base λp=>((0:Int)<=i/\(i:Int)<(s.len:Nat))/\ ∃x:Int,w.drew.cell? (p.add (Int.toNat i*1))=some (.int .i64 x)/\
  NC s.base λq=>((0:Int)<=j/\(j:Int)<(s.len:Nat))/\ ∃y:Int,w.drew.cell? (q.add (Int.toNat j*1))=some (.int .i64 y)/\
  NC s.base λp'=>((0:Int)<=j/\(j:Int)<(s.len:Nat))/\stCells (p'.add (Int.toNat j*1)) 0 [.int .i64 x] w.drew λw1=>
  NC s.base λq'=>((0:Int)<=i/\(i:Int)<(s.len:Nat))/\stCells (q'.add (Int.toNat i*1)) 0 [.int .i64 y] w1 λv=>R v:=by
 obtain⟨l,hp,hs⟩:=hS.drew;have hl:=hs.C1;rw[ints,List.length_map,Nat.mul_one]at hl;have C:i.toNat<l.length:=by omega
 have J:j.toNat<l.length:=by omega
 obtain⟨b,d⟩:=hs.own.Ep (by omega);have T:(ints IntKind.i64 l)[i.toNat]? =some (.int .i64 l[i.toNat]):=JL (List.getElem?_eq_getElem C);have Y:(ints IntKind.i64 l)[j.toNat]? =some (.int .i64 l[j.toNat]):=JL (List.getElem?_eq_getElem J);rw[d];simp only[AG,Nat.mul_one];refine⟨⟨i0,i1⟩,_,hs.own.cell d T,⟨K,O⟩,_,hs.own.cell d Y,⟨K,O⟩,?_⟩;refine Gp hs (j:=j.toNat) rfl (by grind) d λw1 H1=>⟨⟨i0,i1⟩,?_⟩;refine Gp H1 (j:=i.toNat) rfl (by grind) d λv H2=> ?_;refine hR v ⟨(l.set j.toNat l[i.toNat]).set i.toNat l[j.toNat],(List.set_set_perm J C).trans hp,?_⟩;have e:ints IntKind.i64 ((l.set j.toNat l[i.toNat]).set i.toNat l[j.toNat])=((ints .i64 l).set j.toNat (.int .i64 l[i.toNat])).set i.toNat (.int .i64 l[j.toNat]):=by
  unfold ints;rw[List.map_set,List.map_set]
 grind
variable(hC:Lz E cmp s Z l0)(hsm:s.len<1099511627776)
include hC hsm
theorem Tn(Y:SP E s Z l0 w){a b:Int}(a0:0<=a)(ab:a<=b)(b1:b<=s.len){K:World->Prop}(T: ∀w',SP E s Z l0 w'->K w'):F.Bk E s a b cmp K w:=by
 unfold F.Bk;by_cases hab:a+1<=b
 .rw[AF (n:=a+1)];refine AI (λst w'=>a+1<=st.1/\st.1<=b/\SP E s Z l0 w') (λst _=>(b-st.1).toNat) ⟨Int.le_refl _,hab,Y⟩ ?_;rintro⟨i,u⟩ _ w2 ⟨h1,h2,v⟩;dsimp only at h1 h2⊢;refine AB (λJ=> ?_) λ_=>T w2 v;have O: ∀w',SP E s Z l0 w'->(a+1<=i64 (i+1)/\i64 (i+1)<=b/\SP E s Z l0 w')/\(b-i64 (i+1)).toNat<(b-i).toNat:=λw' h=>by
   rw[AF (n:=i+1)]
   grind
  refine AI (λst w'=>a<=st.1/\st.1<=i/\SP E s Z l0 w') (λst _=>(st.1-a).toNat) ⟨by show a<=i;omega,Int.le_refl _,v⟩ ?_;rintro⟨j,u⟩ _ w5 ⟨h3,h4,C⟩;dsimp only at h3 h4⊢;refine AB (λaD=> ?_) λ_=>O _ C.drew;rw[AF (n:=j-1)];refine IB hC C (by omega) (by omega) (by omega) (by omega) λz aE d=>AB (λ_=> ?_) λ_=>O _ d;exact Fx d (by omega) (by omega) (by omega) (by omega) λaF y=>⟨⟨by show a<=j-1;omega,by show j-1<=i;omega,y⟩,by omega⟩
 .refine AI (λst w'=>b<=st.1/\w'=w) (λ_ _=>0) ⟨?_,rfl⟩ ?_
  .rw[AF (n:=a+1)];omega
  .rintro⟨i,u⟩ _ w2 ⟨h1,rfl⟩;exact AB (λJ=>by dsimp only at h1 J;omega) λ_=>T _ Y
theorem OO(hS:SP E s Z l0 w){lo J first:Int}(h0:0<=lo)(f0:0<=first)(hh:0<=J)(h1:first+J<=s.len){K:World->Prop}(hK: ∀w',SP E s Z l0 w'->K w')(Y:lo<1099511627776):F.EK E s lo J first cmp K w:=by
 unfold F.EK;refine AI (λst w'=>0<=st.1/\st.1<1099511627776/\SP E s Z l0 w') (λst _=>(1099511627776-st.1).toNat) ⟨h0,Y,hS⟩ ?_;rintro⟨root,u⟩ _ w2 ⟨r0,r1,y⟩;dsimp only at r0 r1⊢;refine AY λchild T=> ?_;rw[AF (n:=2*root),AF (n:=2*root+1)]at T;refine AB (λ_=>hK w2 y) λaE=> ?_;refine AV (λst w'=>root<st.1/\st.1<J/\SP E s Z l0 w') ?_ ?_
 .refine AU ?_;rw[AF (n:=child+1)];refine AB (λaD=> ?_) λ_ j=>AP rfl ⟨by omega,by omega,y.drew⟩;rw[AF (n:=first+child),AF (n:=first+child+1)];exact IB hC y (by omega) (by omega) (by omega) (by omega) λz aF d j=>AB (λ_=>⟨by show root<child+1;omega,by show child+1<J;omega,d⟩) λ_=>⟨by omega,by omega,d⟩
 .rintro⟨c,u⟩ _ w7 ⟨c0,c1,O⟩;dsimp only at c0 c1⊢;rw[AF (n:=first+root),AF (n:=first+c)];refine IB hC O (by omega) (by omega) (by omega) (by omega) λz aA v=>JK (AB (λ_=> ?_) λ_=>hK aA v);exact Fx v (by omega) (by omega) (by omega) (by omega) λaH C=>⟨⟨by show 0<=c;omega,by show c<_;omega,C⟩,by omega⟩
theorem UZ(hS:SP E s Z l0 w){a b:Int}(a0:0<=a)(ab:a<b)(b1:b<=s.len){K:World->Prop}(Y: ∀w',SP E s Z l0 w'->K w'):F.Aw E s a b cmp K w:=by
 unfold F.Aw T0.Aw;rw[AF (n:=b-a),AF (n:=b-a-1),Int.tdiv_eq_ediv_of_nonneg (by omega),AF (n:=(b-a-1)/2)];refine⟨by decide,AY λi hi=> ?_⟩;refine AI (λst w'=> -1<=st.1/\st.1<b-a/\SP E s Z l0 w') (λst _=>(st.1+1).toNat) ⟨by omega,by omega,hS⟩ ?_;rintro⟨k,u⟩ _ w3 ⟨J,O,v⟩;dsimp only at J O⊢;refine AB (λd=> ?_) λC=> ?_
 .refine OO hC hsm v d a0 (by omega) (by omega) (λw5 aB=> ?_) (by omega);rw[AF (n:=k-1)]
  grind
 .refine AY λi2 aC=> ?_;refine AI (λst w'=> -1<=st.1/\st.1<b-a/\SP E s Z l0 w') (λst _=>(st.1+1).toNat) ⟨by omega,by omega,v⟩ ?_;rintro⟨k,u⟩ _ w8 ⟨J,O,y⟩;dsimp only at J O⊢;refine AB (λd=> ?_) λC=>Y w8 y;rw[AF (n:=a+k)];refine Fx y (by omega) (by omega) a0 (by omega) λaD j=> ?_;refine OO hC hsm j (Int.le_refl 0) a0 d (by omega) (λaE T=> ?_) (by decide);rw[AF (n:=k-1)]
  grind
theorem WD(C:SP E s Z l0 w){a b:Int}(a0:0<=a)(ab:a<b)(b1:b<=s.len){K:World->Prop}(y: ∀w',SP E s Z l0 w'->K w'):F.Br E s a b cmp K w:=by
 unfold F.Br;rw[AF (n:=b-1)];refine AI (λst w'=>0<=st.1/\st.2.1<b/\0<=st.2.1+1/\st.1<=b/\SP E s Z l0 w') (λst _=>(st.2.1-st.1).toNat) ⟨a0,by show b-1<b;omega,by grind,by show a<=b;omega,C⟩ ?_;rintro⟨i,j,u⟩ _ w2 ⟨i0,T,O,i1,v⟩;dsimp only at i0 T O i1⊢;refine AB (λJ=> ?_) λ_=>y w2 v;rw[AF (n:=i+1),AF (n:=j-1)];exact Fx v (by omega) (by omega) (by omega) (by omega) λY d=>⟨⟨by omega,by show j-1<b;omega,by omega,by show i+1<=b;omega,d⟩,by omega⟩
theorem Mt(hS:SP E s Z l0 w){a b:Int}(a0:0<=a)(ab:a<b)(b1:b<=s.len){K:Bool->World->Prop}(hK: ∀r w',SP E s Z l0 w'->K r w'):F.A5 E s a b cmp K w:=by
 unfold F.A5;rw[AF (n:=a+1)];refine AI (λst w'=>a+1<=st.1/\st.1<=b/\0<=st.2.1/\st.2.1<=5/\SP E s Z l0 w') (λst _=>(5-st.2.1).toNat) ⟨Int.le_refl _,by show a+1<=b;omega,Int.le_refl 0,by grind,hS⟩ ?_;rintro⟨i,n,u⟩ _ w2 ⟨i0,i1,n0,n1,aB⟩;dsimp only at i0 i1 n0 n1⊢;refine AB (λhn=> ?_) λ_=>hK false w2 aB;refine AV (λst w'=>i<=st.1/\st.1<=b/\SP E s Z l0 w') ?_ ?_
 .refine AI (λst w'=>i<=st.1/\st.1<=b/\SP E s Z l0 w') (λst _=>(b-st.1).toNat) ⟨Int.le_refl _,i1,aB⟩ ?_;rintro⟨k,u⟩ _ w8 ⟨k0,k1,aE⟩;dsimp only at k0 k1⊢;refine AB (λaI=> ?_) λ_=>⟨k0,k1,aE.drew⟩;rw[AF (n:=k-1),AF (n:=k+1)];exact IB hC aE (by omega) (by omega) (by omega) (by omega) λz aS d=>JK (AB (λ_=>⟨k0,k1,d⟩) λ_=>⟨⟨by show i<=k+1;omega,by show k+1<=b;omega,d⟩,by omega⟩)
 rintro⟨k,u⟩ _ w6 ⟨k0,k1,Y⟩;dsimp only at k0 k1⊢;refine Bc (λ_=>hK true w6 Y) λaP=> ?_;rw[AF (n:=b-a)];refine AB (λ_=>hK false w6 Y) λ_=> ?_;rw[AF (n:=k-1),AF (n:=k-a),AF (n:=b-k),AF (n:=k+1),AF (n:=n+1)];have aA: ∀w',SP E s Z l0 w'->(a+1<=k/\k<=b/\0<=n+1/\n+1<=5/\SP E s Z l0 w')/\(5-(n+1)).toNat<(5-n).toNat:=λw' h=>⟨⟨by omega,by omega,by omega,by omega,h⟩,by omega⟩;refine Fx Y (by omega) (by omega) (by omega) (by omega) λaU v=> ?_;refine AV (λ_ w'=>SP E s Z l0 w') ?_ ?_
 .refine AB (λ_=> ?_) λ_=>v;refine AI (λst w'=>0<=st.1/\st.1<b/\SP E s Z l0 w') (λst _=>st.1.toNat) ⟨by omega,by show k-1<b;omega,v⟩ ?_;rintro⟨j,u⟩ _ aV ⟨j0,j1,C⟩;dsimp only at j0 j1⊢;refine AB (λaO=> ?_) λ_=>C;rw[AF (n:=j-1)];refine IB hC C (by omega) (by omega) (by omega) (by omega) λz aW J=>JK (AB (λ_=> ?_) λ_=>J);exact Fx J (by omega) (by omega) (by omega) (by omega) λaX aC=>⟨⟨by omega,by show j-1<b;omega,aC⟩,by omega⟩
 .intro _ _ aL y;refine AB (λ_=> ?_) λ_=>aA aL y;refine AI (λst w'=>k+1<=st.1/\st.1<=b/\SP E s Z l0 w') (λst _=>(b-st.1).toNat) ⟨Int.le_refl _,by show k+1<=b;omega,y⟩ ?_;rintro⟨j,u⟩ _ aY ⟨j0,j1,O⟩;dsimp only at j0 j1⊢;refine AB (λaI=> ?_) λ_=>aA _ O;rw[AF (n:=j-1),AF (n:=j+1)];refine IB hC O (by omega) (by omega) (by omega) (by omega) λz aZ T=>JK (AB (λ_=> ?_) λ_=>aA _ T);exact Fx T (by omega) (by omega) (by omega) (by omega) λa1 aD=>⟨⟨by omega,by show j+1<=b;omega,aD⟩,by omega⟩
theorem OD(hS:SP E s Z l0 w){a b p:Int}(a0:0<=a)(ab:a<b)(b1:b<=s.len)(p0:a<=p)(p1:p<b){K:Int->World->Prop}(hK: ∀r w',a<r->r<=b->SP E s Z l0 w'->K r w'):F.Bb E s a b p cmp K w:=by
 unfold F.Bb;refine Fx hS (by omega) (by omega) (by omega) (by omega) λw8 aE=> ?_;rw[AF (n:=a+1),AF (n:=b-1)];refine AI (λst w'=>a+1<=st.1/\st.1<=b/\a<=st.2.1/\st.2.1<b/\SP E s Z l0 w') (λst _=>(st.2.1+1-st.1).toNat) ⟨Int.le_refl _,by show a+1<=b;omega,by show a<=b-1;omega,by show b-1<b;omega,aE⟩ ?_;rintro⟨i,j,u⟩ _ aL ⟨i0,i1,j0,j1,O⟩;dsimp only at i0 i1 j0 j1⊢;refine AV (λst w'=>i<=st.1/\st.1<=max i (j+1)/\SP E s Z l0 w') ?_ ?_
 .refine AI (λst w'=>i<=st.1/\st.1<=max i (j+1)/\st.2.1=j/\SP E s Z l0 w') (λst _=>(b-st.1).toNat) ⟨Int.le_refl _,by omega,rfl,O⟩ ?_;rintro⟨k,jj,u⟩ _ aN ⟨k0,k1,aA,d⟩;dsimp only at k0 k1 aA⊢;have aB:=aA.symm;subst aB;refine AB (λhle=> ?_) λ_=>⟨k0,k1,d.drew⟩;rw[AF (n:=k+1)];exact IB hC d (by omega) (by omega) (by omega) (by omega) λz aO v=>JK (AB (λ_=>⟨k0,k1,v⟩) λ_=>⟨⟨by show i<=k+1;omega,by omega,rfl,v⟩,by omega⟩)
 rintro⟨i2,u⟩ _ aM ⟨k0,k1,T⟩;dsimp only at k0 k1⊢;refine AV (λst w'=>st.1<=j/\min j (i2-1)<=st.1/\SP E s Z l0 w') ?_ ?_
 .refine AI (λst w'=>st.1<=j/\min j (i2-1)<=st.1/\SP E s Z l0 w') (λst _=>(st.1+1).toNat) ⟨Int.le_refl _,by omega,T⟩ ?_;rintro⟨k,u⟩ _ aP ⟨m0,m1,C⟩;dsimp only at m0 m1⊢;refine AB (λhle=> ?_) λ_=>⟨m0,m1,C.drew⟩;rw[AF (n:=k-1)];exact IB hC C (by omega) (by omega) (by omega) (by omega) λz aQ J=>AB (λ_=>⟨⟨by show k-1<=j;omega,by omega,J⟩,by omega⟩) λ_=>⟨m0,m1,J⟩
 rintro⟨j2,u⟩ _ aG ⟨m0,m1,y⟩;dsimp only at m0 m1⊢;refine AB (λ_=>hK i2 aG (by omega) (by omega) y) λhle=> ?_;rw[AF (n:=i2+1),AF (n:=j2-1)];exact Fx y (by omega) (by omega) (by omega) (by omega) λaR Y=>⟨⟨by omega,by show i2+1<=b;omega,by show a<=j2-1;omega,by show j2-1<b;omega,Y⟩,by omega⟩
theorem To(hS:SP E s Z l0 w){a b p:Int}(a0:0<=a)(ab:a<b)(b1:b<=s.len)(p0:a<=p)(p1:p<b){K:Int->Bool->World->Prop}(hK: ∀r t w',a<=r->r<b->SP E s Z l0 w'->K r t w'):F.CK E s a b p cmp K w:=by
 unfold F.CK;refine Fx hS (by omega) (by omega) (by omega) (by omega) λw8 a9=> ?_;rw[AF (n:=a+1),AF (n:=b-1)];have left: ∀(i j:Int) (Y:World) (J:Int×Unit->World->Prop),a+1<=i->i<=b->a<=j->j<b->SP E s Z l0 Y->(∀k w',i<=k->k<=max i (j+1)->SP E s Z l0 w'->J (k,()) w')->
   Az (Int×Unit) (i,()) Y λG4 _ v d=>
   CND (decide ((G4.1:Int)<=j)) (
    NC s.base λaP=>
    ((0:Int)<=G4.1/\(G4.1:Int)<(s.len:Nat))/\
    ∃aC:Int,v.drew.cell? (aP.add (Int.toNat G4.1*1))=some (.int .i64 aC)/\
    NC s.base λaQ=>
    ((0:Int)<=a/\(a:Int)<(s.len:Nat))/\
    ∃aD:Int,v.drew.cell? (aQ.add (Int.toNat a*1))=some (.int .i64 aD)/\
    DYN E.call cmp #[.int .i64 aC,.int .i64 aD] v.drew λaR aB=>
    ∃aE:Int,aR= .int .i64 aE/\
    CND (decide ((aE:Int)<0)) (
     d (i64 (G4.1+1),()) aB
    ) (
     J (G4.1,()) aB
    )
   ) (
    J (G4.1,()) v.drew
   ):=by
  intro i j Y J i0 i1 j0 j1 aA hJ;refine AI (λst w'=>i<=st.1/\st.1<=max i (j+1)/\SP E s Z l0 w') (λst _=>(b-st.1).toNat) ⟨Int.le_refl _,by omega,aA⟩ ?_;rintro⟨k,u⟩ _ bE ⟨O,T,y⟩;dsimp only at O T⊢;refine AB (λhle=> ?_) λ_=>hJ k _ O T y.drew;rw[AF (n:=k+1)];exact IB hC y (by omega) (by omega) (by omega) (by omega) λz bF C=>AB (λ_=>⟨⟨by show i<=k+1;omega,by omega,C⟩,by omega⟩) λ_=>hJ k _ O T C
 have aO: ∀(i j:Int) (Y:World) (J:Int×Unit->World->Prop),a+1<=i->i<=b->a<=j->j<b->SP E s Z l0 Y->(∀k w',i<=k->k<=max i (j+1)->SP E s Z l0 w'->J (k,()) w')->
   Az (Int×Int×Unit) (i,j,()) Y λG4 _ v d=>
   CND (decide ((G4.1:Int)<=G4.2.1)) (
    NC s.base λaP=>
    ((0:Int)<=G4.1/\(G4.1:Int)<(s.len:Nat))/\
    ∃aC:Int,v.drew.cell? (aP.add (Int.toNat G4.1*1))=some (.int .i64 aC)/\
    NC s.base λaQ=>
    ((0:Int)<=a/\(a:Int)<(s.len:Nat))/\
    ∃aD:Int,v.drew.cell? (aQ.add (Int.toNat a*1))=some (.int .i64 aD)/\
    DYN E.call cmp #[.int .i64 aC,.int .i64 aD] v.drew λaR aB=>
    ∃aE:Int,aR= .int .i64 aE/\
    CND (decide ((aE:Int)<0)) (
     d (i64 (G4.1+1),G4.2.1,()) aB
    ) (
     J (G4.1,()) aB
    )
   ) (
    J (G4.1,()) v.drew
   ):=by
  intro i j Y J i0 i1 j0 j1 aA hJ;refine AI (λst w'=>i<=st.1/\st.1<=max i (j+1)/\st.2.1=j/\SP E s Z l0 w') (λst _=>(b-st.1).toNat) ⟨Int.le_refl _,by omega,rfl,aA⟩ ?_;rintro⟨k,jj,u⟩ _ bE ⟨O,T,a2,y⟩;dsimp only at O T a2⊢;have a3:=a2.symm;subst a3;refine AB (λhle=> ?_) λ_=>hJ k _ O T y.drew;rw[AF (n:=k+1)];exact IB hC y (by omega) (by omega) (by omega) (by omega) λz bF C=>AB (λ_=>⟨⟨by show i<=k+1;omega,by omega,rfl,C⟩,by omega⟩) λ_=>hJ k _ O T C
 have right: ∀(i2 j:Int) (aS:World) (J:Int×Unit->World->Prop),a+1<=i2->a<=j->j<b->SP E s Z l0 aS->(∀k w',k<=j->min j (i2-1)<=k->SP E s Z l0 w'->J (k,()) w')->
   Az (Int×Unit) (j,()) aS λOe _ aI aH=>
    CND (decide ((i2:Int)<=Oe.1)) (
     NC s.base λbA=>
     ((0:Int)<=Oe.1/\(Oe.1:Int)<(s.len:Nat))/\
     ∃a5:Int,aI.drew.cell? (bA.add (Int.toNat Oe.1*1))=some (.int .i64 a5)/\
     NC s.base λbB=>
     ((0:Int)<=a/\(a:Int)<(s.len:Nat))/\
     ∃a6:Int,aI.drew.cell? (bB.add (Int.toNat a*1))=some (.int .i64 a6)/\
     DYN E.call cmp #[.int .i64 a5,.int .i64 a6] aI.drew λbC a4=>
     ∃a7:Int,bC= .int .i64 a7/\
     CND (!(decide ((a7:Int)<0))) (
      aH (i64 (Oe.1-1),()) a4
     ) (
      J (Oe.1,()) a4
     )
    ) (
     J (Oe.1,()) aI.drew
    ):=by
  intro i2 j aS J i0 j0 j1 aU hJ;refine AI (λst w'=>st.1<=j/\min j (i2-1)<=st.1/\SP E s Z l0 w') (λst _=>(st.1+1).toNat) ⟨Int.le_refl _,by omega,aU⟩ ?_;rintro⟨k,u⟩ _ bN ⟨m0,m1,aL⟩;dsimp only at m0 m1⊢;refine AB (λhle=> ?_) λ_=>hJ k _ m0 m1 aL.drew;rw[AF (n:=k-1)];exact IB hC aL (by omega) (by omega) (by omega) (by omega) λz bO aM=>JK (AB (λ_=>hJ k _ m0 m1 aM) λ_=>⟨⟨by show k-1<=j;omega,by omega,aM⟩,by omega⟩)
 refine AV (λst w'=>a+1<=st.1/\st.1<=b/\SP E s Z l0 w') (left (a+1) (b-1) w8 (λst w'=>a+1<=st.1/\st.1<=b/\SP E s Z l0 w') (Int.le_refl _) (by omega) (by omega) (by omega) a9 λk w' O T h=>⟨O,by show k<=b;omega,h⟩) ?_;rintro⟨i,u⟩ _ bD ⟨i0,i1,aT⟩;dsimp only at i0 i1⊢;refine AV (λst w'=>a<=st.1/\st.1<b/\SP E s Z l0 w') (right i (b-1) bD (λst w'=>a<=st.1/\st.1<b/\SP E s Z l0 w') i0 (by omega) (by omega) aT λk w' O T h=>⟨by show a<=k;omega,by show k<b;omega,h⟩) ?_;rintro⟨j,u⟩ _ bM ⟨j0,j1,aK⟩;dsimp only at j0 j1⊢;refine AB (λ_=> ?_) λhle=> ?_
 .exact Fx aK (by omega) (by omega) (by omega) (by omega) λbG aV=>hK j true bG j0 j1 aV
 refine Fx aK (by omega) (by omega) (by omega) (by omega) λbP aW=> ?_;rw[AF (n:=i+1),AF (n:=j-1)];refine AI (λst w'=>a+1<=st.1/\st.1<=b/\a<=st.2.1/\st.2.1<b/\SP E s Z l0 w') (λst _=>(st.2.1+1-st.1).toNat) ⟨by omega,by show i+1<=b;omega,by show a<=j-1;omega,by show j-1<b;omega,aW⟩ ?_;rintro⟨i,j,u⟩ _ bH ⟨i0,i1,j0,j1,aX⟩;dsimp only at i0 i1 j0 j1⊢;refine AV (λst w'=>i<=st.1/\st.1<=max i (j+1)/\SP E s Z l0 w') (aO i j bH (λst w'=>i<=st.1/\st.1<=max i (j+1)/\SP E s Z l0 w') i0 i1 j0 j1 aX λk w' O T h=>⟨O,T,h⟩) ?_;rintro⟨i2,u⟩ _ bI ⟨O,T,aY⟩;dsimp only at O T⊢;refine AV (λst w'=>st.1<=j/\min j (i2-1)<=st.1/\SP E s Z l0 w') (right i2 j bI (λst w'=>st.1<=j/\min j (i2-1)<=st.1/\SP E s Z l0 w') (by omega) j0 j1 aY λk w' O T h=>⟨O,T,h⟩) ?_;rintro⟨j2,u⟩ _ bQ ⟨m0,m1,aN⟩;dsimp only at m0 m1⊢;refine AB (λ_=> ?_) λhle=> ?_
 .exact Fx aN (by omega) (by omega) (by omega) (by omega) λbJ aZ=>hK j2 false bJ (by omega) (by omega) aZ
 .rw[AF (n:=i2+1),AF (n:=j2-1)];exact Fx aN (by omega) (by omega) (by omega) (by omega) λbS a1=>⟨⟨by omega,by show i2+1<=b;omega,by show a<=j2-1;omega,by show j2-1<b;omega,a1⟩,by omega⟩
end
def vG:ByteArray:=⟨#[0,1,2,2,3,3,3,3,4,4,4,4,4,4,4,4,5,5,5,5,5,5,5,5,5,5,5,5,5,5,5,5,6,6,6,6,6,6,6,6,6,6,6,6,6,6,6,6,6,6,6,6,6,6,6,6,6,6,6,6,6,6,6,6,7,7,7,7,7,7,7,7,7,7,7,7,7,7,7,7,7,7,7,7,7,7,7,7,7,7,7,7,7,7,7,7,7,7,7,7,7,7,7,7,7,7,7,7,7,7,7,7,7,7,7,7,7,7,7,7,7,7,7,7,7,7,7,7,8,8,8,8,8,8,8,8,8,8,8,8,8,8,8,8,8,8,8,8,8,8,8,8,8,8,8,8,8,8,8,8,8,8,8,8,8,8,8,8,8,8,8,8,8,8,8,8,8,8,8,8,8,8,8,8,8,8,8,8,8,8,8,8,8,8,8,8,8,8,8,8,8,8,8,8,8,8,8,8,8,8,8,8,8,8,8,8,8,8,8,8,8,8,8,8,8,8,8,8,8,8,8,8,8,8,8,8,8,8,8,8,8,8,8,8,8,8,8,8,8,8,8,8,8,8,8,8]⟩
def len8_all:((List.range 256).all λi=>match vG[i]? with|some b=>decide (i<2^b.toNat)&&(decide (i=0)&&decide (b.toNat=0)||decide (2^(b.toNat-1)<=i)&&decide (1<=b.toNat))&&decide (b.toNat<=8)|none=>false)=true:=by decide+kernel
def qB{n:Int}(h0:0<=n)(h1:n<256){K:Int->Prop}(v: ∀b:Nat,b<=8->n<2^b->(n=0->b=0)->(0<n->1<=b/\2^(b-1)<=n)->K (b:Int)):iY vG n K:=by
 obtain⟨k,rfl⟩:=Int.eq_ofNat_of_zero_le h0;have h:=List.all_eq_true.1 len8_all k (List.mem_range.2 (by omega));refine⟨h0,?_⟩;rw[Int.toNat_natCast];split at h
 .rename_i b hb;simp only[Bool.and_eq_true,Bool.or_eq_true,decide_eq_true_eq]at h;obtain⟨⟨h2,d⟩,j⟩:=h;refine⟨b,hb,v b.toNat j (by grind) (λe=> ?_) λe=> ?_⟩
  .grind
  .rcases d with d|d
   .omega
   grind
 .cases h
section
variable{E:Env}{w:World}
structure sA(x r:Int):Prop where
 r0:0<=r
 r1:r<=64
 up:x<2^r.toNat
 lo:0<x->1<=r/\2^(r.toNat-1)<=x
def aH{X:Int}(h0:0<=X)(h1:X<18446744073709551616){K:Int->World->Prop}(hK: ∀r,sA X r->K r w):F.Ik E X K w:=by
 unfold F.Ik;have Y:(2:Int)^(min (Int.toNat 32) (IntKind.bits .u64))=4294967296:=by decide
 have T:(2:Int)^(min (Int.toNat 16) (IntKind.bits .u64))=65536:=by decide
 have e8:(2:Int)^(min (Int.toNat 8) (IntKind.bits .u64))=256:=by decide
 rw[Y,T,e8];refine AV (λst w'=>w'=w/\ ∃n:Nat,st.2.1=(n:Int)/\n<=32/\st.1=X/2^n/\(n=0∨0<st.1)/\st.1<4294967296) ?_ ?_
 .refine AB (λh=>⟨by decide,AY λx d=> ?_⟩) λh=>⟨rfl,0,rfl,by decide,by simp,.inl rfl,by omega⟩;rw[Int.fdiv_eq_ediv_of_nonneg _ (by decide)]at d;exact⟨rfl,32,rfl,by decide,d,.inr (by omega),by omega⟩
 rintro⟨x,n',u⟩ _ w3 ⟨rfl,n,C,j,d,hz,v⟩;dsimp only at C d hz v⊢;subst C;have O:0<=x:=by rw[d];grind
 refine AV (λst w'=>w'=w3/\ ∃n:Nat,st.2.1=(n:Int)/\n<=48/\st.1=X/2^n/\(n=0∨0<st.1)/\st.1<65536) ?_ ?_
 .refine AB (λh=>⟨by decide,AY λy J=> ?_⟩) λh=>⟨rfl,n,rfl,by omega,d,hz,by omega⟩;rw[Int.fdiv_eq_ediv_of_nonneg _ (by decide)]at J;rw[AF (n:=(n:Int)+16)];refine⟨rfl,n+16,by grind,by omega,?_,.inr (by omega),by omega⟩;show y=X/2^(n+16);rw[J,d,Int.pow_add,<-Int.ediv_ediv_of_nonneg (Int.le_of_lt (Int.pow_pos (by decide)))];rfl
 clear d hz v O j;rintro⟨x,n',u⟩ _ w7 ⟨rfl,n,C,j,d,hz,v⟩;dsimp only at C d hz v⊢;subst C;have O:0<=x:=by rw[d];grind
 refine AV (λst w'=>w'=w7/\ ∃n:Nat,st.2.1=(n:Int)/\n<=56/\st.1=X/2^n/\(n=0∨0<st.1)/\st.1<256) ?_ ?_
 .refine AB (λh=>⟨by decide,AY λy J=> ?_⟩) λh=>⟨rfl,n,rfl,by omega,d,hz,by omega⟩;rw[Int.fdiv_eq_ediv_of_nonneg _ (by decide)]at J;rw[AF (n:=(n:Int)+8)];refine⟨rfl,n+8,by grind,by omega,?_,.inr (by omega),by omega⟩;show y=X/2^(n+8);rw[J,d,Int.pow_add,<-Int.ediv_ediv_of_nonneg (Int.le_of_lt (Int.pow_pos (by decide)))];rfl
 clear d hz v O j;rintro⟨x,n',u⟩ _ aO ⟨rfl,n,C,j,d,hz,v⟩;dsimp only at C d hz v⊢;subst C;have p0:(0:Int)<2^n:=Int.pow_pos (by decide);have O:0<=x:=by rw[d];grind
 have ew:IntKind.wrap .u8 x=x:=by show x %256=x;omega
 rw[ew];refine(show iY vG x _ from qB O v λb aL aB aN aA=>AY λr hr=> ?_);rw[AF (n:=(b:Int)),AF (n:=(n:Int)+(b:Int))]at hr;subst hr;have et:((n:Int)+(b:Int)).toNat=b+n:=by omega
 refine hK _ ⟨by omega,by omega,?_,λhX=> ?_⟩
 .rw[et,Int.pow_add];have:=(Int.ediv_lt_iff_lt_mul p0).1 (d▸aB);exact this
 .by_cases hn0:n=0
  .grind
  .have aC:0<x:=hz.resolve_left hn0;have hl:=aA aC;refine⟨by omega,?_⟩;rw[et,show b+n-1=(b-1)+n by omega,Int.pow_add];have:2^(b-1)<=X/2^n:=d▸hl.2;exact(Int.le_ediv_iff_mul_le p0).1 this
def X6{X:Int}(h0:0<=X)(h1:X<18446744073709551616){K:Int->World->Prop}(d: ∀r,sA X r->K r w):F.Es E X K w:=by
 unfold F.Es T0.Es;exact aH h0 h1 d
def vH(a:Int){b:Int}(h0:0<=b)(h1:b<18446744073709551616):0<=Dj .u64 0 a b/\Dj .u64 0 a b<=b:=by
 obtain⟨k,rfl⟩:=Int.eq_ofNat_of_zero_le h0;have e:Dj .u64 0 a (k:Int)=((BitVec.ofInt 64 a&&&BitVec.ofInt 64 (k:Int)).toNat:Int):=by
  show IntKind.wrap .u64 ((BitVec.ofInt 64 a&&&BitVec.ofInt 64 (k:Int)).toNat:Int)=_;exact S8 (BitVec.isLt _)
 rw[e,BitVec.toNat_and,BitVec.ofInt_natCast,BitVec.toNat_ofNat];have h2:((BitVec.ofInt 64 a).toNat&&&k %2^64)<=k %2^64:=Nat.and_le_right;omega
def gM{n:Int}(h0:1<=n)(h1:n<1099511627776){K:Int->World->Prop}(T: ∀m,n<m->m<=2*n->K m w):F.Ci E n K w:=by
 unfold F.Ci T0.Ci;rw[AM (n:=n)];refine X6 (by omega) (by omega) λr d=>⟨d.r0,AY λt C=> ?_⟩;obtain⟨k,rfl⟩:=Int.eq_ofNat_of_zero_le d.r0;have j:=d.lo (by omega);have v:=d.up;rw[Int.toNat_natCast]at j v C;have J:1<=k:=by omega
 have O:(2:Int)^k=2*2^(k-1):=by
  rw[show k=(k-1)+1 by omega,Int.pow_succ];simp;omega
 have hle:(2:Int)^k<=2*n:=by omega
 have y:k<64:=by
  refine Classical.byContradiction λg=> ?_;have:k=64:=by have:=d.r1;omega
  grind
 rw[show min k (IntKind.bits .u64)=k by show min k 64=k;omega,Int.one_mul,AM]at C
 grind
end
section
variable{E:Env}{cmp:Value}{s:AX}{Z:List Pr}{l0:List Int}{w:World}
def gN{b t:Nat}{x:Int}(H:Sat (Cells b t [.int .u64 x]::Z) w){K:Int->World->Prop}(T: ∀y w',Sat (Cells b t [.int .u64 y]::Z) w'->K y w'):F.GK E (some ⟨b,0,none⟩) K w:=by
 unfold F.GK;simp only[AG];have H1:=H.drew;refine⟨_,H1.Af rfl,_,H1.Af rfl,by decide,CN H1 (o:=0) rfl (by simp) λw6 O=> ?_⟩;have C:=O.drew;refine⟨_,C.Af rfl,_,C.Af rfl,by decide,CN C (o:=0) rfl (by simp) λY v=> ?_⟩;have d:=v.drew;refine⟨_,d.Af rfl,_,d.Af rfl,by decide,CN d (o:=0) rfl (by simp) λJ j=> ?_⟩;exact⟨_,j.Af rfl,T _ J j⟩
def SP.add{P:Pr}{w':World}(h: ∃l:List Int,l.Perm l0/\Sat (P::Row E.CO 1 s (ints .i64 l)::Z) w'):SP E s (P::Z) l0 w':=let⟨l,h1,h2⟩:=h;⟨l,h1,h2.perm (.swap _ _ _)⟩
def SP.out{P:Pr}{w':World}(h:SP E s (P::Z) l0 w'): ∃l:List Int,l.Perm l0/\Sat (P::Row E.CO 1 s (ints .i64 l)::Z) w':=let⟨l,h1,h2⟩:=h;⟨l,h1,h2.perm (.swap _ _ _)⟩
def SP.drop{P:Pr}{w':World}(h:SP E s (P::Z) l0 w'):SP E s Z l0 w':=let⟨l,h1,h2⟩:=h;⟨l,h1,(h2.perm (.swap _ _ _)).tail⟩
def Oq(hsm:s.len<1099511627776)(hS:SP E s Z l0 w){a b:Int}(a0:0<=a)(ab:a<b)(b1:b<=s.len){K:World->Prop}(hK: ∀w',SP E s Z l0 w'->K w'):F.Ak E s a b cmp K w:=by
 unfold F.Ak T0.Ak;rw[AF (n:=b-a)];refine AB (λh8=> ?_) λ_=>hK w hS;obtain⟨l,hp,H⟩:=hS;refine AO (vs:=[.int .u64 0]) H λd w2 H2 _=>CN H2 (o:=0) rfl (by simp) λw3 H3=> ?_;rw[Int.tdiv_eq_ediv_of_nonneg (by omega),AF (n:=(b-a)/4),AF (n:=(b-a)/4*2),AF (n:=a+(b-a)/4*2),AF (n:=a+(b-a)/4*2-1),AF (n:=a+(b-a)/4*2+1)];refine gM (n:=b-a) (by omega) (by omega) λm m0 m1=>⟨by decide,AY λidx aC=> ?_⟩;refine AI (λst w'=>idx<=st.1/\st.1<=idx+3/\ ∃x,SP E s (Cells d E.HM [.int .u64 x]::Z) l0 w') (λst _=>(idx+3-st.1).toNat) ⟨Int.le_refl _,by omega,_,SP.add ⟨l,hp,H3⟩⟩ ?_;rintro⟨i,u⟩ _ w8 ⟨i0,i1,x,C⟩;dsimp only at i0 i1⊢;refine⟨by decide,AB (λhle=> ?_) λ_=>hK w8 C.drop⟩;obtain⟨l8,Y,H8⟩:=C.out;refine gN H8 λy J O=>AY λother ho=> ?_;rw[AM (n:=m-1)]at ho;have aH:=vH y (b:=m-1) (by omega) (by omega);rw[AF]at ho;have j:SP E s (Cells d E.HM [.int .u64 y]::Z) l0 J:=SP.add ⟨l8,Y,O⟩;refine AV (λst w'=>0<=st.1/\st.1<b-a/\w'=J) ?_ ?_
 .refine AB (λh=>AY λo2 T=> ?_) λh=>⟨by omega,by omega,rfl⟩;rw[AF (n:=other-(b-a))]at T;exact⟨by omega,by omega,rfl⟩
 rintro⟨o,u⟩ _ aK ⟨o0,o1,rfl⟩;dsimp only at o0 o1⊢;rw[AF (n:=a+o),AF (n:=i+1)];exact Fx j (by omega) (by omega) (by omega) (by omega) λaL v=>⟨⟨by show idx<=i+1;omega,by omega,y,v⟩,by omega⟩
def vI(E:Env)(s:AX)(Z:List Pr)(l0:List Int)(b:Nat)(w:World):Prop:= ∃n,SP E s (Cells b E.CO [.int .i64 n]::Z) l0 w
def NX(hC: ∀P,Lz E cmp s (P::Z) l0){b:Nat}(C:vI E s Z l0 b w){i j:Int}(i0:0<=i)(i1:i<s.len)(T:0<=j)(Y:j<s.len){K:Int->Int->World->Prop}
  (O: ∀x y w',(x=i/\y=j)∨(x=j/\y=i)->vI E s Z l0 b w'->K x y w'):F.Ej E s i j (some ⟨b,0,none⟩) cmp K w:=by
 obtain⟨n,C⟩:=C;unfold F.Ej;refine IB (hC _) C T Y i0 i1 λz w6 d=>AB (λ_=> ?_) λ_=>O i j w6 (.inl ⟨rfl,rfl⟩) ⟨n,d⟩;obtain⟨l,hp,H⟩:=d.out;simp only[AG];refine⟨_,H.Af rfl,CN H (o:=0) rfl (by simp) λJ v=>O j i J (.inr ⟨rfl,rfl⟩) ⟨_,SP.add ⟨l,hp,v⟩⟩⟩
def LP(hC: ∀P,Lz E cmp s (P::Z) l0){b:Nat}(O:vI E s Z l0 b w){i j k:Int}(i0:0<=i)(i1:i<s.len)(T:0<=j)(Y:j<s.len)(k0:0<=k)(k1:k<s.len){K:Int->World->Prop}
  (J: ∀x w',x=i∨x=j∨x=k->vI E s Z l0 b w'->K x w'):F.BR E s i j k (some ⟨b,0,none⟩) cmp K w:=by
 unfold F.BR T0.BR;refine NX hC O i0 i1 T Y λx y w3 h3 d=> ?_;refine NX hC d (i:=y) (j:=k) (by omega) (by omega) k0 k1 λx2 y2 w6 h6 v=> ?_;refine NX hC v (i:=x) (j:=x2) (by omega) (by omega) (by omega) (by omega) λx3 y3 w9 h9 C=>J y3 w9 (by omega) C
def Qi(hC: ∀P,Lz E cmp s (P::Z) l0)(hsm:s.len<1099511627776)(hS:SP E s Z l0 w){a b:Int}(a0:0<=a)(ab:a+12<b)(b1:b<=s.len){K:Int->Int->World->Prop}
  (hK: ∀p h w',a<=p->p<b->SP E s Z l0 w'->K p h w'):F.An E s a b cmp K w:=by
 unfold F.An T0.An;obtain⟨l,hp,H⟩:=hS;refine AO (vs:=[.int .i64 0]) H λbb w2 H2 _=> ?_;rw[AF (n:=b-a),Int.tdiv_eq_ediv_of_nonneg (by omega),AF (n:=(b-a)/4),AF (n:=(b-a)/4*1),AF (n:=(b-a)/4*2),AF (n:=(b-a)/4*3),
  AF (n:=a+(b-a)/4*1),AF (n:=a+(b-a)/4*2),AF (n:=a+(b-a)/4*3)]
 refine⟨by decide,AY λi hi=>⟨by decide,AY λj hj=>⟨by decide,AY λk hk=> ?_⟩⟩⟩;have Y:vI E s Z l0 bb w2:=⟨0,SP.add ⟨l,hp,H2⟩⟩;refine AV (λst w'=>a<=st.1/\st.1<b/\vI E s Z l0 bb w') ?_ ?_
 .refine AB (λh8=> ?_) λ_=>by omega
  refine AV (λst w'=>(a<=st.1/\st.1<b)/\(a<=st.2.1/\st.2.1<b)/\(a<=st.2.2.1/\st.2.2.1<b)/\vI E s Z l0 bb w') ?_ ?_
  .refine AB (λaG=> ?_) λ_=>⟨⟨by show a<=i;omega,by show i<b;omega⟩,⟨by show a<=j;omega,by show j<b;omega⟩,⟨by show a<=k;omega,by show k<b;omega⟩,Y⟩;unfold F.BA T0.BA;rw[AF (n:=i-1),AF (n:=i+1),AF (n:=j-1),AF (n:=j+1),AF (n:=k-1),AF (n:=k+1)];refine LP hC Y (by omega) (by omega) (by omega) (by omega) (by omega) (by omega) λx aK hx C=> ?_;refine LP hC C (by omega) (by omega) (by omega) (by omega) (by omega) (by omega) λy aL hy J=> ?_;refine LP hC J (by omega) (by omega) (by omega) (by omega) (by omega) (by omega) λz aM hz O=> ?_;exact⟨⟨by show a<=x;omega,by show x<b;omega⟩,⟨by show a<=y;omega,by show y<b;omega⟩,⟨by show a<=z;omega,by show z<b;omega⟩,O⟩
  .rintro⟨x,y,z,u⟩ _ aJ ⟨⟨x0,x1⟩,⟨y0,y1⟩,⟨z0,z1⟩,v⟩;dsimp only at x0 x1 y0 y1 z0 z1⊢;refine LP hC v (by omega) (by omega) (by omega) (by omega) (by omega) (by omega) λq aN hq T=>⟨by show a<=q;omega,by show q<b;omega,T⟩
 .rintro⟨p,u⟩ _ w8 ⟨p0,p1,n,d⟩;dsimp only at p0 p1⊢;obtain⟨l8,aI,H8⟩:=d.out;refine⟨n,H8.Af rfl,Bc (λ_=>hK p 1 w8 p0 p1 d.drop) λ_=>Bc (λ_=>hK p 2 w8 p0 p1 d.drop) λ_=>hK p 0 w8 p0 p1 d.drop⟩
def Tp(hC:Lz E cmp s Z l0)(aA: ∀P,Lz E cmp s (P::Z) l0)(hsm:s.len<1099511627776): ∀(n0:Nat) {a b Ju:Int} {w:World} {K:World->Prop},SP E s Z l0 w->0<=a->a<=b->b<=s.len->b-a<n0->(∀w',SP E s Z l0 w'->K w')->F.slices_pdqsortCmpFunc_int_ E n0 s a b Ju cmp K w
 | 0,a,b,Ju,w,K,_,_,_,_,h,_=>by omega
 | n0+1,a,b,Ju,w,K,hS,a0,ab,b1,hf,hK=>by
  unfold F.slices_pdqsortCmpFunc_int_;refine AI (λst w'=>a<=st.1/\st.1<=st.2.1/\st.2.1<=b/\SP E s Z l0 w') (λst _=>(st.2.1-st.1).toNat) ⟨Int.le_refl _,ab,Int.le_refl _,hS⟩ ?_;rintro⟨x,y,lm,wb,wp,u⟩ _ w2 ⟨x0,xy,y1,j⟩;dsimp only at x0 xy y1⊢;rw[AF (n:=y-x)];refine AB (λ_=>Tn hC hsm j (by omega) xy (by omega) hK) λaR=>Bc (λ_=>UZ hC hsm j (by omega) (by omega) (by omega) hK) λ_=> ?_;refine AV (λ_ w'=>SP E s Z l0 w') (JK (AS (λ_=>j) λ_=>Oq hsm j (by omega) (by omega) (by omega) λw9 aI=>aI)) ?_;rintro⟨aT,u⟩ _ w8 aH;dsimp only;refine Qi aA hsm aH (by omega) (by omega) (by omega) λp hint aW p0 p1 v=> ?_;refine AV (λst w'=>x<=st.1/\st.1<y/\SP E s Z l0 w') (Bc (λ_=>WD hC hsm v (by omega) (by omega) (by omega) λaY aB=>AY λq hq=> ?_) λ_=>⟨p0,p1,v⟩) ?_
  .rw[AF (n:=y-1),AF (n:=p-x),AF]at hq;exact⟨by show x<=q;omega,by show q<y;omega,aB⟩
  rintro⟨q,aJ,u⟩ _ aX ⟨q0,q1,d⟩;dsimp only at q0 q1⊢;refine AV (λ_ w'=>SP E s Z l0 w') ?_ ?_
  .refine AV (λ_ w'=>SP E s Z l0 w') (AS (λ_=>AS (λ_=>d) λ_=>d) λ_=>d) ?_;rintro⟨t,u⟩ _ a1 J;exact AS (λ_=>Mt hC hsm J (by omega) (by omega) (by omega) λr aM O=>AS (λ_=>hK aM O) λ_=>O) λ_=>J
  intro _ _ aZ C;refine AV (λ_ w'=>SP E s Z l0 w') ?_ ?_
  .refine AB (λaO=> ?_) λ_=>C.drew;rw[AF (n:=x-1)];exact IB hC C (by omega) (by omega) (by omega) (by omega) λz a3 aC=>aC
  rintro⟨t,u⟩ _ a2 T;refine AS (λ_=> ?_) λ_=> ?_
  .exact OD hC hsm T (by omega) (by omega) (by omega) q0 q1 λr a4 r0 r1 aD=>⟨⟨by show a<=r;omega,by show r<=y;omega,y1,aD⟩,by omega⟩
  .refine To hC hsm T (by omega) (by omega) (by omega) q0 q1 λr t a5 r0 r1 Y=>⟨by decide,AY λaQ _=> ?_⟩;rw[AF (n:=r+1)];refine AB (λ_=> ?_) λ_=> ?_
   .exact Tp hC aA hsm n0 Y (by omega) (by omega) (by omega) (by omega) λa6 aE=>⟨⟨by show a<=r+1;omega,by show r+1<=y;omega,y1,aE⟩,by omega⟩
   .exact Tp hC aA hsm n0 Y (by omega) (by omega) (by omega) (by omega) λa7 aF=>⟨⟨by show a<=x;omega,by show x<=r;omega,by show r<=b;omega,aF⟩,by omega⟩
def Ua(hC:Lz E cmp s Z l0)(d: ∀P,Lz E cmp s (P::Z) l0)(hsm:s.len<1099511627776)(v:SP E s Z l0 w){K:World->Prop}(j: ∀w',SP E s Z l0 w'->K w'):F.Bg E s cmp K w:=by
 unfold F.Bg T0.Bg;rw[AM (n:=(s.len:Int))];exact X6 (by omega) (by omega) λr _=>⟨s.len+1,Tp hC d hsm _ v (Int.le_refl 0) (by omega) (Int.le_refl _) (by omega) j⟩
end
structure aI(E:Env):Prop extends EnvA E where
 lS: ∀x y p (R:Value->World->Prop) w,F.C4 E x y p (λr w'=>R (.int .i64 r) w') w->E.call E.GG #[.int .i64 x,.int .i64 y,.pointer p] w R Kk
def X7(b:Nat)(es:Array MapEntry)(c:Nat):Pr where
 holds D w:=(∀i,D i↔i=b)/\w.heap[b]? =some (.map es c)
 loc h he hS:=⟨h.1,he.obj h.2 (hS _ ((h.1 _).2 rfl))⟩
 lt h hk:=by have:=(h.1 _).1 hk;grind
section
variable{E:Env}{w:World}{Z:List Pr}
def Sat.vJ{b:Nat}{k:IntKind}{g:Int->Option Value}(H:Sat (DY b k g::Z) w): ∃es c m,MapI k es c m/\(∀i,aget m i=g i)/\Sat (X7 b es c::Z) w:=by
 obtain⟨D,h,hs⟩:=H.step;obtain⟨es,c,m,h1,h2,d⟩:=h.2;exact⟨es,c,m,h2,d,hs w D _ (Ext.refl _ _) ⟨h.1,h1⟩ λ_ hk=>.inl hk⟩
def Sat.qC{b:Nat}{k:IntKind}{g:Int->Option Value}{es:Array MapEntry}{c:Nat}{m:List (Int×Value)}(H:Sat (X7 b es c::Z) w)(h2:MapI k es c m)(d: ∀i,aget m i=g i):Sat (DY b k g::Z) w:=by
 obtain⟨D,h,hs⟩:=H.step;exact hs w D _ (Ext.refl _ _) ⟨h.1,es,c,m,h.2,h2,d⟩ λ_ hk=>.inl hk
def Sat.mapX{b:Nat}{es:Array MapEntry}{c:Nat}(H:Sat (X7 b es c::Z) w):w.heap[b]? =some (.map es c):=let⟨_,h⟩:=H.head;h.2
def lT{k:IntKind}{n:Int}{K:Int->Prop}(h:K n):bV k (.int k n) K:=by cases k<;>exact h
def aJ{x y:Int}{K:Int->World->Prop}(j: ∀r,(r<0↔x<y)->K r w):F.DI E x y K w:=by
 unfold F.DI T0.DI F.JV;simp only[bne_self_eq_false,eT];refine AB (λh=>j _ ⟨λ_=>h,λ_=>by decide⟩) λh=>AB (λh2=>j _ ⟨λh=>absurd h (by decide),λd=>absurd d h⟩) λh2=>j _ ⟨λh=>absurd h (by decide),λd=>absurd d h⟩
def SP.perm{s:AX}{Y d:List Pr}{l0:List Int}(h:SP E s Y l0 w)(hp:Y.Perm d):SP E s d l0 w:=let⟨l,h1,h2⟩:=h;⟨l,h1,h2.perm (hp.cons _)⟩
def Lz.perm{cmp:Value}{s:AX}{Y d:List Pr}{l0:List Int}(h:Lz E cmp s Y l0)(hp:Y.Perm d):Lz E cmp s d l0:=
 λx y w R J K C v=>h x y w R J K (C.perm hp.symm) λr w' j=>v r w' (j.perm hp)
variable{h:Nat}{S:HS}(hE:aI E)
include hE
theorem X8{b1 t:Nat}(H:Sat (Bh E h S::Cells b1 t [.pointer (some ⟨h,0,none⟩)]::Z) w){x y:Int}{X Y:Nat×SI}(hx:S.sp x=some X)(hy:S.sp y=some Y){K:Int->World->Prop}
  (hK: ∀r w',(r<0↔X.2.base<Y.2.base)->Sat (Bh E h S::Cells b1 t [.pointer (some ⟨h,0,none⟩)]::Z) w'->K r w'):F.C4 E x y (some ⟨b1,0,none⟩) K w:=by
 unfold F.C4 T0.C4
 try simp only[AG]
 obtain⟨g,hI,H1⟩:=Sat.heap.1 H.drew;obtain⟨es,c,m,hm,hg,H2⟩:=(H1.front 5 rfl).vJ;have H3:Sat ([Cells h E.Ac (B3 g S.hint S.AA),Co E g.m S.V,Bl E g.t S.T,CY E g.a S.ks S.own,GW E g.f S.fx,X7 g.sm es c,Aa (spR E S.sp) g.ids,Aa (λi:Nat=>BU E (g.cb i) (S.ca i)) (List.range 64),Cells b1 t [.pointer (some ⟨h,0,none⟩)]]++Z) w.drew:=
  Sat.back (Ps:=Ct E h S g++Cells b1 t [.pointer (some ⟨h,0,none⟩)]::Z) 5 H2 (by simp[Ct])
 have facts: ∀{w':World},Sat ([Cells h E.Ac (B3 g S.hint S.AA),Co E g.m S.V,Bl E g.t S.T,CY E g.a S.ks S.own,GW E g.f S.fx,X7 g.sm es c,Aa (spR E S.sp) g.ids,Aa (λi:Nat=>BU E (g.cb i) (S.ca i)) (List.range 64),Cells b1 t [.pointer (some ⟨h,0,none⟩)]]++Z) w'->
   w'.cell? ((Addr.mk h 0 none).add 4)=some (.map (some g.sm))/\w'.cell? (Addr.mk b1 0 none)=some (.pointer (some ⟨h,0,none⟩))/\w'.heap[g.sm]? =some (.map es c):=λC=>
  ⟨(Cr (S:=S) (g:=g) C).2.2.2.2.1,(C.front 8 rfl).Af rfl,(C.front 5 rfl).mapX⟩
 have d: ∀{w':World} {z:Int} {U:Nat×SI},S.sp z=some U->Sat ([Cells h E.Ac (B3 g S.hint S.AA),Co E g.m S.V,Bl E g.t S.T,CY E g.a S.ks S.own,GW E g.f S.fx,X7 g.sm es c,Aa (spR E S.sp) g.ids,Aa (λi:Nat=>BU E (g.cb i) (S.ca i)) (List.range 64),Cells b1 t [.pointer (some ⟨h,0,none⟩)]]++Z) w'->
   ∀{R:Int->Int->Int->Int->Bool->Int->Int->Int->Bool->Bool->World->Prop},(∀r2 r3 r4 r5 r6 r7 r8 r9 aB w2,Sat ([Cells h E.Ac (B3 g S.hint S.AA),Co E g.m S.V,Bl E g.t S.T,CY E g.a S.ks S.own,GW E g.f S.fx,X7 g.sm es c,Aa (spR E S.sp) g.ids,Aa (λi:Nat=>BU E (g.cb i) (S.ca i)) (List.range 64),Cells b1 t [.pointer (some ⟨h,0,none⟩)]]++Z) w2->
    R U.2.base r2 r3 r4 r5 r6 r7 r8 r9 aB w2)->F.B7 E (some ⟨U.1,0,none⟩) R w':=by
  intro w' z U hz C R hR;have J:z∈g.ids:=(hI.mem z).2 (by grind);obtain⟨i,hi⟩:=List.mem_iff_getElem?.1 J;have h1:=(C.front 6 rfl).F0 hi;have e:spR E S.sp z=Cz E U.1 U.2:=by unfold spR;rw[hz]
  rw[e]at h1;refine I8 h1 λw2 h2=>hR _ _ _ _ _ _ _ _ _ _ ?_;rw[<-e]at h2;exact Sat.back (Ps:=[Cells h E.Ac (B3 g S.hint S.AA),Co E g.m S.V,Bl E g.t S.T,CY E g.a S.ks S.own,GW E g.f S.fx,X7 g.sm es c,Aa (spR E S.sp) g.ids,Aa (λi:Nat=>BU E (g.cb i) (S.ca i)) (List.range 64),Cells b1 t [.pointer (some ⟨h,0,none⟩)]]++Z) 6 (Sat.G5 h2 hi) (by simp)
 obtain⟨f1,f2,f3⟩:=facts H3;have lk: ∀(z:Int) {U:Nat×SI},S.sp z=some U->((aget m z).getD (.pointer none))= .pointer (some ⟨U.1,0,none⟩):=λz U hz=>by rw[hg];unfold Du;grind
 refine⟨_,f2,?_⟩
 try simp only[AG]
 refine⟨_,f1,Lm f3 hm ?_⟩;refine⟨_,lk x hx,?_⟩
 try simp only[AG]
 refine⟨_,f2,?_⟩
 try simp only[AG]
 refine⟨_,f1,Lm f3 hm ?_⟩;refine⟨_,lk y hy,?_⟩;refine d hx H3 λ_ _ _ _ _ _ _ _ _ aV j=> ?_;obtain⟨g1,g2,g3⟩:=facts j;refine⟨⟨_,g3⟩,g1,g2,g1,g2,d hy j λ_ _ _ _ _ _ _ _ _ aW v=> ?_⟩;obtain⟨O,k2,k3⟩:=facts v;refine⟨O,k2,O,k2,aJ λr hr=>⟨O,k2,O,k2,hK r _ hr ?_⟩⟩;have h1:=(v.front 5 rfl).qC (g:=Du S.sp) hm hg;exact Sat.heap.2 ⟨g,hI,Sat.back (Ps:=Ct E h S g++Cells b1 t [.pointer (some ⟨h,0,none⟩)]::Z) 5 h1 (by simp[Ct])⟩
theorem X9{b1 t:Nat}{s:AX}{l0:List Int}(d: ∀n∈l0,S.sp n≠none):Lz E (.func (.func E.GG) #[] #[.pointer (some (Addr.mk b1 0 none))]) s (Bh E h S::Cells b1 t [.pointer (some ⟨h,0,none⟩)]::Z) l0:=by
 intro x y w R J K ⟨l,hp,H⟩ hR;refine hE.lS x y _ R w ?_;obtain⟨X,v⟩:=Option.ne_none_iff_exists'.1 (d x J);obtain⟨Y,C⟩:=Option.ne_none_iff_exists'.1 (d y K);refine X8 hE (h:=h) (t:=t) (Z:=Row E.CO 1 s (ints .i64 l)::Z) (H.perm ?_) v C λr w' _ j=>hR r w' ⟨l,hp,j.perm ?_⟩
 .exact(List.perm_middle (l₁:=[Bh E h S,Cells b1 t [.pointer (some ⟨h,0,none⟩)]])).symm
 .exact List.perm_middle (l₁:=[Bh E h S,Cells b1 t [.pointer (some ⟨h,0,none⟩)]])
theorem YA(H:Sat (Bh E h S::Z) w)(hb: ∀l:List Int,l.Nodup->(∀n∈l,S.sp n≠none)->l.length<1099511627776){K:AX->World->Prop}
  (hK: ∀s l w',l.Nodup->(∀n,n∈l↔S.sp n≠none)->Sat (Row E.CO 1 s (ints .i64 l)::Bh E h S::Z) w'->K s w'):F.EF E (some ⟨h,0,none⟩) K w:=by
 have aE: ∀n,Du S.sp n≠none↔S.sp n≠none:=λn=>by unfold Du;cases S.sp n<;>simp
 unfold F.EF T0.EF;refine AO (vs:=[.pointer (some ⟨h,0,none⟩)]) H λb1 w2 H2 _=>⟨_,H2.Af rfl,?_⟩
 try simp only[AG]
 obtain⟨g,hI,H3⟩:=Sat.heap.1 (H2.front 1 rfl);refine⟨_,(Cr (S:=S) (g:=g) H3).2.2.2.2.1,sS (H3.front 5 rfl) λb7 N0 w8 H8=> ?_⟩;have aG:=H8.nil E.CO 1;refine AI (λst w'=> ∃cur done N,Sat (UT b7 g.sm .i64 (Du S.sp) cur done N::Row E.CO 1 st.1 (ints .i64 done)::(Ct E h S g++Cells b1 E.BM [.pointer (some ⟨h,0,none⟩)]::Z).eraseIdx 5) w') (λ_ w'=>jX b7 g.sm w') ⟨none,[],N0,aG.front 1 rfl⟩ ?_;rintro⟨s,u⟩ _ aZ ⟨cur,done,N,O⟩;dsimp only at O⊢;rw[O.cG];refine AU (jY O (λaL T aQ j=>AU (AP rfl ?_)) λn v a0 N' aX Y hN y j=>AU (AR rfl λj2=>oE y λv' S' aY=> ?_))
 .obtain⟨Y,aH⟩:=T.cH;have aA:=Sat.S5 (Ps:=Ct E h S g++Cells b1 E.BM [.pointer (some ⟨h,0,none⟩)]::Z) 5 ((T.sR).front 1 rfl) (by simp[Ct]);have aB:Sat (Ct E h S g++(Row E.CO 1 s (ints .i64 done)::Cells b1 E.BM [.pointer (some ⟨h,0,none⟩)]::Z)) aL:=Sat.perm aA (List.perm_middle (l₁:=Ct E h S g)).symm;have aC:=(Sat.heap.2 ⟨g,hI,aB⟩).front 1 rfl;have d: ∀n∈done,S.sp n≠none:=λn hn=>(aE n).1 (aH n hn);have hlen:=hb done Y d;have aK:s.len<1099511627776:=by
   have:=(T.front 1 rfl).C1;simp only[ints,List.length_map]at this;omega
  have hC:=X9 (h:=h) (S:=S) hE (b1:=b1) (t:=E.BM) (s:=s) (l0:=done) (Z:=Z) d;refine Ua hC (λP=>(X9 (h:=h) (S:=S) hE (b1:=b1) (t:=E.BM) (s:=s) (l0:=done) (Z:=P::Z) d).perm ?_) aK ⟨done,.refl _,aC⟩ λaM ⟨l,hp,H22⟩=> ?_
  .exact List.perm_middle (l₁:=[Bh E h S,Cells b1 E.BM [.pointer (some ⟨h,0,none⟩)]])
  .refine hK s l aM (hp.nodup_iff.2 Y) (λn=> ?_) (H22.front 2 rfl).tail
   grind
 .refine lT ?_;have J:=y.cH;have hlen:=hb _ J.1 λn hn=>(aE n).1 (J.2 n hn);have aJ:=(y.front 1 rfl).C1;simp only[ints,List.length_map]at aJ;simp only[List.length_append,List.length_singleton]at hlen;refine AO (vs:=[.int .i64 n]) y λaU a1 aF _=>Er (zs:= #[.int .i64 0]) (bytes:=8) ((aF.front 2 rfl).front 1 rfl) rfl rfl (by simp[Value.oneCell']) (by omega) (by omega) λIQ a2 aD _=> ?_;rw[show ints .i64 done++[.int .i64 n]=ints .i64 (done++[n]) by simp[ints]]at aD;have C:=aD.front 1 rfl;refine⟨⟨_,_,_,C⟩,?_⟩;rw[C.cG];exact hN
end
end Go.Sh

/- The heap tells its spans in a row: a range over a map, and the sort of the row. No further condition. -/
import Derived.Test.YtgeilojialbgdaaGreatDoorA
import Derived.Test.YtgeilojialbgdaaGreatDoorF
import Derived.Test.YtgeilojialbgdaaGreatDoorH
set_option linter.all false
set_option maxRecDepth 50000
set_option maxHeartbeats 4000000
namespace Go.Sh
def SP(E:Env)(s:AY)(Z:List Pr)(l0:List Int)(w:World):Prop:= ∃l:List Int,l.Perm l0/\Sat (Row E.Ar 1 s (ints .i64 l)::Z) w
def Mz(E:Env)(cmp:Value)(s:AY)(Z:List Pr)(l0:List Int):Prop:= ∀x y w (R:Value->World->Prop),x∈l0->y∈l0->SP E s Z l0 w->(∀r w',SP E s Z l0 w'->R (.int .i64 r) w')->DYN E.call cmp #[.int .i64 x,.int .i64 y] w R
section
variable{E:Env}{cmp:Value}{s:AY}{Z:List Pr}{l0:List Int}{w:World}
def SP.drew(h:SP E s Z l0 w):SP E s Z l0 w.drew:=let⟨l,h1,h2⟩:=h;⟨l,h1,h2.drew⟩
def SP.at(h:SP E s Z l0 w){i:Int}(h0:0<=i)(h1:i<s.len): ∃p x,s.base=some p/\w.cell? (p.add (Int.toNat i*1))=some (.int .i64 x)/\x∈l0:=by
 obtain⟨l,v,a⟩:=h;have u:=a.CK;rw[ints,List.length_map,Nat.mul_one]at u;have hi:i.toNat<l.length:=by omega
 obtain⟨b,e⟩:=a.own.G7 (by omega);refine⟨_,l[i.toNat],e,?_,v.mem_iff.1 (List.getElem_mem hi)⟩;have j:(ints IntKind.i64 l)[i.toNat]? =some (.int .i64 l[i.toNat]):=OJ (List.getElem?_eq_getElem hi);rw[Nat.mul_one];exact a.own.cell e j
def IY(hC:Mz E cmp s Z l0)(hS:SP E s Z l0 w){i j:Int}(i0:0<=i)(i1:i<s.len)(j0:0<=j)(j1:j<s.len){R:Int->World->Prop}(J: ∀z w',SP E s Z l0 w'->R z w'):
  NC s.base λp=>((0:Int)<=i/\(i:Int)<(s.len:Nat))/\ ∃x:Int,w.drew.cell? (p.add (Int.toNat i*1))=some (.int .i64 x)/\
  NC s.base λq=>((0:Int)<=j/\(j:Int)<(s.len:Nat))/\ ∃y:Int,w.drew.cell? (q.add (Int.toNat j*1))=some (.int .i64 y)/\
  DYN E.call cmp #[.int .i64 x,.int .i64 y] w.drew λr w'=> ∃z:Int,r= .int .i64 z/\R z w':=by
 obtain⟨p,x,v,K,e⟩:=hS.drew.at i0 i1;obtain⟨q,y,a,O,u⟩:=hS.drew.at j0 j1;rw[v]at a;cases a;rw[v];simp only[AK];exact⟨⟨i0,i1⟩,x,K,⟨j0,j1⟩,y,O,hC x y _ _ e u hS.drew λr w' h=>⟨r,rfl,J r w' h⟩⟩
def Fz(hS:SP E s Z l0 w){i j:Int}(i0:0<=i)(i1:i<s.len)(j0:0<=j)(j1:j<s.len){R:World->Prop}(T: ∀w',SP E s Z l0 w'->R w'):
  NC s.base λp=>((0:Int)<=i/\(i:Int)<(s.len:Nat))/\ ∃x:Int,w.drew.cell? (p.add (Int.toNat i*1))=some (.int .i64 x)/\
  NC s.base λq=>((0:Int)<=j/\(j:Int)<(s.len:Nat))/\ ∃y:Int,w.drew.cell? (q.add (Int.toNat j*1))=some (.int .i64 y)/\
  NC s.base λp'=>((0:Int)<=j/\(j:Int)<(s.len:Nat))/\stCells (p'.add (Int.toNat j*1)) 0 [.int .i64 x] w.drew λw1=>
  NC s.base λq'=>((0:Int)<=i/\(i:Int)<(s.len:Nat))/\stCells (q'.add (Int.toNat i*1)) 0 [.int .i64 y] w1 λv=>R v:=by
 obtain⟨l,hp,u⟩:=hS.drew;have Y:=u.CK;rw[ints,List.length_map,Nat.mul_one]at Y;have hi:i.toNat<l.length:=by omega
 have J:j.toNat<l.length:=by omega
 obtain⟨b,a⟩:=u.own.G7 (by omega);have K:(ints IntKind.i64 l)[i.toNat]? =some (.int .i64 l[i.toNat]):=OJ (List.getElem?_eq_getElem hi);have O:(ints IntKind.i64 l)[j.toNat]? =some (.int .i64 l[j.toNat]):=OJ (List.getElem?_eq_getElem J);rw[a];simp only[AK,Nat.mul_one];refine⟨⟨i0,i1⟩,_,u.own.cell a K,⟨j0,j1⟩,_,u.own.cell a O,⟨j0,j1⟩,?_⟩;refine Ko u (j:=j.toNat) rfl (by grind) a λw1 H1=>⟨⟨i0,i1⟩,?_⟩;refine Ko H1 (j:=i.toNat) rfl (by grind) a λv H2=> ?_;refine T v ⟨(l.set j.toNat l[i.toNat]).set i.toNat l[j.toNat],(List.set_set_perm J hi).trans hp,?_⟩;have e:ints IntKind.i64 ((l.set j.toNat l[i.toNat]).set i.toNat l[j.toNat])=((ints .i64 l).set j.toNat (.int .i64 l[i.toNat])).set i.toNat (.int .i64 l[j.toNat]):=by
  unfold ints;rw[List.map_set,List.map_set]
 grind
variable(hC:Mz E cmp s Z l0)(hsm:s.len<1099511627776)
include hC hsm
theorem VM(hS:SP E s Z l0 w){a b:Int}(a0:0<=a)(ab:a<=b)(b1:b<=s.len){K:World->Prop}(hK: ∀w',SP E s Z l0 w'->K w'):F.BL E s a b cmp K w:=by
 unfold F.BL;by_cases hab:a+1<=b
 .rw[AI (n:=a+1)];refine AM (λst w'=>a+1<=st.1/\st.1<=b/\SP E s Z l0 w') (λst _=>(b-st.1).toNat) ⟨Int.le_refl _,hab,hS⟩ ?_;rintro⟨i,u⟩ _ w2 ⟨h1,h2,v⟩;dsimp only at h1 h2⊢;refine AE (λT=> ?_) λ_=>hK w2 v;have Y: ∀w',SP E s Z l0 w'->(a+1<=i64 (i+1)/\i64 (i+1)<=b/\SP E s Z l0 w')/\(b-i64 (i+1)).toNat<(b-i).toNat:=λw' h=>by
   rw[AI (n:=i+1)]
   grind
  refine AM (λst w'=>a<=st.1/\st.1<=i/\SP E s Z l0 w') (λst _=>(st.1-a).toNat) ⟨by show a<=i;omega,Int.le_refl _,v⟩ ?_;rintro⟨j,u⟩ _ w5 ⟨h3,h4,O⟩;dsimp only at h3 h4⊢;refine AE (λaF=> ?_) λ_=>Y _ O.drew;rw[AI (n:=j-1)];refine IY hC O (by omega) (by omega) (by omega) (by omega) λz aG e=>AE (λ_=> ?_) λ_=>Y _ e;exact Fz e (by omega) (by omega) (by omega) (by omega) λaH J=>⟨⟨by show a<=j-1;omega,by show j-1<=i;omega,J⟩,by omega⟩
 .refine AM (λst w'=>b<=st.1/\w'=w) (λ_ _=>0) ⟨?_,rfl⟩ ?_
  .rw[AI (n:=a+1)];omega
  .rintro⟨i,u⟩ _ w2 ⟨h1,rfl⟩;exact AE (λT=>by dsimp only at h1 T;omega) λ_=>hK _ hS
theorem Pg(hS:SP E s Z l0 w){lo hi first:Int}(h0:0<=lo)(f0:0<=first)(hh:0<=hi)(h1:first+hi<=s.len){K:World->Prop}(hK: ∀w',SP E s Z l0 w'->K w')(Y:lo<1099511627776):F.D9 E s lo hi first cmp K w:=by
 unfold F.D9;refine AM (λst w'=>0<=st.1/\st.1<1099511627776/\SP E s Z l0 w') (λst _=>(1099511627776-st.1).toNat) ⟨h0,Y,hS⟩ ?_;rintro⟨root,u⟩ _ w2 ⟨r0,r1,v⟩;dsimp only at r0 r1⊢;refine AZ λchild T=> ?_;rw[AI (n:=2*root),AI (n:=2*root+1)]at T;refine AE (λ_=>hK w2 v) λaD=> ?_;refine AV (λst w'=>root<st.1/\st.1<hi/\SP E s Z l0 w') ?_ ?_
 .refine Ad ?_;rw[AI (n:=child+1)];refine AE (λaC=> ?_) λ_ j=>AR rfl ⟨by omega,by omega,v.drew⟩;rw[AI (n:=first+child),AI (n:=first+child+1)];exact IY hC v (by omega) (by omega) (by omega) (by omega) λz aE a j=>AE (λ_=>⟨by show root<child+1;omega,by show child+1<hi;omega,a⟩) λ_=>⟨by omega,by omega,a⟩
 .rintro⟨c,u⟩ _ w7 ⟨c0,c1,O⟩;dsimp only at c0 c1⊢;rw[AI (n:=first+root),AI (n:=first+c)];refine IY hC O (by omega) (by omega) (by omega) (by omega) λz aA e=>Ky (AE (λ_=> ?_) λ_=>hK aA e);exact Fz e (by omega) (by omega) (by omega) (by omega) λaG J=>⟨⟨by show 0<=c;omega,by show c<_;omega,J⟩,by omega⟩
theorem WH(hS:SP E s Z l0 w){a b:Int}(a0:0<=a)(ab:a<b)(b1:b<=s.len){K:World->Prop}(Y: ∀w',SP E s Z l0 w'->K w'):F.Ao E s a b cmp K w:=by
 unfold F.Ao T0.Ao;rw[AI (n:=b-a),AI (n:=b-a-1),Int.tdiv_eq_ediv_of_nonneg (by omega),AI (n:=(b-a-1)/2)];refine⟨by decide,AZ λi hi=> ?_⟩;refine AM (λst w'=> -1<=st.1/\st.1<b-a/\SP E s Z l0 w') (λst _=>(st.1+1).toNat) ⟨by omega,by omega,hS⟩ ?_;rintro⟨k,u⟩ _ w3 ⟨k0,k1,v⟩;dsimp only at k0 k1⊢;refine AE (λe=> ?_) λO=> ?_
 .refine Pg hC hsm v e a0 (by omega) (by omega) (λw5 aA=> ?_) (by omega);rw[AI (n:=k-1)]
  grind
 .refine AZ λi2 aB=> ?_;refine AM (λst w'=> -1<=st.1/\st.1<b-a/\SP E s Z l0 w') (λst _=>(st.1+1).toNat) ⟨by omega,by omega,v⟩ ?_;rintro⟨k,u⟩ _ w8 ⟨k0,k1,J⟩;dsimp only at k0 k1⊢;refine AE (λe=> ?_) λO=>Y w8 J;rw[AI (n:=a+k)];refine Fz J (by omega) (by omega) a0 (by omega) λaC j=> ?_;refine Pg hC hsm j (Int.le_refl 0) a0 e (by omega) (λaD T=> ?_) (by decide);rw[AI (n:=k-1)]
  grind
theorem YF(hS:SP E s Z l0 w){a b:Int}(a0:0<=a)(ab:a<b)(b1:b<=s.len){K:World->Prop}(J: ∀w',SP E s Z l0 w'->K w'):F.BS E s a b cmp K w:=by
 unfold F.BS;rw[AI (n:=b-1)];refine AM (λst w'=>0<=st.1/\st.2.1<b/\0<=st.2.1+1/\st.1<=b/\SP E s Z l0 w') (λst _=>(st.2.1-st.1).toNat) ⟨a0,by show b-1<b;omega,by grind,by show a<=b;omega,hS⟩ ?_;rintro⟨i,j,u⟩ _ Y ⟨i0,j1,j0,i1,v⟩;dsimp only at i0 j1 j0 i1⊢;refine AE (λO=> ?_) λ_=>J Y v;rw[AI (n:=i+1),AI (n:=j-1)];exact Fz v (by omega) (by omega) (by omega) (by omega) λT e=>⟨⟨by omega,by show j-1<b;omega,by omega,by show i+1<=b;omega,e⟩,by omega⟩
theorem Ns(hS:SP E s Z l0 w){a b:Int}(a0:0<=a)(ab:a<b)(b1:b<=s.len){K:Bool->World->Prop}(hK: ∀r w',SP E s Z l0 w'->K r w'):F.Aw E s a b cmp K w:=by
 unfold F.Aw;rw[AI (n:=a+1)];refine AM (λst w'=>a+1<=st.1/\st.1<=b/\0<=st.2.1/\st.2.1<=5/\SP E s Z l0 w') (λst _=>(5-st.2.1).toNat) ⟨Int.le_refl _,by show a+1<=b;omega,Int.le_refl 0,by grind,hS⟩ ?_;rintro⟨i,n,u⟩ _ w2 ⟨i0,i1,n0,n1,aD⟩;dsimp only at i0 i1 n0 n1⊢;refine AE (λhn=> ?_) λ_=>hK false w2 aD;refine AV (λst w'=>i<=st.1/\st.1<=b/\SP E s Z l0 w') ?_ ?_
 .refine AM (λst w'=>i<=st.1/\st.1<=b/\SP E s Z l0 w') (λst _=>(b-st.1).toNat) ⟨Int.le_refl _,i1,aD⟩ ?_;rintro⟨k,u⟩ _ w8 ⟨k0,k1,aG⟩;dsimp only at k0 k1⊢;refine AE (λaI=> ?_) λ_=>⟨k0,k1,aG.drew⟩;rw[AI (n:=k-1),AI (n:=k+1)];exact IY hC aG (by omega) (by omega) (by omega) (by omega) λz aN e=>Ky (AE (λ_=>⟨k0,k1,e⟩) λ_=>⟨⟨by show i<=k+1;omega,by show k+1<=b;omega,e⟩,by omega⟩)
 rintro⟨k,u⟩ _ w6 ⟨k0,k1,aB⟩;dsimp only at k0 k1⊢;refine C6 (λ_=>hK true w6 aB) λaM=> ?_;rw[AI (n:=b-a)];refine AE (λ_=>hK false w6 aB) λ_=> ?_;rw[AI (n:=k-1),AI (n:=k-a),AI (n:=b-k),AI (n:=k+1),AI (n:=n+1)];have aC: ∀w',SP E s Z l0 w'->(a+1<=k/\k<=b/\0<=n+1/\n+1<=5/\SP E s Z l0 w')/\(5-(n+1)).toNat<(5-n).toNat:=λw' h=>⟨⟨by omega,by omega,by omega,by omega,h⟩,by omega⟩;refine Fz aB (by omega) (by omega) (by omega) (by omega) λaP v=> ?_;refine AV (λ_ w'=>SP E s Z l0 w') ?_ ?_
 .refine AE (λ_=> ?_) λ_=>v;refine AM (λst w'=>0<=st.1/\st.1<b/\SP E s Z l0 w') (λst _=>st.1.toNat) ⟨by omega,by show k-1<b;omega,v⟩ ?_;rintro⟨j,u⟩ _ aQ ⟨j0,j1,O⟩;dsimp only at j0 j1⊢;refine AE (λaL=> ?_) λ_=>O;rw[AI (n:=j-1)];refine IY hC O (by omega) (by omega) (by omega) (by omega) λz aR T=>Ky (AE (λ_=> ?_) λ_=>T);exact Fz T (by omega) (by omega) (by omega) (by omega) λaS aE=>⟨⟨by omega,by show j-1<b;omega,aE⟩,by omega⟩
 .intro _ _ aJ J;refine AE (λ_=> ?_) λ_=>aC aJ J;refine AM (λst w'=>k+1<=st.1/\st.1<=b/\SP E s Z l0 w') (λst _=>(b-st.1).toNat) ⟨Int.le_refl _,by show k+1<=b;omega,J⟩ ?_;rintro⟨j,u⟩ _ aT ⟨j0,j1,Y⟩;dsimp only at j0 j1⊢;refine AE (λaI=> ?_) λ_=>aC _ Y;rw[AI (n:=j-1),AI (n:=j+1)];refine IY hC Y (by omega) (by omega) (by omega) (by omega) λz aU aA=>Ky (AE (λ_=> ?_) λ_=>aC _ aA);exact Fz aA (by omega) (by omega) (by omega) (by omega) λaV aF=>⟨⟨by omega,by show j+1<=b;omega,aF⟩,by omega⟩
theorem PY(hS:SP E s Z l0 w){a b p:Int}(a0:0<=a)(ab:a<b)(b1:b<=s.len)(p0:a<=p)(p1:p<b){K:Int->World->Prop}(hK: ∀r w',a<r->r<=b->SP E s Z l0 w'->K r w'):F.BH E s a b p cmp K w:=by
 unfold F.BH;refine Fz hS (by omega) (by omega) (by omega) (by omega) λw8 aE=> ?_;rw[AI (n:=a+1),AI (n:=b-1)];refine AM (λst w'=>a+1<=st.1/\st.1<=b/\a<=st.2.1/\st.2.1<b/\SP E s Z l0 w') (λst _=>(st.2.1+1-st.1).toNat) ⟨Int.le_refl _,by show a+1<=b;omega,by show a<=b-1;omega,by show b-1<b;omega,aE⟩ ?_;rintro⟨i,j,u⟩ _ aH ⟨i0,i1,j0,j1,Y⟩;dsimp only at i0 i1 j0 j1⊢;refine AV (λst w'=>i<=st.1/\st.1<=max i (j+1)/\SP E s Z l0 w') ?_ ?_
 .refine AM (λst w'=>i<=st.1/\st.1<=max i (j+1)/\st.2.1=j/\SP E s Z l0 w') (λst _=>(b-st.1).toNat) ⟨Int.le_refl _,by omega,rfl,Y⟩ ?_;rintro⟨k,jj,u⟩ _ aJ ⟨k0,k1,aC,e⟩;dsimp only at k0 k1 aC⊢;have aD:=aC.symm;subst aD;refine AE (λhle=> ?_) λ_=>⟨k0,k1,e.drew⟩;rw[AI (n:=k+1)];exact IY hC e (by omega) (by omega) (by omega) (by omega) λz aK v=>Ky (AE (λ_=>⟨k0,k1,v⟩) λ_=>⟨⟨by show i<=k+1;omega,by omega,rfl,v⟩,by omega⟩)
 rintro⟨i2,u⟩ _ aI ⟨k0,k1,aA⟩;dsimp only at k0 k1⊢;refine AV (λst w'=>st.1<=j/\min j (i2-1)<=st.1/\SP E s Z l0 w') ?_ ?_
 .refine AM (λst w'=>st.1<=j/\min j (i2-1)<=st.1/\SP E s Z l0 w') (λst _=>(st.1+1).toNat) ⟨Int.le_refl _,by omega,aA⟩ ?_;rintro⟨k,u⟩ _ aL ⟨m0,m1,O⟩;dsimp only at m0 m1⊢;refine AE (λhle=> ?_) λ_=>⟨m0,m1,O.drew⟩;rw[AI (n:=k-1)];exact IY hC O (by omega) (by omega) (by omega) (by omega) λz aM T=>AE (λ_=>⟨⟨by show k-1<=j;omega,by omega,T⟩,by omega⟩) λ_=>⟨m0,m1,T⟩
 rintro⟨j2,u⟩ _ aF ⟨m0,m1,J⟩;dsimp only at m0 m1⊢;refine AE (λ_=>hK i2 aF (by omega) (by omega) J) λhle=> ?_;rw[AI (n:=i2+1),AI (n:=j2-1)];exact Fz J (by omega) (by omega) (by omega) (by omega) λaN aB=>⟨⟨by omega,by show i2+1<=b;omega,by show a<=j2-1;omega,by show j2-1<b;omega,aB⟩,by omega⟩
theorem VN(hS:SP E s Z l0 w){a b p:Int}(a0:0<=a)(ab:a<b)(b1:b<=s.len)(p0:a<=p)(p1:p<b){K:Int->Bool->World->Prop}(hK: ∀r t w',a<=r->r<b->SP E s Z l0 w'->K r t w'):F.Bi E s a b p cmp K w:=by
 unfold F.Bi;refine Fz hS (by omega) (by omega) (by omega) (by omega) λw8 a6=> ?_;rw[AI (n:=a+1),AI (n:=b-1)];have left: ∀(i j:Int) (Y:World) (J:Int×Unit->World->Prop),a+1<=i->i<=b->a<=j->j<b->SP E s Z l0 Y->(∀k w',i<=k->k<=max i (j+1)->SP E s Z l0 w'->J (k,()) w')->
   BK (Int×Unit) (i,()) Y λFj _ v e=>
   CND (decide ((Fj.1:Int)<=j)) (
    NC s.base λaN=>
    ((0:Int)<=Fj.1/\(Fj.1:Int)<(s.len:Nat))/\
    ∃aC:Int,v.drew.cell? (aN.add (Int.toNat Fj.1*1))=some (.int .i64 aC)/\
    NC s.base λaO=>
    ((0:Int)<=a/\(a:Int)<(s.len:Nat))/\
    ∃aD:Int,v.drew.cell? (aO.add (Int.toNat a*1))=some (.int .i64 aD)/\
    DYN E.call cmp #[.int .i64 aC,.int .i64 aD] v.drew λaP aB=>
    ∃aE:Int,aP= .int .i64 aE/\
    CND (decide ((aE:Int)<0)) (
     e (i64 (Fj.1+1),()) aB
    ) (
     J (Fj.1,()) aB
    )
   ) (
    J (Fj.1,()) v.drew
   ):=by
  intro i j Y J i0 i1 j0 j1 aA hJ;refine AM (λst w'=>i<=st.1/\st.1<=max i (j+1)/\SP E s Z l0 w') (λst _=>(b-st.1).toNat) ⟨Int.le_refl _,by omega,aA⟩ ?_;rintro⟨k,u⟩ _ bB ⟨k0,k1,O⟩;dsimp only at k0 k1⊢;refine AE (λhle=> ?_) λ_=>hJ k _ k0 k1 O.drew;rw[AI (n:=k+1)];exact IY hC O (by omega) (by omega) (by omega) (by omega) λz bC T=>AE (λ_=>⟨⟨by show i<=k+1;omega,by omega,T⟩,by omega⟩) λ_=>hJ k _ k0 k1 T
 have aM: ∀(i j:Int) (Y:World) (J:Int×Unit->World->Prop),a+1<=i->i<=b->a<=j->j<b->SP E s Z l0 Y->(∀k w',i<=k->k<=max i (j+1)->SP E s Z l0 w'->J (k,()) w')->
   BK (Int×Int×Unit) (i,j,()) Y λFj _ v e=>
   CND (decide ((Fj.1:Int)<=Fj.2.1)) (
    NC s.base λaN=>
    ((0:Int)<=Fj.1/\(Fj.1:Int)<(s.len:Nat))/\
    ∃aC:Int,v.drew.cell? (aN.add (Int.toNat Fj.1*1))=some (.int .i64 aC)/\
    NC s.base λaO=>
    ((0:Int)<=a/\(a:Int)<(s.len:Nat))/\
    ∃aD:Int,v.drew.cell? (aO.add (Int.toNat a*1))=some (.int .i64 aD)/\
    DYN E.call cmp #[.int .i64 aC,.int .i64 aD] v.drew λaP aB=>
    ∃aE:Int,aP= .int .i64 aE/\
    CND (decide ((aE:Int)<0)) (
     e (i64 (Fj.1+1),Fj.2.1,()) aB
    ) (
     J (Fj.1,()) aB
    )
   ) (
    J (Fj.1,()) v.drew
   ):=by
  intro i j Y J i0 i1 j0 j1 aA hJ;refine AM (λst w'=>i<=st.1/\st.1<=max i (j+1)/\st.2.1=j/\SP E s Z l0 w') (λst _=>(b-st.1).toNat) ⟨Int.le_refl _,by omega,rfl,aA⟩ ?_;rintro⟨k,jj,u⟩ _ bB ⟨k0,k1,aZ,O⟩;dsimp only at k0 k1 aZ⊢;have a1:=aZ.symm;subst a1;refine AE (λhle=> ?_) λ_=>hJ k _ k0 k1 O.drew;rw[AI (n:=k+1)];exact IY hC O (by omega) (by omega) (by omega) (by omega) λz bC T=>AE (λ_=>⟨⟨by show i<=k+1;omega,by omega,rfl,T⟩,by omega⟩) λ_=>hJ k _ k0 k1 T
 have right: ∀(i2 j:Int) (aQ:World) (J:Int×Unit->World->Prop),a+1<=i2->a<=j->j<b->SP E s Z l0 aQ->(∀k w',k<=j->min j (i2-1)<=k->SP E s Z l0 w'->J (k,()) w')->
   BK (Int×Unit) (j,()) aQ λYw _ aG aF=>
    CND (decide ((i2:Int)<=Yw.1)) (
     NC s.base λa7=>
     ((0:Int)<=Yw.1/\(Yw.1:Int)<(s.len:Nat))/\
     ∃a3:Int,aG.drew.cell? (a7.add (Int.toNat Yw.1*1))=some (.int .i64 a3)/\
     NC s.base λa8=>
     ((0:Int)<=a/\(a:Int)<(s.len:Nat))/\
     ∃a4:Int,aG.drew.cell? (a8.add (Int.toNat a*1))=some (.int .i64 a4)/\
     DYN E.call cmp #[.int .i64 a3,.int .i64 a4] aG.drew λa9 a2=>
     ∃a5:Int,a9= .int .i64 a5/\
     CND (!(decide ((a5:Int)<0))) (
      aF (i64 (Yw.1-1),()) a2
     ) (
      J (Yw.1,()) a2
     )
    ) (
     J (Yw.1,()) aG.drew
    ):=by
  intro i2 j aQ J i0 j0 j1 aS hJ;refine AM (λst w'=>st.1<=j/\min j (i2-1)<=st.1/\SP E s Z l0 w') (λst _=>(st.1+1).toNat) ⟨Int.le_refl _,by omega,aS⟩ ?_;rintro⟨k,u⟩ _ bJ ⟨m0,m1,aJ⟩;dsimp only at m0 m1⊢;refine AE (λhle=> ?_) λ_=>hJ k _ m0 m1 aJ.drew;rw[AI (n:=k-1)];exact IY hC aJ (by omega) (by omega) (by omega) (by omega) λz bK aK=>Ky (AE (λ_=>hJ k _ m0 m1 aK) λ_=>⟨⟨by show k-1<=j;omega,by omega,aK⟩,by omega⟩)
 refine AV (λst w'=>a+1<=st.1/\st.1<=b/\SP E s Z l0 w') (left (a+1) (b-1) w8 (λst w'=>a+1<=st.1/\st.1<=b/\SP E s Z l0 w') (Int.le_refl _) (by omega) (by omega) (by omega) a6 λk w' k0 k1 h=>⟨k0,by show k<=b;omega,h⟩) ?_;rintro⟨i,u⟩ _ bA ⟨i0,i1,aR⟩;dsimp only at i0 i1⊢;refine AV (λst w'=>a<=st.1/\st.1<b/\SP E s Z l0 w') (right i (b-1) bA (λst w'=>a<=st.1/\st.1<b/\SP E s Z l0 w') i0 (by omega) (by omega) aR λk w' k0 k1 h=>⟨by show a<=k;omega,by show k<b;omega,h⟩) ?_;rintro⟨j,u⟩ _ bI ⟨j0,j1,aI⟩;dsimp only at j0 j1⊢;refine AE (λ_=> ?_) λhle=> ?_
 .exact Fz aI (by omega) (by omega) (by omega) (by omega) λbD aT=>hK j true bD j0 j1 aT
 refine Fz aI (by omega) (by omega) (by omega) (by omega) λbL aU=> ?_;rw[AI (n:=i+1),AI (n:=j-1)];refine AM (λst w'=>a+1<=st.1/\st.1<=b/\a<=st.2.1/\st.2.1<b/\SP E s Z l0 w') (λst _=>(st.2.1+1-st.1).toNat) ⟨by omega,by show i+1<=b;omega,by show a<=j-1;omega,by show j-1<b;omega,aU⟩ ?_;rintro⟨i,j,u⟩ _ bE ⟨i0,i1,j0,j1,aV⟩;dsimp only at i0 i1 j0 j1⊢;refine AV (λst w'=>i<=st.1/\st.1<=max i (j+1)/\SP E s Z l0 w') (aM i j bE (λst w'=>i<=st.1/\st.1<=max i (j+1)/\SP E s Z l0 w') i0 i1 j0 j1 aV λk w' k0 k1 h=>⟨k0,k1,h⟩) ?_;rintro⟨i2,u⟩ _ bF ⟨k0,k1,aW⟩;dsimp only at k0 k1⊢;refine AV (λst w'=>st.1<=j/\min j (i2-1)<=st.1/\SP E s Z l0 w') (right i2 j bF (λst w'=>st.1<=j/\min j (i2-1)<=st.1/\SP E s Z l0 w') (by omega) j0 j1 aW λk w' k0 k1 h=>⟨k0,k1,h⟩) ?_;rintro⟨j2,u⟩ _ bM ⟨m0,m1,aL⟩;dsimp only at m0 m1⊢;refine AE (λ_=> ?_) λhle=> ?_
 .exact Fz aL (by omega) (by omega) (by omega) (by omega) λbG aX=>hK j2 false bG (by omega) (by omega) aX
 .rw[AI (n:=i2+1),AI (n:=j2-1)];exact Fz aL (by omega) (by omega) (by omega) (by omega) λbO aY=>⟨⟨by omega,by show i2+1<=b;omega,by show a<=j2-1;omega,by show j2-1<b;omega,aY⟩,by omega⟩
end
def len8:ByteArray:=⟨#[0,1,2,2,3,3,3,3,4,4,4,4,4,4,4,4,5,5,5,5,5,5,5,5,5,5,5,5,5,5,5,5,6,6,6,6,6,6,6,6,6,6,6,6,6,6,6,6,6,6,6,6,6,6,6,6,6,6,6,6,6,6,6,6,7,7,7,7,7,7,7,7,7,7,7,7,7,7,7,7,7,7,7,7,7,7,7,7,7,7,7,7,7,7,7,7,7,7,7,7,7,7,7,7,7,7,7,7,7,7,7,7,7,7,7,7,7,7,7,7,7,7,7,7,7,7,7,7,8,8,8,8,8,8,8,8,8,8,8,8,8,8,8,8,8,8,8,8,8,8,8,8,8,8,8,8,8,8,8,8,8,8,8,8,8,8,8,8,8,8,8,8,8,8,8,8,8,8,8,8,8,8,8,8,8,8,8,8,8,8,8,8,8,8,8,8,8,8,8,8,8,8,8,8,8,8,8,8,8,8,8,8,8,8,8,8,8,8,8,8,8,8,8,8,8,8,8,8,8,8,8,8,8,8,8,8,8,8,8,8,8,8,8,8,8,8,8,8,8,8,8,8,8,8,8,8]⟩
def len8_all:((List.range 256).all λi=>match len8[i]? with|some b=>decide (i<2^b.toNat)&&(decide (i=0)&&decide (b.toNat=0)||decide (2^(b.toNat-1)<=i)&&decide (1<=b.toNat))&&decide (b.toNat<=8)|none=>false)=true:=by decide+kernel
def yV{n:Int}(h0:0<=n)(h1:n<256){K:Int->Prop}(u: ∀b:Nat,b<=8->n<2^b->(n=0->b=0)->(0<n->1<=b/\2^(b-1)<=n)->K (b:Int)):oS len8 n K:=by
 obtain⟨k,rfl⟩:=Int.eq_ofNat_of_zero_le h0;have h:=List.all_eq_true.1 len8_all k (List.mem_range.2 (by omega));refine⟨h0,?_⟩;rw[Int.toNat_natCast];split at h
 .rename_i b hb;simp only[Bool.and_eq_true,Bool.or_eq_true,decide_eq_true_eq]at h;obtain⟨⟨v,a⟩,j⟩:=h;refine⟨b,hb,u b.toNat j (by grind) (λe=> ?_) λe=> ?_⟩
  .grind
  .rcases a with a|a
   .omega
   grind
 .cases h
section
variable{E:Env}{w:World}
structure LenOf(x r:Int):Prop where
 r0:0<=r
 r1:r<=64
 up:x<2^r.toNat
 lo:0<x->1<=r/\2^(r.toNat-1)<=x
def fW{X:Int}(h0:0<=X)(h1:X<18446744073709551616){K:Int->World->Prop}(hK: ∀r,LenOf X r->K r w):F.I6 E X K w:=by
 unfold F.I6;have T:(2:Int)^(min (Int.toNat 32) (IntKind.bits .u64))=4294967296:=by decide
 have O:(2:Int)^(min (Int.toNat 16) (IntKind.bits .u64))=65536:=by decide
 have e8:(2:Int)^(min (Int.toNat 8) (IntKind.bits .u64))=256:=by decide
 rw[T,O,e8];refine AV (λst w'=>w'=w/\ ∃n:Nat,st.2.1=(n:Int)/\n<=32/\st.1=X/2^n/\(n=0∨0<st.1)/\st.1<4294967296) ?_ ?_
 .refine AE (λh=>⟨by decide,AZ λx a=> ?_⟩) λh=>⟨rfl,0,rfl,by decide,by simp,.inl rfl,by omega⟩;rw[Int.fdiv_eq_ediv_of_nonneg _ (by decide)]at a;exact⟨rfl,32,rfl,by decide,a,.inr (by omega),by omega⟩
 rintro⟨x,n',u⟩ _ w3 ⟨rfl,n,v,e,a,hz,j⟩;dsimp only at v a hz j⊢;subst v;have x0:0<=x:=by rw[a];grind
 refine AV (λst w'=>w'=w3/\ ∃n:Nat,st.2.1=(n:Int)/\n<=48/\st.1=X/2^n/\(n=0∨0<st.1)/\st.1<65536) ?_ ?_
 .refine AE (λh=>⟨by decide,AZ λy J=> ?_⟩) λh=>⟨rfl,n,rfl,by omega,a,hz,by omega⟩;rw[Int.fdiv_eq_ediv_of_nonneg _ (by decide)]at J;rw[AI (n:=(n:Int)+16)];refine⟨rfl,n+16,by grind,by omega,?_,.inr (by omega),by omega⟩;show y=X/2^(n+16);rw[J,a,Int.pow_add,<-Int.ediv_ediv_of_nonneg (Int.le_of_lt (Int.pow_pos (by decide)))];rfl
 clear a hz j x0 e;rintro⟨x,n',u⟩ _ w7 ⟨rfl,n,v,e,a,hz,j⟩;dsimp only at v a hz j⊢;subst v;have x0:0<=x:=by rw[a];grind
 refine AV (λst w'=>w'=w7/\ ∃n:Nat,st.2.1=(n:Int)/\n<=56/\st.1=X/2^n/\(n=0∨0<st.1)/\st.1<256) ?_ ?_
 .refine AE (λh=>⟨by decide,AZ λy J=> ?_⟩) λh=>⟨rfl,n,rfl,by omega,a,hz,by omega⟩;rw[Int.fdiv_eq_ediv_of_nonneg _ (by decide)]at J;rw[AI (n:=(n:Int)+8)];refine⟨rfl,n+8,by grind,by omega,?_,.inr (by omega),by omega⟩;show y=X/2^(n+8);rw[J,a,Int.pow_add,<-Int.ediv_ediv_of_nonneg (Int.le_of_lt (Int.pow_pos (by decide)))];rfl
 clear a hz j x0 e;rintro⟨x,n',u⟩ _ aL ⟨rfl,n,v,e,a,hz,j⟩;dsimp only at v a hz j⊢;subst v;have p0:(0:Int)<2^n:=Int.pow_pos (by decide);have x0:0<=x:=by rw[a];grind
 have ew:IntKind.wrap .u8 x=x:=by show x %256=x;omega
 rw[ew];refine(show oS len8 x _ from yV x0 j λb aI aA aK Y=>AZ λr hr=> ?_);rw[AI (n:=(b:Int)),AI (n:=(n:Int)+(b:Int))]at hr;subst hr;have et:((n:Int)+(b:Int)).toNat=b+n:=by omega
 refine hK _ ⟨by omega,by omega,?_,λhX=> ?_⟩
 .rw[et,Int.pow_add];have:=(Int.ediv_lt_iff_lt_mul p0).1 (a▸aA);exact this
 .by_cases hn0:n=0
  .grind
  .have aB:0<x:=hz.resolve_left hn0;have hl:=Y aB;refine⟨by omega,?_⟩;rw[et,show b+n-1=(b-1)+n by omega,Int.pow_add];have:2^(b-1)<=X/2^n:=a▸hl.2;exact(Int.le_ediv_iff_mul_le p0).1 this
def Z8{X:Int}(h0:0<=X)(h1:X<18446744073709551616){K:Int->World->Prop}(a: ∀r,LenOf X r->K r w):F.Eo E X K w:=by
 unfold F.Eo T0.Eo;exact fW h0 h1 a
def and_le(a:Int){b:Int}(h0:0<=b)(h1:b<18446744073709551616):0<=EA .u64 0 a b/\EA .u64 0 a b<=b:=by
 obtain⟨k,rfl⟩:=Int.eq_ofNat_of_zero_le h0;have e:EA .u64 0 a (k:Int)=((BitVec.ofInt 64 a&&&BitVec.ofInt 64 (k:Int)).toNat:Int):=by
  show IntKind.wrap .u64 ((BitVec.ofInt 64 a&&&BitVec.ofInt 64 (k:Int)).toNat:Int)=_;exact UY (BitVec.isLt _)
 rw[e,BitVec.toNat_and,BitVec.ofInt_natCast,BitVec.toNat_ofNat];have j:((BitVec.ofInt 64 a).toNat&&&k %2^64)<=k %2^64:=Nat.and_le_right;omega
def nH{n:Int}(h0:1<=n)(h1:n<1099511627776){K:Int->World->Prop}(O: ∀m,n<m->m<=2*n->K m w):F.CF E n K w:=by
 unfold F.CF T0.CF;rw[AP (n:=n)];refine Z8 (by omega) (by omega) λr a=>⟨a.r0,AZ λt v=> ?_⟩;obtain⟨k,rfl⟩:=Int.eq_ofNat_of_zero_le a.r0;have e:=a.lo (by omega);have j:=a.up;rw[Int.toNat_natCast]at e j v;have J:1<=k:=by omega
 have e2:(2:Int)^k=2*2^(k-1):=by
  rw[show k=(k-1)+1 by omega,Int.pow_succ];simp;omega
 have hle:(2:Int)^k<=2*n:=by omega
 have u:k<64:=by
  refine Classical.byContradiction λg=> ?_;have:k=64:=by have:=a.r1;omega
  grind
 rw[show min k (IntKind.bits .u64)=k by show min k 64=k;omega,Int.one_mul,AP]at v
 grind
end
section
variable{E:Env}{cmp:Value}{s:AY}{Z:List Pr}{l0:List Int}{w:World}
def nI{b t:Nat}{x:Int}(H:Sat (Cells b t [.int .u64 x]::Z) w){K:Int->World->Prop}(O: ∀y w',Sat (Cells b t [.int .u64 y]::Z) w'->K y w'):F.GN E (sM b) K w:=by
 unfold F.GN;simp only[AK];have H1:=H.drew;refine⟨_,H1.AW rfl,_,H1.AW rfl,by decide,Bc H1 (o:=0) rfl (by simp) λY J=> ?_⟩;have u:=J.drew;refine⟨_,u.AW rfl,_,u.AW rfl,by decide,Bc u (o:=0) rfl (by simp) λT j=> ?_⟩;have a:=j.drew;refine⟨_,a.AW rfl,_,a.AW rfl,by decide,Bc a (o:=0) rfl (by simp) λv e=> ?_⟩;exact⟨_,e.AW rfl,O _ v e⟩
def SP.add{P:Pr}{w':World}(h: ∃l:List Int,l.Perm l0/\Sat (P::Row E.Ar 1 s (ints .i64 l)::Z) w'):SP E s (P::Z) l0 w':=let⟨l,h1,h2⟩:=h;⟨l,h1,h2.perm (.swap _ _ _)⟩
def SP.out{P:Pr}{w':World}(h:SP E s (P::Z) l0 w'): ∃l:List Int,l.Perm l0/\Sat (P::Row E.Ar 1 s (ints .i64 l)::Z) w':=let⟨l,h1,h2⟩:=h;⟨l,h1,h2.perm (.swap _ _ _)⟩
def SP.drop{P:Pr}{w':World}(h:SP E s (P::Z) l0 w'):SP E s Z l0 w':=let⟨l,h1,h2⟩:=h;⟨l,h1,(h2.perm (.swap _ _ _)).tail⟩
def QH(hsm:s.len<1099511627776)(hS:SP E s Z l0 w){a b:Int}(a0:0<=a)(ab:a<b)(b1:b<=s.len){K:World->Prop}(hK: ∀w',SP E s Z l0 w'->K w'):F.Ai E s a b cmp K w:=by
 unfold F.Ai T0.Ai;rw[AI (n:=b-a)];refine AE (λh8=> ?_) λ_=>hK w hS;obtain⟨l,hp,H⟩:=hS;refine AJ (vs:=[.int .u64 0]) H λe w2 H2 _=>Bc H2 (o:=0) rfl (by simp) λw3 H3=> ?_;rw[Int.tdiv_eq_ediv_of_nonneg (by omega),AI (n:=(b-a)/4),AI (n:=(b-a)/4*2),AI (n:=a+(b-a)/4*2),AI (n:=a+(b-a)/4*2-1),AI (n:=a+(b-a)/4*2+1)];refine nH (n:=b-a) (by omega) (by omega) λm m0 m1=>⟨by decide,AZ λidx aC=> ?_⟩;refine AM (λst w'=>idx<=st.1/\st.1<=idx+3/\ ∃x,SP E s (Cells e E.Hg [.int .u64 x]::Z) l0 w') (λst _=>(idx+3-st.1).toNat) ⟨Int.le_refl _,by omega,_,SP.add ⟨l,hp,H3⟩⟩ ?_;rintro⟨i,u⟩ _ w8 ⟨i0,i1,x,J⟩;dsimp only at i0 i1⊢;refine⟨by decide,AE (λhle=> ?_) λ_=>hK w8 J.drop⟩;obtain⟨l8,aA,H8⟩:=J.out;refine nI H8 λy O T=>AZ λother ho=> ?_;rw[AP (n:=m-1)]at ho;have aG:=and_le y (b:=m-1) (by omega) (by omega);rw[AI]at ho;have j:SP E s (Cells e E.Hg [.int .u64 y]::Z) l0 O:=SP.add ⟨l8,aA,T⟩;refine AV (λst w'=>0<=st.1/\st.1<b-a/\w'=O) ?_ ?_
 .refine AE (λh=>AZ λo2 Y=> ?_) λh=>⟨by omega,by omega,rfl⟩;rw[AI (n:=other-(b-a))]at Y;exact⟨by omega,by omega,rfl⟩
 rintro⟨o,u⟩ _ aJ ⟨o0,o1,rfl⟩;dsimp only at o0 o1⊢;rw[AI (n:=a+o),AI (n:=i+1)];exact Fz j (by omega) (by omega) (by omega) (by omega) λaK v=>⟨⟨by show idx<=i+1;omega,by omega,y,v⟩,by omega⟩
def SPc(E:Env)(s:AY)(Z:List Pr)(l0:List Int)(b:Nat)(w:World):Prop:= ∃n,SP E s (Cells b E.Ar [.int .i64 n]::Z) l0 w
def Oj(hC: ∀P,Mz E cmp s (P::Z) l0){b:Nat}(hS:SPc E s Z l0 b w){i j:Int}(i0:0<=i)(i1:i<s.len)(j0:0<=j)(j1:j<s.len){K:Int->Int->World->Prop}
  (v: ∀x y w',(x=i/\y=j)∨(x=j/\y=i)->SPc E s Z l0 b w'->K x y w'):F.Ea E s i j (sM b) cmp K w:=by
 obtain⟨n,hS⟩:=hS;unfold F.Ea;refine IY (hC _) hS j0 j1 i0 i1 λz O a=>AE (λ_=> ?_) λ_=>v i j O (.inl ⟨rfl,rfl⟩) ⟨n,a⟩;obtain⟨l,J,H⟩:=a.out;simp only[AK];refine⟨_,H.AW rfl,Bc H (o:=0) rfl (by simp) λu e=>v j i u (.inr ⟨rfl,rfl⟩) ⟨_,SP.add ⟨l,J,e⟩⟩⟩
def MI(hC: ∀P,Mz E cmp s (P::Z) l0){b:Nat}(hS:SPc E s Z l0 b w){i j k:Int}(i0:0<=i)(i1:i<s.len)(j0:0<=j)(j1:j<s.len)(k0:0<=k)(k1:k<s.len){K:Int->World->Prop}
  (v: ∀x w',x=i∨x=j∨x=k->SPc E s Z l0 b w'->K x w'):F.BA E s i j k (sM b) cmp K w:=by
 unfold F.BA T0.BA;refine Oj hC hS i0 i1 j0 j1 λx y w3 T a=> ?_;refine Oj hC a (i:=y) (j:=k) (by omega) (by omega) k0 k1 λx2 y2 w6 Y e=> ?_;refine Oj hC e (i:=x) (j:=x2) (by omega) (by omega) (by omega) (by omega) λx3 O J h9 u=>v O J (by omega) u
def SK(hC: ∀P,Mz E cmp s (P::Z) l0)(hsm:s.len<1099511627776)(hS:SP E s Z l0 w){a b:Int}(a0:0<=a)(ab:a+12<b)(b1:b<=s.len){K:Int->Int->World->Prop}
  (hK: ∀p h w',a<=p->p<b->SP E s Z l0 w'->K p h w'):F.Ah E s a b cmp K w:=by
 unfold F.Ah T0.Ah;obtain⟨l,hp,H⟩:=hS;refine AJ (vs:=[.int .i64 0]) H λbb w2 H2 _=> ?_;rw[AI (n:=b-a),Int.tdiv_eq_ediv_of_nonneg (by omega),AI (n:=(b-a)/4),AI (n:=(b-a)/4*1),AI (n:=(b-a)/4*2),AI (n:=(b-a)/4*3),
  AI (n:=a+(b-a)/4*1),AI (n:=a+(b-a)/4*2),AI (n:=a+(b-a)/4*3)]
 refine⟨by decide,AZ λi hi=>⟨by decide,AZ λj hj=>⟨by decide,AZ λk hk=> ?_⟩⟩⟩;have aA:SPc E s Z l0 bb w2:=⟨0,SP.add ⟨l,hp,H2⟩⟩;refine AV (λst w'=>a<=st.1/\st.1<b/\SPc E s Z l0 bb w') ?_ ?_
 .refine AE (λh8=> ?_) λ_=>by omega
  refine AV (λst w'=>(a<=st.1/\st.1<b)/\(a<=st.2.1/\st.2.1<b)/\(a<=st.2.2.1/\st.2.2.1<b)/\SPc E s Z l0 bb w') ?_ ?_
  .refine AE (λaF=> ?_) λ_=>⟨⟨by show a<=i;omega,by show i<b;omega⟩,⟨by show a<=j;omega,by show j<b;omega⟩,⟨by show a<=k;omega,by show k<b;omega⟩,aA⟩;unfold F.A2 T0.A2;rw[AI (n:=i-1),AI (n:=i+1),AI (n:=j-1),AI (n:=j+1),AI (n:=k-1),AI (n:=k+1)];refine MI hC aA (by omega) (by omega) (by omega) (by omega) (by omega) (by omega) λx aJ hx J=> ?_;refine MI hC J (by omega) (by omega) (by omega) (by omega) (by omega) (by omega) λy aK hy O=> ?_;refine MI hC O (by omega) (by omega) (by omega) (by omega) (by omega) (by omega) λz aL hz T=> ?_;exact⟨⟨by show a<=x;omega,by show x<b;omega⟩,⟨by show a<=y;omega,by show y<b;omega⟩,⟨by show a<=z;omega,by show z<b;omega⟩,T⟩
  .rintro⟨x,y,z,u⟩ _ aI ⟨⟨x0,x1⟩,⟨y0,y1⟩,⟨z0,z1⟩,v⟩;dsimp only at x0 x1 y0 y1 z0 z1⊢;refine MI hC v (by omega) (by omega) (by omega) (by omega) (by omega) (by omega) λq aM hq Y=>⟨by show a<=q;omega,by show q<b;omega,Y⟩
 .rintro⟨p,u⟩ _ w8 ⟨p0,p1,n,e⟩;dsimp only at p0 p1⊢;obtain⟨l8,aH,H8⟩:=e.out;refine⟨n,H8.AW rfl,C6 (λ_=>hK p 1 w8 p0 p1 e.drop) λ_=>C6 (λ_=>hK p 2 w8 p0 p1 e.drop) λ_=>hK p 0 w8 p0 p1 e.drop⟩
def VO(hC:Mz E cmp s Z l0)(aB: ∀P,Mz E cmp s (P::Z) l0)(hsm:s.len<1099511627776): ∀(n0:Nat) {a b OZ:Int} {w:World} {K:World->Prop},SP E s Z l0 w->0<=a->a<=b->b<=s.len->b-a<n0->(∀w',SP E s Z l0 w'->K w')->F.slices_pdqsortCmpFunc_int_ E n0 s a b OZ cmp K w
 | 0,a,b,OZ,w,K,_,_,_,_,h,_=>by omega
 | n0+1,a,b,OZ,w,K,hS,a0,ab,b1,hf,hK=>by
  unfold F.slices_pdqsortCmpFunc_int_;refine AM (λst w'=>a<=st.1/\st.1<=st.2.1/\st.2.1<=b/\SP E s Z l0 w') (λst _=>(st.2.1-st.1).toNat) ⟨Int.le_refl _,ab,Int.le_refl _,hS⟩ ?_;rintro⟨x,y,lm,wb,wp,u⟩ _ w2 ⟨x0,xy,y1,j⟩;dsimp only at x0 xy y1⊢;rw[AI (n:=y-x)];refine AE (λ_=>VM hC hsm j (by omega) xy (by omega) hK) λaQ=>C6 (λ_=>WH hC hsm j (by omega) (by omega) (by omega) hK) λ_=> ?_;refine AV (λ_ w'=>SP E s Z l0 w') (Ky (AX (λ_=>j) λ_=>QH hsm j (by omega) (by omega) (by omega) λw9 aI=>aI)) ?_;rintro⟨aS,u⟩ _ w8 aH;dsimp only;refine SK aB hsm aH (by omega) (by omega) (by omega) λp hint aT p0 p1 v=> ?_;refine AV (λst w'=>x<=st.1/\st.1<y/\SP E s Z l0 w') (C6 (λ_=>YF hC hsm v (by omega) (by omega) (by omega) λaV aC=>AZ λq hq=> ?_) λ_=>⟨p0,p1,v⟩) ?_
  .rw[AI (n:=y-1),AI (n:=p-x),AI]at hq;exact⟨by show x<=q;omega,by show q<y;omega,aC⟩
  rintro⟨q,aJ,u⟩ _ aU ⟨q0,q1,e⟩;dsimp only at q0 q1⊢;refine AV (λ_ w'=>SP E s Z l0 w') ?_ ?_
  .refine AV (λ_ w'=>SP E s Z l0 w') (AX (λ_=>AX (λ_=>e) λ_=>e) λ_=>e) ?_;rintro⟨t,u⟩ _ aX O;exact AX (λ_=>Ns hC hsm O (by omega) (by omega) (by omega) λr aL T=>AX (λ_=>hK aL T) λ_=>T) λ_=>O
  intro _ _ aW J;refine AV (λ_ w'=>SP E s Z l0 w') ?_ ?_
  .refine AE (λaN=> ?_) λ_=>J.drew;rw[AI (n:=x-1)];exact IY hC J (by omega) (by omega) (by omega) (by omega) λz aZ aD=>aD
  rintro⟨t,u⟩ _ aY Y;refine AX (λ_=> ?_) λ_=> ?_
  .exact PY hC hsm Y (by omega) (by omega) (by omega) q0 q1 λr a1 r0 r1 aE=>⟨⟨by show a<=r;omega,by show r<=y;omega,y1,aE⟩,by omega⟩
  .refine VN hC hsm Y (by omega) (by omega) (by omega) q0 q1 λr t a2 r0 r1 aA=>⟨by decide,AZ λaP _=> ?_⟩;rw[AI (n:=r+1)];refine AE (λ_=> ?_) λ_=> ?_
   .exact VO hC aB hsm n0 aA (by omega) (by omega) (by omega) (by omega) λa3 aF=>⟨⟨by show a<=r+1;omega,by show r+1<=y;omega,y1,aF⟩,by omega⟩
   .exact VO hC aB hsm n0 aA (by omega) (by omega) (by omega) (by omega) λa4 aG=>⟨⟨by show a<=x;omega,by show x<=r;omega,by show r<=b;omega,aG⟩,by omega⟩
def WI(hC:Mz E cmp s Z l0)(a: ∀P,Mz E cmp s (P::Z) l0)(hsm:s.len<1099511627776)(hS:SP E s Z l0 w){K:World->Prop}(e: ∀w',SP E s Z l0 w'->K w'):F.BI E s cmp K w:=by
 unfold F.BI T0.BI;rw[AP (n:=(s.len:Int))];exact Z8 (by omega) (by omega) λr _=>⟨s.len+1,VO hC a hsm _ hS (Int.le_refl 0) (by omega) (Int.le_refl _) (by omega) e⟩
end
structure QI(E:Env):Prop extends EnvA E where
 sK: ∀x y p (R:Value->World->Prop) w,F.Bx E x y p (λr w'=>R (.int .i64 r) w') w->E.call E.GK #[.int .i64 x,.int .i64 y,.pointer p] w R Fi
def Z9(b:Nat)(es:Array MapEntry)(c:Nat):Pr where
 holds D w:=(∀i,D i↔i=b)/\w.heap[b]? =some (.map es c)
 loc h he hS:=⟨h.1,he.obj h.2 (hS _ ((h.1 _).2 rfl))⟩
 lt h hk:=by have:=(h.1 _).1 hk;grind
section
variable{E:Env}{w:World}{Z:List Pr}
def Sat.mapFix{b:Nat}{k:IntKind}{g:Int->Option Value}(H:Sat (CM b k g::Z) w): ∃es c m,MapI k es c m/\(∀i,aget m i=g i)/\Sat (Z9 b es c::Z) w:=by
 obtain⟨D,h,u⟩:=H.step;obtain⟨es,c,m,h1,a,e⟩:=h.2;exact⟨es,c,m,a,e,u w D _ (Ext.refl _ _) ⟨h.1,h1⟩ λ_ j=>.inl j⟩
def Sat.yW{b:Nat}{k:IntKind}{g:Int->Option Value}{es:Array MapEntry}{c:Nat}{m:List (Int×Value)}(H:Sat (Z9 b es c::Z) w)(a:MapI k es c m)(e: ∀i,aget m i=g i):Sat (CM b k g::Z) w:=by
 obtain⟨D,h,u⟩:=H.step;exact u w D _ (Ext.refl _ _) ⟨h.1,es,c,m,h.2,a,e⟩ λ_ j=>.inl j
def Sat.mapX{b:Nat}{es:Array MapEntry}{c:Nat}(H:Sat (Z9 b es c::Z) w):w.heap[b]? =some (.map es c):=let⟨_,h⟩:=H.head;h.2
def sL{k:IntKind}{n:Int}{K:Int->Prop}(h:K n):T7 k (.int k n) K:=by cases k<;>exact h
def fX{x y:Int}{K:Int->World->Prop}(e: ∀r,(r<0↔x<y)->K r w):F.Cu E x y K w:=by
 unfold F.Cu T0.Cu F.Je;simp only[bne_self_eq_false,lG];refine AE (λh=>e _ ⟨λ_=>h,λ_=>by decide⟩) λh=>AE (λj=>e _ ⟨λh=>absurd h (by decide),λa=>absurd a h⟩) λj=>e _ ⟨λh=>absurd h (by decide),λa=>absurd a h⟩
def SP.perm{s:AY}{Y a:List Pr}{l0:List Int}(h:SP E s Y l0 w)(e:Y.Perm a):SP E s a l0 w:=let⟨l,h1,h2⟩:=h;⟨l,h1,h2.perm (e.cons _)⟩
def Mz.perm{cmp:Value}{s:AY}{Y a:List Pr}{l0:List Int}(h:Mz E cmp s Y l0)(e:Y.Perm a):Mz E cmp s a l0:=
 λx y w R v J hS u=>h x y w R v J (hS.perm e.symm) λr w' j=>u r w' (j.perm e)
variable{h:Nat}{S:HS}(hE:QI E)
include hE
theorem aA{b1 t:Nat}(H:Sat (Ax E h S::Cells b1 t [.pointer (sM h)]::Z) w){x y:Int}{X Y:Nat×SI}(hx:S.sp x=some X)(hy:S.sp y=some Y){K:Int->World->Prop}
  (hK: ∀r w',(r<0↔X.2.base<Y.2.base)->Sat (Ax E h S::Cells b1 t [.pointer (sM h)]::Z) w'->K r w'):F.Bx E x y (sM b1) K w:=by
 unfold F.Bx T0.Bx
 try simp only[AK]
 obtain⟨g,hI,H1⟩:=Sat.heap.1 H.drew;obtain⟨es,c,m,hm,hg,H2⟩:=(H1.front 5 rfl).mapFix;have H3:Sat ([Cells h E.Ab (BV g S.hint S.AD),B8 E g.m S.V,BG E g.t S.T,BR E g.a S.ks S.own,Gg E g.f S.fx,Z9 g.sm es c,Aj (spR E S.sp) g.ids,Aj (λi:Nat=>A8 E (g.cb i) (S.ca i)) (List.range 64),Cells b1 t [.pointer (sM h)]]++Z) w.drew:=
  Sat.back (Ps:=Bf E h S g++Cells b1 t [.pointer (sM h)]::Z) 5 H2 (by simp[Bf])
 have facts: ∀{w':World},Sat ([Cells h E.Ab (BV g S.hint S.AD),B8 E g.m S.V,BG E g.t S.T,BR E g.a S.ks S.own,Gg E g.f S.fx,Z9 g.sm es c,Aj (spR E S.sp) g.ids,Aj (λi:Nat=>A8 E (g.cb i) (S.ca i)) (List.range 64),Cells b1 t [.pointer (sM h)]]++Z) w'->
   w'.cell? ((Addr.mk h 0 none).add 4)=some (.map (some g.sm))/\w'.cell? (Addr.mk b1 0 none)=some (.pointer (sM h))/\w'.heap[g.sm]? =some (.map es c):=λJ=>
  ⟨(CO (S:=S) (g:=g) J).2.2.2.2.1,(J.front 8 rfl).AW rfl,(J.front 5 rfl).mapX⟩
 have j: ∀{w':World} {z:Int} {U:Nat×SI},S.sp z=some U->Sat ([Cells h E.Ab (BV g S.hint S.AD),B8 E g.m S.V,BG E g.t S.T,BR E g.a S.ks S.own,Gg E g.f S.fx,Z9 g.sm es c,Aj (spR E S.sp) g.ids,Aj (λi:Nat=>A8 E (g.cb i) (S.ca i)) (List.range 64),Cells b1 t [.pointer (sM h)]]++Z) w'->
   ∀{R:Int->Int->Int->Int->Bool->Int->Int->Int->Bool->Bool->World->Prop},(∀r2 r3 r4 r5 r6 r7 r8 r9 aC w2,Sat ([Cells h E.Ab (BV g S.hint S.AD),B8 E g.m S.V,BG E g.t S.T,BR E g.a S.ks S.own,Gg E g.f S.fx,Z9 g.sm es c,Aj (spR E S.sp) g.ids,Aj (λi:Nat=>A8 E (g.cb i) (S.ca i)) (List.range 64),Cells b1 t [.pointer (sM h)]]++Z) w2->
    R U.2.base r2 r3 r4 r5 r6 r7 r8 r9 aC w2)->F.Av E (sM U.1) R w':=by
  intro w' z U hz J R hR;have O:z∈g.ids:=(hI.mem z).2 (by grind);obtain⟨i,hi⟩:=List.mem_iff_getElem?.1 O;have h1:=(J.front 6 rfl).FQ hi;have e:spR E S.sp z=Cm E U.1 U.2:=by unfold spR;rw[hz]
  rw[e]at h1;refine JS h1 λw2 h2=>hR _ _ _ _ _ _ _ _ _ _ ?_;rw[<-e]at h2;exact Sat.back (Ps:=[Cells h E.Ab (BV g S.hint S.AD),B8 E g.m S.V,BG E g.t S.T,BR E g.a S.ks S.own,Gg E g.f S.fx,Z9 g.sm es c,Aj (spR E S.sp) g.ids,Aj (λi:Nat=>A8 E (g.cb i) (S.ca i)) (List.range 64),Cells b1 t [.pointer (sM h)]]++Z) 6 (Sat.Jb h2 hi) (by simp)
 obtain⟨f1,f2,f3⟩:=facts H3;have lk: ∀(z:Int) {U:Nat×SI},S.sp z=some U->((aget m z).getD (.pointer none))= .pointer (sM U.1):=λz U hz=>by rw[hg];unfold Dl;grind
 refine⟨_,f2,?_⟩
 try simp only[AK]
 refine⟨_,f1,Mh f3 hm ?_⟩;refine⟨_,lk x hx,?_⟩
 try simp only[AK]
 refine⟨_,f2,?_⟩
 try simp only[AK]
 refine⟨_,f1,Mh f3 hm ?_⟩;refine⟨_,lk y hy,?_⟩;refine j hx H3 λ_ _ _ _ _ _ _ _ _ aW u=> ?_;obtain⟨g1,g2,g3⟩:=facts u;refine⟨⟨_,g3⟩,g1,g2,g1,g2,j hy u λ_ _ _ _ _ _ _ _ _ aX v=> ?_⟩;obtain⟨k1,k2,k3⟩:=facts v;refine⟨k1,k2,k1,k2,fX λr hr=>⟨k1,k2,k1,k2,hK r _ hr ?_⟩⟩;have h1:=(v.front 5 rfl).yW (g:=Dl S.sp) hm hg;exact Sat.heap.2 ⟨g,hI,Sat.back (Ps:=Bf E h S g++Cells b1 t [.pointer (sM h)]::Z) 5 h1 (by simp[Bf])⟩
theorem aB{b1 t:Nat}{s:AY}{l0:List Int}(a: ∀n∈l0,S.sp n≠none):Mz E (.func (.func E.GK) #[] #[.pointer (some (Addr.mk b1 0 none))]) s (Ax E h S::Cells b1 t [.pointer (sM h)]::Z) l0:=by
 intro x y w R v J ⟨l,hp,H⟩ hR;refine hE.sK x y _ R w ?_;obtain⟨X,j⟩:=Option.ne_none_iff_exists'.1 (a x v);obtain⟨Y,u⟩:=Option.ne_none_iff_exists'.1 (a y J);refine aA hE (h:=h) (t:=t) (Z:=Row E.Ar 1 s (ints .i64 l)::Z) (H.perm ?_) j u λr w' _ e=>hR r w' ⟨l,hp,e.perm ?_⟩
 .exact(List.perm_middle (l₁:=[Ax E h S,Cells b1 t [.pointer (sM h)]])).symm
 .exact List.perm_middle (l₁:=[Ax E h S,Cells b1 t [.pointer (sM h)]])
theorem Ol(H:Sat (Ax E h S::Z) w)(hb: ∀l:List Int,l.Nodup->(∀n∈l,S.sp n≠none)->l.length<1099511627776){K:AY->World->Prop}
  (hK: ∀s l w',l.Nodup->(∀n,n∈l↔S.sp n≠none)->Sat (Row E.Ar 1 s (ints .i64 l)::Ax E h S::Z) w'->K s w'):F.Cq E (sM h) K w:=by
 have aG: ∀n,Dl S.sp n≠none↔S.sp n≠none:=λn=>by unfold Dl;cases S.sp n<;>simp
 unfold F.Cq T0.Cq;refine AJ (vs:=[.pointer (sM h)]) H λb1 w2 H2 _=>⟨_,H2.AW rfl,?_⟩
 try simp only[AK]
 obtain⟨g,hI,H3⟩:=Sat.heap.1 (H2.front 1 rfl);refine⟨_,(CO (S:=S) (g:=g) H3).2.2.2.2.1,RNG_mk (H3.front 5 rfl) λb7 N0 w8 H8=> ?_⟩;have aI:=H8.nil E.Ar 1;refine AM (λst w'=> ∃cur done N,Sat (V6 b7 g.sm .i64 (Dl S.sp) cur done N::Row E.Ar 1 st.1 (ints .i64 done)::(Bf E h S g++Cells b1 E.A9 [.pointer (sM h)]::Z).eraseIdx 5) w') (λ_ w'=>pK b7 g.sm w') ⟨none,[],N0,aI.front 1 rfl⟩ ?_;rintro⟨s,u⟩ _ a1 ⟨cur,done,N,T⟩;dsimp only at T⊢;rw[T.iV];refine Ad (pL T (λaN Y aS j=>Ad (AR rfl ?_)) λn v a2 N' aZ aA hN e j=>Ad (Aa rfl λj2=>vV e λv' S' a0=> ?_))
 .obtain⟨aA,aJ⟩:=Y.iW;have aC:=Sat.OI (Ps:=Bf E h S g++Cells b1 E.A9 [.pointer (sM h)]::Z) 5 ((Y.rngOut).front 1 rfl) (by simp[Bf]);have aD:Sat (Bf E h S g++(Row E.Ar 1 s (ints .i64 done)::Cells b1 E.A9 [.pointer (sM h)]::Z)) aN:=Sat.perm aC (List.perm_middle (l₁:=Bf E h S g)).symm;have aE:=(Sat.heap.2 ⟨g,hI,aD⟩).front 1 rfl;have a: ∀n∈done,S.sp n≠none:=λn hn=>(aG n).1 (aJ n hn);have hlen:=hb done aA a;have aM:s.len<1099511627776:=by
   have:=(Y.front 1 rfl).CK;simp only[ints,List.length_map]at this;omega
  have hC:=aB (h:=h) (S:=S) hE (b1:=b1) (t:=E.A9) (s:=s) (l0:=done) (Z:=Z) a;refine WI hC (λP=>(aB (h:=h) (S:=S) hE (b1:=b1) (t:=E.A9) (s:=s) (l0:=done) (Z:=P::Z) a).perm ?_) aM ⟨done,.refl _,aE⟩ λaO ⟨l,hp,H22⟩=> ?_
  .exact List.perm_middle (l₁:=[Ax E h S,Cells b1 E.A9 [.pointer (sM h)]])
  .refine hK s l aO (hp.nodup_iff.2 aA) (λn=> ?_) (H22.front 2 rfl).tail
   grind
 .refine sL ?_;have O:=e.iW;have hlen:=hb _ O.1 λn hn=>(aG n).1 (O.2 n hn);have aL:=(e.front 1 rfl).CK;simp only[ints,List.length_map]at aL;simp only[List.length_append,List.length_singleton]at hlen;refine AJ (vs:=[.int .i64 n]) e λaW a3 aH _=>GH (zs:= #[.int .i64 0]) (bytes:=8) ((aH.front 2 rfl).front 1 rfl) rfl rfl (by simp[Value.oneCell']) (by omega) (by omega) λLp a4 aF _=> ?_;rw[show ints .i64 done++[.int .i64 n]=ints .i64 (done++[n]) by simp[ints]]at aF;have J:=aF.front 1 rfl;refine⟨⟨_,_,_,J⟩,?_⟩;rw[J.iV];exact hN
end
end Go.Sh

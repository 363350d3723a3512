/- What the law's functions do. No further condition. -/
import Derived.Test.YtcjamkpfbpfeoaaGreatDoorK
import Derived.Test.YtcjamkpfbpfeoaaGreatDoorQ
import Derived.Test.YtcjamkpfbpfeoaaGreatDoorH
import Derived.Test.YtcjamkpfbpfeoaaGreatDoorL
import Derived.Test.YtcjamkpfbpfeoaaGreatDoorY
import Derived.Test.YtcjamkpfbpfeoaaGreatDoorC
import Derived.Test.YtcjamkpfbpfeoaaGreatDoorA
set_option linter.all false
set_option maxRecDepth 8000
set_option maxHeartbeats 4000000
namespace Go.Sh
structure Part(k:Int->Int)(a i j b:Int):Prop where
 lo: ∀q,a<q->q<i->k q<=k a
 hi: ∀q,j<q->q<b->k a<=k q
section
variable{E:Env}{cmp:Value}{s:AZ}{Z:List Pr}{key:Int->Int}{l0 l:List Int}{w:World}
theorem Part.left{k:Int->Int}{a i j b:Int}(h:Part k a i j b)(g:k i<=k a):Part k a (i+1) j b:=⟨fun q h0 h1=>by
 by_cases e:q=i
 ·rw[e];exact g
 ·exact h.lo q h0 (by omega),h.hi⟩
theorem Part.right{k:Int->Int}{a i j b:Int}(h:Part k a i j b)(g:k a<=k j):Part k a i (j-1) b:=⟨h.lo,fun q h0 h1=>by
 by_cases e:q=j
 ·rw[e];exact g
 ·exact h.hi q (by omega) h1⟩
theorem Part.swap{k:Int->Int}{a i j b:Int}(h:Part k a i j b)(J:a<i)(C:i<j)(h1:k a<=k i)(y:k j<=k a):Part (QC k i j) a (i+1) (j-1) b:=⟨fun q d v=>by
 rw[Gb (q:=a) (by omega) (by omega)];by_cases e:q=i
 ·rw[e,OM];exact y
 ·rw[Gb e (by omega)];exact h.lo q d (by omega),fun q d v=>by
 rw[Gb (q:=a) (by omega) (by omega)];by_cases e:q=j
 ·rw[e,ON];exact h1
 ·rw[Gb (by omega) e];exact h.hi q (by omega) v⟩
theorem Part.fin{k:Int->Int}{a j b:Int}(h:Part k a (j+1) j b)(y:a<=j):(∀q,a<=q->q<j->QC k j a q<=QC k j a j)/\ ∀q,j<q->q<b->QC k j a j<=QC k j a q:=by
 refine⟨fun q d v=> ?_,fun q d v=> ?_⟩
 ·rw[OM];by_cases e:q=a
  ·rw[e,ON];exact h.lo j (by omega) (by omega)
  ·rw[Gb (by omega) e];exact h.lo q (by omega) (by omega)
 ·rw[OM,Gb (by omega) (by omega)];exact h.hi q d v
section
variable(hC:NJ E cmp s Z key l0)(hsm:s.len<1099511627776)
include hC hsm
theorem Pq(hS:SO E s Z l0 l w){a b p:Int}(a0:0<=a)(ab:a<b)(b1:b<=s.len)(p0:a<=p)(p1:p<b){K:Int->Bool->World->Prop}
  (hK: ∀r t l' w',a<=r->r<b->Mv a b l l'->(∀q,a<=q->q<r->kf key l' q<=kf key l' r)->(∀q,r<q->q<b->kf key l' r<=kf key l' q)->SO E s Z l0 l' w'->K r t w'):F.B1 E s a b p cmp K w:=by
 unfold F.B1;refine FQ hS (by omega) (by omega) (by omega) (by omega) fun w8 aR=> ?_;have bN: ∃l1,Mv a b l l1/\SO E s Z l0 l1 w8:=⟨_,by have:=hS.len;exact Mv.sw a0 (by omega) (by omega) (by omega) (by omega) (by omega),aR⟩;clear aR;obtain⟨l1,bE,aR⟩:=bN;rw[AH (n:=a+1),AH (n:=b-1)];have left: ∀(l1:List Int) (i j:Int) (aG:World) (J:Int×Unit->World->Prop),a+1<=i->i<=j+1->a<=j->j<b->Part (kf key l1) a i j b->SO E s Z l0 l1 aG->(∀k w',i<=k->k<=j+1->Part (kf key l1) a k j b->(k<=j->kf key l1 a<=kf key l1 k)->SO E s Z l0 l1 w'->J (k,()) w')->
   Ay (Int×Unit) (i,()) aG fun d _ T Y=>
   CND (decide ((d.1:Int)<=j)) (
    NC s.base fun a7=>
    ((0:Int)<=d.1/\(d.1:Int)<(s.len:Nat))/\
    ∃aN:Int,T.drew.cell? (a7.add (Int.toNat d.1*1))=some (.int .i64 aN)/\
    NC s.base fun a8=>
    ((0:Int)<=a/\(a:Int)<(s.len:Nat))/\
    ∃aM:Int,T.drew.cell? (a8.add (Int.toNat a*1))=some (.int .i64 aM)/\
    DYN E.call cmp #[.int .i64 aN,.int .i64 aM] T.drew fun a5 aP=>
    ∃aL:Int,a5= .int .i64 aL/\
    CND (decide ((aL:Int)<0)) (
     Y (i64 (d.1+1),()) aP
    ) (
     J (d.1,()) aP
    )
   ) (
    J (d.1,()) T.drew
   ):=by
  intro l1 i j aG J i0 i1 j0 j1 O aO hJ;refine AK (fun st w'=>i<=st.1/\st.1<=j+1/\Part (kf key l1) a st.1 j b/\SO E s Z l0 l1 w') (fun st _=>(b-st.1).toNat) ⟨Int.le_refl _,i1,O,aO⟩ ?_;rintro⟨k,u⟩ _ b5 ⟨k0,k1,y,aC⟩;dsimp only at k0 k1 y⊢;refine AD (fun hle=> ?_) fun aF=>hJ k _ k0 k1 y (fun h=>absurd h aF) aC.drew;rw[AH (n:=k+1)];exact HB hC aC (by omega) (by omega) (by omega) (by omega) fun z bV hz aD=>AD (fun v=>⟨⟨by show i<=k+1;omega,by show k+1<=j+1;omega,y.left (by have:=hz.1 v;omega),aD⟩,by show(b-(k+1)).toNat<(b-k).toNat;omega⟩) fun v=>hJ k _ k0 k1 y (fun _=>by have:=mt hz.2 v;omega) aD
 have a6: ∀(l1:List Int) (i j:Int) (aG:World) (J:Int×Unit->World->Prop),a+1<=i->i<=j+1->a<=j->j<b->Part (kf key l1) a i j b->SO E s Z l0 l1 aG->(∀k w',i<=k->k<=j+1->Part (kf key l1) a k j b->(k<=j->kf key l1 a<=kf key l1 k)->SO E s Z l0 l1 w'->J (k,()) w')->
   Ay (Int×Int×Unit) (i,j,()) aG fun d _ T Y=>
   CND (decide ((d.1:Int)<=d.2.1)) (
    NC s.base fun a7=>
    ((0:Int)<=d.1/\(d.1:Int)<(s.len:Nat))/\
    ∃aN:Int,T.drew.cell? (a7.add (Int.toNat d.1*1))=some (.int .i64 aN)/\
    NC s.base fun a8=>
    ((0:Int)<=a/\(a:Int)<(s.len:Nat))/\
    ∃aM:Int,T.drew.cell? (a8.add (Int.toNat a*1))=some (.int .i64 aM)/\
    DYN E.call cmp #[.int .i64 aN,.int .i64 aM] T.drew fun a5 aP=>
    ∃aL:Int,a5= .int .i64 aL/\
    CND (decide ((aL:Int)<0)) (
     Y (i64 (d.1+1),d.2.1,()) aP
    ) (
     J (d.1,()) aP
    )
   ) (
    J (d.1,()) T.drew
   ):=by
  intro l1 i j aG J i0 i1 j0 j1 O aO hJ;refine AK (fun st w'=>i<=st.1/\st.1<=j+1/\st.2.1=j/\Part (kf key l1) a st.1 j b/\SO E s Z l0 l1 w') (fun st _=>(b-st.1).toNat) ⟨Int.le_refl _,i1,rfl,O,aO⟩ ?_;rintro⟨k,jj,u⟩ _ b5 ⟨k0,k1,bC,y,aC⟩;dsimp only at k0 k1 bC y⊢;have bG:=bC.symm;subst bG;refine AD (fun hle=> ?_) fun aF=>hJ k _ k0 k1 y (fun h=>absurd h aF) aC.drew;rw[AH (n:=k+1)];exact HB hC aC (by omega) (by omega) (by omega) (by omega) fun z bV hz aD=>AD (fun v=>⟨⟨by show i<=k+1;omega,by show k+1<=j+1;omega,rfl,y.left (by have:=hz.1 v;omega),aD⟩,by show(b-(k+1)).toNat<(b-k).toNat;omega⟩) fun v=>hJ k _ k0 k1 y (fun _=>by have:=mt hz.2 v;omega) aD
 have right: ∀(l1:List Int) (i2 j:Int) (a9:World) (J:Int×Unit->World->Prop),a+1<=i2->i2<=j+1->a<=j->j<b->Part (kf key l1) a i2 j b->SO E s Z l0 l1 a9->(∀k w',k<=j->i2-1<=k->Part (kf key l1) a i2 k b->(i2<=k->kf key l1 k<=kf key l1 a/\kf key l1 k≠kf key l1 a)->SO E s Z l0 l1 w'->J (k,()) w')->
   Ay (Int×Unit) (j,()) a9 fun aI _ aW aT=>
    CND (decide ((i2:Int)<=aI.1)) (
     NC s.base fun b3=>
     ((0:Int)<=aI.1/\(aI.1:Int)<(s.len:Nat))/\
     ∃bJ:Int,aW.drew.cell? (b3.add (Int.toNat aI.1*1))=some (.int .i64 bJ)/\
     NC s.base fun b0=>
     ((0:Int)<=a/\(a:Int)<(s.len:Nat))/\
     ∃bO:Int,aW.drew.cell? (b0.add (Int.toNat a*1))=some (.int .i64 bO)/\
     DYN E.call cmp #[.int .i64 bJ,.int .i64 bO] aW.drew fun bX bK=>
     ∃bF:Int,bX= .int .i64 bF/\
     CND (!(decide ((bF:Int)<0))) (
      aT (i64 (aI.1-1),()) bK
     ) (
      J (aI.1,()) bK
     )
    ) (
     J (aI.1,()) aW.drew
    ):=by
  intro l1 i2 j a9 J i0 i1 j0 j1 O bB hJ;refine AK (fun st w'=>st.1<=j/\i2-1<=st.1/\Part (kf key l1) a i2 st.1 b/\SO E s Z l0 l1 w') (fun st _=>(st.1+1).toNat) ⟨Int.le_refl _,by show i2-1<=j;omega,O,bB⟩ ?_;rintro⟨k,u⟩ _ cA ⟨m0,m1,y,a1⟩;dsimp only at m0 m1 y⊢;refine AD (fun hle=> ?_) fun aF=>hJ k _ m0 m1 y (fun h=>absurd h aF) a1.drew;rw[AH (n:=k-1)];exact HB hC a1 (by omega) (by omega) (by omega) (by omega) fun z cB hz aY=>F5 (AD (fun v=>hJ k _ m0 m1 y (fun _=>by have:=hz.1 v;omega) aY) fun v=>⟨⟨by show k-1<=j;omega,by show i2-1<=k-1;omega,y.right (by have:=mt hz.2 v;omega),aY⟩,by show(k-1+1).toNat<(k+1).toNat;omega⟩)
 have done: ∀(l2:List Int) (i j:Int) (aU:World) (t:Bool) (R:World->Prop),Mv a b l l2->i=j+1->a<=j->j<b->Part (kf key l2) a i j b->SO E s Z l0 l2 aU->(∀l' w',Mv a b l l'->(∀q,a<=q->q<j->kf key l' q<=kf key l' j)->(∀q,j<q->q<b->kf key l' j<=kf key l' q)->SO E s Z l0 l' w'->R w')->
   ∀w',SO E s Z l0 (sw l2 a j) w'->R w':=fun l2 i j aU t R hM e j0 j1 O hS hR w' bW=>by
  subst e;have hl:=hS.len;obtain⟨f1,f2⟩:=O.fin j0;rw[MD,<-OP (l:=l2) (key:=key) (i:=a) (j:=j) (by omega) (by omega) (by omega) (by omega)]at f1 f2;exact hR _ w' (hM.trans (Mv.sw a0 (by omega) (by omega) (by omega) (by omega) (by omega))) f1 f2 bW
 refine AX (fun st w'=>a+1<=st.1/\st.1<=b-1+1/\Part (kf key l1) a st.1 (b-1) b/\(st.1<=b-1->kf key l1 a<=kf key l1 st.1)/\SO E s Z l0 l1 w')
  (left l1 (a+1) (b-1) w8 (fun st w'=>a+1<=st.1/\st.1<=b-1+1/\Part (kf key l1) a st.1 (b-1) b/\(st.1<=b-1->kf key l1 a<=kf key l1 st.1)/\SO E s Z l0 l1 w') (Int.le_refl _) (by omega) (by omega) (by omega) ⟨fun q h0 h1=>by omega,fun q h0 h1=>by omega⟩ aR fun k w' k0 k1 O hk h=>⟨k0,k1,O,hk,h⟩) ?_
 rintro⟨i,u⟩ _ b2 ⟨i0,i1,O,hi,aZ⟩;dsimp only at i0 i1 O hi⊢;refine AX (fun st w'=>st.1<=b-1/\i-1<=st.1/\Part (kf key l1) a i st.1 b/\(i<=st.1->kf key l1 st.1<=kf key l1 a/\kf key l1 st.1≠kf key l1 a)/\SO E s Z l0 l1 w')
  (right l1 i (b-1) b2 (fun st w'=>st.1<=b-1/\i-1<=st.1/\Part (kf key l1) a i st.1 b/\(i<=st.1->kf key l1 st.1<=kf key l1 a/\kf key l1 st.1≠kf key l1 a)/\SO E s Z l0 l1 w') i0 i1 (by omega) (by omega) O aZ fun k w' k0 k1 O hk h=>⟨k0,k1,O,hk,h⟩) ?_
 rintro⟨j,u⟩ _ aU ⟨j0,j1,aH,hj,aE⟩;dsimp only at j0 j1 aH hj⊢;have bH:=aE.len;refine AD (fun aF=> ?_) fun hle=> ?_
 ·exact FQ aE (by omega) (by omega) (by omega) (by omega) (done l1 i j aU true (K j true) bE (by omega) (by omega) (by omega) aH aE fun l' w' g1 g2 g3 g4=>hK j true l' w' (by omega) (by omega) g1 g2 g3 g4)
 have bA:i≠j:=fun e=>by
  have h1:=hi (by omega);have h2:=hj (by omega);rw[e]at h1;omega
 refine FQ aE (by omega) (by omega) (by omega) (by omega) fun bY aA=> ?_;rw[AH (n:=i+1),AH (n:=j-1)];have a3: ∃l2,Mv a b l l2/\Part (kf key l2) a (i+1) (j-1) b/\SO E s Z l0 l2 bY:=by
  refine⟨_,bE.trans (Mv.sw a0 (by omega) (by omega) (by omega) (by omega) (by omega)),?_,aA⟩;have:=aH.swap (by omega) (by omega) (hi (by omega)) (hj (by omega)).1;rw[OP (by omega) (by omega) (by omega) (by omega)]
  first|exact this|(rw[MD];exact this)
 clear aA;obtain⟨l2,bI,aK,aA⟩:=a3;refine AK (fun st w'=>a+1<=st.1/\st.1<=st.2.1+1/\a<=st.2.1/\st.2.1<b/\ ∃C,Mv a b l C/\Part (kf key C) a st.1 st.2.1 b/\SO E s Z l0 C w') (fun st _=>(st.2.1+1-st.1).toNat) ⟨by show a+1<=i+1;omega,by show i+1<=j-1+1;omega,by show a<=j-1;omega,by show j-1<b;omega,l2,bI,aK,aA⟩ ?_;clear O hi aH hj aE aZ aK bI aA bH bA;rintro⟨i,j,u⟩ _ bT ⟨i0,i1,j0,j1,C,bD,O,bP⟩;dsimp only at i0 i1 j0 j1 O⊢;refine AX (fun st w'=>i<=st.1/\st.1<=j+1/\Part (kf key C) a st.1 j b/\(st.1<=j->kf key C a<=kf key C st.1)/\SO E s Z l0 C w')
  (a6 C i j bT (fun st w'=>i<=st.1/\st.1<=j+1/\Part (kf key C) a st.1 j b/\(st.1<=j->kf key C a<=kf key C st.1)/\SO E s Z l0 C w') i0 i1 j0 j1 O bP fun k w' k0 k1 O hk h=>⟨k0,k1,O,hk,h⟩) ?_
 rintro⟨i2,u⟩ _ bU ⟨k0,k1,aH,hi,bM⟩;dsimp only at k0 k1 aH hi⊢;refine AX (fun st w'=>st.1<=j/\i2-1<=st.1/\Part (kf key C) a i2 st.1 b/\(i2<=st.1->kf key C st.1<=kf key C a/\kf key C st.1≠kf key C a)/\SO E s Z l0 C w')
  (right C i2 j bU (fun st w'=>st.1<=j/\i2-1<=st.1/\Part (kf key C) a i2 st.1 b/\(i2<=st.1->kf key C st.1<=kf key C a/\kf key C st.1≠kf key C a)/\SO E s Z l0 C w') (by omega) (by omega) j0 j1 aH bM fun k w' k0 k1 O hk h=>⟨k0,k1,O,hk,h⟩) ?_
 rintro⟨j2,u⟩ _ b6 ⟨m0,m1,aK,hj,aJ⟩;dsimp only at m0 m1 aK hj⊢;have b7:=aJ.len;refine AD (fun aF=> ?_) fun hle=> ?_
 ·exact FQ aJ (by omega) (by omega) (by omega) (by omega) (done C i2 j2 b6 false (K j2 false) bD (by omega) (by omega) (by omega) aK aJ fun l' w' g1 g2 g3 g4=>hK j2 false l' w' (by omega) (by omega) g1 g2 g3 g4)
 ·have bA:i2≠j2:=fun e=>by
   have h1:=hi (by omega);have h2:=hj (by omega);rw[e]at h1;omega
  rw[AH (n:=i2+1),AH (n:=j2-1)];refine FQ aJ (by omega) (by omega) (by omega) (by omega) fun cD bL=>⟨⟨by show a+1<=i2+1;omega,by show i2+1<=j2-1+1;omega,by show a<=j2-1;omega,by show j2-1<b;omega,_,bD.trans (Mv.sw a0 (by omega) (by omega) (by omega) (by omega) (by omega)),?_,bL⟩,by show(j2-1+1-(i2+1)).toNat<(j+1-i).toNat;omega⟩;have:=aK.swap (by omega) (by omega) (hi (by omega)) (hj (by omega)).1;rw[OP (by omega) (by omega) (by omega) (by omega)]
  first|exact this|(rw[MD];exact this)
end
theorem SO.add{P:Pr}{w':World}(h:l.Perm l0/\Sat (P::Row E.CV 1 s (ints .i64 l)::Z) w'):SO E s (P::Z) l0 l w':=⟨h.1,h.2.perm (.swap _ _ _)⟩
theorem SO.out{P:Pr}{w':World}(h:SO E s (P::Z) l0 l w'):l.Perm l0/\Sat (P::Row E.CV 1 s (ints .i64 l)::Z) w':=⟨h.1,h.2.perm (.swap _ _ _)⟩
theorem SO.drop{P:Pr}{w':World}(h:SO E s (P::Z) l0 l w'):SO E s Z l0 l w':=⟨h.1,(h.2.perm (.swap _ _ _)).tail⟩
theorem Mi(hsm:s.len<1099511627776)(hS:SO E s Z l0 l w){a b:Int}(a0:0<=a)(ab:a<b)(b1:b<=s.len){K:World->Prop}(hK: ∀l' w',Mv a b l l'->SO E s Z l0 l' w'->K w'):F.Aq E s a b cmp K w:=by
 unfold F.Aq T0.Aq;rw[AH (n:=b-a)];refine AD (fun h8=> ?_) fun _=>hK l w (Mv.refl _ _ _) hS;obtain⟨hp,H⟩:=hS;refine Ad (vs:=[.int .u64 0]) H fun O w2 H2 _=>El H2 (o:=0) rfl (by simp) fun w3 H3=> ?_;rw[Int.tdiv_eq_ediv_of_nonneg (by omega),AH (n:=(b-a)/4),AH (n:=(b-a)/4*2),AH (n:=a+(b-a)/4*2),AH (n:=a+(b-a)/4*2-1),AH (n:=a+(b-a)/4*2+1)];refine aM (n:=b-a) (by omega) (by omega) fun m m0 m1=>⟨by decide,AU fun idx aB=> ?_⟩;refine AK (fun st w'=>idx<=st.1/\st.1<=idx+3/\ ∃x l1,Mv a b l l1/\SO E s (Cells O E.Gi [.int .u64 x]::Z) l0 l1 w') (fun st _=>(idx+3-st.1).toNat) ⟨Int.le_refl _,by show idx<=idx+3;omega,_,l,Mv.refl _ _ _,SO.add ⟨hp,H3⟩⟩ ?_;rintro⟨i,u⟩ _ w8 ⟨i0,i1,x,l1,v,J⟩;dsimp only at i0 i1⊢;refine⟨by decide,AD (fun hle=> ?_) fun _=>hK l1 w8 v J.drop⟩;obtain⟨T,H8⟩:=J.out;refine aN H8 fun y j Y=>AU fun other ho=> ?_;rw[AM (n:=m-1)]at ho;have aI:=vZ y (b:=m-1) (by omega) (by omega);rw[AH]at ho;have d:SO E s (Cells O E.Gi [.int .u64 y]::Z) l0 l1 j:=SO.add ⟨T,Y⟩;have aD:=d.len;refine AX (fun st w'=>0<=st.1/\st.1<b-a/\w'=j) ?_ ?_
 ·refine AD (fun h=>AU fun o2 aA=> ?_) fun h=>⟨by show 0<=other;omega,by show other<b-a;omega,rfl⟩;rw[AH (n:=other-(b-a))]at aA;exact⟨by show 0<=o2;omega,by show o2<b-a;omega,rfl⟩
 rintro⟨o,u⟩ _ aO ⟨o0,o1,rfl⟩;dsimp only at o0 o1⊢;rw[AH (n:=a+o),AH (n:=i+1)];exact FQ d (by omega) (by omega) (by omega) (by omega) fun aL C=>⟨⟨by show idx<=i+1;omega,by show i+1<=idx+3;omega,y,_,v.trans (Mv.sw a0 (by omega) (by omega) (by omega) (by omega) (by omega)),C⟩,by show(idx+3-(i+1)).toNat<(idx+3-i).toNat;omega⟩
def wC(E:Env)(s:AZ)(Z:List Pr)(l0 l:List Int)(b:Nat)(w:World):Prop:= ∃n,SO E s (Cells b E.CV [.int .i64 n]::Z) l0 l w
theorem LD(hC: ∀P,NJ E cmp s (P::Z) key l0){b:Nat}(J:wC E s Z l0 l b w){i j:Int}(i0:0<=i)(i1:i<s.len)(Y:0<=j)(T:j<s.len){K:Int->Int->World->Prop}
  (O: ∀x y w',(x=i/\y=j)∨(x=j/\y=i)->wC E s Z l0 l b w'->K x y w'):F.DO E s i j (some ⟨b,0,none⟩) cmp K w:=by
 obtain⟨n,J⟩:=J;unfold F.DO;refine HB (hC _) J Y T i0 i1 fun z w6 _ d=>AD (fun _=> ?_) fun _=>O i j w6 (.inl ⟨rfl,rfl⟩) ⟨n,d⟩;obtain⟨hp,H⟩:=d.out;simp only[AI];refine⟨_,H.A2 rfl,El H (o:=0) rfl (by simp) fun C v=>O j i C (.inr ⟨rfl,rfl⟩) ⟨_,SO.add ⟨hp,v⟩⟩⟩
theorem JO(hC: ∀P,NJ E cmp s (P::Z) key l0){b:Nat}(hS:wC E s Z l0 l b w){i j k:Int}(i0:0<=i)(i1:i<s.len)(j0:0<=j)(J:j<s.len)(k0:0<=k)(k1:k<s.len){K:Int->World->Prop}
  (O: ∀x w',x=i∨x=j∨x=k->wC E s Z l0 l b w'->K x w'):F.BG E s i j k (some ⟨b,0,none⟩) cmp K w:=by
 unfold F.BG T0.BG;refine LD hC hS i0 i1 j0 J fun x y w3 h3 v=> ?_;refine LD hC v (i:=y) (j:=k) (by omega) (by omega) k0 k1 fun x2 y2 w6 h6 C=> ?_;refine LD hC C (i:=x) (j:=x2) (by omega) (by omega) (by omega) (by omega) fun x3 T Y h9 d=>O T Y (by omega) d
theorem OQ(hC: ∀P,NJ E cmp s (P::Z) key l0)(hsm:s.len<1099511627776)(hS:SO E s Z l0 l w){a b:Int}(a0:0<=a)(ab:a+12<b)(b1:b<=s.len){K:Int->Int->World->Prop}
  (hK: ∀p h w',a<=p->p<b->SO E s Z l0 l w'->K p h w'):F.Au E s a b cmp K w:=by
 unfold F.Au T0.Au;obtain⟨hp,H⟩:=hS;refine Ad (vs:=[.int .i64 0]) H fun bb w2 H2 _=> ?_;rw[AH (n:=b-a),Int.tdiv_eq_ediv_of_nonneg (by omega),AH (n:=(b-a)/4),AH (n:=(b-a)/4*1),AH (n:=(b-a)/4*2),AH (n:=(b-a)/4*3),
  AH (n:=a+(b-a)/4*1),AH (n:=a+(b-a)/4*2),AH (n:=a+(b-a)/4*3)]
 refine⟨by decide,AU fun i hi=>⟨by decide,AU fun j hj=>⟨by decide,AU fun k hk=> ?_⟩⟩⟩;have Y:wC E s Z l0 l bb w2:=⟨0,SO.add ⟨hp,H2⟩⟩;refine AX (fun st w'=>a<=st.1/\st.1<b/\wC E s Z l0 l bb w') ?_ ?_
 ·refine AD (fun h8=> ?_) fun _=>by omega
  refine AX (fun st w'=>(a<=st.1/\st.1<b)/\(a<=st.2.1/\st.2.1<b)/\(a<=st.2.2.1/\st.2.2.1<b)/\wC E s Z l0 l bb w') ?_ ?_
  ·refine AD (fun aU=> ?_) fun _=>⟨⟨by show a<=i;omega,by show i<b;omega⟩,⟨by show a<=j;omega,by show j<b;omega⟩,⟨by show a<=k;omega,by show k<b;omega⟩,Y⟩;unfold F.A7 T0.A7;rw[AH (n:=i-1),AH (n:=i+1),AH (n:=j-1),AH (n:=j+1),AH (n:=k-1),AH (n:=k+1)];refine JO hC Y (by omega) (by omega) (by omega) (by omega) (by omega) (by omega) fun x aP hx O=> ?_;refine JO hC O (by omega) (by omega) (by omega) (by omega) (by omega) (by omega) fun y aR hy J=> ?_;refine JO hC J (by omega) (by omega) (by omega) (by omega) (by omega) (by omega) fun z aO hz C=> ?_;exact⟨⟨by show a<=x;omega,by show x<b;omega⟩,⟨by show a<=y;omega,by show y<b;omega⟩,⟨by show a<=z;omega,by show z<b;omega⟩,C⟩
  ·rintro⟨x,y,z,u⟩ _ aL ⟨⟨x0,x1⟩,⟨y0,y1⟩,⟨z0,z1⟩,T⟩;dsimp only at x0 x1 y0 y1 z0 z1⊢;refine JO hC T (by omega) (by omega) (by omega) (by omega) (by omega) (by omega) fun q aT hq v=>⟨by show a<=q;omega,by show q<b;omega,v⟩
 ·rintro⟨p,u⟩ _ w8 ⟨p0,p1,n,d⟩;dsimp only at p0 p1⊢;obtain⟨aI,H8⟩:=d.out;refine⟨n,H8.A2 rfl,BW (fun _=>hK p 1 w8 p0 p1 d.drop) fun _=>BW (fun _=>hK p 2 w8 p0 p1 d.drop) fun _=>hK p 0 w8 p0 p1 d.drop⟩
theorem SO.inj(h:SO E s Z l0 l w)(d:(l0.map key).Nodup){i j:Int}(i0:0<=i)(i1:i<s.len)(v:0<=j)(J:j<s.len)(e:kf key l i=kf key l j):i=j:=by
 have C:=h.len;have y:(l.map key).Nodup:=(h.1.map key).nodup_iff.2 d;have:=(List.getElem_inj (i:=i.toNat) (j:=j.toNat) (h₀:=by rw[List.length_map];omega) (h₁:=by rw[List.length_map];omega) y).1 (by
  unfold kf at e;rw[LB i0 (by omega),LB v (by omega)]at e;rw[List.getElem_map,List.getElem_map];exact e)
 omega
def wD(k:Int->Int)(x y:Int):Prop:=0<x-> ∀i,x<=i->i<y->k (x-1)<=k i
theorem wD.mv{x y:Int}{l l':List Int}(h:wD (kf key l) x y)(g:Mv x y l l'):wD (kf key l') x y:=fun h0 i i0 i1=>by
 rw[g.same (i:=x-1) (.inl (by omega))];exact g.ZE (key:=key) (h h0) i i0 i1
theorem UZ.low{k:Int->Int}{a x y b:Int}(h:UZ k a x y b)(g:wD k a b)(j:a<=x)(d:y<=b):wD k x y:=fun h0 i i0 i1=>by
 by_cases e:a=x
 ·subst e;exact g h0 i i0 (by omega)
 ·exact h (x-1) i (by omega) (by omega) (by omega) (.inl (by omega))
theorem O4(hC:NJ E cmp s Z key l0)(aI: ∀P,NJ E cmp s (P::Z) key l0)(hsm:s.len<1099511627776)(hd:(l0.map key).Nodup): ∀(n0:Nat) {a b Gn:Int} {l:List Int} {w:World} {K:World->Prop},SO E s Z l0 l w->0<=a->a<=b->b<=s.len->b-a<n0->wD (kf key l) a b->
  (∀l' w',Mv a b l l'->JN (kf key l') a b->SO E s Z l0 l' w'->K w')->F.slices_pdqsortCmpFunc_int_ E n0 s a b Gn cmp K w
 | 0,a,b,Gn,l,w,K,_,_,_,_,h,_,_=>by omega
 | n0+1,a,b,Gn,l,w,K,hS,a0,ab,b1,hf,hlow,hK=>by
  unfold F.slices_pdqsortCmpFunc_int_;refine AK (fun st w'=>a<=st.1/\st.1<=st.2.1/\st.2.1<=b/\ ∃l1,Mv a b l l1/\UZ (kf key l1) a st.1 st.2.1 b/\SO E s Z l0 l1 w') (fun st _=>(st.2.1-st.1).toNat) ⟨Int.le_refl _,ab,Int.le_refl _,l,Mv.refl _ _ _,fun i j h0 h1 J C=>by dsimp only at C;omega,hS⟩ ?_;rintro⟨x,y,lm,wb,wp,u⟩ _ w2 ⟨x0,xy,T,l1,v,d,aB⟩;dsimp only at x0 xy T d⊢;rw[AH (n:=y-x)];have fin: ∀l2 w',Mv a b l l1->UZ (kf key l1) a x y b->Mv x y l1 l2->JN (kf key l2) x y->SO E s Z l0 l2 w'->K w':=fun l2 w' h0 h1 J C h4=>hK l2 w' (h0.trans (J.wide x0 T)) ((h1.mv J T x0).fin C) h4;refine AD (fun _=>Pp hC hsm aB (by omega) xy (by omega) fun l2 w' J C h4=>fin l2 w' v d J C h4) fun a7=>BW (fun _=>Rk hC hsm aB (by omega) (by omega) (by omega) fun l2 w' J C h4=>fin l2 w' v d J C h4) fun _=> ?_;clear fin
  let I:World->Prop:=fun w'=> ∃l1,Mv a b l l1/\UZ (kf key l1) a x y b/\SO E s Z l0 l1 w'
  have more: ∀{l1 l2:List Int} {w':World},Mv a b l l1->UZ (kf key l1) a x y b->Mv x y l1 l2->SO E s Z l0 l2 w'->I w':=fun h0 h1 J C=>⟨_,h0.trans (J.wide x0 T),h1.mv J T x0,C⟩;have aD: ∀{l1:List Int},Mv a b l l1->UZ (kf key l1) a x y b->wD (kf key l1) x y:=fun h0 h1=>h1.low (hlow.mv h0) x0 T;refine AX (fun _ w'=>I w') (F5 (AQ (fun _=>⟨l1,v,d,aB⟩) fun _=>Mi hsm aB (by omega) (by omega) (by omega) fun l2 w9 J a2=>more v d J a2)) ?_;clear aB d v;rintro⟨bC,u⟩ _ w8 ⟨l1,v,d,aP⟩;dsimp only;refine OQ aI hsm aP (by omega) (by omega) (by omega) fun p hint bA p0 p1 aC=> ?_;refine AX (fun st w'=>x<=st.1/\st.1<y/\I w') (BW (fun _=>SJ hC hsm aC (by omega) (by omega) (by omega) fun l2 bM J aQ=>AU fun q hq=> ?_) fun _=>⟨p0,p1,l1,v,d,aC⟩) ?_
  ·rw[AH (n:=y-1),AH (n:=p-x),AH]at hq;exact⟨by show x<=q;omega,by show q<y;omega,more v d J aQ⟩
  clear aC aP d v;rintro⟨q,aZ,u⟩ _ bH ⟨q0,q1,l1,v,d,Y⟩;dsimp only at q0 q1⊢;refine AX (fun _ w'=>I w') ?_ ?_
  ·refine AX (fun _ w'=>SO E s Z l0 l1 w') (AQ (fun _=>AQ (fun _=>Y) fun _=>Y) fun _=>Y) ?_;rintro⟨t,u⟩ _ bG aG;exact AQ (fun _=>LC hC hsm aG (by omega) (by omega) (by omega) (aD v d) fun r l2 a1 J C aH=>AQ (fun hr=>hK l2 a1 (v.trans (J.wide x0 T)) ((d.mv J T x0).fin (C hr)) aH) fun _=>more v d J aH) fun _=>⟨l1,v,d,aG⟩
  clear Y d v;rintro _ _ bO ⟨l1,v,d,aE⟩;refine AX (fun st w'=>st.1=false/\SO E s Z l0 l1 w') ?_ ?_
  ·refine AD (fun a5=> ?_) fun _=>⟨rfl,aE.drew⟩;rw[AH (n:=x-1)];refine HB hC aE (by omega) (by omega) (by omega) (by omega) fun z bL hz aT=>⟨?_,aT⟩;have hle:=aD v d (by omega) q q0 q1;have bB:kf key l1 (x-1)≠kf key l1 q:=fun e=>by
    have:=aE.inj hd (i:=x-1) (j:=q) (by omega) (by omega) (by omega) (by omega) e;omega
   have:z<0:=hz.2 (by omega);simp[this]
  rintro⟨t,u⟩ _ bI ⟨ht,aM⟩;dsimp only at ht⊢;subst ht;refine Ac rfl ?_;refine Pq hC hsm aM (by omega) (by omega) (by omega) q0 q1 fun r t l2 bK r0 r1 J aO aL aF=>⟨by decide,AU fun bD _=> ?_⟩;rw[AH (n:=r+1)];have aK:=v.trans (J.wide x0 T);have O:=d.mv J T x0;have aJ:=aD aK O;refine AD (fun _=> ?_) fun _=> ?_
  ·refine O4 hC aI hsm hd n0 aF (by omega) (by omega) (by omega) (by omega) (fun h0 i i0 i1=>aJ h0 i i0 (by omega)) fun l3 bJ C hO aU=>⟨⟨by show a<=r+1;omega,by show r+1<=y;omega,T,l3,aK.trans (C.wide x0 (by omega)),?_,aU⟩,by show(y-(r+1)).toNat<(y-x).toNat;omega⟩;refine(O.mv (C.wide (Int.le_refl _) (by omega)) T x0).left r0 r1 hO (fun i i0 i1=> ?_) fun i i0 i1=> ?_
   ·rw[C.same (i:=r) (.inr (Int.le_refl _))];exact C.below (key:=key) (fun i i0 i1=>aO i i0 i1) i i0 i1
   ·rw[C.same (i:=r) (.inr (Int.le_refl _)),C.same (i:=i) (.inr (by omega))];exact aL i i0 i1
  ·refine O4 hC aI hsm hd n0 aF (by omega) (by omega) (by omega) (by omega) (fun h0 i i0 i1=>by rw[show r+1-1=r by omega];exact aL i (by omega) i1) fun l3 bN C hO aR=>⟨⟨by show a<=x;omega,by show x<=r;omega,by show r<=b;omega,l3,aK.trans (C.wide (by omega) T),?_,aR⟩,by show(r-x).toNat<(y-x).toNat;omega⟩;refine(O.mv (C.wide (by omega) (Int.le_refl _)) T x0).right r0 r1 hO (fun i i0 i1=> ?_) fun i i0 i1=> ?_
   ·rw[C.same (i:=r) (.inl (by omega)),C.same (i:=i) (.inl (by omega))];exact aO i i0 i1
   ·rw[C.same (i:=r) (.inl (by omega))];exact C.ZE (key:=key) (fun i i0 i1=>aL i (by omega) i1) i (by omega) i1
theorem Rl(hC:NJ E cmp s Z key l0)(v: ∀P,NJ E cmp s (P::Z) key l0)(hsm:s.len<1099511627776)(y:(l0.map key).Nodup)(T:SO E s Z l0 l w){K:World->Prop}(O: ∀l' w',(l'.map key).Pairwise (· < ·)->SO E s Z l0 l' w'->K w'):F.BQ E s cmp K w:=by
 unfold F.BQ T0.BQ;rw[AM (n:=(s.len:Int))];refine Vv (by omega) (by omega) fun r _=>⟨s.len+1,O4 hC v hsm y _ T (Int.le_refl 0) (by omega) (Int.le_refl _) (by omega) (fun h=>by omega) fun l' w' _ Y d=>O l' w' ?_ d⟩;have hl:=d.len;refine List.pairwise_iff_getElem.2 fun i j hi J C=> ?_;rw[List.length_map]at hi J;have h1:=Y i j (by omega) (by omega) (by omega);have h2:kf key l' i≠kf key l' j:=fun e=>by
  have:=d.inj y (i:=i) (j:=j) (by omega) (by omega) (by omega) (by omega) e;omega
 have e1:kf key l' i=key l'[i]:=by unfold kf;rw[LB (by omega) (by omega)];rfl
 have e2:kf key l' j=key l'[j]:=by unfold kf;rw[LB (by omega) (by omega)];rfl
 rw[List.getElem_map,List.getElem_map];omega
end
end Go.Sh
set_option linter.all false
set_option maxRecDepth 8000
set_option maxHeartbeats 4000000
namespace Go.Sh
def HS.at(S:HS)(id:Int):Int:=match S.sp id with
 | some x=>x.2.base
 | none=>0
theorem HS.Mf{S:HS}{id:Int}{x:Nat×SI}(h:S.sp id=some x):S.at id=x.2.base:=by unfold HS.at;rw[h]
theorem Al.wE{S:HS}{fl:Int->Bool}(d:Al S fl){x y:Int}(C:S.sp x≠none)(J:S.sp y≠none)(e:S.at x=S.at y):x=y:=by
 obtain⟨X,j⟩:=Option.ne_none_iff_exists'.1 C;obtain⟨Y,v⟩:=Option.ne_none_iff_exists'.1 J;rw[HS.Mf j,HS.Mf v]at e;have h1:=(d.sp x X j).2.2.2.2 (X.2.base/8192) (Int.le_refl _) (by have:=(d.sp x X j).2.2.1;omega);have K:=(d.sp y Y v).2.2.2.2 (X.2.base/8192) (by rw[e];exact Int.le_refl _) (by have:=(d.sp y Y v).2.2.1;rw[e];omega);omega
theorem TC{f:Int->Int}: ∀{l:List Int},l.Nodup->(∀x∈l,∀y∈l,f x=f y->x=y)->(l.map f).Nodup
 | [],_,_=>List.nodup_nil
 | a::l,h,g=>by
  rw[List.map_cons,List.nodup_cons];rw[List.nodup_cons]at h;refine⟨fun hm=> ?_,TC h.2 fun x j y v=>g x (.tail _ j) y (.tail _ v)⟩;obtain⟨b,d,e⟩:=List.mem_map.1 hm;have:=g b (.tail _ d) a (.head _) e;exact h.1 (this▸d)
theorem Al.SF{S:HS}{fl:Int->Bool}(v:Al S fl)(l:List Int)(d:l.Nodup)(j: ∀n∈l,S.sp n≠none):l.length<1099511627776:=by
 have h:=T6 S.fx.n l d fun n y=>by
  obtain⟨a,e,h1,_⟩:=(v.sf n).1 (j n y);omega
 have:=v.fb;omega
section
variable{E:Env}{w:World}{Z:List Pr}{h:Nat}{S:HS}(hE:Vw E)
theorem SO.ZF{s:AZ}{Y d:List Pr}{l0 l:List Int}(h:SO E s Y l0 l w)(hp:Y.Perm d):SO E s d l0 l w:=⟨h.1,h.2.perm (hp.cons _)⟩
theorem NJ.ZF{cmp:Value}{s:AZ}{Y d:List Pr}{key:Int->Int}{l0:List Int}(h:NJ E cmp s Y key l0)(hp:Y.Perm d):NJ E cmp s d key l0:=
 fun x y l w R C O J K=>h x y l w R C O (J.ZF hp.symm) fun r w' j v=>K r w' j (v.ZF hp)
include hE
theorem TE{b1 t:Nat}{s:AZ}{l0:List Int}(j: ∀n∈l0,S.sp n≠none):NJ E (.func (.func E.Fq) #[] #[.pointer (some (Addr.mk b1 0 none))]) s (Aj E h S::Cells b1 t [.pointer (some ⟨h,0,none⟩)]::Z) S.at l0:=by
 intro x y l w R O K ⟨hp,H⟩ hR;refine hE.fL x y _ R w ?_;obtain⟨X,v⟩:=Option.ne_none_iff_exists'.1 (j x O);obtain⟨Y,d⟩:=Option.ne_none_iff_exists'.1 (j y K);refine Vy hE (h:=h) (t:=t) (Z:=Row E.CV 1 s (ints .i64 l)::Z) (H.perm ?_) v d fun r w' J C=>hR r w' (by rw[HS.Mf v,HS.Mf d];exact J) ⟨hp,C.perm ?_⟩
 ·exact(List.perm_middle (l₁:=[Aj E h S,Cells b1 t [.pointer (some ⟨h,0,none⟩)]])).symm
 ·exact List.perm_middle (l₁:=[Aj E h S,Cells b1 t [.pointer (some ⟨h,0,none⟩)]])
theorem UI(H:Sat (Aj E h S::Z) w)(T:Al S no){K:AZ->World->Prop}
  (hK: ∀s l w',l.Nodup->(∀n,n∈l↔S.sp n≠none)->(l.map S.at).Pairwise (· < ·)->Sat (Row E.CV 1 s (ints .i64 l)::Aj E h S::Z) w'->K s w'):F.Dz E (some ⟨h,0,none⟩) K w:=by
 have hb:=T.SF;have aB: ∀n,EG S.sp n≠none↔S.sp n≠none:=fun n=>by unfold EG;cases S.sp n<;>simp
 unfold F.Dz T0.Dz;refine Ad (vs:=[.pointer (some ⟨h,0,none⟩)]) H fun b1 w2 H2 _=>⟨_,H2.A2 rfl,?_⟩
 try simp only[AI]
 obtain⟨g,hI,H3⟩:=Sat.heap.1 (H2.front 1 rfl);refine⟨_,(Ba (S:=S) (g:=g) H3).2.2.2.2.1,oQ (H3.front 5 rfl) fun b7 N0 w8 H8=> ?_⟩;have aO:=H8.nil E.CV 1;refine AK (fun st w'=> ∃cur done N,Sat (R8 b7 g.sm .i64 (EG S.sp) cur done N::Row E.CV 1 st.1 (ints .i64 done)::(CH E h S g++Cells b1 E.BE [.pointer (some ⟨h,0,none⟩)]::Z).eraseIdx 5) w') (fun _ w'=>cM b7 g.sm w') ⟨none,[],N0,aO.front 1 rfl⟩ ?_;rintro⟨s,u⟩ _ aU ⟨cur,done,N,aA⟩;dsimp only at aA⊢;rw[aA.YD];refine An (cO aA (fun aL aC aG j=>An (Ac rfl ?_)) fun n v a6 N' aV J hN C j=>An (AV rfl fun j2=>iJ C fun v' S' a5=> ?_))
 ·obtain⟨J,aI⟩:=aC.YE;have aD:=Sat.Ng (Ps:=CH E h S g++Cells b1 E.BE [.pointer (some ⟨h,0,none⟩)]::Z) 5 ((aC.oO).front 1 rfl) (by simp[CH]);have aH:Sat (CH E h S g++(Row E.CV 1 s (ints .i64 done)::Cells b1 E.BE [.pointer (some ⟨h,0,none⟩)]::Z)) aL:=Sat.perm aD (List.perm_middle (l₁:=CH E h S g)).symm;have aE:=(Sat.heap.2 ⟨g,hI,aH⟩).front 1 rfl;have d: ∀n∈done,S.sp n≠none:=fun n hn=>(aB n).1 (aI n hn);have hlen:=hb done J d;have aJ:s.len<1099511627776:=by
   have:=(aC.front 1 rfl).FH;simp only[ints,List.length_map]at this;omega
  have hC:=TE (h:=h) (S:=S) hE (b1:=b1) (t:=E.BE) (s:=s) (l0:=done) (Z:=Z) d;refine Rl hC (fun P=>(TE (h:=h) (S:=S) hE (b1:=b1) (t:=E.BE) (s:=s) (l0:=done) (Z:=P::Z) d).ZF ?_) aJ (TC J fun x hx y hy=>T.wE (d x hx) (d y hy)) ⟨.refl _,aE⟩ fun l aM hs ⟨hp,H22⟩=> ?_
  ·exact List.perm_middle (l₁:=[Aj E h S,Cells b1 E.BE [.pointer (some ⟨h,0,none⟩)]])
  ·refine hK s l aM (hp.nodup_iff.2 J) (fun n=> ?_) hs (H22.front 2 rfl).tail;rw[hp.mem_iff,aG n,aB]
 ·refine fM ?_;have O:=C.YE;have hlen:=hb _ O.1 fun n hn=>(aB n).1 (O.2 n hn);have aP:=(C.front 1 rfl).FH;simp only[ints,List.length_map]at aP;simp only[List.length_append,List.length_singleton]at hlen;refine Ad (vs:=[.int .i64 n]) C fun a3 aY aN _=>GP (zs:= #[.int .i64 0]) (bytes:=8) ((aN.front 2 rfl).front 1 rfl) rfl rfl (by simp[Value.oneCell']) (by show(s.len+1)*8<=_;omega) (by omega) fun a0 a1 aF _=> ?_;rw[show ints .i64 done++[.int .i64 n]=ints .i64 (done++[n]) by simp[ints]]at aF;have Y:=aF.front 1 rfl;refine⟨⟨_,_,_,Y⟩,?_⟩;rw[Y.YD];exact hN
end
end Go.Sh
set_option linter.all false
set_option maxRecDepth 40000
set_option maxHeartbeats 4000000
namespace Go.Sh
theorem QD(k:IntKind)(l:List Int): ∀v∈ints k l,v.oneCell'=true:=by intro v d;simp[ints]at d;obtain⟨x,_,rfl⟩:=d;rfl
theorem fY(l:List Bool): ∀v∈A6 l,v.oneCell'=true:=by intro v d;simp[A6]at d;rcases d with ⟨_,rfl⟩|⟨_,rfl⟩<;>rfl
section
variable{E:Env}(hE:EnvS E){w:World}
include hE
end
end Go.Sh
set_option linter.all false
set_option maxRecDepth 40000
set_option maxHeartbeats 4000000
namespace Go.Sh
section
variable{E:Env}(hE:EnvS E){w:World}
include hE
end
end Go.Sh
set_option linter.all false
set_option maxRecDepth 40000
set_option maxHeartbeats 4000000
namespace Go.Sh
structure Plain(n:Int)(V:VS):Prop where
 laid:V.laid=[(512,1024)]
 ready: ∀p,mem V.ready p↔512<=p/\p<512+n
 rel:V.rel=[]
 rf:V.rf=[]
section
variable{E:Env}(hE:EnvS E){w:World}{Rs:List Pr}{b:Nat}{V:VS}
include hE
end
end Go.Sh
set_option linter.all false
set_option maxRecDepth 40000
set_option maxHeartbeats 4000000
namespace Go.Sh
section
variable{E:Env}(hE:EnvS E){w:World}
include hE
end
end Go.Sh
set_option linter.all false
set_option maxRecDepth 40000
set_option maxHeartbeats 4000000
namespace Go.Sh
section
variable{E:Env}(hE:EnvS E){w:World}
include hE
end
end Go.Sh
set_option linter.all false
set_option maxRecDepth 40000
set_option maxHeartbeats 4000000
namespace Go.Sh
def UJ(V:VS)(p:Int):Int:=if I9 V.laid p then if I9 V.ready p then 2 else if I9 V.rel p then 3 else 1 else 0
theorem JW{V:VS}(h:Nv V)(p:Int):(UJ V p=0/\ ¬mem V.laid p/\ ¬mem V.ready p/\ ¬mem V.rel p)∨(UJ V p=1/\mem V.laid p/\ ¬mem V.ready p/\ ¬mem V.rel p)∨(UJ V p=2/\mem V.laid p/\mem V.ready p/\ ¬mem V.rel p)∨(UJ V p=3/\mem V.laid p/\ ¬mem V.ready p/\mem V.rel p):=by
 unfold UJ;by_cases h1:mem V.laid p
 ·rw[if_pos (Az.2 h1)];by_cases h2:mem V.ready p
  ·rw[if_pos (Az.2 h2)];exact .inr (.inr (.inl ⟨rfl,h1,h2,h.re p h2⟩))
  ·rw[if_neg (fun e=>h2 (Az.1 e))];by_cases h3:mem V.rel p
   ·rw[if_pos (Az.2 h3)];exact .inr (.inr (.inr ⟨rfl,h1,h2,h3⟩))
   ·rw[if_neg (fun e=>h3 (Az.1 e))];exact .inr (.inl ⟨rfl,h1,h2,h3⟩)
 ·rw[if_neg (fun e=>h1 (Az.1 e))];exact .inl ⟨rfl,h1,fun e=>h1 (h.rl p e),fun e=>h1 (h.el p e)⟩
section
variable{E:Env}(hE:EnvS E){w:World}
include hE
end
end Go.Sh
set_option linter.all false
set_option maxRecDepth 4000
set_option maxHeartbeats 1000000
namespace Go.Sh
abbrev aU:=List (Int×Int×Int)
abbrev fZ:=List (Int×Int)
def aV(e:Int×Int×Int):List Value:=[.int .u64 e.1,.int .i64 e.2.1,.int .u64 e.2.2]
def ZG(e:Int×Int):List Value:=[.int .u64 e.1,.int .u64 e.2]
def kP(e:Int×Int×Int):Int:=e.1
def kW(e:Int×Int):Int:=e.1
theorem HL(e:Int×Int×Int):(aV e).length=3:=rfl
theorem GS(e:Int×Int):(ZG e).length=2:=rfl
theorem OR(e:Int×Int×Int): ∀v∈aV e,v.oneCell'=true:=by intro v d;simp[aV]at d;rcases d with rfl|rfl|rfl<;>rfl
theorem OS(e:Int×Int): ∀v∈ZG e,v.oneCell'=true:=by intro v d;simp[ZG]at d;rcases d with rfl|rfl<;>rfl
structure MG where
 s0:AZ
 s1:AZ
 s2:AZ
 s3:AZ
 s4:AZ
def MH(g:MG):List Value:=[Ie g.s0,Ie g.s1,Ie g.s2,Ie g.s3,Ie g.s4]
def EH(E:Env)(c:Nat)(V:VS)(g:MG)(P:aU)(W:fZ):List Pr:=
 [Cells c E.As (MH g),IJ g.s0 (ints .u64 V.pl),IJ g.s1 (A6 V.rf),IJ g.s2 (ints .u64 V.fl),Row E.Ai 3 g.s3 (Bj aV P),Row E.BS 2 g.s4 (Bj ZG W)]
structure Fa(V:VS)(P:aU)(W:fZ):Prop where
 ok:Nv V
 IK:IG kP P
 ZH:IG kW W
 hp: ∀p,mem V.laid p↔ ∃e∈P,kP e=p
 hs: ∀e∈P,e.2.1=UJ V e.1
 hw: ∀e∈W,e.1 %8=0/\mem V.ready (e.1/8192)/\V.wd (e.1/8192) (e.1 %8192/8)=e.2
 hf: ∀e∈P,mem V.ready e.1-> ∀i,0<=i->i<1024->(∀x∈W,x.1≠e.1*8192+i*8)->V.wd e.1 i=e.2.2
 Sg: ∀x∈V.pl,0<=x/\x<18446744073709551616
def Dl(E:Env)(c:Nat)(V:VS):Pr:=Ex fun x:MG×aU×fZ=>Jv (Fa V x.2.1 x.2.2) (Qe (EH E c V x.1 x.2.1 x.2.2))
section
variable{E:Env}{c:Nat}{V:VS}{Z:List Pr}{w:World}{g:MG}{P:aU}{W:fZ}
theorem Sat.Kj:Sat (Dl E c V::Z) w↔ ∃g P W,Fa V P W/\Sat (EH E c V g P W++Z) w:=by
 unfold Dl;rw[Sat.ex];constructor
 ·rintro⟨⟨g,P,W⟩,h⟩;rw[Sat.where,Sat.star]at h;exact⟨g,P,W,h.1,h.2⟩
 ·rintro⟨g,P,W,h1,d⟩;refine⟨⟨g,P,W⟩,?_⟩;rw[Sat.where,Sat.star];exact⟨h1,d⟩
theorem Fa.wF(h:Fa V P W){e:Int×Int×Int}(he:e∈P):mem V.laid e.1:=(h.hp _).2 ⟨e,he,rfl⟩
theorem Fa.QB(h:Fa V P W){e:Int×Int×Int}(he:e∈P):512<=e.1/\e.1<34359738368:=h.ok.Gn _ (h.wF he)
theorem Fa.lenP(h:Fa V P W):(P.length:Int)=DE V.laid:=
 P7 h.IK h.ok.JA h.hp (a:=0) (n:=34359738368) fun p hp=>by have:=h.ok.Gn p hp;omega
theorem Fa.gA(h:Fa V P W):P.length<=34359738368:=by
 have:=h.IK.SF (a:=0) (b:=34359738368) (by decide) fun e he=>by have:=h.QB he;unfold kP;omega
 omega
theorem TF: ∀{P:aU} {W:fZ},IG kP P->IG kW W->(∀x∈W,x.1 %8=0/\ ∃e∈P,e.1=x.1/8192)->W.length<=1024*P.length
 | [],[],_,_,_=>Nat.le_refl _
 | [],x::r,_,_,h=>by obtain⟨_,e,he,_⟩:=h x (by simp);cases he
 | e::r,W,hP,hW,h=>by
  have h1:=List.pairwise_cons.1 hP;have y: ∀x∈W,e.1<=x.1/8192:=fun x j=>by
   obtain⟨_,d,C,he⟩:=h x j;rcases List.mem_cons.1 C with g|g
   ·subst g;omega
   ·have:=h1.1 d g;unfold kP at this;omega
  have hk:(W.take (pos kW W ((e.1+1)*8192))).length<=1024:=by
   have hs:IG (fun x:Int×Int=>x.1/8) (W.take (pos kW W ((e.1+1)*8192))):=by
    have:=hW.take (pos kW W ((e.1+1)*8192));refine List.Pairwise.imp_of_mem ?_ this;intro a b O hb J;have e1:=(h a (EF O).1).1;have e2:=(h b (EF hb).1).1;unfold kW at J;show a.1/8<b.1/8;omega
   have:=hs.SF (a:=e.1*1024) (b:=(e.1+1)*1024) (by omega) fun x j=>by
    have v:=EF j;have K:=y x v.1;have T:=v.2;unfold kW at T;show e.1*1024<=x.1/8/\x.1/8<(e.1+1)*1024;omega
   omega
  have hr:=TF (P:=r) (W:=W.drop (pos kW W ((e.1+1)*8192))) h1.2 (hW.drop _) fun x j=>by
   have v:=FK hW j;obtain⟨K,d,C,he⟩:=h x v.1;refine⟨K,d,?_,he⟩;rcases List.mem_cons.1 C with g|g
   ·subst g;have:=v.2;unfold kW at this;omega
   ·exact g
  have Y:=congrArg List.length (List.take_append_drop (pos kW W ((e.1+1)*8192)) W);rw[List.length_append]at Y;rw[List.length_cons];omega
theorem Fa.fewW(h:Fa V P W):W.length<=1024*P.length:=
 TF h.IK h.ZH fun x d=>by
  obtain⟨h1,j,_⟩:=h.hw x d;obtain⟨e,he,v⟩:=(h.hp _).1 (h.ok.rl _ j);exact⟨h1,e,he,v⟩
theorem LS(H:Sat (EH E c V g P W++Z) w):P.length=g.s3.len/\g.s3.len<=g.s3.cap/\g.s3.cap<9223372036854775808:=(H.front 4 rfl).IW (by decide) HL
theorem ZI(H:Sat (EH E c V g P W++Z) w):W.length=g.s4.len/\g.s4.len<=g.s4.cap/\g.s4.cap<9223372036854775808:=(H.front 5 rfl).IW (by decide) GS
theorem MI(H:Sat (EH E c V g P W++Z) w){i:Nat}{e:Int×Int×Int}(hi:P[i]? =some e): ∃b,g.s3.base=some ⟨b,0,none⟩/\
  w.cell? ((Addr.mk b 0 none).add (i*3))=some (.int .u64 e.1)/\w.cell? (((Addr.mk b 0 none).add (i*3)).add 0)=some (.int .u64 e.1)/\w.cell? (((Addr.mk b 0 none).add (i*3)).add 1)=some (.int .i64 e.2.1)/\w.cell? (((Addr.mk b 0 none).add (i*3)).add 2)=some (.int .u64 e.2.2):=by
 have h:=H.front 4 rfl;obtain⟨b,d⟩:=h.Fx (by decide) HL (List.getElem?_eq_some_iff.1 hi).1;refine⟨b,d,?_,?_,?_,?_⟩
 ·exact h.CD HL d hi (j:=0) rfl
 ·rw[add_add];exact h.CD HL d hi (j:=0) rfl
 ·rw[add_add];exact h.CD HL d hi (j:=1) rfl
 ·rw[add_add];exact h.CD HL d hi (j:=2) rfl
theorem gB(H:Sat (EH E c V g P W++Z) w){i:Nat}{e:Int×Int}(hi:W[i]? =some e): ∃b,g.s4.base=some ⟨b,0,none⟩/\
  w.cell? ((Addr.mk b 0 none).add (i*2))=some (.int .u64 e.1)/\w.cell? (((Addr.mk b 0 none).add (i*2)).add 1)=some (.int .u64 e.2):=by
 have h:=H.front 5 rfl;obtain⟨b,d⟩:=h.Fx (by decide) GS (List.getElem?_eq_some_iff.1 hi).1;refine⟨b,d,?_,?_⟩
 ·exact h.CD GS d hi (j:=0) rfl
 ·rw[add_add];exact h.CD GS d hi (j:=1) rfl
theorem Ms(H:Sat (EH E c V g P W++Z) w){K:Bool->World->Prop}(h0:V.rf=[]->K false w)
  (h1: ∀x r,V.rf=x::r-> ∀s w',Sat (EH E c {V with rf:=r} {g with s1:=s} P W++Z) w'->K x w'):F.DH E (some ⟨c,0,none⟩) K w:=by
 unfold F.DH;have O:=(H.front 2 rfl).Ky;have d:=H.cell (o:=0) (m:=1) rfl;simp only[AI];refine⟨g.s1,d,BW (fun e=>h0 ?_) fun e=> ?_⟩
 ·have:(A6 V.rf).length=0:=by omega
  simpa[A6]using this
 ·cases hr:V.rf with
  | nil=>have:=O.1;rw[hr]at this;simp[A6]at this;omega
  | cons x r=>
   obtain⟨a,C,T⟩:=(H.front 2 rfl).Lq (j:=0) (v:=.bool x) (by rw[hr];rfl);refine⟨g.s1,d,?_⟩;rw[C];simp only[AI];refine⟨⟨by decide,by omega⟩,x,T,g.s1,d,⟨by decide,by omega⟩,?_⟩;have y:=Sat.back 2 ((H.front 2 rfl).Lr (n:=1) (by omega)) (by simp[EH]);rw[hr]at y;exact Ak y (o:=0) (m:=1) rfl (by simp[MH]) fun w' J=>h1 x r hr ⟨Gp g.s1.base g.s1.cap (Int.toNat 1) 1,g.s1.len-Int.toNat 1,g.s1.cap-Int.toNat 1⟩ w' J
theorem MJ{page AB:Int}(h0:0<=page)(v:0<=AB){K:Bool->World->Prop}(d: ∀b,(b=true↔FY page AB)->K b w):F.Dw E page AB K w:=by
 unfold F.Dw FY at *
 refine AD (fun h1=>AD (fun j=> ?_) fun j=> ?_) fun h1=> ?_
 ·rw[AM (n:=34359738368-page)];exact d _ (by simp only[decide_eq_true_eq];omega)
 ·exact d _ (by simp;omega)
 ·exact d _ (by simp;omega)
theorem Ir(y:Fa V P W)(H:Sat (EH E c V g P W++Z) w){n:Int}{K:Int->Bool->World->Prop}
  (C: ∀b,(b=true↔ ∃e,P[pos kP P n]? =some e/\e.1=n)-> ∀w',Sat (EH E c V g P W++Z) w'->K (pos kP P n:Nat) b w'):F.Bb E (some ⟨c,0,none⟩) n K w:=by
 unfold F.Bb;have j:=H.drew;have Y:=LS H;have hf:=y.gA;simp only[AI];refine⟨g.s3,j.cell rfl,?_⟩;refine bsearch (key:=kP) (by decide) HL (fun _=>rfl) y.IK (j.front 4 rfl) (j.cell rfl) (by omega) n fun st v=> ?_;have j:=j.drew;have hp:=JE (key:=kP) P n;rw[v];refine⟨g.s3,j.cell rfl,AD (fun O=> ?_) fun J=>C _ ⟨fun h=>by(cases h),fun⟨e,he,_⟩=>by have:=(List.getElem?_eq_some_iff.1 he).1;omega⟩ _ j⟩;obtain⟨e,he⟩: ∃e,P[pos kP P n]? =some e:=⟨_,List.getElem?_eq_getElem (by omega)⟩;obtain⟨b,T,h0,_⟩:=MI j he;refine⟨g.s3,j.cell rfl,?_⟩;rw[T];refine⟨⟨by omega,by omega⟩,e.1,h0,C _ ?_ _ j⟩;rw[beq_iff_eq];exact⟨fun h=>⟨e,he,h⟩,fun⟨d,hd,h⟩=>by rw[he]at hd;cases hd;exact h⟩
theorem TG(d:Fa V P W){n:Int}:(∃e,P[pos kP P n]? =some e/\e.1=n)↔mem V.laid n:=by
 rw[d.hp];exact⟨fun⟨e,he,h⟩=>⟨e,List.mem_of_getElem? he,h⟩,fun⟨e,he,h⟩=>⟨e,KD d.IK he h,h⟩⟩
theorem Pa(C:Fa V P W)(H:Sat (EH E c V g P W++Z) w){page AB:Int}(h0:0<=page)(p0:0<=AB)(h1:page+AB<18446744073709551616){K:Int->Bool->World->Prop}
  (J:(∀m,page<=m->m<page+AB-> ¬mem V.laid m)-> ∀w',Sat (EH E c V g P W++Z) w'->K 0 true w')
  (aA: ∀m,mem V.laid m->page<=m->m<page+AB->m<34359738368-> ∀w',Sat (EH E c V g P W++Z) w'->K (m+1) false w'):
  F.BC E (some ⟨c,0,none⟩) page AB K w:=by
 unfold F.BC T0.BC;refine Ir C H fun b _ w3 v=> ?_;have hl:=LS v;have hp:=JE (key:=kP) P page;simp only[AI];rw[AM (n:=page+AB) (by omega) h1];refine An ⟨g.s3,v.cell rfl,AD (fun aG=> ?_) fun aF j=>Ac rfl (J (fun m h1 h2 h3=> ?_) _ v)⟩
 ·obtain⟨e,he⟩: ∃e,P[pos kP P page]? =some e:=⟨_,List.getElem?_eq_getElem (by omega)⟩;obtain⟨b,hb,O,_⟩:=MI v he;have T:=pos_at he;have hr:=C.QB (List.mem_of_getElem? he);unfold kP at T;refine⟨g.s3,v.cell rfl,?_⟩;rw[hb];refine⟨⟨by omega,by omega⟩,e.1,by simpa using O,fun j=>AD (fun g1=> ?_) fun g1=>J (fun m h1 h2 h3=> ?_) _ v⟩
  ·refine⟨g.s3,v.cell rfl,?_⟩;rw[hb];refine⟨⟨by omega,by omega⟩,e.1,by simpa using O,?_⟩;rw[AM (n:=e.1+1)];exact aA e.1 (C.wF (List.mem_of_getElem? he)) T g1 hr.2 _ v
  ·obtain⟨d,hd,Y⟩:=(C.hp m).1 h3;obtain⟨j,y⟩:=List.mem_iff_getElem?.1 hd;rcases Nat.lt_or_ge j (pos kP P page)with q|q
   ·have:=Gw (key:=kP) y q;unfold kP at this Y;omega
   ·rcases Nat.lt_or_eq_of_le q with q|q
    ·have:=C.IK.lt he y q;unfold kP at this Y;omega
    ·subst q;rw[he]at y;cases y;unfold kP at Y;omega
 ·obtain⟨d,hd,Y⟩:=(C.hp m).1 h3;obtain⟨j,y⟩:=List.mem_iff_getElem?.1 hd;have:=(List.getElem?_eq_some_iff.1 y).1;have:=Gw (key:=kP) y (n:=page) (by omega);omega
theorem least(p:Nat->Prop): ∀n,p n-> ∃n,p n/\ ∀m,m<n-> ¬p m:=by
 intro n
 induction n using Nat.strongRecOn with
 | ind n ih=>
  intro h;rcases Classical.em (∃m,m<n/\p m)with ⟨m,h1,d⟩|j
  ·exact ih m h1 d
  ·exact⟨n,h,fun m h1 d=>j ⟨m,h1,d⟩⟩
theorem aW{l:Iv}(hl: ∀p,mem l p->p<34359738368)(d AB:Int)(hf:d<=34359738368): ∃a,KP l d AB a:=by
 have hex: ∃n:Nat,(512*(n:Int)) %512=0/\512<=512*(n:Int)/\d<=512*(n:Int)/\ ∀m,512*(n:Int)<=m->m<512*(n:Int)+AB-> ¬mem l m:=
  ⟨67108864,by decide,by decide,by omega,fun m h1 _ C=>by have:=hl m C;omega⟩
 obtain⟨O,y⟩:=hex;obtain⟨n,hs,j⟩:=least (fun n:Nat=>(512*(n:Int)) %512=0/\512<=512*(n:Int)/\d<=512*(n:Int)/\ ∀m,512*(n:Int)<=m->m<512*(n:Int)+AB-> ¬mem l m) O y;refine⟨512*(n:Int),hs.1,hs.2.1,hs.2.2.1,hs.2.2.2,fun a J h1 K C=> ?_⟩;have:=j (a/512).toNat (by omega);have e:512*(((a/512).toNat:Nat):Int)=a:=by omega
 rw[e]at this;exact Classical.byContradiction fun v=>this ⟨J,h1,K,fun m g1 T Y=>v ⟨m,g1,T,Y⟩⟩
theorem Pb(hI:Fa V P W)(H:Sat (EH E c V g P W++Z) w){d AB:Int}(h0:0<=d)(h1:d<18446744073709551616)(p0:0<AB)(p1:AB<=134217728){K:Int->Bool->World->Prop}
  (aH:JD V.laid d AB-> ∀w',Sat (EH E c V g P W++Z) w'->K 0 false w')
  (aN: ∀at_,Tr V.laid d AB at_-> ∀w',Sat (EH E c V g P W++Z) w'->K at_ true w'):
  F.Bh E (some ⟨c,0,none⟩) d AB K w:=by
 unfold F.Bh T0.Bh;have main: ∀page:Int,0<page->page<18446744073709551616->d<=page->(∀a,a %512=0->512<=a->d<=a->a<page-> ∃m,a<=m/\m<a+AB/\mem V.laid m)->
   Ay (Int×Unit) (page,()) w fun s4 _ w5 aF=>
   CND (decide ((s4.1:Int)≥34359738368)) (
    K 0 false w5
   ) (
    Am (Int×Unit) (fun J7=>
     512≠(0:Int)/\
     CND (((Int.tmod s4.1 512):Int) !=0) (
      512≠(0:Int)/\
      Gc (u64 ((u64 (s4.1+512))-(Int.tmod s4.1 512)):Int) fun aA=>
      J7 (aA,()) w5
     ) (
      J7 (s4.1,()) w5
     )
    ) fun s8 _ w9=>
     Am (Bool×Unit) (fun aB=>
      CND (decide ((s8.1:Int)≥34359738368)) (
       aB (true,()) w9
      ) (
       aB (decide ((AB:Int)>(u64 (34359738368-s8.1))),()) w9
      )
     ) fun aE _ Y=>
      CND (aE.1) (
       K 0 false Y
      ) (
       F.BC E (some ⟨c,0,none⟩) s8.1 AB (fun C aG aC=>
       CND (aG) (
        K s8.1 true aC
       ) (
        aF (C,()) aC
       )
       ) Y
      )
   ):=by
  intro page O aD T y;refine AK (fun st w'=>0<st.1/\st.1<18446744073709551616/\d<=st.1/\(∀a,a %512=0->512<=a->d<=a->a<st.1-> ∃m,a<=m/\m<a+AB/\mem V.laid m)/\Sat (EH E c V g P W++Z) w') (fun st _=>(34359738368+1-st.1).toNat) ⟨O,aD,T,y,H⟩ ?_;clear O aD T y H page;rintro⟨page,v⟩ _ w5 ⟨O,aD,T,y,H⟩;dsimp only at O aD T y⊢;have aJ: ∀p,mem V.laid p->p<34359738368:=fun p hp=>(hI.ok.Gn p hp).2;have none: ∀page:Int,d<=page->(∀a,a %512=0->512<=a->d<=a->a<page-> ∃m,a<=m/\m<a+AB/\mem V.laid m)->34359738368<page+AB->JD V.laid d AB:=fun page T y aY=>by
   rcases Int.lt_or_le 34359738368 d with g|g
   ·exact .inl g
   ·obtain⟨a,ha⟩:=aW aJ d AB g;refine .inr ⟨a,ha,fun h=> ?_⟩;rcases Int.lt_or_le a page with q|q
    ·obtain⟨m,m1,m2,m3⟩:=y a ha.mul ha.low ha.fr q;exact ha.free m m1 m2 m3
    ·omega
  refine AD (fun aZ=>aH (none page T y (by omega)) _ H) fun aS=> ?_;have cont: ∀q:Int,page<=q->q<page+512->q %512=0-> ∀j:Nat->Value,
    Am (Bool×Unit) (fun aB=>
      CND (decide ((q:Int)≥34359738368)) (
       aB (true,()) w5
      ) (
       aB (decide ((AB:Int)>(u64 (34359738368-q))),()) w5
      )
     ) fun aE _ Y=>
      CND (aE.1) (
       K 0 false Y
      ) (
       F.BC E (some ⟨c,0,Option.none⟩) q AB (fun C aG aC=>
       CND (aG) (
        K q true aC
       ) (
        ((0<C/\C<18446744073709551616/\d<=C/\(∀a,a %512=0->512<=a->d<=a->a<C-> ∃m,a<=m/\m<a+AB/\mem V.laid m)/\Sat (EH E c V g P W++Z) aC)/\(34359738368+1-C).toNat<(34359738368+1-page).toNat)
       )
       ) Y
      ):=by
   intro q q0 q1 q8 j;have J: ∀a,a %512=0->512<=a->d<=a->a<q-> ∃m,a<=m/\m<a+AB/\mem V.laid m:=fun a a1 a2 a3 a4=>y a a1 a2 a3 (by omega);refine An (AD (fun g1 j=>AV rfl (aH (none q (by omega) J (by omega)) _ H)) fun g1=> ?_);rw[AM (n:=34359738368-q)];refine fun j=>AD (fun g2=>aH (none q (by omega) J (by omega)) _ H) fun g2=> ?_;refine Pa hI H (by omega) (by omega) (by omega) (fun aP w' H'=>AV rfl (aN q ⟨by omega,⟨q8,by omega,by omega,aP,J⟩,by omega⟩ _ H')) fun m m0 m1 m2 m3 w' H'=>Ac rfl ⟨⟨by omega,by omega,by omega,fun a a1 a2 a3 a4=> ?_,H'⟩,by omega⟩;rcases Int.lt_or_le a q with g|g
   ·exact J a a1 a2 a3 g
   ·exact⟨m,by omega,by omega,m0⟩
  rw[Int.tmod_eq_emod_of_nonneg (by omega)];refine An ⟨by decide,Cz (fun hm=>⟨by decide,AU fun q hq=> ?_⟩) fun hm=>cont page (Int.le_refl _) (by omega) hm⟩;rw[AM (n:=page+512),AM]at hq;exact cont q (by omega) (by omega) (by omega)
 refine An (BW (fun e j=>main 512 (by decide) (by decide) (by omega) fun a _ a2 _ a4=>by omega) fun e j=>main d (by omega) h1 (Int.le_refl _) fun a _ _ a3 a4=>by omega)
theorem Pc(H:Sat (Dl E c V::Z) w){n:Int}{K:Int->World->Prop}(J: ∀w',Sat (Dl E c V::Z) w'->K (UJ V n) w'):F.B6 E (some ⟨c,0,none⟩) n K w:=by
 obtain⟨g,P,W,d,H⟩:=Sat.Kj.1 H;unfold F.B6 T0.B6;refine Ir d H fun b j y v=> ?_;have fin:=J y (Sat.Kj.2 ⟨g,P,W,d,v⟩);have T:=LS v;cases b
 ·refine AV rfl ?_;have: ¬mem V.laid n:=fun h=>by have:=j.2 ((TG d).2 h);cases this
  have e:UJ V n=0:=by unfold UJ;rw[if_neg fun h=>this (Az.1 h)]
  rw[e]at fin;exact fin
 ·refine Ac rfl ?_;obtain⟨e,he,O⟩:=j.1 rfl;obtain⟨b,j,_,_,h1,_⟩:=MI v he;have C:=(List.getElem?_eq_some_iff.1 he).1;simp only[AI];refine⟨g.s3,v.cell rfl,?_⟩;rw[j];refine⟨⟨by omega,by omega⟩,e.2.1,by simpa using h1,?_⟩;rw[d.hs e (List.mem_of_getElem? he),O];exact fin
def mU(V:VS)(k:Int):Int:=if k=2 then DE V.ready else if k=3 then DE V.rel else if k=1 then DE V.laid-DE V.ready-DE V.rel else 0
theorem WI: ∀(P:aU),(∀e∈P,e.2.1=1∨e.2.1=2∨e.2.1=3)->P.length=(P.filter fun e=>e.2.1==1).length+(P.filter fun e=>e.2.1==2).length+(P.filter fun e=>e.2.1==3).length
 | [],_=>rfl
 | e::r,h=>by
  have v:=WI r fun d j=>h d (by simp[j]);rcases h e (by simp)with g|g|g<;>simp[List.filter_cons,g,v]<;>omega
theorem WJ(j:Fa V P W){k:Int}(d:k≠0):((P.filter fun e=>e.2.1==k).length:Int)=mU V k:=by
 have v: ∀e∈P,(e.2.1=1/\ ¬mem V.ready e.1/\ ¬mem V.rel e.1)∨(e.2.1=2/\mem V.ready e.1/\ ¬mem V.rel e.1)∨(e.2.1=3/\ ¬mem V.ready e.1/\mem V.rel e.1):=fun e he=>by
  have h:=j.hs e he;have hm:=j.wF he;rcases JW j.ok e.1 with ⟨_,g,_⟩|⟨K,_,C,J⟩|⟨K,_,C,J⟩|⟨K,_,C,J⟩
  ·exact absurd hm g
  ·exact .inl ⟨h.trans K,C,J⟩
  ·exact .inr (.inl ⟨h.trans K,C,J⟩)
  ·exact .inr (.inr ⟨h.trans K,C,J⟩)
 have y:((P.filter fun e=>e.2.1==2).length:Int)=DE V.ready:=by
  refine P7 (j.IK.filter _) j.ok.KT (fun p=> ?_) (a:=0) (n:=34359738368) fun p hp=>by have:=j.ok.Gn p (j.ok.rl p hp);omega
  constructor
  ·intro hp;obtain⟨e,he,d⟩:=(j.hp p).1 (j.ok.rl p hp);refine⟨e,List.mem_filter.2 ⟨he,?_⟩,d⟩;rcases v e he with ⟨_,g,_⟩|⟨g,_,_⟩|⟨_,g,_⟩
   ·unfold kP at d;rw[d]at g;exact absurd hp g
   ·simp[g]
   ·unfold kP at d;rw[d]at g;exact absurd hp g
  ·rintro⟨e,he,d⟩;obtain⟨he,y⟩:=List.mem_filter.1 he;unfold kP at d;rcases v e he with ⟨g,_,_⟩|⟨_,g,_⟩|⟨g,_,_⟩
   ·rw[g]at y;cases y
   ·rw[d]at g;exact g
   ·rw[g]at y;cases y
 have O:((P.filter fun e=>e.2.1==3).length:Int)=DE V.rel:=by
  refine P7 (j.IK.filter _) j.ok.MZ (fun p=> ?_) (a:=0) (n:=34359738368) fun p hp=>by have:=j.ok.Gn p (j.ok.el p hp);omega
  constructor
  ·intro hp;obtain⟨e,he,d⟩:=(j.hp p).1 (j.ok.el p hp);refine⟨e,List.mem_filter.2 ⟨he,?_⟩,d⟩;unfold kP at d;rcases v e he with ⟨_,_,g⟩|⟨_,_,g⟩|⟨g,_,_⟩
   ·rw[d]at g;exact absurd hp g
   ·rw[d]at g;exact absurd hp g
   ·simp[g]
  ·rintro⟨e,he,d⟩;obtain⟨he,y⟩:=List.mem_filter.1 he;unfold kP at d;rcases v e he with ⟨g,_,_⟩|⟨g,_,_⟩|⟨_,_,g⟩
   ·rw[g]at y;cases y
   ·rw[g]at y;cases y
   ·rw[d]at g;exact g
 have h1:=WI P fun e he=>(v e he).elim (fun g=>.inl g.1) fun g=>g.elim (fun g=>.inr (.inl g.1)) fun g=>.inr (.inr g.1);have T:=j.lenP;unfold mU;by_cases e2:k=2
 ·subst e2;rw[if_pos rfl];exact y
 rw[if_neg e2];by_cases e3:k=3
 ·subst e3;rw[if_pos rfl];exact O
 rw[if_neg e3];by_cases e1:k=1
 ·subst e1;rw[if_pos rfl];omega
 rw[if_neg e1];have:(P.filter fun e=>e.2.1==k)=[]:=by
  rw[List.filter_eq_nil_iff];intro e he;rcases v e he with ⟨g,_⟩|⟨g,_⟩|⟨g,_⟩<;>rw[g]<;>simp<;>omega
 rw[this];rfl
def Xw(P:aU)(k:Int)(i:Nat):Int:=if k=0 then 0 else(((P.take i).filter fun e=>e.2.1==k).length:Int)
theorem WK(H:Sat (Dl E c V::Z) w){k:Int}{K:Int->World->Prop}(hK: ∀w',Sat (Dl E c V::Z) w'->K (mU V k) w'):F.Ew E (some ⟨c,0,none⟩) k K w:=by
 have H0:=H;obtain⟨g,P,W,T,H⟩:=Sat.Kj.1 H;have hl:=LS H;have hf:=T.gA;unfold F.Ew;refine AK (fun st w'=>w'=w/\ ∃i:Nat,st.2.1=i/\i<=P.length/\st.1=Xw P k i) (fun st _=>(P.length-st.2.1).toNat) ⟨rfl,0,rfl,Nat.zero_le _,by simp[Xw]⟩ ?_;rintro⟨n,i',v⟩ _ w' ⟨C,i,hi,Y,d⟩;subst C;dsimp only at hi d⊢;subst hi;simp only[AI];refine⟨g.s3,H.cell rfl,AD (fun aB=> ?_) fun aA=> ?_⟩
 ·obtain⟨e,he⟩: ∃e,P[i]? =some e:=⟨_,List.getElem?_eq_getElem (by omega)⟩;obtain⟨b,hb,_,_,h1,_⟩:=MI H he;have O:i<P.length:=by omega
  have y:P.take (i+1)=P.take i++[e]:=by rw[List.take_succ,he];rfl
  have aF:((P.take i).filter fun e=>e.2.1==k).length<=i:=Nat.le_trans (List.length_filter_le _ _) (by rw[List.length_take];omega);rw[AH (n:=(i:Int)+1)];refine An ⟨g.s3,H.cell rfl,?_⟩;rw[hb];refine⟨⟨by omega,by omega⟩,e.2.1,by simpa using h1,BW (fun J j=>Cz (fun k0=> ?_) fun k0=> ?_) fun J j=>Ac rfl ?_⟩
  ·unfold Xw at d;rw[if_neg k0]at d;rw[d,AM];refine⟨⟨by trivial,i+1,by omega,by omega,?_⟩,by omega⟩;unfold Xw;rw[if_neg k0,y,List.filter_append,List.length_append];simp[List.filter_cons,J]
  ·refine⟨⟨by trivial,i+1,by omega,by omega,?_⟩,by omega⟩;rw[d];unfold Xw;rw[if_pos k0,if_pos k0]
  ·refine⟨⟨by trivial,i+1,by omega,by omega,?_⟩,by omega⟩;rw[d];unfold Xw;rw[y,List.filter_append,List.length_append];simp[List.filter_cons,J]
 ·have:=hK w' H0;have e:n=mU V k:=by
   rw[d];unfold Xw;rw[List.take_of_length_le (by omega)];by_cases k0:k=0
   ·rw[if_pos k0,k0];rfl
   ·rw[if_neg k0];exact WJ T k0
  rw[e];exact this
end
end Go.Sh
set_option linter.all false
set_option maxRecDepth 4000
set_option maxHeartbeats 1000000
namespace Go.Sh
section
variable{V V':VS}{P:aU}{W W':fZ}{p:Int}
theorem gC(h:Nv V)(d:mem V.ready p):UJ V p=2:=by
 rcases JW h p with ⟨_,_,g,_⟩|⟨_,_,g,_⟩|⟨g,_⟩|⟨_,_,g,_⟩
 ·exact absurd d g
 ·exact absurd d g
 ·exact g
 ·exact absurd d g
theorem stV_3(h:Nv V)(d:mem V.rel p):UJ V p=3:=by
 rcases JW h p with ⟨_,_,_,g⟩|⟨_,_,_,g⟩|⟨_,_,_,g⟩|⟨g,_⟩
 ·exact absurd d g
 ·exact absurd d g
 ·exact absurd d g
 ·exact g
theorem stV_1(h:Nv V)(h1:mem V.laid p)(d: ¬mem V.ready p)(j: ¬mem V.rel p):UJ V p=1:=by
 rcases JW h p with ⟨_,g,_⟩|⟨g,_⟩|⟨_,_,g,_⟩|⟨_,_,_,g⟩
 ·exact absurd h1 g
 ·exact g
 ·exact absurd g d
 ·exact absurd g j
theorem Kk(h1:mem V'.laid p↔mem V.laid p)(y:mem V'.ready p↔mem V.ready p)(C:mem V'.rel p↔mem V.rel p):UJ V' p=UJ V p:=by
 have d:I9 V'.laid p=I9 V.laid p:=Bool.eq_iff_iff.2 (by rw[Az,Az];exact h1);have v:I9 V'.ready p=I9 V.ready p:=Bool.eq_iff_iff.2 (by rw[Az,Az];exact y);have j:I9 V'.rel p=I9 V.rel p:=Bool.eq_iff_iff.2 (by rw[Az,Az];exact C);unfold UJ;rw[d,v,j]
theorem Fa.st(y:Fa V P W){e:Int×Int×Int}(he:e∈P):(e.2.1=1/\ ¬mem V.ready e.1/\ ¬mem V.rel e.1)∨(e.2.1=2/\mem V.ready e.1/\ ¬mem V.rel e.1)∨(e.2.1=3/\ ¬mem V.ready e.1/\mem V.rel e.1):=by
 have h:=y.hs e he;have hm:=y.wF he;rcases JW y.ok e.1 with ⟨_,g,_⟩|⟨d,_,j,v⟩|⟨d,_,j,v⟩|⟨d,_,j,v⟩
 ·exact absurd hm g
 ·exact .inl ⟨h.trans d,j,v⟩
 ·exact .inr (.inl ⟨h.trans d,j,v⟩)
 ·exact .inr (.inr ⟨h.trans d,j,v⟩)
theorem Fa.nX(d:Fa V P W){e:Int×Int×Int}(he:e∈P):e.2.1=2↔mem V.ready e.1:=by
 rcases d.st he with ⟨g,h,_⟩|⟨g,h,_⟩|⟨g,h,_⟩
 ·exact⟨fun k=>by omega,fun k=>absurd k h⟩
 ·exact⟨fun _=>h,fun _=>g⟩
 ·exact⟨fun k=>by omega,fun k=>absurd k h⟩
theorem Fa.is3(d:Fa V P W){e:Int×Int×Int}(he:e∈P):e.2.1=3↔mem V.rel e.1:=by
 rcases d.st he with ⟨g,_,h⟩|⟨g,_,h⟩|⟨g,_,h⟩
 ·exact⟨fun k=>by omega,fun k=>absurd k h⟩
 ·exact⟨fun k=>by omega,fun k=>absurd k h⟩
 ·exact⟨fun _=>h,fun _=>g⟩
theorem ZJ{F:Int×Int×Int->Int×Int×Int}(d: ∀e,kP (F e)=kP e)(hs:IG kP P):IG kP (P.map F):=by
 unfold IG;rw[List.pairwise_map];exact List.Pairwise.imp (fun h=>by rw[d,d];exact h) hs
theorem map_set{F v:Int×Int×Int->Int×Int×Int}(hs:IG kP P){j:Nat}{e:Int×Int×Int}(y:P[j]? =some e)(h: ∀d∈P,d.1≠e.1->v d=F d):(P.map F).set j (v e)=P.map v:=by
 apply List.ext_getElem?;intro i;rw[List.getElem?_set,List.getElem?_map,List.getElem?_map,List.length_map];by_cases C:j=i
 ·subst C;rw[if_pos rfl,if_pos (List.getElem?_eq_some_iff.1 y).1,y];rfl
 ·rw[if_neg C];cases hd:P[i]? with
  | none=>rfl
  | some d=>
   have:d.1≠e.1:=by
    rcases Nat.lt_or_gt_of_ne C with q|q
    ·have:=hs.lt y hd q;unfold kP at this;omega
    ·have:=hs.lt hd y q;unfold kP at this;omega
   show some (F d)=some (v d);rw[h d (List.mem_of_getElem? hd) this]
theorem Fa.full(d:Fa V P W){a:Int}{n:Nat}(hf: ∀m,a<=m->m<a+n->mem V.laid m){k:Nat}(C:k<n): ∃e,P[pos kP P a+k]? =some e/\e.1=a+k:=by
 obtain⟨e,he,j⟩:=(d.hp (a+k)).1 (hf _ (by omega) (by omega));have h1:=KD d.IK he j;have v:=Tu d.IK d.ok.JA d.hp a k;rw[(DM d.ok.JA (by omega)).2 fun m m1 y=>hf m m1 (by omega)]at v;rw[show pos kP P (a+(k:Int))=pos kP P a+k by omega]at h1;exact⟨e,h1,j⟩
theorem Fa.UK(v:Fa V P W)(Bi:Nv V'){a:Int}{n:Nat}(T:V'.ready=V.ready)(hl:V'.rel=V.rel)(J:V'.wd=V.wd)(Y: ∀x∈V'.pl,x∈V.pl)
  (hm: ∀p,mem V'.laid p↔mem V.laid p∨(a<=p/\p<a+n))(y: ∀p,a<=p->p<a+n-> ¬mem V.laid p):
  Fa V' (P.take (pos kP P a)++((List.range n).map fun i:Nat=>(a+(i:Int),(1:Int),(0:Int)))++P.drop (pos kP P a)) W:=by
 have d: ∀e,e∈P.take (pos kP P a)++((List.range n).map fun i:Nat=>(a+(i:Int),(1:Int),(0:Int)))++P.drop (pos kP P a)↔e∈P∨ ∃i:Nat,i<n/\e=(a+(i:Int),1,0):=fun e=>by
  rw[List.mem_append,List.mem_append,List.mem_map];constructor
  ·rintro((h|⟨i,h,rfl⟩)|h)
   ·exact .inl (EF h).1
   ·exact .inr ⟨i,List.mem_range.1 h,rfl⟩
   ·exact .inl (FK v.IK h).1
  ·rintro(h|⟨i,h,rfl⟩)
   ·rcases Int.lt_or_le (kP e) a with g|g
    ·exact .inl (.inl (Ot v.IK h g))
    ·exact .inr (Ou h g)
   ·exact .inl (.inr ⟨i,List.mem_range.2 h,rfl⟩)
 have K: ∀p,a<=p->p<a+n-> ¬mem V.ready p/\ ¬mem V.rel p:=fun p h1 h2=>⟨fun h=>y p h1 h2 (v.ok.rl p h),fun h=>y p h1 h2 (v.ok.el p h)⟩;refine⟨Bi,?_,v.ZH,fun p=> ?_,fun e he=> ?_,fun e he=> ?_,fun e he C i h0 h1 hx=> ?_,fun x hx=>v.Sg x (Y x hx)⟩
 ·refine IG.hZ (v.IK.take _) ?_ (v.IK.drop _) (a:=a) (b:=a+n) (by omega) (fun e he=>(EF he).2) (fun e he=> ?_) fun e he=> ?_
  ·unfold IG;rw[List.pairwise_map];exact List.Pairwise.imp (fun h=>by unfold kP;dsimp only;omega) List.pairwise_lt_range
  ·obtain⟨i,hi,rfl⟩:=List.mem_map.1 he;have:=List.mem_range.1 hi;unfold kP;dsimp only;omega
  ·have h1:=FK v.IK he;rcases Int.lt_or_le (kP e) (a+n)with g|g
   ·exact absurd (v.wF h1.1) (y _ h1.2 g)
   ·exact g
 ·rw[hm,v.hp];constructor
  ·rintro(⟨e,he,O⟩|⟨h1,h2⟩)
   ·exact⟨e,(d e).2 (.inl he),O⟩
   ·refine⟨(p,1,0),(d _).2 (.inr ⟨(p-a).toNat,by omega,?_⟩),rfl⟩;rw[show a+((p-a).toNat:Int)=p by omega]
  ·rintro⟨e,he,O⟩;rcases(d e).1 he with h|⟨i,hi,rfl⟩
   ·exact .inl ⟨e,h,O⟩
   ·unfold kP at O;dsimp only at O;exact .inr (by omega)
 ·rcases(d e).1 he with h|⟨i,hi,rfl⟩
  ·rw[v.hs e h];refine(Kk ⟨fun g=> ?_,fun g=>(hm _).2 (.inl g)⟩ (by rw[T]) (by rw[hl])).symm;exact v.wF h
  ·have:=K (a+(i:Int)) (by omega) (by omega);exact(stV_1 Bi ((hm _).2 (.inr ⟨by dsimp only;omega,by dsimp only;omega⟩)) (by rw[T];exact this.1) (by rw[hl];exact this.2)).symm
 ·rw[T,J];exact v.hw e he
 ·rw[T]at C;rcases(d e).1 he with h|⟨j,hj,rfl⟩
  ·rw[J];exact v.hf e h C i h0 h1 hx
  ·exact absurd C (K (a+(j:Int)) (by omega) (by omega)).1
def cF(V:VS)(page x:Int)(e:Int×Int×Int):Int×Int×Int:=if page<=e.1/\e.1<x/\e.2.1≠2 then(e.1,2,if e.2.1=3 then GQ V page e.1 else 0)else e
theorem Rm(V:VS)(page x:Int)(e:Int×Int×Int):kP (cF V page x e)=kP e:=by unfold cF;split<;>rfl
theorem Fa.ND(j:Fa V P W){page AB:Int}(Bi:Nv V')(h1:V'.laid=V.laid)(J: ∀p,mem V'.ready p↔mem V.ready p∨(page<=p/\p<page+AB))(h3: ∀p,mem V'.rel p↔mem V.rel p/\ ¬(page<=p/\p<page+AB))
  (O: ∀p i,V'.wd p i=if page<=p/\p<page+AB/\I9 V.rel p=true then GQ V page p else V.wd p i)(Y: ∀x∈V'.pl,x∈V.pl):Fa V' (P.map (cF V page (page+AB))) W:=by
 refine⟨Bi,ZJ (Rm V page _) j.IK,j.ZH,fun p=> ?_,fun e' v=> ?_,fun x K=> ?_,fun e' v y i i0 i1 K=> ?_,fun x K=>j.Sg x (Y x K)⟩
 ·rw[h1,j.hp];constructor
  ·rintro⟨e,he,C⟩;exact⟨_,List.mem_map_of_mem he,(Rm V page _ e).trans C⟩
  ·rintro⟨e',v,C⟩;obtain⟨e,he,rfl⟩:=List.mem_map.1 v;exact⟨e,he,(Rm V page _ e).symm.trans C⟩
 ·obtain⟨e,he,rfl⟩:=List.mem_map.1 v;have C:(cF V page (page+AB) e).1=e.1:=Rm V page _ e;rw[C];unfold cF;by_cases c:page<=e.1/\e.1<page+AB/\e.2.1≠2
  ·rw[if_pos c];exact(gC Bi ((J _).2 (.inr ⟨c.1,c.2.1⟩))).symm
  ·rw[if_neg c];by_cases c2:mem V.ready e.1
   ·rw[(j.nX he).2 c2];exact(gC Bi ((J _).2 (.inl c2))).symm
   ·have c3: ¬(page<=e.1/\e.1<page+AB):=fun g=>c ⟨g.1,g.2,fun k=>c2 ((j.nX he).1 k)⟩;rw[j.hs e he];refine(Kk (by rw[h1]) ?_ ?_).symm
    ·rw[J];exact⟨fun g=>g.elim id fun g=>absurd g c3,.inl⟩
    ·rw[h3];exact⟨fun g=>g.1,fun g=>⟨g,c3⟩⟩
 ·obtain⟨g1,g2,g3⟩:=j.hw x K;refine⟨g1,(J _).2 (.inl g2),?_⟩;rw[O,if_neg fun g=>j.ok.re _ g2 (Az.1 g.2.2)];exact g3
 ·obtain⟨e,he,rfl⟩:=List.mem_map.1 v;have C:(cF V page (page+AB) e).1=e.1:=Rm V page _ e;rw[C]at y K⊢;rw[O];rcases j.st he with ⟨s,r1,T⟩|⟨s,r1,T⟩|⟨s,r1,T⟩
  ·have d:=((J _).1 y).resolve_left r1;rw[if_neg fun g=>T (Az.1 g.2.2)];unfold cF;rw[if_pos ⟨d.1,d.2,by omega⟩];dsimp only;rw[if_neg (by omega)];exact j.ok.clean _ _ i0 i1 r1
  ·rw[if_neg fun g=>T (Az.1 g.2.2)];unfold cF;rw[if_neg fun g=>g.2.2 s];exact j.hf e he r1 i i0 i1 K
  ·have d:=((J _).1 y).resolve_left r1;rw[if_pos ⟨d.1,d.2,Az.2 T⟩];unfold cF;rw[if_pos ⟨d.1,d.2,by omega⟩];dsimp only;rw[if_pos s]
def rF(page x:Int)(e:Int×Int×Int):Int×Int×Int:=if page<=e.1/\e.1<x then(e.1,3,0)else e
theorem Rn(page x:Int)(e:Int×Int×Int):kP (rF page x e)=kP e:=by unfold rF;split<;>rfl
theorem Fa.release(y:Fa V P W){page AB:Int}(Bi:Nv V')(h1:V'.laid=V.laid)(Y: ∀p,mem V'.ready p↔mem V.ready p/\ ¬(page<=p/\p<page+AB))(h3: ∀p,mem V'.rel p↔mem V.rel p∨(page<=p/\p<page+AB))
  (C: ∀p i,V'.wd p i=if page<=p/\p<page+AB then 0 else V.wd p i)(K: ∀x∈V'.pl,x∈V.pl)(O:IG kW W')(hw: ∀x,x∈W'↔x∈W/\ ¬(page*8192<=x.1/\x.1<page*8192+AB*8192)):Fa V' (P.map (rF page (page+AB))) W':=by
 refine⟨Bi,ZJ (Rn page _) y.IK,O,fun p=> ?_,fun e' d=> ?_,fun x j=> ?_,fun e' d J i i0 i1 j=> ?_,fun x j=>y.Sg x (K x j)⟩
 ·rw[h1,y.hp];constructor
  ·rintro⟨e,he,v⟩;exact⟨_,List.mem_map_of_mem he,(Rn page _ e).trans v⟩
  ·rintro⟨e',d,v⟩;obtain⟨e,he,rfl⟩:=List.mem_map.1 d;exact⟨e,he,(Rn page _ e).symm.trans v⟩
 ·obtain⟨e,he,rfl⟩:=List.mem_map.1 d;have v:(rF page (page+AB) e).1=e.1:=Rn page _ e;rw[v];unfold rF;by_cases c:page<=e.1/\e.1<page+AB
  ·rw[if_pos c];exact(stV_3 Bi ((h3 _).2 (.inr c))).symm
  ·rw[if_neg c,y.hs e he];refine(Kk (by rw[h1]) ?_ ?_).symm
   ·rw[Y];exact⟨fun g=>g.1,fun g=>⟨g,c⟩⟩
   ·rw[h3];exact⟨fun g=>g.elim id fun g=>absurd g c,.inl⟩
 ·obtain⟨j,aB⟩:=(hw x).1 j;obtain⟨g1,g2,g3⟩:=y.hw x j;have c: ¬(page<=x.1/8192/\x.1/8192<page+AB):=by omega
  refine⟨g1,(Y _).2 ⟨g2,c⟩,?_⟩;rw[C,if_neg c];exact g3
 ·obtain⟨e,he,rfl⟩:=List.mem_map.1 d;have v:(rF page (page+AB) e).1=e.1:=Rn page _ e;rw[v]at J j⊢;obtain⟨r1,c⟩:=(Y _).1 J;rw[C,if_neg c];unfold rF;rw[if_neg c];refine y.hf e he r1 i i0 i1 fun x T aA=>j x ((hw x).2 ⟨T,by omega⟩) aA
theorem gE(hs:IG kW W){a b:Int}(d:a<=b)(x:Int×Int):x∈W.take (pos kW W a)++W.drop (pos kW W b)↔x∈W/\ ¬(a<=x.1/\x.1<b):=by
 rw[List.mem_append];constructor
 ·rintro(h|h)
  ·have:=EF h;unfold kW at this;exact⟨this.1,by omega⟩
  ·have:=FK hs h;unfold kW at this;exact⟨this.1,by omega⟩
 ·rintro⟨h,g⟩;rcases Int.lt_or_le x.1 a with q|q
  ·exact .inl (Ot hs h q)
  ·exact .inr (Ou h (by unfold kW;omega))
theorem gF(hs:IG kW W){a b:Int}(j:a<=b):IG kW (W.take (pos kW W a)++W.drop (pos kW W b)):=by
 unfold IG;rw[List.pairwise_append];refine⟨hs.take _,hs.drop _,fun x d y v=> ?_⟩;have:=(EF d).2;have:=(FK hs v).2;omega
theorem Fa.store(v:Fa V P W){addr x:Int}(Bi:Nv V')(h1:V'.laid=V.laid)(K:V'.ready=V.ready)(h3:V'.rel=V.rel)(O:V'.pl=V.pl)(ha:addr %8=0)(hr:mem V.ready (addr/8192))
  (j: ∀p i,0<=i->i<1024->V'.wd p i=if p=addr/8192/\i=addr %8192/8 then x else V.wd p i)(T:IG kW W')(hw: ∀y,y∈W'↔(y∈W/\y.1≠addr)∨y=(addr,x)):Fa V' P W':=by
 refine⟨Bi,v.IK,T,fun p=>by rw[h1];exact v.hp p,fun e he=> ?_,fun y J=> ?_,fun e he C i i0 i1 hx=> ?_,fun y J=>v.Sg y (by rw[<-O];exact J)⟩
 ·rw[v.hs e he];exact(Kk (by rw[h1]) (by rw[K]) (by rw[h3])).symm
 ·rcases(hw y).1 J with ⟨h,d⟩|rfl
  ·obtain⟨g1,g2,g3⟩:=v.hw y h;refine⟨g1,by rw[K];exact g2,?_⟩;rw[j _ _ (by omega) (by omega),if_neg fun g=>d (by omega)];exact g3
  ·refine⟨ha,by rw[K];exact hr,?_⟩;dsimp only;rw[j _ _ (by omega) (by omega),if_pos ⟨rfl,rfl⟩]
 ·rw[K]at C;have d: ¬(e.1=addr/8192/\i=addr %8192/8):=fun g=>hx (addr,x) ((hw _).2 (.inr rfl)) (by dsimp only;omega);rw[j _ _ i0 i1,if_neg d];refine v.hf e he C i i0 i1 fun y J Y=> ?_;exact hx y ((hw y).2 (.inl ⟨J,fun g=>d (by omega)⟩)) Y
theorem Nv.congr(h:Nv V)(h1:V'.laid=V.laid)(d:V'.ready=V.ready)(j:V'.rel=V.rel)(hw: ∀p i,0<=i->i<1024-> ¬mem V.ready p->V'.wd p i=0):Nv V':=
 ⟨by rw[h1];exact h.JA,by rw[d];exact h.KT,by rw[j];exact h.MZ,by rw[h1,d];exact h.rl,by rw[h1,j];exact h.el,by rw[d,j];exact h.re,by rw[h1];exact h.Gn,by rw[d];exact hw,by rw[h1,d,j];exact h.l9⟩
theorem Fa.congr(d:Fa V P W)(h1:V'.laid=V.laid)(C:V'.ready=V.ready)(O:V'.rel=V.rel)(J: ∀x∈V'.pl,x∈V.pl)(j: ∀p i,0<=i->i<1024->V'.wd p i=V.wd p i):Fa V' P W:=by
 refine⟨d.ok.congr h1 C O fun p i i0 i1 h=>by rw[j p i i0 i1];exact d.ok.clean p i i0 i1 h,d.IK,d.ZH,fun p=>by rw[h1];exact d.hp p,fun e he=> ?_,fun y K=> ?_,fun e he v i i0 i1 hx=> ?_,fun y K=>d.Sg y (J y K)⟩
 ·rw[d.hs e he];exact(Kk (by rw[h1]) (by rw[C]) (by rw[O])).symm
 ·obtain⟨g1,T,Y⟩:=d.hw y K;exact⟨g1,by rw[C];exact T,by rw[j _ _ (by omega) (by omega)];exact Y⟩
 ·rw[C]at v;rw[j _ _ i0 i1];exact d.hf e he v i i0 i1 hx
end
end Go.Sh
set_option linter.all false
set_option maxRecDepth 4000
set_option maxHeartbeats 2000000
namespace Go.Sh
theorem gG{F:List Pr}{w:World}{t:Nat}{x y z:Int}(H:Sat F w){K:Nat->World->Prop}(C: ∀b w',Sat (Cells b t [.int .u64 x,.int .i64 y,.int .u64 z]::F) w'->K b w'):
  AL (.cells #[.int .u64 0,.int .i64 0,.int .u64 0] t) w fun b w1=>stCells (Addr.mk b 0 none) 0 [.int .u64 x,.int .i64 y,.int .u64 z] w1 fun d=>K b d:=by
 refine Ad (vs:=[.int .u64 0,.int .i64 0,.int .u64 0]) H fun b w1 H1 _=> ?_;exact Jc (news:=[.int .u64 x,.int .i64 y,.int .u64 z]) H1 rfl (by intro v j;simp at j;rcases j with rfl|rfl|rfl<;>rfl) fun d J=>C b d J
section
variable{E:Env}{c:Nat}{V:VS}{Z:List Pr}{w:World}{g:MG}{P:aU}{W:fZ}
theorem mput3{s:AZ}{P':aU}(H:Sat (Row E.Ai 3 s (Bj aV P')::(EH E c V g P W++Z)) w){K:World->Prop}(j: ∀w',Sat (EH E c V {g with s3:=s} P' W++Z) w'->K w'):
  stCells ((Addr.mk c 0 none).add 3) 0 [.slice s.base s.len s.cap] w K:=by
 refine Ak (H.front 1 rfl) (o:=0) (m:=3) rfl (by simp[MH]) fun w' d=>j w' ?_;have h1:=(d.front 5 rfl).tail;exact Sat.K4 [Cells c E.As (MH {g with s3:=s}),IJ g.s0 (ints .u64 V.pl),IJ g.s1 (A6 V.rf),IJ g.s2 (ints .u64 V.fl)] (T:=Row E.BS 2 g.s4 (Bj ZG W)::Z) (h1.front 1 rfl)
theorem nY{s:AZ}{W':fZ}(H:Sat (Row E.BS 2 s (Bj ZG W')::(EH E c V g P W++Z)) w){K:World->Prop}(j: ∀w',Sat (EH E c V {g with s4:=s} P W'++Z) w'->K w'):
  stCells ((Addr.mk c 0 none).add 4) 0 [.slice s.base s.len s.cap] w K:=by
 refine Ak (H.front 1 rfl) (o:=0) (m:=4) rfl (by simp[MH]) fun w' d=>j w' ?_;have h1:=(d.front 6 rfl).tail;exact Sat.K4 [Cells c E.As (MH {g with s4:=s}),IJ g.s0 (ints .u64 V.pl),IJ g.s1 (A6 V.rf),IJ g.s2 (ints .u64 V.fl),Row E.Ai 3 g.s3 (Bj aV P)] (T:=Z) (h1.front 1 rfl)
theorem KH(hs:IG kW W)(hf:W.length<=4398046511104)(H:Sat (EH E c V g P W++Z) w){n:Int}{K:Int->Bool->World->Prop}
  (y: ∀b,(b=true↔ ∃e,W[pos kW W n]? =some e/\e.1=n)-> ∀w',Sat (EH E c V g P W++Z) w'->K (pos kW W n:Nat) b w'):F.DS E (some ⟨c,0,none⟩) n K w:=by
 unfold F.DS;have j:=H.drew;have T:=ZI H;simp only[AI];refine⟨g.s4,j.cell rfl,?_⟩;refine bsearch (key:=kW) (by decide) GS (fun _=>rfl) hs (j.front 5 rfl) (j.cell rfl) (by omega) n fun st v=> ?_;have j:=j.drew;have hp:=JE (key:=kW) W n;rw[v];refine⟨g.s4,j.cell rfl,AD (fun J=> ?_) fun C=>y _ ⟨fun h=>by(cases h),fun⟨e,he,_⟩=>by have:=(List.getElem?_eq_some_iff.1 he).1;omega⟩ _ j⟩;obtain⟨e,he⟩: ∃e,W[pos kW W n]? =some e:=⟨_,List.getElem?_eq_getElem (by omega)⟩;obtain⟨b,O,h0,_⟩:=gB j he;refine⟨g.s4,j.cell rfl,?_⟩;rw[O];refine⟨⟨by omega,by omega⟩,e.1,h0,y _ ?_ _ j⟩;rw[beq_iff_eq];exact⟨fun h=>⟨e,he,h⟩,fun⟨d,hd,h⟩=>by rw[he]at hd;cases hd;exact h⟩
theorem UL(hs:IG kW W)(hf:W.length<=4398046511104)(H:Sat (EH E c V g P W++Z) w){x y:Int}(hx:0<=x)(hy:0<=y)(O:x+y<18446744073709551616){K:World->Prop}
  (hK: ∀s w',Sat (EH E c V {g with s4:=s} P (W.take (pos kW W x)++W.drop (pos kW W (x+y)))++Z) w'->K w'):F.CP E (some ⟨c,0,none⟩) x y K w:=by
 unfold F.CP T0.CP;refine KH hs hf H fun b1 _ w3 H3=> ?_;rw[AM (n:=x+y) (by omega) O];refine KH hs hf H3 fun b2 _ w6 H6=> ?_;refine Hu (n:=0) (z:=2) H6 rfl (by decide) fun b7 w8 C=> ?_;have hl:=ZI C.tail;have T:=JE (key:=kW) W x;have p2:=JE (key:=kW) W (x+y);simp only[AI];refine⟨g.s4,(C.front 1 rfl).cell rfl,⟨by omega,by omega⟩,?_⟩;refine F4 (x:=⟨Gp g.s4.base g.s4.cap 0 2,pos kW W x,g.s4.cap⟩) (news:=Bj ZG (W.take (pos kW W x))) C rfl ((C.front 6 rfl).N1 (by decide) GS T) (by rw[DQ GS,List.length_take];dsimp only;rw[Nat.min_eq_left T]) (Hg OS _) (by dsimp only;omega) (by dsimp only;omega) fun aH aB d j=> ?_;rw[List.nil_append]at d;refine⟨g.s4,(d.front 1 rfl).cell rfl,⟨by omega,by omega⟩,?_⟩;refine F4 (x:=⟨Gp g.s4.base g.s4.cap (pos kW W (x+y)) 2,g.s4.len-pos kW W (x+y),g.s4.cap-pos kW W (x+y)⟩) (news:=Bj ZG (W.drop (pos kW W (x+y)))) d rfl ((d.front 6 rfl).N2 (by decide) GS p2) (by rw[DQ GS,List.length_drop];dsimp only;rw[hl.1]) (Hg OS _) (by dsimp only at j⊢;omega) (by dsimp only at j⊢;omega) fun J aD v _=> ?_;rw[<-Hf]at v;exact nY v fun w' Y=>hK J w' Y
theorem Fa.gH(j:Fa V P W)(d:DE V.laid<=1000000):W.length<=1024000000:=by
 have:=j.fewW;have:=j.lenP;omega
theorem UM(H:Sat (Dl E c V::Z) w){page AB:Int}(h0:0<=page)(h1:page<18446744073709551616)(p0:0<=AB)(p1:AB<18446744073709551616){K:Int->World->Prop}
  (cB: ¬FY page AB-> ∀w',Sat (Dl E c V::Z) w'->K 1 w')
  (bF:FY page AB->cnt V.laid page (page+AB)≠AB-> ∀w',Sat (Dl E c V::Z) w'->K 33 w')
  (cL:FY page AB->cnt V.laid page (page+AB)=AB->cnt V.ready page (page+AB)=AB-> ∀w',Sat (Dl E c V::Z) w'->K 0 w')
  (cZ:FY page AB->cnt V.laid page (page+AB)=AB->cnt V.ready page (page+AB)≠AB-> ∀r,V.rf=true::r-> ∀w',Sat (Dl E c {V with rf:=r}::Z) w'->K 13 w')
  (cT:FY page AB->cnt V.laid page (page+AB)=AB->cnt V.ready page (page+AB)≠AB->(∀r,V.rf≠true::r)-> ∀w',(Nv (HK V page AB)->Sat (Dl E c (HK V page AB)::Z) w')->K 0 w'):
  F.CM E (some ⟨c,0,none⟩) page AB K w:=by
 have H0:=H;obtain⟨g,P,W,T,H⟩:=Sat.Kj.1 H;have back: ∀w',Sat (EH E c V g P W++Z) w'->Sat (Dl E c V::Z) w':=fun w' H'=>Sat.Kj.2 ⟨g,P,W,T,H'⟩;unfold F.CM T0.CM;refine MJ h0 p0 fun br bW=> ?_;cases br
 ·exact AV rfl (cB (fun h=>by cases bW.2 h) _ H0)
 have y:=bW.1 rfl;have cQ:=y;unfold FY at cQ;have hA:page<page+AB:=by omega
 have hB:page+AB<18446744073709551616:=by omega
 refine Ac rfl (Ir T H fun b3 c9 w5 H5=> ?_);have hl:=LS H5;have dJ:=T.gA;have hp:=JE (key:=kP) P page;simp only[AI];refine⟨g.s3,H5.cell rfl,?_⟩;rw[AH (n:=((g.s3.len:Nat):Int)-(pos kP P page:Nat)),AM (n:=((g.s3.len:Nat):Int)-(pos kP P page:Nat))];have aM:cnt V.laid page (page+AB)=AB↔ ∀m,page<=m->m<page+AB->mem V.laid m:=by
  have:=DM T.ok.JA (a:=page) (b:=page+AB) (by omega);rw[show page+AB-page=AB by omega]at this;exact this
 have aG:cnt V.ready page (page+AB)=AB↔ ∀m,page<=m->m<page+AB->mem V.ready m:=by
  have:=DM T.ok.KT (a:=page) (b:=page+AB) (by omega);rw[show page+AB-page=AB by omega]at this;exact this
 have aO:cnt V.laid page (page+AB)=AB-> ∀k:Nat,(k:Int)<AB-> ∃e,P[pos kP P page+k]? =some e/\e.1=page+k:=fun hc k hk=>by
  have:=T.full (a:=page) (n:=AB.toNat) (fun m m1 m2=>aM.1 hc m m1 (by omega)) (k:=k) (by omega);exact this
 refine AD (fun dC=>bF y (fun hc=> ?_) _ (back _ H5)) fun hle=> ?_
 ·obtain⟨e,he,_⟩:=aO hc (AB.toNat-1) (by omega);have:=(List.getElem?_eq_some_iff.1 he).1;omega
 refine AK (fun st w'=>Sat (EH E c V g P W++Z) w'/\ ∃i:Nat,st.2.1=i/\(i:Int)<=AB/\(∀k:Nat,k<i-> ∃e,P[pos kP P page+k]? =some e/\e.1=page+k)/\(st.1=true↔ ∀m,page<=m->m<page+i->mem V.ready m)) (fun st _=>(AB-st.2.1).toNat)
  ⟨H5,0,rfl,by show(0:Int)<=AB;omega,fun k hk=>by omega,⟨fun _ m m1 m2=>by omega,fun _=>rfl⟩⟩ ?_
 rintro⟨rd,i',v⟩ _ w9 ⟨H9,i,hi,bI,a0,aL⟩;dsimp only at hi aL⊢;subst hi;refine AD (fun a5=> ?_) fun b7=> ?_
 ·obtain⟨e,he⟩: ∃e,P[pos kP P page+i]? =some e:=⟨_,List.getElem?_eq_getElem (by omega)⟩;obtain⟨b,hb,_,c0,c1,c2⟩:=MI H9 he;have aD:=List.mem_of_getElem? he;have cR:=T.QB aD;rw[AH (n:=(i:Int)),AH (n:=(pos kP P page:Nat)+(i:Int)),AM (n:=page+(i:Int)),AM (n:=(i:Int)+1)];refine⟨g.s3,H9.cell rfl,?_⟩;rw[hb];have et:Int.toNat ((pos kP P page:Nat)+(i:Int))=pos kP P page+i:=by omega
  rw[et];refine⟨⟨by omega,by omega⟩,e.1,c0,e.2.1,c1,e.2.2,c2,gG H9 fun dL dI aU=>⟨e.1,aU.A2 rfl,Cz (fun b8=>bF y (fun hc=> ?_) _ (back _ aU.tail)) fun heq=> ?_⟩⟩
  ·obtain⟨d,hd,cP⟩:=aO hc i a5;rw[he]at hd;cases hd;exact b8 cP
  ·have aQ: ∀k:Nat,k<i+1-> ∃e,P[pos kP P page+k]? =some e/\e.1=page+k:=fun k hk=>by
    rcases Nat.lt_or_eq_of_le (Nat.le_of_lt_succ hk)with q|q
    ·exact a0 k q
    ·subst q;exact⟨e,he,heq⟩
   refine AQ (fun ht=>⟨e.2.1,aU.cell rfl,⟨aU.tail,i+1,by omega,by omega,aQ,?_⟩,by omega⟩) fun hf=>⟨⟨aU.tail,i+1,by omega,by omega,aQ,?_⟩,by omega⟩
   ·rw[beq_iff_eq,T.nX aD];have:=aL.1 ht;constructor
    ·intro h m m1 m2;rcases Int.lt_or_le m (page+i)with q|q
     ·exact this m m1 q
     ·rw[show m=e.1 by omega];exact h
    ·intro h;exact h e.1 (by omega) (by omega)
   ·refine⟨fun h=>(by cases h),fun h=> ?_⟩;have:=aL.2 fun m m1 m2=>h m m1 (by omega);rw[hf]at this;cases this
 ·have bG:(i:Int)=AB:=by omega
  have hc:cnt V.laid page (page+AB)=AB:=aM.2 fun m m1 m2=>by
   obtain⟨e,he,hk⟩:=a0 (m-page).toNat (by omega);have:=T.wF (List.mem_of_getElem? he);rw[show m=e.1 by omega];exact this
  refine AQ (fun ht=>cL y hc (aG.2 fun m m1 m2=>aL.1 ht m m1 (by omega)) _ (back _ H9)) fun hf=> ?_;have aH:cnt V.ready page (page+AB)≠AB:=fun h=>by
   have:=aL.2 fun m m1 m2=>aG.1 h m m1 (by omega);rw[hf]at this;cases this
  have main:(∀r,V.rf≠true::r)-> ∀(s1:AZ) (a4:World),Sat (EH E c {V with rf:=V.rf.tail} {g with s1:=s1} P W++Z) a4->
    Ay (Int×Unit) (0,()) a4 fun O _ aB aF=>
     CND (decide ((O.1:Int)<(i64 (AB)))) (
      NC (some (Addr.mk c 0 none)) fun cW=>
      ∃aP:AZ,aB.cell? (cW.add 3)=some (.slice aP.base aP.len aP.cap)/\
      NC aP.base fun a9=>
      ((0:Int)<=(i64 ((pos kP P page:Nat)+O.1))/\((i64 ((pos kP P page:Nat)+O.1)):Int)<(aP.len:Nat))/\
      ∃bJ:Int,aB.cell? ((a9.add (Int.toNat (i64 ((pos kP P page:Nat)+O.1))*3)).add 0)=some (.int .u64 bJ)/\
      ∃bO:Int,aB.cell? ((a9.add (Int.toNat (i64 ((pos kP P page:Nat)+O.1))*3)).add 1)=some (.int .i64 bO)/\
      ∃bH:Int,aB.cell? ((a9.add (Int.toNat (i64 ((pos kP P page:Nat)+O.1))*3)).add 2)=some (.int .u64 bH)/\
      AL (.cells #[.int .u64 0,.int .i64 0,.int .u64 0] E.Ai) aB fun aE cY=>
      stCells (Addr.mk aE 0 none) 0 [.int .u64 bJ,.int .i64 bO,.int .u64 bH] cY fun Y=>
      ∃bN:Int,Y.cell? ((Addr.mk aE 0 none).add 1)=some (.int .i64 bN)/\
      CND ((bN:Int)==2) (
       aF (i64 (O.1+1),()) Y
      ) (
       Am (Int×Unit) (fun b0=>
        Am (Bool×Unit) (fun bL=>
         ∃bV:Int,Y.cell? ((Addr.mk aE 0 none).add 1)=some (.int .i64 bV)/\
         CND ((bV:Int)==3) (
          NC (some (Addr.mk c 0 none)) fun c4=>
          ∃aX:AZ,Y.cell? (c4.add 2)=some (.slice aX.base aX.len aX.cap)/\
          bL (decide ((((aX.len:Nat):Int):Int)>0),()) Y
         ) (
          bL (false,()) Y
         )
        ) fun cG _ aT=>
         CND (cG.1) (
          NC (some (Addr.mk c 0 none)) fun cC=>
          ∃aJ:AZ,aT.cell? (cC.add 2)=some (.slice aJ.base aJ.len aJ.cap)/\
          NC aJ.base fun cJ=>
          ((0:Int)<=0/\(0:Int)<(aJ.len:Nat))/\
          ∃bQ:Int,aT.cell? (cJ.add (Int.toNat 0*1))=some (.int .u64 bQ)/\
          NC (some (Addr.mk c 0 none)) fun b6=>
          ∃aC:AZ,aT.cell? (b6.add 2)=some (.slice aC.base aC.len aC.cap)/\
          ((0:Int)<=1/\(1:Int)<=(aC.len:Nat))/\
          NC (some (Addr.mk c 0 none)) fun cA=>
          stCells (cA.add 2) 0 [.slice (Gp aC.base aC.cap (Int.toNat 1) 1) (aC.len-(Int.toNat 1)) (aC.cap-(Int.toNat 1))] aT fun bC=>
          b0 (bQ,()) bC
         ) (
          b0 (0,()) aT
         )
       ) fun cU _ aA=>
        NC (some (Addr.mk c 0 none)) fun cX=>
        ∃C:AZ,aA.drew.cell? (cX.add 3)=some (.slice C.base C.len C.cap)/\
        ∃aR:Int,aA.drew.cell? (Addr.mk aE 0 none)=some (.int .u64 aR)/\
        NC C.base fun a7=>
        ((0:Int)<=(i64 ((pos kP P page:Nat)+O.1))/\((i64 ((pos kP P page:Nat)+O.1)):Int)<(C.len:Nat))/\
        stCells (a7.add (Int.toNat (i64 ((pos kP P page:Nat)+O.1))*3)) 0 [.int .u64 aR,.int .i64 2,.int .u64 cU.1] aA.drew fun aZ=>
        aF (i64 (O.1+1),()) aZ
      )
     ) (
      K 0 aB
     ):=by
   intro cE s1 a4 cI;have bX:P.map (cF V page (page+((0:Nat):Int)))=P:=by
    rw[show P=P.map id by simp,List.map_map];exact List.map_congr_left fun e _=>by show cF V page (page+((0:Nat):Int)) e=e;unfold cF;rw[if_neg (by omega)]
   have bZ:cnt V.rel page (page+((0:Nat):Int))=0:=(C4 T.ok.MZ (by omega)).2 fun n n1 n2=>by omega
   rw[AH (n:=AB)];refine AK (fun st w'=> ∃i:Nat,st.1=i/\(i:Int)<=AB/\ ∃s2,Sat (EH E c {V with rf:=V.rf.tail,fl:=V.fl.drop (cnt V.rel page (page+i)).toNat} {g with s1:=s1,s2:=s2} (P.map (cF V page (page+i))) W++Z) w') (fun st _=>(AB-st.1).toNat)
    ⟨0,rfl,by show(0:Int)<=AB;omega,g.s2,by rw[bX,bZ];exact cI⟩ ?_
   rintro⟨i',v⟩ _ aB ⟨i,hi,bI,s2,aI⟩;dsimp only at hi⊢;subst hi;refine AD (fun a5=> ?_) fun b7=> ?_
   ·obtain⟨e,he,aS⟩:=aO hc i a5;have aD:=List.mem_of_getElem? he;have hlen:=(List.getElem?_eq_some_iff.1 he).1;have cR:=T.QB aD;have dF:=Cg V.rel page (page+i);have aY:=IN T.ok.MZ (a:=page) (k:=page+i) (by omega);have cS:page+(i:Int)+1=page+((i+1:Nat):Int):=by omega
    rw[cS]at aY;have bK:(P.map (cF V page (page+i)))[pos kP P page+i]? =some e:=by
     rw[List.getElem?_map,he];show some (cF V page (page+i) e)=some e;unfold cF;rw[if_neg (by omega)]
    have a1: ∀d∈P,d.1≠e.1->cF V page (page+((i+1:Nat):Int)) d=cF V page (page+i) d:=fun d _ hd=>by
     unfold cF;by_cases q:page<=d.1/\d.1<page+i/\d.2.1≠2
     ·rw[if_pos q,if_pos ⟨q.1,by omega,q.2.2⟩]
     ·rw[if_neg q,if_neg fun q2=>q ⟨q2.1,by omega,q2.2.2⟩]
    have cK:=LS aI;rw[List.length_map]at cK;simp only[AI];rw[AH (n:=(pos kP P page:Nat)+(i:Int)),AH (n:=(i:Int)+1)];have et:Int.toNat ((pos kP P page:Nat)+(i:Int))=pos kP P page+i:=by omega
    rw[et];obtain⟨b,hb,_,c0,c1,c2⟩:=MI aI bK;refine⟨_,aI.cell rfl,?_⟩;rw[hb];refine⟨⟨by omega,by dsimp only;omega⟩,e.1,c0,e.2.1,c1,e.2.2,c2,gG aI fun aE Y J=>⟨e.2.1,J.cell rfl,BW (fun aN=> ?_) fun aN=> ?_⟩⟩
    ·refine⟨⟨i+1,by omega,by omega,s2,?_⟩,by omega⟩;have aH: ¬mem V.rel (page+i):=by rw[<-aS];exact T.ok.re _ ((T.nX aD).1 aN)
     have em:P.map (cF V page (page+((i+1:Nat):Int)))=P.map (cF V page (page+i)):=List.map_congr_left fun d hd=>by
      by_cases q:d.1=e.1
      ·have:d=e:=T.IK.inj hd aD q;subst this;unfold cF;rw[if_neg fun q=>q.2.2 aN,if_neg fun q=>q.2.2 aN]
      ·exact a1 d hd q
     rw[em,aY.2 aH];exact J.tail
    ·-- the page's fill, and what is left of the fills
     have fin: ∀(fill:Int) (bA:AZ) (aA:World),cF V page (page+((i+1:Nat):Int)) e=(e.1,2,fill)->
       Sat (Cells aE E.Ai [.int .u64 e.1,.int .i64 e.2.1,.int .u64 e.2.2]::(EH E c {V with rf:=V.rf.tail,fl:=V.fl.drop (cnt V.rel page (page+((i+1:Nat):Int))).toNat} {g with s1:=s1,s2:=bA} (P.map (cF V page (page+i))) W++Z)) aA->
       ∃C:AZ,aA.drew.cell? ((Addr.mk c 0 none).add 3)=some (.slice C.base C.len C.cap)/\
        ∃aR:Int,aA.drew.cell? (Addr.mk aE 0 none)=some (.int .u64 aR)/\
        NC C.base fun a7=>
        ((0:Int)<=((pos kP P page:Nat)+(i:Int))/\((pos kP P page:Nat)+(i:Int))<(C.len:Nat))/\
        stCells (a7.add ((pos kP P page+i)*3)) 0 [.int .u64 aR,.int .i64 2,.int .u64 fill] aA.drew fun aZ=>
        (∃k:Nat,(i:Int)+1=k/\(k:Int)<=AB/\ ∃s2,Sat (EH E c {V with rf:=V.rf.tail,fl:=V.fl.drop (cnt V.rel page (page+k)).toNat} {g with s1:=s1,s2:=s2} (P.map (cF V page (page+k))) W++Z) aZ)/\(AB-((i:Int)+1)).toNat<(AB-(i:Int)).toNat:=by
      intro fill bA aA a6 cM;have Hd:=cM.drew;have bY:=LS Hd.tail;obtain⟨b',bR,_⟩:=MI Hd.tail bK;refine⟨_,(Hd.front 1 rfl).cell rfl,e.1,Hd.A2 rfl,?_⟩;rw[bR];refine⟨⟨by omega,by dsimp only at bY⊢;rw[List.length_map]at bY;omega⟩,?_⟩;refine eU HL OR (Hd.front 5 rfl) (i:=pos kP P page+i) (by rw[List.length_map];exact hlen) (e.1,2,fill) bR fun aZ b9=>⟨⟨i+1,by omega,by omega,bA,?_⟩,by omega⟩;have bT:=(Sat.back 5 b9 (by simp[EH])).tail;rw[<-a6,map_set T.IK he a1]at bT;exact bT
     have hF:cF V page (page+((i+1:Nat):Int)) e=(e.1,2,if e.2.1=3 then GQ V page e.1 else 0):=by
      unfold cF;rw[if_pos ⟨by omega,by omega,aN⟩]
     refine An (An ⟨e.2.1,J.cell rfl,BW (fun aK=> ?_) fun aK j=>Ac rfl fun j=> ?_⟩)
     ·have bU:mem V.rel (page+i):=by rw[<-aS];exact(T.is3 aD).1 aK
      rw[if_pos aK]at hF;have bM:=aY.1 bU;have b1:=(J.front 4 rfl).Ky;refine⟨s2,(J.front 1 rfl).cell rfl,fun j=>AD (fun c7=> ?_) fun hz=> ?_⟩
      ·cases hd:V.fl.drop (cnt V.rel page (page+i)).toNat with
       | nil=>have:=b1.1;dsimp only at this;rw[hd]at this;simp[ints]at this;omega
       | cons x r=>
        obtain⟨a,ha,Ba⟩:=(J.front 4 rfl).Lq (j:=0) (v:=.int .u64 x) (by dsimp only;rw[hd];rfl);refine⟨s2,(J.front 1 rfl).cell rfl,?_⟩;rw[ha];refine⟨⟨by decide,by omega⟩,x,Ba,s2,(J.front 1 rfl).cell rfl,⟨by decide,by omega⟩,?_⟩;have cO:=Sat.back 4 ((J.front 4 rfl).Lr (n:=1) (show 1<=s2.len by omega)) (by simp[EH]);have hx:GQ V page e.1=x:=by
         unfold GQ;rw[aS];have:V.fl[(cnt V.rel page (page+i)).toNat]? =some x:=by
          have:=congrArg (fun l=>l[0]?) hd;simpa[List.getElem?_drop]using this
         rw[List.getD_eq_getElem?_getD,this];rfl
        have cV:(V.fl.drop (cnt V.rel page (page+i)).toNat).drop 1=V.fl.drop (cnt V.rel page (page+((i+1:Nat):Int))).toNat:=by
         rw[List.drop_drop,bM];congr 1;omega
        rw[hx]at hF;refine Ak (cO.front 1 rfl) (o:=0) (m:=2) rfl (by simp[MH]) fun bC cD j=>fin x ⟨Gp s2.base s2.cap (Int.toNat 1) 1,s2.len-Int.toNat 1,s2.cap-Int.toNat 1⟩ bC hF ?_;have a3:=Sat.back 1 cD (by simp[EH]);have e1:(ints IntKind.u64 (V.fl.drop (cnt V.rel page (page+i)).toNat)).drop 1=ints .u64 (V.fl.drop (cnt V.rel page (page+((i+1:Nat):Int))).toNat):=by
         rw[<-cV];simp[ints]
        dsimp only at a3;rw[e1]at a3;exact a3
      ·have a2:V.fl.drop (cnt V.rel page (page+i)).toNat=[]:=by
        have:=b1.1;dsimp only at this;have:(ints IntKind.u64 (V.fl.drop (cnt V.rel page (page+i)).toNat)).length=0:=by omega
        rw[ints,List.length_map]at this;exact List.eq_nil_of_length_eq_zero this
       have bS:=List.drop_eq_nil_iff.1 a2;have hx:GQ V page e.1=0:=by
        unfold GQ;rw[aS,List.getD_eq_getElem?_getD,List.getElem?_eq_none bS];rfl
       rw[hx]at hF;refine fun j=>fin 0 s2 Y hF ?_;have:V.fl.drop (cnt V.rel page (page+((i+1:Nat):Int))).toNat=V.fl.drop (cnt V.rel page (page+i)).toNat:=by
        rw[a2,List.drop_eq_nil_iff];omega
       rw[this];exact J
     ·have aH: ¬mem V.rel (page+i):=fun h=>aK ((T.is3 aD).2 (by rw[aS];exact h));rw[if_neg aK]at hF;refine fin 0 s2 Y hF ?_;rw[aY.2 aH];exact J
   ·have bG:(i:Int)=AB:=by omega
    refine cT y hc aH cE aB fun Bi=> ?_;rw[bG]at aI;refine Sat.Kj.2 ⟨{g with s1:=s1,s2:=s2},P.map (cF V page (page+AB)),W,T.ND Bi rfl (fun p=> ?_) (fun p=> ?_) (fun p i=>rfl) (fun x hx=>hx),aI⟩
    ·exact Ca T.ok.KT hA h0 hB p
    ·exact Cw hA
  refine Ms H9 (fun e=>Ac rfl (main (fun r h=>by rw[e]at h;cases h) g.s1 w9 ?_)) fun x r e s w' H'=> ?_
  ·have:V.rf.tail=V.rf:=by rw[e];rfl
   rw[this];exact H9
  ·cases x
   ·refine Ac rfl (main (fun r h=>by rw[e]at h;cases h) s w' ?_);rw[e];exact H'
   ·exact AV rfl (cZ y hc aH r e w' (Sat.Kj.2 ⟨_,P,W,T.congr rfl rfl rfl (fun x hx=>hx) fun _ _ _ _=>rfl,H'⟩))
end
end Go.Sh
set_option linter.all false
set_option maxRecDepth 4000
set_option maxHeartbeats 2000000
namespace Go.Sh
section
variable{E:Env}{c:Nat}{V:VS}{Z:List Pr}{w:World}{g:MG}{P:aU}{W:fZ}
theorem SK(aK:DE V.laid<=1000000)(H:Sat (Dl E c V::Z) w){page AB:Int}(h0:0<=page)(h1:page<18446744073709551616)(p0:0<=AB)(p1:AB<18446744073709551616){K:Int->World->Prop}
  (aU: ¬FY page AB-> ∀w',Sat (Dl E c V::Z) w'->K 1 w')
  (aE:FY page AB->cnt V.ready page (page+AB)≠AB-> ∀w',Sat (Dl E c V::Z) w'->K 33 w')
  (aZ:FY page AB->cnt V.ready page (page+AB)=AB-> ∀w',(Nv (Ga V page AB)->Sat (Dl E c (Ga V page AB)::Z) w')->K 0 w'):
  F.CA E (some ⟨c,0,none⟩) page AB K w:=by
 have H0:=H;obtain⟨g,P,W,J,H⟩:=Sat.Kj.1 H;have back: ∀w',Sat (EH E c V g P W++Z) w'->Sat (Dl E c V::Z) w':=fun w' H'=>Sat.Kj.2 ⟨g,P,W,J,H'⟩;unfold F.CA T0.CA;refine MJ h0 p0 fun br aM=> ?_;cases br
 ·exact AV rfl (aU (fun h=>by cases aM.2 h) _ H0)
 have y:=aM.1 rfl;have a3:=y;unfold FY at a3;have hA:page<page+AB:=by omega
 have hB:page+AB<18446744073709551616:=by omega
 refine Ac rfl (Ir J H fun b3 bF w5 H5=> ?_);have hl:=LS H5;have bG:=J.gA;have hp:=JE (key:=kP) P page;simp only[AI];refine⟨g.s3,H5.cell rfl,?_⟩;rw[AH (n:=((g.s3.len:Nat):Int)-(pos kP P page:Nat)),AM (n:=((g.s3.len:Nat):Int)-(pos kP P page:Nat))];have C:cnt V.ready page (page+AB)=AB↔ ∀m,page<=m->m<page+AB->mem V.ready m:=by
  have:=DM J.ok.KT (a:=page) (b:=page+AB) (by omega);rw[show page+AB-page=AB by omega]at this;exact this
 have aB:cnt V.ready page (page+AB)=AB-> ∀k:Nat,(k:Int)<AB-> ∃e,P[pos kP P page+k]? =some e/\e.1=page+k:=fun hc k hk=>by
  have:=J.full (a:=page) (n:=AB.toNat) (fun m m1 m2=>J.ok.rl m (C.1 hc m m1 (by omega))) (k:=k) (by omega);exact this
 refine AD (fun a7=>aE y (fun hc=> ?_) _ (back _ H5)) fun hle=> ?_
 ·obtain⟨e,he,_⟩:=aB hc (AB.toNat-1) (by omega);have:=(List.getElem?_eq_some_iff.1 he).1;omega
 refine AK (fun st w'=>Sat (EH E c V g P W++Z) w'/\ ∃i:Nat,st.1=i/\(i:Int)<=AB/\(∀m,page<=m->m<page+i->mem V.ready m)) (fun st _=>(AB-st.1).toNat)
  ⟨H5,0,rfl,by show(0:Int)<=AB;omega,fun m m1 m2=>by omega⟩ ?_
 rintro⟨i',v⟩ _ w9 ⟨H9,i,hi,aD,Y⟩;dsimp only at hi⊢;subst hi;refine AD (fun aH=> ?_) fun aI=> ?_
 ·obtain⟨e,he⟩: ∃e,P[pos kP P page+i]? =some e:=⟨_,List.getElem?_eq_getElem (by omega)⟩;obtain⟨b,hb,_,c0,c1,c2⟩:=MI H9 he;have T:=List.mem_of_getElem? he;have a4:=J.QB T;rw[AH (n:=(i:Int)),AH (n:=(pos kP P page:Nat)+(i:Int)),AM (n:=page+(i:Int)),AM (n:=(i:Int)+1)];refine⟨g.s3,H9.cell rfl,?_⟩;rw[hb];have et:Int.toNat ((pos kP P page:Nat)+(i:Int))=pos kP P page+i:=by omega
  rw[et];have bad:(e.1≠page+i∨e.2.1≠2)->cnt V.ready page (page+AB)≠AB:=fun h hc=>by
   obtain⟨d,hd,a2⟩:=aB hc i aH;rw[he]at hd;cases hd;rcases h with h|h
   ·exact h a2
   ·exact h ((J.nX T).2 (C.1 hc _ (by omega) (by omega)))
  refine⟨⟨by omega,by omega⟩,e.1,c0,e.2.1,c1,e.2.2,c2,gG H9 fun bL bE aA=>An ⟨e.1,aA.A2 rfl,Cz (fun aF j=>AV rfl (aE y (bad (.inl aF)) _ (back _ aA.tail))) fun heq=>⟨e.2.1,aA.cell rfl,fun j=>Cz (fun aF=>aE y (bad (.inr aF)) _ (back _ aA.tail)) fun h2=> ?_⟩⟩⟩;refine⟨⟨aA.tail,i+1,by omega,by omega,fun m m1 m2=> ?_⟩,by omega⟩;rcases Int.lt_or_le m (page+i)with q|q
  ·exact Y m m1 q
  ·rw[show m=e.1 by omega];exact(J.nX T).1 h2
 ·have aG:(i:Int)=AB:=by omega
  have hc:cnt V.ready page (page+AB)=AB:=C.2 fun m m1 m2=>Y m m1 (by omega);have aN:P.map (rF page (page+((0:Nat):Int)))=P:=by
   rw[show P=P.map id by simp,List.map_map];exact List.map_congr_left fun e _=>by show rF page (page+((0:Nat):Int)) e=e;unfold rF;rw[if_neg (by omega)]
  clear aG aI aD Y;rw[AH (n:=AB)];refine AK (fun st w'=> ∃i:Nat,st.1=i/\(i:Int)<=AB/\Sat (EH E c V g (P.map (rF page (page+i))) W++Z) w') (fun st _=>(AB-st.1).toNat)
   ⟨0,rfl,by show(0:Int)<=AB;omega,by rw[aN];exact H9⟩ ?_
  rintro⟨i',v⟩ _ bN ⟨i,hi,aD,O⟩;dsimp only at hi⊢;subst hi;refine AD (fun aH=> ?_) fun aI=> ?_
  ·obtain⟨e,he,aV⟩:=aB hc i aH;have T:=List.mem_of_getElem? he;have hlen:=(List.getElem?_eq_some_iff.1 he).1;have a4:=J.QB T;have bA:page+(i:Int)+1=page+((i+1:Nat):Int):=by omega
   have aS:(P.map (rF page (page+i)))[pos kP P page+i]? =some e:=by
    rw[List.getElem?_map,he];show some (rF page (page+i) e)=some e;unfold rF;rw[if_neg (by omega)]
   have aL: ∀d∈P,d.1≠e.1->rF page (page+((i+1:Nat):Int)) d=rF page (page+i) d:=fun d _ hd=>by
    unfold rF;by_cases q:page<=d.1/\d.1<page+i
    ·rw[if_pos q,if_pos ⟨q.1,by omega⟩]
    ·rw[if_neg q,if_neg fun q2=>q ⟨q2.1,by omega⟩]
   have aY:=LS O;rw[List.length_map]at aY;rw[AH (n:=(pos kP P page:Nat)+(i:Int)),AH (n:=(i:Int)+1),AM (n:=(i:Int)),AM (n:=page+(i:Int))];have et:Int.toNat ((pos kP P page:Nat)+(i:Int))=pos kP P page+i:=by omega
   rw[et];obtain⟨b,hb,_⟩:=MI O aS;refine⟨_,O.cell rfl,?_⟩;rw[hb];refine⟨⟨by omega,by omega⟩,?_⟩;refine eU HL OR (O.front 4 rfl) (i:=pos kP P page+i) (by rw[List.length_map];exact hlen) (page+i,3,0) hb fun bD aT=>⟨⟨i+1,by omega,by omega,?_⟩,by omega⟩;have aJ:=Sat.back 4 aT (by simp[EH]);have hF:rF page (page+((i+1:Nat):Int)) e=(page+i,3,0):=by
    unfold rF;rw[if_pos ⟨by omega,by omega⟩,aV]
   rw[<-hF,map_set J.IK he aL]at aJ;exact aJ
  ·have aG:(i:Int)=AB:=by omega
   rw[aG]at O;rw[AM (n:=page*8192),AM (n:=AB*8192)];have bJ:=J.gH aK;refine UL J.ZH (by omega) O (by omega) (by omega) (by omega) fun s w' H'=>aZ y hc w' fun Bi=> ?_;have aO:page*8192<=page*8192+AB*8192:=by omega
   exact Sat.Kj.2 ⟨_,_,_,J.release Bi rfl (fun p=>Cw hA) (fun p=>Ca J.ok.MZ hA h0 hB p) (fun p i=>rfl) (fun x hx=>hx) (gF J.ZH aO) (gE J.ZH aO),H'⟩
theorem Ro(v:Fa V P W)(Y:DE V.laid<=1000000)(H:Sat (EH E c V g P W++Z) w){addr:Int}(h0:0<=addr)(h1:addr<18446744073709551616){K:Int->Int->World->Prop}
  (y: ∀w',Sat (EH E c V g P W++Z) w'->K (Kf V addr).1 (Kf V addr).2 w'):F.Bw E (some ⟨c,0,none⟩) addr K w:=by
 unfold F.Bw T0.Bw;rw[Int.tmod_eq_emod_of_nonneg h0];unfold Kf at y;refine⟨by decide,Cz (fun ha=> ?_) fun ha=>⟨by decide,?_⟩⟩
 ·have:=y w H;rw[if_pos ha]at this;exact this
 rw[if_neg fun h=>h ha]at y;rw[Int.tdiv_eq_ediv_of_nonneg h0,AM (n:=addr/8192)];refine Ir v H fun b C w3 T=> ?_;have hl:=LS T;simp only[AI];cases b
 ·have J: ¬mem V.ready (addr/8192):=fun h=>by
   have:=C.2 ((TG v).2 (v.ok.rl _ h));cases this
  rw[if_neg fun h=>J (Az.1 h)]at y;exact An (AV rfl fun j=>AV rfl (y _ T))
 ·obtain⟨e,he,hk⟩:=C.1 rfl;have O:=List.mem_of_getElem? he;have hlen:=(List.getElem?_eq_some_iff.1 he).1;obtain⟨b,C,_,_,c1,_⟩:=MI T he;refine An (Ac rfl ⟨g.s3,T.cell rfl,?_⟩);rw[C];refine⟨⟨by omega,by omega⟩,e.2.1,by simpa using c1,fun j=>Cz (fun aD=> ?_) fun h2=> ?_⟩
  ·have J: ¬mem V.ready (addr/8192):=fun h=>aD ((v.nX O).2 (by rw[hk];exact h));rw[if_neg fun h=>J (Az.1 h)]at y;exact y _ T
  ·have aA:mem V.ready e.1:=(v.nX O).1 h2;rw[if_pos (Az.2 (by rw[<-hk];exact aA))]at y;have aN:=v.gH Y;refine KH v.ZH (by omega) T fun b2 aB aJ d=> ?_;have aM:=ZI d;have aP:=LS d;cases b2
   ·refine Ac rfl ?_;obtain⟨b,C,_,_,_,c2⟩:=MI d he;refine⟨g.s3,d.cell rfl,?_⟩;rw[C];refine⟨⟨by omega,by omega⟩,e.2.2,by simpa using c2,?_⟩;have hv:=v.hf e O aA (addr %8192/8) (by omega) (by omega) fun x hx aQ=>by
     have:x.1=addr:=by omega
     have:=aB.2 ⟨x,KD v.ZH hx this,this⟩;cases this
    have:=y _ d;dsimp only at this;rw[<-hk,hv]at this;exact this
   ·refine AV rfl ?_;obtain⟨x,hx,aG⟩:=aB.1 rfl;have aO:=(List.getElem?_eq_some_iff.1 hx).1;obtain⟨b,C,_,c2⟩:=gB d hx;refine⟨g.s4,d.cell rfl,?_⟩;rw[C];refine⟨⟨by omega,by omega⟩,x.2,by simpa using c2,?_⟩;obtain⟨_,_,g3⟩:=v.hw x (List.mem_of_getElem? hx);rw[aG]at g3;have:=y _ d;dsimp only at this;rw[g3]at this;exact this
theorem WL(d:DE V.laid<=1000000)(H:Sat (Dl E c V::Z) w){addr:Int}(h0:0<=addr)(h1:addr<18446744073709551616){K:Int->Int->World->Prop}
  (y: ∀w',Sat (Dl E c V::Z) w'->K (Kf V addr).1 (Kf V addr).2 w'):F.Bw E (some ⟨c,0,none⟩) addr K w:=by
 obtain⟨g,P,W,j,H⟩:=Sat.Kj.1 H;exact Ro j d H h0 h1 fun w' v=>y w' (Sat.Kj.2 ⟨g,P,W,j,v⟩)
theorem gI(hs:IG kW W){a x:Int}(j: ¬ ∃e,W[pos kW W a]? =some e/\e.1=a)(y:Int×Int):y∈W.take (pos kW W a)++[(a,x)]++W.drop (pos kW W a)↔(y∈W/\y.1≠a)∨y=(a,x):=by
 rw[List.mem_append,List.mem_append,List.mem_singleton];have d: ∀y∈W,y.1≠a:=fun y v e=>j ⟨y,KD hs v e,e⟩;constructor
 ·rintro((h|h)|h)
  ·exact .inl ⟨(EF h).1,d _ (EF h).1⟩
  ·exact .inr h
  ·exact .inl ⟨(FK hs h).1,d _ (FK hs h).1⟩
 ·rintro(⟨h,g⟩|h)
  ·rcases Int.lt_or_le y.1 a with q|q
   ·exact .inl (.inl (Ot hs h q))
   ·exact .inr (Ou h q)
  ·exact .inl (.inr h)
theorem gJ(hs:IG kW W){a x:Int}(d: ¬ ∃e,W[pos kW W a]? =some e/\e.1=a):IG kW (W.take (pos kW W a)++[(a,x)]++W.drop (pos kW W a)):=by
 refine IG.hZ (hs.take _) (by unfold IG;simp) (hs.drop _) (a:=a) (b:=a+1) (by omega) (fun e he=>(EF he).2) (fun e he=> ?_) fun e he=> ?_
 ·rw[List.mem_singleton]at he;subst he;unfold kW;dsimp only;omega
 ·have h1:=FK hs he;rcases Int.lt_or_le a (kW e)with q|q
  ·omega
  ·exact absurd ⟨e,KD hs h1.1 (by omega),by have:=h1.2;unfold kW at this q;omega⟩ d
theorem gK(hs:IG kW W){a x:Int}{j:Nat}{e:Int×Int}(d:W[j]? =some e)(he:e.1=a)(y:Int×Int):y∈W.set j (a,x)↔(y∈W/\y.1≠a)∨y=(a,x):=by
 rw[List.mem_iff_getElem?];have v:=(List.getElem?_eq_some_iff.1 d).1;constructor
 ·rintro⟨i,hi⟩;rw[List.getElem?_set]at hi;split at hi
  ·exact .inr (Option.some.inj hi).symm
  ·rename_i C;refine .inl ⟨List.mem_of_getElem? hi,fun h=> ?_⟩;rcases Nat.lt_or_gt_of_ne C with q|q
   ·have:=hs.lt d hi q;unfold kW at this;omega
   ·have:=hs.lt hi d q;unfold kW at this;omega
 ·rintro(⟨h,g⟩|h)
  ·obtain⟨i,hi⟩:=List.mem_iff_getElem?.1 h;refine⟨i,?_⟩;rw[List.getElem?_set,if_neg fun q=> ?_]
   ·exact hi
   ·subst q;rw[d]at hi;cases hi;exact g he
  ·refine⟨j,?_⟩;rw[List.getElem?_set,if_pos rfl,if_pos v,h]
theorem gL(hs:IG kW W){a x:Int}{j:Nat}{e:Int×Int}(v:W[j]? =some e)(he:e.1=a):IG kW (W.set j (a,x)):=by
 have:(W.set j (a,x)).map kW=W.map kW:=by
  rw[List.map_set];apply List.ext_getElem?;intro i;rw[List.getElem?_set];split
  ·rename_i q;subst q;have d:=(List.getElem?_eq_some_iff.1 v).1;rw[List.length_map,if_pos d,List.getElem?_map,v];show some a=some e.1;rw[he]
  ·rfl
 unfold IG at hs⊢;have h1:(W.map kW).Pairwise fun a b=>a<b:=List.pairwise_map.2 hs;rw[<-this]at h1;exact List.pairwise_map.1 h1
theorem WM(O:Fa V P W)(aA:DE V.laid<=1000000)(H:Sat (EH E c V g P W++Z) w){addr x:Int}(h0:0<=addr)(h1:addr<18446744073709551616){K:Int->World->Prop}
  (aO:IC V addr≠0-> ∀w',Sat (EH E c V g P W++Z) w'->K (IC V addr) w')
  (aR:IC V addr=0-> ∀s W' w',Fa (FZ V addr x) P W'->Sat (EH E c (FZ V addr x) {g with s4:=s} P W'++Z) w'->K 0 w'):F.CB E (some ⟨c,0,none⟩) addr x K w:=by
 unfold F.CB T0.CB;have hle:(Kf V addr).2=IC V addr:=by
  unfold Kf IC;split
  ·rfl
  ·split<;>rfl
 refine Ro O aA H h0 h1 fun w3 H3=> ?_;rw[hle];refine Cz (fun aP=>aO aP _ H3) fun d=> ?_;have aH:=aR d;have C:FZ V addr x={V with wd:=fun p i=>if p=addr/8192/\i=addr %8192/8 then x else V.wd p i}:=by unfold FZ;rw[if_pos d]
 have aE:addr %8=0:=by
  unfold IC at d;by_cases q:addr %8=0
  ·exact q
  ·rw[if_pos q]at d;cases d
 have aK:mem V.ready (addr/8192):=by
  unfold IC at d;rw[if_neg fun h=>h aE]at d;by_cases q:I9 V.ready (addr/8192)=true
  ·exact Az.1 q
  ·rw[if_neg q]at d;cases d
 have a8:=O.gH aA;have Bi:Nv (FZ V addr x):=by
  rw[C];refine O.ok.congr rfl rfl rfl fun p i i0 i1 hn=> ?_;dsimp only;rw[if_neg fun q=>hn (by rw[q.1];exact aK)];exact O.ok.clean p i i0 i1 hn
 have inv: ∀W',IG kW W'->(∀y,y∈W'↔(y∈W/\y.1≠addr)∨y=(addr,x))->Fa (FZ V addr x) P W':=fun W' aT aV=>by
  refine O.store Bi (by rw[C]) (by rw[C]) (by rw[C]) (by rw[C]) aE aK (fun p i _ _=>by rw[C]) aT aV
 have aF: ∀(gg:MG) W',EH E c (FZ V addr x) gg P W'=EH E c V gg P W':=fun gg W'=>by rw[C];rfl
 refine KH O.ZH (by omega) H3 fun b hb w6 H6=> ?_;have aU:=ZI H6;simp only[AI];cases b
 ·have aG: ¬ ∃e,W[pos kW W addr]? =some e/\e.1=addr:=fun h=>by have:=hb.2 h;cases this
  have p1:=JE (key:=kW) W addr;refine Ac rfl ?_;refine Hu (n:=0) (z:=2) H6 rfl (by decide) fun a0 aZ aB=> ?_;refine⟨g.s4,(aB.front 1 rfl).cell rfl,⟨by omega,by omega⟩,?_⟩;refine F4 (x:=⟨Gp g.s4.base g.s4.cap 0 2,pos kW W addr,g.s4.cap⟩) (news:=Bj ZG (W.take (pos kW W addr))) aB rfl ((aB.front 6 rfl).N1 (by decide) GS p1) (by rw[DQ GS,List.length_take];dsimp only;rw[Nat.min_eq_left p1]) (Hg OS _) (by dsimp only;omega) (by dsimp only;omega) fun bA a7 aJ J=> ?_;rw[List.nil_append]at aJ;refine Ad aJ fun a9 a3 aW _=> ?_;refine GP (news:=ZG (addr,x)) aW rfl rfl (OS _) (by dsimp only at J⊢;omega) (by dsimp only at J⊢;omega) fun a6 bB T Y=> ?_;have e1:Bj ZG (W.take (pos kW W addr))++ZG (addr,x)=Bj ZG (W.take (pos kW W addr)++[(addr,x)]):=by rw[Hf];simp[Bj]
  rw[e1]at T;refine⟨g.s4,(T.front 1 rfl).cell rfl,⟨by omega,by omega⟩,?_⟩;refine F4 (x:=⟨Gp g.s4.base g.s4.cap (pos kW W addr) 2,g.s4.len-pos kW W addr,g.s4.cap-pos kW W addr⟩) (news:=Bj ZG (W.drop (pos kW W addr))) T rfl ((T.front 6 rfl).N2 (by decide) GS p1) (by rw[DQ GS,List.length_drop];dsimp only;rw[aU.1]) (Hg OS _) (by dsimp only at J Y⊢;omega) (by dsimp only at J Y⊢;omega) fun aS a4 aD _=> ?_;rw[<-Hf]at aD;refine nY aD fun w' H'=>aH aS _ w' (inv _ (gJ O.ZH aG) (gI O.ZH aG)) ?_;rw[aF];exact H'
 ·obtain⟨e,he,aC⟩:=hb.1 rfl;have a2:=(List.getElem?_eq_some_iff.1 he).1;obtain⟨b,hb,_⟩:=gB H6 he;refine AV rfl ⟨g.s4,H6.cell rfl,?_⟩;rw[hb];refine⟨⟨by omega,by omega⟩,?_⟩;rw[Int.toNat_natCast,add_add];have H7:=H6.front 5 rfl;refine Gh H7 (j:=pos kW W addr*2+1) (v:=.int .u64 x) rfl (by rw[DQ GS];omega) hb fun w' H'=>aH g.s4 _ w' (inv _ (gL O.ZH he aC) (gK O.ZH he aC)) ?_;rw[Hi GS he (by decide) (y:=(addr,x)) (by rw[<-aC];rfl)]at H';rw[aF];exact Sat.back 5 H' (by simp[EH])
end
end Go.Sh
set_option linter.all false
set_option maxRecDepth 4000
set_option maxHeartbeats 2000000
namespace Go.Sh
section
variable{E:Env}{c:Nat}{V:VS}{Z:List Pr}{w:World}{g:MG}{P:aU}{W:fZ}
theorem SL(H:Sat (Dl E c V::Z) w){hint AB:Int}(h0:0<=hint)(h1:hint<18446744073709551616)(p0:0<=AB)(p1:AB<18446744073709551616){K:Int->Int->World->Prop}
  (a0:(AB=0∨AB %512≠0∨134217728<AB)->K 0 1 w)
  (bY: ¬(AB=0∨AB %512≠0∨134217728<AB)-> ∀r,V.rf=true::r-> ∀w',Sat (Dl E c {V with rf:=r}::Z) w'->K 0 13 w')
  (cF: ¬(AB=0∨AB %512≠0∨134217728<AB)->(∀r,V.rf≠true::r)->Ke V hint AB-> ∀w',Sat (Dl E c {V with rf:=V.rf.tail,pl:=V.pl.tail}::Z) w'->K 0 13 w')
  (cW: ¬(AB=0∨AB %512≠0∨134217728<AB)->(∀r,V.rf≠true::r)-> ∀at_,512<=at_->at_+AB<=34359738368->Gv V hint AB at_-> ∀w',(Nv {V with rf:=V.rf.tail,pl:=V.pl.tail,laid:=CX V.laid at_ (at_+AB)}->Sat (Dl E c {V with rf:=V.rf.tail,pl:=V.pl.tail,laid:=CX V.laid at_ (at_+AB)}::Z) w')->K at_ 0 w'):
  F.B4 E (some ⟨c,0,none⟩) hint AB K w:=by
 unfold F.B4 T0.B4;rw[Int.tmod_eq_emod_of_nonneg p0];refine An (BW (fun e j=>AV rfl (a0 (.inl e))) fun n1=>⟨by decide,Cz (fun e j=>AV rfl (a0 (.inr (.inl e)))) fun n2 j=>AD (fun e=>a0 (.inr (.inr e))) fun n3=> ?_⟩);have aK: ¬(AB=0∨AB %512≠0∨134217728<AB):=by omega
 have aA:0<AB:=by omega
 obtain⟨g,P,W,hI,H⟩:=Sat.Kj.1 H;have aI:(∀r,V.rf≠true::r)-> ∀(s1:AZ) (w5:World),Sat (EH E c {V with rf:=V.rf.tail} {g with s1:=s1} P W++Z) w5->
    Am (Int×Bool×Unit) (fun J6=>
     NC (some (Addr.mk c 0 none)) fun p9=>
     ∃aT:AZ,w5.cell? p9=some (.slice aT.base aT.len aT.cap)/\
     CND (decide ((((aT.len:Nat):Int):Int)>0)) (
      NC (some (Addr.mk c 0 none)) fun cK=>
      ∃aL:AZ,w5.cell? cK=some (.slice aL.base aL.len aL.cap)/\
      NC aL.base fun cE=>
      ((0:Int)<=0/\(0:Int)<(aL.len:Nat))/\
      ∃Y:Int,w5.cell? (cE.add (Int.toNat 0*1))=some (.int .u64 Y)/\
      NC (some (Addr.mk c 0 none)) fun cD=>
      ∃y:AZ,w5.cell? cD=some (.slice y.base y.len y.cap)/\
      ((0:Int)<=1/\(1:Int)<=(y.len:Nat))/\
      NC (some (Addr.mk c 0 none)) fun cH=>
      stCells cH 0 [.slice (Gp y.base y.cap (Int.toNat 1) 1) (y.len-(Int.toNat 1)) (y.cap-(Int.toNat 1))] w5 fun aB=>
      Am (Bool×Unit) (fun a4=>
       CND (decide ((Y:Int)>0)) (
        512≠(0:Int)/\
        CND (((Int.tmod Y 512):Int)==0) (
         F.Dw E Y AB (fun cV b7=>
         a4 (cV,()) b7
         ) aB
        ) (
         a4 (false,()) aB
        )
       ) (
        a4 (false,()) aB
       )
      ) fun bA _ bP=>
       CND (bA.1) (
        F.BC E (some (Addr.mk c 0 none)) Y AB (fun dC cX cI=>
        J6 (Y,cX,()) cI
        ) bP
       ) (
        J6 (Y,bA.1,()) bP
       )
     ) (
      J6 (0,false,()) w5
     )
    ) fun s7 _ w8=>
     Am (Int×Bool×Unit) (fun bR=>
      CND (!s7.2.1) (
       F.Bh E (some (Addr.mk c 0 none)) hint AB (fun cJ cL b9=>
       bR (cJ,cL,()) b9
       ) w8
      ) (
       bR (s7.1,s7.2.1,()) w8
      )
     ) fun a5 _ aX=>
      Am (Int×Bool×Unit) (fun bV=>
       CND (!a5.2.1) (
        F.Bh E (some (Addr.mk c 0 none)) 0 AB (fun b4 b2 cP=>
        bV (b4,b2,()) cP
        ) aX
       ) (
        bV (a5.1,a5.2.1,()) aX
       )
      ) fun aR _ aZ=>
       CND (!aR.2.1) (
        K 0 13 aZ
       ) (
        F.Bb E (some (Addr.mk c 0 none)) aR.1 (fun J dA bJ=>
        AL (.cells ⟨[]⟩ E.Ai) bJ fun bI a1=>
        NC (some (Addr.mk c 0 none)) fun cZ=>
        ∃T:AZ,a1.cell? (cZ.add 3)=some (.slice T.base T.len T.cap)/\
        ((0:Int)<=J/\(J:Int)<=(T.cap:Nat))/\
        APP E.Ai 3 24 #[.int .u64 0,.int .i64 0,.int .u64 0] ⟨(some (Addr.mk bI 0 none)),0,0⟩ ⟨(Gp T.base T.cap 0 3),(Int.toNat J),T.cap⟩ a1 fun bL a7=>
        Ay (AZ×Int×Unit) (bL,0,()) a7 fun aC _ aQ aO=>
         CND (decide ((aC.2.1:Int)<AB)) (
          AL (.cells ⟨[.int .u64 (u64 (aR.1+aC.2.1)),.int .i64 1,.int .u64 0]⟩ E.Ai) aQ fun bN bC=>
          APP E.Ai 3 24 #[.int .u64 0,.int .i64 0,.int .u64 0] aC.1 ⟨(some (Addr.mk bN 0 none)),1,1⟩ bC fun bD bB=>
          aO (bD,u64 (aC.2.1+1),()) bB
         ) (
          NC (some (Addr.mk c 0 none)) fun cM=>
          ∃C:AZ,aQ.cell? (cM.add 3)=some (.slice C.base C.len C.cap)/\
          ((0:Int)<=J/\(J:Int)<=(C.len:Nat))/\
          APP E.Ai 3 24 #[.int .u64 0,.int .i64 0,.int .u64 0] aC.1 ⟨(Gp C.base C.cap (Int.toNat J) 3),(C.len-(Int.toNat J)),(C.cap-(Int.toNat J))⟩ aQ fun aU bO=>
          NC (some (Addr.mk c 0 none)) fun b8=>
          stCells (b8.add 3) 0 [.slice aU.base aU.len aU.cap] bO fun cY=>
          K aR.1 0 cY
         )
        ) aZ
       ):=by
  intro bF s1 w5 H5;simp only[AI];have aE:Fa {V with rf:=V.rf.tail,pl:=V.pl.tail} P W:=hI.congr rfl rfl rfl (fun x hx=>List.mem_of_mem_tail hx) fun _ _ _ _=>rfl;refine AX (fun st w'=> ∃s0,Sat (EH E c {V with rf:=V.rf.tail,pl:=V.pl.tail} {g with s0:=s0,s1:=s1} P W++Z) w'/\(st.2.1=true->Gv V hint AB st.1)/\(st.2.1=false->M8 V AB)) ?_ ?_
  ·have hl:=(H5.front 1 rfl).Ky;have hc:w5.cell? (Addr.mk c 0 none)=some (.slice g.s0.base g.s0.len g.s0.cap):=H5.A2 rfl;refine⟨g.s0,hc,AD (fun cA=> ?_) fun bX=> ?_⟩
   ·have cC:V.pl=[]∨ ∃x r,V.pl=x::r:=by
     cases V.pl with
     | nil=>exact .inl rfl
     | cons x r=>exact .inr ⟨x,r,rfl⟩
    rcases cC with hp|⟨x,r,hp⟩
    ·have:=hl.1;dsimp only at this;rw[hp]at this;simp[ints]at this;omega
    ·
     have b6:=hI.Sg x (by rw[hp];simp);obtain⟨a,ha,hd⟩:=(H5.front 1 rfl).Lq (j:=0) (v:=.int .u64 x) (by dsimp only;rw[hp];rfl);refine⟨g.s0,hc,?_⟩;rw[ha];refine⟨⟨by decide,by omega⟩,x,hd,g.s0,hc,⟨by decide,by omega⟩,?_⟩;have H6:=Sat.back 1 ((H5.front 1 rfl).Lr (n:=1) (show 1<=g.s0.len by omega)) (by simp[EH]);dsimp only at H6;rw[hp]at H6;refine El H6 (o:=0) rfl (by simp[MH]) fun aB b1=> ?_;have bW:Sat (EH E c {V with rf:=V.rf.tail,pl:=V.pl.tail} {g with s0:=⟨Gp g.s0.base g.s0.cap (Int.toNat 1) 1,g.s0.len-Int.toNat 1,g.s0.cap-Int.toNat 1⟩,s1:=s1} P W++Z) aB:=by
      unfold EH;dsimp only;rw[hp];exact b1
     have no: ∀{b:Bool},b=false-> ¬PK V.laid x AB->(∃s0,Sat (EH E c {V with rf:=V.rf.tail,pl:=V.pl.tail} {g with s0:=s0,s1:=s1} P W++Z) aB/\(b=true->Gv V hint AB x)/\(b=false->M8 V AB)):=fun hb d=>
      ⟨_,bW,fun h=>(by rw[hb]at h;cases h),fun _ p r' aJ=>by rw[hp]at aJ;cases aJ;exact d⟩
     rw[Int.tmod_eq_emod_of_nonneg b6.1];refine An (AD (fun g0=>⟨by decide,BW (fun g1=>MJ (by omega) p0 fun br bU j=> ?_) fun g1 j=>Ac rfl (no rfl fun h=>g1 h.1)⟩) fun g0 j=>Ac rfl (no rfl fun h=>by have:=h.2.1;omega));cases br
     ·exact Ac rfl (no rfl fun h=>by have:=bU.2 ⟨by omega,h.2.2.1⟩;cases this)
     ·have hr:=bU.1 rfl;unfold FY at hr;refine AV rfl (Pa aE bW (by omega) p0 (by omega) (fun aY w' O=>⟨_,O,fun _=>.inl ⟨x,r,hp,⟨g1,by omega,hr.2,(C4 hI.ok.JA (by omega)).2 aY⟩,rfl⟩,fun h=>by cases h⟩) fun m m0 m1 m2 _ w' O=>⟨_,O,fun h=>(by cases h),fun _ p r' aJ=> ?_⟩);rw[hp]at aJ;cases aJ;exact fun h=>(C4 hI.ok.JA (by omega)).1 h.2.2.2 m m1 m2 m0
   ·have aM:V.pl=[]:=by
     have:=hl.1;dsimp only at this;have:(ints IntKind.u64 V.pl).length=0:=by omega
     rw[ints,List.length_map]at this;exact List.eq_nil_of_length_eq_zero this
    refine⟨g.s0,?_,fun h=>(by cases h),fun _ p r h=>by rw[aM]at h;cases h⟩;unfold EH;dsimp only;rw[aM];unfold EH at H5;dsimp only at H5;rw[aM]at H5;exact H5
  rintro⟨pl,ok,v⟩ _ w8 ⟨s0,H8,hy,d⟩;dsimp only at hy d⊢;refine AX (fun st w'=>Sat (EH E c {V with rf:=V.rf.tail,pl:=V.pl.tail} {g with s0:=s0,s1:=s1} P W++Z) w'/\(st.2.1=true->Gv V hint AB st.1)/\(st.2.1=false->M8 V AB/\JD V.laid hint AB)) ?_ ?_
  ·cases ok
   ·exact AV rfl (Pb aE H8 h0 h1 aA (by omega) (fun hh w' O=>⟨O,fun h=>(by cases h),fun _=>⟨d rfl,hh⟩⟩) fun a ha w' O=>⟨O,fun _=>.inr ⟨d rfl,.inl ha⟩,fun h=>by cases h⟩)
   ·exact Ac rfl ⟨H8,hy,fun h=>by cases h⟩
  clear hy d;rintro⟨pl,ok,v⟩ _ aX ⟨bH,hy,d⟩;dsimp only at hy d⊢;refine AX (fun st w'=>Sat (EH E c {V with rf:=V.rf.tail,pl:=V.pl.tail} {g with s0:=s0,s1:=s1} P W++Z) w'/\(st.2.1=true->Gv V hint AB st.1)/\(st.2.1=false->Ke V hint AB)) ?_ ?_
  ·cases ok
   ·exact AV rfl (Pb aE bH (by decide) (by decide) aA (by omega) (fun hh w' O=>⟨O,fun h=>(by cases h),fun _=>⟨(d rfl).1,(d rfl).2,hh⟩⟩) fun a ha w' O=>⟨O,fun _=>.inr ⟨(d rfl).1,.inr ⟨(d rfl).2,ha⟩⟩,fun h=>by cases h⟩)
   ·exact Ac rfl ⟨bH,hy,fun h=>by cases h⟩
  clear hy d;rintro⟨pl,ok,v⟩ _ aZ ⟨bM,hy,d⟩;dsimp only at hy d⊢;cases ok
  ·exact AV rfl (cF aK bF (d rfl) _ (Sat.Kj.2 ⟨_,_,_,aE,bM⟩))
  have a2:=hy rfl;have aG:=a2.fits hI.ok.JA aA;have cB:0<=pl:=by
   rcases a2 with ⟨p,r,hp,_,he⟩|⟨_,⟨_,h3,_⟩|⟨_,_,h3,_⟩⟩
   ·rw[he];exact(hI.Sg p (by rw[hp];simp)).1
   ·have:=h3.low;omega
   ·have:=h3.low;omega
  have dI:=aG.1;have dG:=aG.2.1;have bS:=aG.2.2.1;have aY:=(C4 hI.ok.JA (show pl<=pl+AB by omega)).1 aG.2.2.2;clear hy d aG;refine Ac rfl (Ir aE bM fun b3 c6 bJ cU=> ?_);have a3:=JE (key:=kP) P pl;have dF:=hI.gA;refine Hu (n:=0) (z:=3) cU rfl (by decide) fun bI a1 aP=> ?_;have hl:=LS aP.tail;refine⟨g.s3,(aP.front 1 rfl).cell rfl,⟨by omega,by dsimp only at hl;omega⟩,?_⟩;refine F4 (x:=⟨Gp g.s3.base g.s3.cap 0 3,pos kP P pl,g.s3.cap⟩) (news:=Bj aV (P.take (pos kP P pl))) aP rfl ((aP.front 5 rfl).N1 (by decide) HL a3) (by rw[DQ HL,List.length_take];dsimp only;rw[Nat.min_eq_left a3]) (Hg OR _) (by dsimp only at hl⊢;omega) (by dsimp only at hl⊢;omega) fun bL a7 a8 bQ=> ?_;rw[List.nil_append]at a8;refine AK (fun st w'=> ∃i:Nat,st.2.1=(i:Int)/\(i:Int)<=AB/\st.1.len=pos kP P pl+i/\
    Sat (Row E.Ai 3 st.1 (Bj aV (P.take (pos kP P pl)++((List.range i).map fun i:Nat=>(pl+(i:Int),(1:Int),(0:Int)))))::(EH E c {V with rf:=V.rf.tail,pl:=V.pl.tail} {g with s0:=s0,s1:=s1} P W++Z)) w') (fun st _=>(AB-st.2.1).toNat)
   ⟨0,rfl,by show(0:Int)<=AB;omega,by dsimp only at bQ⊢;omega,by simpa using a8⟩ ?_
  rintro⟨aC,i',v⟩ _ aQ ⟨i,hi,c1,bG,aH⟩;dsimp only at hi bG aH⊢;subst hi;refine AD (fun cA=> ?_) fun bX=> ?_
  ·rw[AM (n:=pl+(i:Int)),AM (n:=(i:Int)+1)];refine Ad aH fun bN bC cO _=> ?_;refine GP (news:=aV (pl+(i:Int),1,0)) cO rfl rfl (OR _) (by omega) (by omega) fun bD bB a6 c2=>⟨⟨i+1,by omega,by omega,by omega,?_⟩,by omega⟩;have e1:Bj aV (P.take (pos kP P pl)++((List.range i).map fun i:Nat=>(pl+(i:Int),(1:Int),(0:Int))))++aV (pl+(i:Int),1,0)=Bj aV (P.take (pos kP P pl)++((List.range (i+1)).map fun i:Nat=>(pl+(i:Int),(1:Int),(0:Int)))):=by
    rw[List.range_succ,List.map_append,<-List.append_assoc,Hf (_++_)];simp[Bj]
   rw[e1]at a6;exact a6
  ·have bE:(i:Int)=AB:=by omega
   refine⟨g.s3,(aH.front 1 rfl).cell rfl,⟨by omega,by dsimp only at hl;omega⟩,?_⟩;refine F4 (x:=⟨Gp g.s3.base g.s3.cap (pos kP P pl) 3,g.s3.len-pos kP P pl,g.s3.cap-pos kP P pl⟩) (news:=Bj aV (P.drop (pos kP P pl))) aH rfl ((aH.front 5 rfl).N2 (by decide) HL a3) (by rw[DQ HL,List.length_drop];dsimp only;rw[hl.1]) (Hg OR _) (by dsimp only at hl⊢;omega) (by dsimp only at hl⊢;omega) fun aU bO a9 _=> ?_;rw[<-Hf]at a9;refine mput3 a9 fun w' O=>cW aK bF pl (by omega) bS a2 w' fun Bi=> ?_;refine Sat.Kj.2 ⟨_,_,_,hI.UK (n:=i) Bi rfl rfl rfl (fun x hx=>List.mem_of_mem_tail hx) (fun p=> ?_) (fun p q1 q2=>aY p q1 (by rw[<-bE];exact q2)),O⟩;rw[bE];exact Ca hI.ok.JA (Int.lt_add_of_pos_right _ aA) cB (Int.lt_of_le_of_lt bS (by decide)) p
 refine Ms H (fun e=>Ac rfl (aI (fun r h=>by rw[e]at h;cases h) g.s1 w ?_)) fun x r e s w' O=> ?_
 ·have:V.rf.tail=V.rf:=by rw[e];rfl
  rw[this];exact H
 ·cases x
  ·refine Ac rfl (aI (fun r h=>by rw[e]at h;cases h) s w' ?_);rw[e];exact O
  ·exact AV rfl (bY aK r e w' (Sat.Kj.2 ⟨_,P,W,hI.congr rfl rfl rfl (fun x hx=>hx) fun _ _ _ _=>rfl,O⟩))
end
end Go.Sh
set_option linter.all false
set_option maxRecDepth 8000
set_option maxHeartbeats 2000000
namespace Go.Sh
theorem LF{α β:Type}{f g:α->List β}: ∀{l:List α},(∀x∈l,f x=g x)->l.flatMap f=l.flatMap g
 | [],_=>rfl
 | a::l,h=>by rw[List.flatMap_cons,List.flatMap_cons,h a (.head _),LF fun x d=>h x (.tail _ d)]
abbrev QV:=Int×(Int->Bool)×(Int->Bool)
def qc(v:Nat->QV)(i:Nat):List Value:=GR (v i).1 (v i).2.1 (v i).2.2
def WN(m t:Nat):List Value:=[.pointer (some ⟨m,0,none⟩),.pointer (some ⟨t,0,none⟩)]
def WO(f:Nat)(sl:AZ)(hint:Int):List Value:=[.pointer (some ⟨f,0,none⟩),Ie sl,.int .u64 hint]
def C3(m t f:Nat)(sl:AZ)(hint:Int)(v:Nat->QV):List Value:=WN m t++((List.range 64).flatMap (qc v)++WO f sl hint)
def aX(m t:Nat)(v:Nat->QV)(p:Nat):List Value:=WN m t++((List.range 64).take p).flatMap (qc v)
def mV(f:Nat)(sl:AZ)(hint:Int)(v:Nat->QV)(p:Nat):List Value:=((List.range 64).drop (p+1)).flatMap (qc v)++WO f sl hint
theorem HD(v:Nat->QV): ∀l:List Nat,(l.flatMap (qc v)).length=129*l.length
 | []=>rfl
 | a::l=>by
  rw[List.flatMap_cons,List.length_append,HD v l,List.length_cons];have:(qc v a).length=129:=mQ;omega
theorem QE(m t:Nat)(v:Nat->QV){p:Nat}(hp:p<64):(aX m t v p).length=2+p*129:=by
 unfold aX;rw[List.length_append,HD,List.length_take,List.length_range];have:(WN m t).length=2:=rfl;omega
theorem mW{p:Nat}(hp:p<64):List.range 64=(List.range 64).take p++p::(List.range 64).drop (p+1):=by
 have h:=(List.take_append_drop p (List.range 64)).symm;rw[List.drop_eq_getElem_cons (by rw[List.length_range];exact hp),List.getElem_range]at h;exact h
theorem UN(m t f:Nat)(sl:AZ)(hint:Int)(v:Nat->QV){p:Nat}(hp:p<64):C3 m t f sl hint v=qW (aX m t v p) (mV f sl hint v p) (v p).1 (v p).2.1 (v p).2.2:=by
 unfold C3 qW aX mV;have h:(List.range 64).flatMap (qc v)=((List.range 64).take p).flatMap (qc v)++(qc v p++((List.range 64).drop (p+1)).flatMap (qc v)):=by
  conv=>lhs;rw[mW hp]
  rw[List.flatMap_append,List.flatMap_cons]
 rw[h];simp only[List.append_assoc];rfl
def Jo(v:Nat->QV)(p:Nat)(x:QV):Nat->QV:=fun j=>if j=p then x else v j
theorem gM(m t f:Nat)(sl:AZ)(hint:Int)(v:Nat->QV){p:Nat}(hp:p<64)(x:QV):qW (aX m t v p) (mV f sl hint v p) x.1 x.2.1 x.2.2=C3 m t f sl hint (Jo v p x):=by
 rw[UN m t f sl hint (Jo v p x) hp];have j:aX m t (Jo v p x) p=aX m t v p:=by
  unfold aX;congr 1;refine LF fun i hi=> ?_;obtain⟨k,C,e⟩:=List.mem_take_iff_getElem.1 hi;rw[List.getElem_range]at e;unfold qc Jo;rw[if_neg (by omega)]
 have d:mV f sl hint (Jo v p x) p=mV f sl hint v p:=by
  unfold mV;congr 1;refine LF fun i hi=> ?_;obtain⟨k,C,e⟩:=List.mem_drop_iff_getElem.1 hi;rw[List.getElem_range]at e;unfold qc Jo;rw[if_neg (by omega)]
 have y:Jo v p x p=x:=if_pos rfl;rw[j,d,y]
theorem gN(m t f:Nat)(sl:AZ)(hint:Int)(v:Nat->QV):(C3 m t f sl hint v).length=8261:=by
 unfold C3;rw[List.length_append,List.length_append,HD,List.length_range];rfl
theorem rh_0(m t f:Nat)(sl:AZ)(hint:Int)(v:Nat->QV):(C3 m t f sl hint v)[0]? =some (.pointer (some ⟨m,0,none⟩)):=rfl
theorem rh_1(m t f:Nat)(sl:AZ)(hint:Int)(v:Nat->QV):(C3 m t f sl hint v)[1]? =some (.pointer (some ⟨t,0,none⟩)):=rfl
theorem UO(m t f:Nat)(sl:AZ)(hint:Int)(v:Nat->QV)(i:Nat):(C3 m t f sl hint v)[8258+i]? =(WO f sl hint)[i]? :=by
 unfold C3;rw[List.getElem?_append_right (by show 2<=_;omega),List.getElem?_append_right (by rw[HD,List.length_range];show 8256<=8258+i-2;omega),HD,List.length_range];rw[show 8258+i-(WN m t).length-129*64=i by show 8258+i-2-8256=i;omega]
theorem gO(m t f:Nat)(sl:AZ)(hint:Int)(v:Nat->QV)(i:Nat)(x:Value){f':Nat}{sl':AZ}{hint':Int}(h:(WO f sl hint).set i x=WO f' sl' hint'):(C3 m t f sl hint v).set (8258+i) x=C3 m t f' sl' hint' v:=by
 unfold C3;rw[List.set_append_right _ _ (by show 2<=_;omega),List.set_append_right _ _ (by rw[HD,List.length_range];show 8256<=8258+i-2;omega),HD,List.length_range];rw[show 8258+i-(WN m t).length-129*64=i by show 8258+i-2-8256=i;omega,h]
structure RG where
 m:Nat
 t:Nat
 f:Nat
 sl:AZ
 v:Nat->QV
 L:List (Int×Nat)
abbrev TH:=Int->(Nat->Bool)×(Nat->Bool)
def HR(x:Int×Nat):List Value:=[.int .i64 x.1,.pointer (some ⟨x.2,0,none⟩)]
theorem BU(x:Int×Nat):(HR x).length=2:=rfl
def LG(E:Env)(sp:Int->Option (Nat×SI))(um:TH)(x:Int×Nat):Pr:=match sp x.1 with
 | some y=>C0 E x.2 y.2 (um x.1).1 (um x.1).2
 | none=>YB
def C2(E:Env)(h:Nat)(S:HS)(um:TH)(g:RG):List Pr:=
 [Cells h E.AY (C3 g.m g.t g.f g.sl S.hint g.v),Dl E g.m S.V,JV E g.t S.T,II E g.f S.fx,Row E.AW 2 g.sl (Bj HR g.L),Ap (LG E S.sp um) g.L]
structure Xx(S:HS)(g:RG):Prop where
 q: ∀i,i<64->Xq (S.ca i) (g.v i).1 (g.v i).2.1 (g.v i).2.2
 mem: ∀id,id∈g.L.map (·.1)↔S.sp id≠none
 so:(g.L.map fun x=>S.at x.1).Pairwise (· < ·)
def GG(E:Env)(h:Nat)(S:HS)(um:TH):Pr:=Ex fun g:RG=>Jv (Xx S g) (Qe (C2 E h S um g))
section
variable{E:Env}{h:Nat}{S:HS}{um:TH}{g:RG}{Z:List Pr}{w:World}
theorem Sat.EI:Sat (GG E h S um::Z) w↔ ∃g,Xx S g/\Sat (C2 E h S um g++Z) w:=by
 unfold GG;rw[Sat.ex];constructor
 ·rintro⟨g,d⟩;rw[Sat.where,Sat.star]at d;exact⟨g,d.1,d.2⟩
 ·rintro⟨g,h1,j⟩;refine⟨g,?_⟩;rw[Sat.where,Sat.star];exact⟨h1,j⟩
theorem Sat.Rp{R:List Pr}(H:Sat (Cells h E.AY (C3 g.m g.t g.f g.sl S.hint g.v)::R) w)(j:Xx S g){p:Nat}(hp:p<64):
  Sat (TB h E.AY (aX g.m g.t g.v p) (mV g.f g.sl S.hint g.v p) (S.ca p)::R) w/\
  ∀{C:CS} {R':List Pr} {w'},Sat (TB h E.AY (aX g.m g.t g.v p) (mV g.f g.sl S.hint g.v p) C::R') w'->
   ∃x:QV,Xq C x.1 x.2.1 x.2.2/\Sat (Cells h E.AY (C3 g.m g.t g.f g.sl S.hint (Jo g.v p x))::R') w':=by
 refine⟨Sat.iA.2 ⟨_,_,_,j.q p hp,?_⟩,fun{C R' w'} d=> ?_⟩
 ·rw[<-UN g.m g.t g.f g.sl S.hint g.v hp];exact H
 ·obtain⟨B,u,k,y,d⟩:=Sat.iA.1 d;refine⟨(B,u,k),y,?_⟩;have:=gM g.m g.t g.f g.sl S.hint g.v hp (B,u,k);rw[<-this];exact d
end
end Go.Sh
set_option linter.all false
set_option maxRecDepth 8000
set_option maxHeartbeats 4000000
namespace Go.Sh
abbrev Ib:AT:=.cons (.int .i64) (.cons (.int .i64) (.cons (.int .u64) (.cons (.int .i64) (.cons .bool (.cons (.int .i64) (.cons (.int .u64) .nil))))))
def oW(x:Nd Ib):Int:=x.1
def oP(x:Nd Ib):Int:=x.2.1
def oN(x:Nd Ib):Int:=x.2.2.1
def oC(x:Nd Ib):Int:=x.2.2.2.1
def oB(x:Nd Ib):Bool:=x.2.2.2.2.1
def oI(x:Nd Ib):Int:=x.2.2.2.2.2.1
theorem Nf.nZ{w w':World}{s:AZ}{z:Nat->Nd Ib}(h:Lp w Ib s z)(he:Ext AN w w'):Lp w' Ib s z:=
 ⟨h.1,h.2.1,fun j d=>by
  obtain⟨x,h1,y,J⟩:=h.2.2 j d;exact⟨x,h1,fun i v C=>he.cell (y i v C) fun f=>f,J⟩⟩
theorem UP{w:World}{ok:Bool->Prop}{s:AZ}{z:Nat->Bool}(h:Nf w .bool ok s z):rowAt w s.base s.len (A6 (K0 s.len z)):=by
 cases hb:s.base with
 | none=>
  have:s.len=0:=by
   rcases Nat.eq_zero_or_pos s.len with e|e
   ·exact e
   ·obtain⟨x,d,_⟩:=h.nB e;rw[hb]at d;cases d
  show A6 (K0 s.len z)=[];rw[this];rfl
 | some a=>
  refine⟨by simp[A6,FV],fun j v C=> ?_⟩;have y:j<s.len:=by
   have:=(List.getElem?_eq_some_iff.1 C).1;simpa[A6,FV]using this
  rw[JR (U3 z y)]at C;cases C;obtain⟨x,d,J⟩:=h.nB y;rw[hb]at d;cases d;exact J
theorem Nf.wG{w w':World}{s:AZ}{z:Nat->Bool}(h:Lp w .bool s z)(he:Ext AN w w'):Lp w' .bool s z:=
 ⟨h.1,h.2.1,fun j d=>by
  obtain⟨x,h1,y,J⟩:=h.2.2 j d;exact⟨x,h1,fun i v C=>he.cell (y i v C) fun f=>f,J⟩⟩
def Rq(S:HS)(l:List Int):Int:=cP fun p=>decide (0<S.own p/\S.own p∈l)
theorem Al.Xy{S:HS}{fl:Int->Bool}(d:Al S fl){id:Int}{x:Nat×SI}(j:S.sp id=some x)(p:Int):S.own p=id↔x.2.base/8192<=p/\p<x.2.base/8192+x.2.AB:=by
 have h0:=d.sp id x j;refine⟨fun e=> ?_,fun h=>h0.2.2.2.2 p h.1 h.2⟩;obtain⟨_,_,_,y,v,h1,C⟩:=d.ow p (by omega);rw[e,j]at v;cases v;exact⟨h1,C⟩
theorem aY{S:HS}{fl:Int->Bool}(j:Al S fl)(y:HP S){id:Int}{x:Nat×SI}(v:S.sp id=some x){l:List Int}(C:id∉l):Rq S (l++[id])=Rq S l+x.2.AB/\0<=x.2.base/8192/\x.2.base/8192+x.2.AB<=34359738368:=by
 have h0:=j.sp id x v;have b0:0<=x.2.base/8192/\x.2.base/8192+x.2.AB<=34359738368:=by
  have O:=h0.2.2.2.2 (x.2.base/8192) (Int.le_refl _) (by omega);have J:=h0.2.2.2.2 (x.2.base/8192+x.2.AB-1) (by omega) (by omega);have T:=y.tv.Gn _ (j.ow _ (by omega:0<S.own (x.2.base/8192))).1;have K:=y.tv.Gn _ (j.ow _ (by omega:0<S.own (x.2.base/8192+x.2.AB-1))).1;omega
 refine⟨?_,b0⟩;unfold Rq;rw[N6 (f:=fun p=>decide (0<S.own p/\S.own p∈l)) (g:=inr (x.2.base/8192) x.2.AB),Ov b0.1 (by omega) b0.2]
 ·intro p;rw[Bool.eq_iff_iff,Bool.or_eq_true,decide_eq_true_iff,decide_eq_true_iff,AR,<-j.Xy v p,List.mem_append,List.mem_singleton];constructor
  ·rintro⟨h1,d|d⟩
   ·exact .inl ⟨h1,d⟩
   ·exact .inr d
  ·rintro(⟨h1,d⟩|d)
   ·exact⟨h1,.inl d⟩
   ·exact⟨by omega,.inr d⟩
 ·intro p a b;have a:=of_decide_eq_true a;rw[AR,<-j.Xy v p]at b;rw[b]at a;exact C a.2
theorem gP{S:HS}(d:Al S no){l:List Int}(h: ∀n,n∈l↔S.sp n≠none):Rq S l=S.AB:=by
 rw[d.pg];refine RC fun p _ _=> ?_;rw[decide_eq_decide];refine⟨fun h=>h.1,fun h0=>⟨h0,(h _).2 ?_⟩⟩;obtain⟨_,_,_,x,j,_⟩:=d.ow p h0;rw[j];exact fun e=>by cases e
section
variable{E:Env}{w:World}(hE:Vw E)
include hE
end
end Go.Sh
set_option linter.all false
set_option maxRecDepth 8000
set_option maxHeartbeats 2000000
namespace Go.Sh
section
variable{E:Env}{h:Nat}{S:HS}{um:TH}{g:RG}{Z:List Pr}{w:World}
theorem UQ{R:List Pr}(H:Sat (Cells h E.AY (C3 g.m g.t g.f g.sl S.hint g.v)::R) w):w.cell? ((Addr.mk h 0 none).add 8259)=some (.slice g.sl.base g.sl.len g.sl.cap):=
 H.cell (o:=0) (m:=8259) (by rw[Nat.zero_add];exact UO g.m g.t g.f g.sl S.hint g.v 1)
theorem aZ{R:List Pr}(H:Sat (Cells h E.AY (C3 g.m g.t g.f g.sl S.hint g.v)::R) w):w.cell? ((Addr.mk h 0 none).add 1)=some (.pointer (some ⟨g.t,0,none⟩)):=
 H.cell (o:=0) (m:=1) (by rw[Nat.zero_add];exact rh_1 g.m g.t g.f g.sl S.hint g.v)
theorem KI{R:List Pr}{sl:AZ}{L:List (Int×Nat)}(H:Sat (Row E.AW 2 sl (Bj HR L)::R) w):L.length=sl.len:=(H.IW (by decide) BU).1
theorem Pd(H:Sat (C2 E h S um g++Z) w)(hI:Xx S g)(aA:g.L.length<1099511627776){id:Int}{K:Int->World->Prop}(T:S.sp id=none->K (-1) w)(Y: ∀(i q:Nat),g.L[i]? =some (id,q)->K i w):
  F.DZ E (some ⟨h,0,none⟩) id K w:=by
 unfold F.DZ;have hl:=KI (H.front 4 rfl);refine AK (fun st w'=>w'=w/\ ∃i:Nat,st.1=(i:Int)/\i<=g.L.length/\ ∀(j q:Nat),j<i->g.L[j]? ≠some (id,q)) (fun st _=>((g.L.length:Int)-st.1).toNat) ⟨rfl,0,rfl,Nat.zero_le _,fun j q C=>by omega⟩ ?_;rintro⟨i',u⟩ _ w2 ⟨rfl,i,hi,aD,d⟩;dsimp only at hi⊢;subst hi;refine Aa ⟨g.sl,UQ H,AD (fun O=>Aa ⟨g.sl,UQ H,?_⟩) fun aF=> ?_⟩
 ·obtain⟨x,v⟩: ∃x,g.L[i]? =some x:=⟨_,List.getElem?_eq_getElem (by omega)⟩;obtain⟨b,hb⟩:=(H.front 4 rfl).Fx (by decide) BU (i:=i) (by omega);rw[hb];refine Aa ⟨⟨by omega,O⟩,x.1,?_,BW (fun e=>Y i x.2 (by rw[v,<-e])) fun e=> ?_⟩
  ·have:=(H.front 4 rfl).CD BU hb v (j:=0) rfl;rwa[Nat.add_zero]at this
  ·rw[AH (n:=(i:Int)+1)];refine⟨⟨rfl,i+1,by omega,by omega,fun j q C J=> ?_⟩,by omega⟩;by_cases ej:j=i
   ·rw[ej,v]at J;cases J;exact e rfl
   ·exact d j q (by omega) J
 ·refine T ?_;cases hs:S.sp id with
  | none=>rfl
  | some y=>
   have:=(hI.mem id).2 (by rw[hs];exact fun e=>by cases e);obtain⟨x,v,e⟩:=List.mem_map.1 this;obtain⟨j,C⟩:=List.mem_iff_getElem?.1 v;have aE:=(List.getElem?_eq_some_iff.1 C).1;exact absurd (by rw[C,<-e]) (d j x.2 (by omega))
theorem KJ(H:Sat (C2 E h S um g++Z) w)(J:Xx S g)(d:g.L.length<1099511627776){id:Int}{K:Option Addr->World->Prop}(y:S.sp id=none->K none w)(v: ∀(i q:Nat),g.L[i]? =some (id,q)->K (some ⟨q,0,none⟩) w):
  F.BV E (some ⟨h,0,none⟩) id K w:=by
 unfold F.BV T0.BV;have T:=KI (H.front 4 rfl);refine Pd H J d (fun hs=>AV rfl (y hs)) fun i q hi=> ?_;have O:=(List.getElem?_eq_some_iff.1 hi).1;obtain⟨b,C⟩:=(H.front 4 rfl).Fx (by decide) BU (i:=i) (by omega);refine Ac (decide_eq_false (by omega)) (Aa ⟨g.sl,UQ H,?_⟩);rw[C];refine Aa ⟨⟨by omega,by omega⟩,some ⟨q,0,none⟩,?_,v i q hi⟩;have:=(H.front 4 rfl).CD BU C hi (j:=1) rfl;rw[add_add];exact this
theorem OT(H:Sat (GG E h S um::Z) w)(d:Al S no)(hk:HP S){p:Int}{K:World->Prop}(y: ¬(0<=p/\p<64)-> ∀w',Sat (GG E h S um::Z) w'->K w')
  (aA:0<=p->p<64-> ∀w',Sat (GG E h (S.flush p.toNat) um::Z) w'->K w'):F.B9 E (some ⟨h,0,none⟩) p K w:=by
 unfold F.B9 T0.B9;refine An (AD (fun g1 j=>AD (fun Y=> ?_) fun Y=>y (by omega) w H) fun g1 j=>Ac rfl (y (by omega) w H));have Hd:=H.drew;obtain⟨g,C,H1⟩:=Sat.EI.1 Hd;have hp:p.toNat<64:=by omega
 refine Aa ⟨⟨g1,Y⟩,Aa ⟨_,aZ H1,?_⟩⟩;rw[add_add];obtain⟨H2,hb⟩:=Sat.Rp (R:=Dl E g.m S.V::JV E g.t S.T::II E g.f S.fx::Row E.AW 2 g.sl (Bj HR g.L)::Ap (LG E S.sp um) g.L::Z) H1 C hp;have ha:(Addr.mk h 0 none).add (2+Int.toNat p*129)=Addr.mk h (aX g.m g.t g.v p.toNat).length none:=by
  rw[QE _ _ _ hp,add_eq,Nat.zero_add]
 rw[ha];have O:vQ (S.ca p.toNat) S.T:=fun q J=>by
  obtain⟨c1,c2,_⟩:=d.cr p.toNat hp q J;exact⟨c1,c2⟩
 refine UD (H2.DR 1 rfl) O hk.tv.rf fun w7 H7=>aA g1 Y w7 ?_;obtain⟨x,J,H8⟩:=hb (H7.perm (.cons _ (.swap _ _ _)));refine Sat.EI.2 ⟨{g with v:=Jo g.v p.toNat x},⟨fun i hi=> ?_,C.mem,C.so⟩,H8⟩;show Xq (if i=p.toNat then CS.nil else S.ca i) (Jo g.v p.toNat x i).1 (Jo g.v p.toNat x i).2.1 (Jo g.v p.toNat x i).2.2;unfold Jo;by_cases e:i=p.toNat
 ·rw[if_pos e,if_pos e];exact J
 ·rw[if_neg e,if_neg e];exact C.q i hi
theorem gQ{R:List Pr}(H:Sat (Ap (LG E S.sp um) g.L::R) w)(v:Xx S g){i:Nat}{x:Int×Nat}(d:g.L[i]? =some x): ∃y R',S.sp x.1=some y/\Sat (C0 E x.2 y.2 (um x.1).1 (um x.1).2::R') w:=by
 have hm:x.1∈g.L.map (·.1):=List.mem_map.2 ⟨x,List.mem_of_getElem? d,rfl⟩;obtain⟨y,j⟩:=Option.ne_none_iff_exists'.1 ((v.mem x.1).1 hm);have h1:=H.Hs d;have e:LG E S.sp um x=C0 E x.2 y.2 (um x.1).1 (um x.1).2:=by unfold LG;rw[j]
 rw[e]at h1;exact⟨y,_,j,h1⟩
theorem O5(H:Sat (GG E h S um::Z) w)(d:Al S no)(hk:HP S){a:Int}(a0:0<=a)(a1:a<18446744073709551616){K:Int->World->Prop}(hK: ∀w',Sat (GG E h S um::Z) w'->K (S.own (a/8192)) w'):F.DT E (some ⟨h,0,none⟩) a K w:=by
 obtain⟨g,hI,H⟩:=Sat.EI.1 H;unfold F.DT;have hl:=KI (H.front 4 rfl);have aM:=(H.front 4 rfl).IW (by decide) BU;have aJ:u64 (Int.tdiv a 8192)=a/8192:=by rw[Int.tdiv_eq_ediv_of_nonneg a0,AM]
 rw[aJ];generalize hP:a/8192=P at *
 have aS:0<=P:=by omega
 have aV:P<18446744073709551616:=by omega
 refine AK (fun st w'=>Sat (C2 E h S um g++Z) w'/\ ∃i:Nat,st.1=(i:Int)/\i<=g.L.length/\ ∀(j:Nat) (x:Int×Nat),j<i->g.L[j]? =some x->S.own P≠x.1) (fun st _=>((g.L.length:Int)-st.1).toNat) ⟨H,0,rfl,Nat.zero_le _,fun j q hj=>by omega⟩ ?_;rintro⟨i',u⟩ _ w2 ⟨J,i,hi,aR,T⟩;dsimp only at hi⊢;subst hi;refine Aa ⟨g.sl,UQ J,AD (fun Y=>Aa ⟨g.sl,UQ J,?_⟩) fun aF=> ?_⟩
 ·obtain⟨x,O⟩: ∃x,g.L[i]? =some x:=⟨_,List.getElem?_eq_getElem (by omega)⟩;obtain⟨b,hb⟩:=(J.front 4 rfl).Fx (by decide) BU (i:=i) (by omega);rw[hb];have Hd:=J.drew;obtain⟨y,R',hy,h1⟩:=gQ (Hd.front 5 rfl) hI O;obtain⟨ul,ml,s1,s2,lk,aT,h2⟩:=Sat.Ki.1 h1;have aA:=d.sp x.1 y hy;have C:=d.Xy hy P;have e1:=aA.2.2.2.2 (y.2.base/8192) (Int.le_refl _) (by omega);have e2:=aA.2.2.2.2 (y.2.base/8192+y.2.AB-1) (by omega) (by omega);have g1:=hk.tv.Gn _ (d.ow _ (by omega:0<S.own (y.2.base/8192))).1;have g2:=hk.tv.Gn _ (d.ow _ (by omega:0<S.own (y.2.base/8192+y.2.AB-1))).1;refine Aa ⟨⟨by omega,Y⟩,some ⟨x.2,0,none⟩,?_,?_⟩
  ·have:=(J.front 4 rfl).CD BU hb O (j:=1) rfl;rw[add_add];exact this
  refine AX (fun st w'=>(st.1=true↔S.own P=x.1)/\Sat (C2 E h S um g++Z) w') ⟨by decide,Aa ⟨_,h2.A2 rfl,AD (fun aF=>⟨by decide,Aa ⟨_,h2.A2 rfl,Aa ⟨_,h2.cell rfl,?_,Hd⟩⟩⟩) fun aN=>⟨?_,Hd⟩⟩⟩ ?_
  ·show decide _=true↔_;rw[AM (n:=P-y.2.base/8192),decide_eq_true_iff,C];omega
  ·show false=true↔_;rw[C];constructor
   ·intro e;cases e
   ·intro e;omega
  rintro⟨t,u⟩ _ aG ⟨ht,v⟩;dsimp only at ht⊢;refine AQ (fun e=>Aa ⟨g.sl,UQ v,?_⟩) fun e=> ?_
  ·rw[hb];refine Aa ⟨⟨by omega,Y⟩,x.1,?_,?_⟩
   ·have:=(v.front 4 rfl).CD BU hb O (j:=0) rfl;rwa[Nat.add_zero]at this
   ·rw[<-ht.1 e];exact hK aG (Sat.EI.2 ⟨g,hI,v⟩)
  ·rw[AH (n:=(i:Int)+1)];refine⟨⟨v,i+1,by omega,by omega,fun j z hj hz=> ?_⟩,by omega⟩;by_cases ej:j=i
   ·rw[ej,O]at hz;cases hz;exact fun q=>by rw[ht.2 q]at e;cases e
   ·exact T j z (by omega) hz
 ·have h0:S.own P=0:=by
   have aU:=d.o0 P;by_cases hp:0<S.own P
   ·obtain⟨_,_,_,y,hy,_⟩:=d.ow P hp;obtain⟨x,O,e⟩:=List.mem_map.1 ((hI.mem (S.own P)).2 (by rw[hy];exact fun e=>by cases e));obtain⟨j,hj⟩:=List.mem_iff_getElem?.1 O;have aP:=(List.getElem?_eq_some_iff.1 hj).1;exact absurd e.symm (T j x (by omega) hj)
   ·omega
  have:=hK w2 (Sat.EI.2 ⟨g,hI,J⟩);rw[h0]at this;exact this
theorem mX(H:Sat (GG E h S um::Z) w){p:Nat}(hp:p<64): ∃(A D:List Value) (R:List Pr),A.length=2+p*129/\Sat (TB h E.AY A D (S.ca p)::R) w/\
  ∀{w'},Sat (TB h E.AY A D (S.ca p)::R) w'->Sat (GG E h S um::Z) w':=by
 obtain⟨g,d,H1⟩:=Sat.EI.1 H;obtain⟨C,J⟩:=Sat.Rp (R:=Dl E g.m S.V::JV E g.t S.T::II E g.f S.fx::Row E.AW 2 g.sl (Bj HR g.L)::Ap (LG E S.sp um) g.L::Z) H1 d hp;refine⟨_,_,_,QE g.m g.t g.v hp,C,fun{w'} H3=> ?_⟩;obtain⟨x,j,y⟩:=J H3;refine Sat.EI.2 ⟨{g with v:=Jo g.v p x},⟨fun i hi=> ?_,d.mem,d.so⟩,y⟩;show Xq (S.ca i) (Jo g.v p x i).1 (Jo g.v p x i).2.1 (Jo g.v p x i).2.2;unfold Jo;by_cases e:i=p
 ·rw[if_pos e,e];exact j
 ·rw[if_neg e];exact d.q i hi
theorem UR(H:Sat (GG E h S um::Z) w)(y:Al S no)(hk:HP S){p:Int}(p0:0<=p)(p1:p<18446744073709551616){K:Int->Int->World->Prop}
  (aB:S.T.GH p=false-> ∀w',Sat (GG E h S um::Z) w'->K 0 0 w')(O:S.T.fr p=true-> ∀w',Sat (GG E h S um::Z) w'->K 1 0 w')
  (aC: ∀i:Nat,i<64->(S.ca i).own p=true->(∀j,j<i->(S.ca j).own p=false)-> ∀w',Sat (GG E h S um::Z) w'->K 2 i w')
  (aA:S.T.GH p=true->S.T.fr p=false->(∀i,i<64->(S.ca i).own p=false)-> ∀w',Sat (GG E h S um::Z) w'->K 3 (S.own p) w'):F.BN E (some ⟨h,0,none⟩) p K w:=by
 obtain⟨g,hI,H1⟩:=Sat.EI.1 H;unfold F.BN T0.BN;refine Aa ⟨_,aZ H1,OE (H1.front 2 rfl) p0 p1 fun w6 H6=> ?_⟩;have Y:Sat (GG E h S um::Z) w6:=Sat.EI.2 ⟨g,hI,Sat.back (Ps:=C2 E h S um g++Z) 2 H6 (by simp[C2])⟩;clear H6 H1 hI g;refine F5 (AQ (fun d=>AQ (fun hf=>O hf w6 Y) fun hf=> ?_) fun d=>aB d w6 Y);refine AK (fun st w'=>Sat (GG E h S um::Z) w'/\ ∃i:Nat,st.1=(i:Int)/\i<=64/\ ∀j,j<i->(S.ca j).own p=false) (fun st _=>(64-st.1).toNat) ⟨Y,0,rfl,by decide,fun j hj=>by omega⟩ ?_;rintro⟨i',u⟩ _ w8 ⟨H8,i,hi,aN,v⟩;dsimp only at hi⊢;subst hi;refine AD (fun aR=>Aa ⟨⟨by omega,by omega⟩,?_⟩) fun aQ=> ?_
 ·obtain⟨A,D,R,hA,H9,hb⟩:=mX H8 (p:=i) (by omega);have ha:((Addr.mk h 0 none).add 2).add (Int.toNat (i:Int)*129)=Addr.mk h A.length none:=by
   rw[add_add,add_eq,Nat.zero_add,hA,Int.toNat_natCast]
  rw[ha];refine V6 H9 p0 p1 fun J C=>AQ (fun e=>aC i (by omega) e v J (hb C)) fun e=> ?_;rw[AH (n:=(i:Int)+1)];refine⟨⟨hb C,i+1,by omega,by omega,fun j hj=> ?_⟩,by omega⟩;by_cases ej:j=i
  ·rw[ej];exact e
  ·exact v j (by omega)
 ·have aO:=hk.tv.Gn p d;rw[AM (n:=p*8192)];refine O5 H8 y hk (by omega) (by omega) fun aF aE=> ?_;rw[Int.mul_ediv_cancel _ (by decide:(8192:Int)≠0)];exact aA d hf (fun j hj=>v j (by omega)) aF aE
theorem US(H:Sat (GG E h S um::Z) w)(C:Al S no){K:AZ->World->Prop}
  (hK: ∀s l w',l.Nodup->(∀n,n∈l↔S.sp n≠none)->(l.map S.at).Pairwise (· < ·)->Sat (Row E.CV 1 s (ints .i64 l)::GG E h S um::Z) w'->K s w'):F.EC E (some ⟨h,0,none⟩) K w:=by
 obtain⟨g,T,H1⟩:=Sat.EI.1 H;unfold F.EC;have y:((g.L.map (·.1)).map S.at).Pairwise (· < ·):=by rw[List.map_map];exact T.so
 have O:(g.L.map (·.1)).Nodup:=List.Pairwise.imp (R:=fun a b=>S.at a<S.at b) (fun{a b} hab e=>by rw[e]at hab;omega) (List.pairwise_map.1 y);have J:=C.SF _ O fun n hn=>(T.mem n).1 hn;rw[List.length_map]at J;have hl:=KI (H1.front 4 rfl);have H2:=H1.nil E.CV 1;refine AK (fun st w'=> ∃i:Nat,st.2.1=(i:Int)/\i<=g.L.length/\Sat (Row E.CV 1 st.1 (ints .i64 ((g.L.take i).map (·.1)))::(C2 E h S um g++Z)) w') (fun st _=>((g.L.length:Int)-st.2.1).toNat) ⟨0,rfl,Nat.zero_le _,H2⟩ ?_;rintro⟨s,i',u⟩ _ w2 ⟨i,hi,aK,d⟩;dsimp only at hi d⊢;subst hi;have Y:=d.tail;refine Aa ⟨g.sl,UQ Y,AD (fun aA=>Aa ⟨g.sl,UQ Y,?_⟩) fun aH=> ?_⟩
 ·obtain⟨x,hx⟩: ∃x,g.L[i]? =some x:=⟨_,List.getElem?_eq_getElem (by omega)⟩;obtain⟨b,hb⟩:=(Y.front 4 rfl).Fx (by decide) BU (i:=i) (by omega);rw[hb];have aC:=d.FH;rw[ints,List.length_map,List.length_map,List.length_take,Nat.mul_one]at aC;refine Aa ⟨⟨by omega,aA⟩,x.1,?_,?_⟩
  ·have:=(Y.front 4 rfl).CD BU hb hx (j:=0) rfl;rwa[Nat.add_zero]at this
  ·rw[AH (n:=(i:Int)+1)];refine Ad (vs:=[.int .i64 x.1]) d fun aF aJ aB _=>GP (news:=[.int .i64 x.1]) aB rfl rfl (by simp[Value.oneCell']) (by omega) (by omega) fun aG aL v _=>⟨⟨i+1,by omega,by omega,?_⟩,by omega⟩;have e:ints .i64 ((g.L.take i).map (·.1))++[.int .i64 x.1]=ints .i64 ((g.L.take (i+1)).map (·.1)):=by
    rw[List.take_succ,hx];simp[ints]
   rw[e]at v;exact v
 ·obtain rfl:i=g.L.length:=by omega
  rw[List.take_length]at d;exact hK s _ w2 O T.mem y (Sat.perm (Sat.EI.2 ⟨g,T,d.perm (List.perm_middle (l₁:=C2 E h S um g)).symm⟩) (.swap _ _ _))
end
end Go.Sh
set_option linter.all false
set_option maxRecDepth 8000
set_option maxHeartbeats 2000000
namespace Go.Sh
theorem UT{a b m:Iv}(v:Ok a)(J:Ok b)(hm:Ok m)(h1: ∀p,mem a p->mem m p)(j: ∀p,mem b p->mem m p)(C: ∀p,mem a p-> ¬mem b p)(d: ∀p,mem m p->p<34359738368):DE a+DE b<=DE m:=by
 rw[<-RD v (f:=I9 a) (fun p=>Az.symm) fun p hp=>d p (h1 p (Az.1 hp)),<-RD J (f:=I9 b) (fun p=>Az.symm) fun p hp=>d p (j p (Az.1 hp)),<-RD hm (f:=I9 m) (fun p=>Az.symm) fun p hp=>d p (Az.1 hp),
  <-N6 (h:=fun p=>I9 a p||I9 b p) (fun p=>rfl) fun p x y=>C p (Az.1 x) (Az.1 y)]
 refine Tx fun p hp=>Az.2 ?_;rcases Bool.or_eq_true_iff.1 hp with h|h
 ·exact h1 p (Az.1 h)
 ·exact j p (Az.1 h)
theorem Nv.UK{V V':VS}(h:Nv V){a n:Int}(K:0<n)(h0:512<=a)(O:a+n<=34359738368)(d:V'.laid=CX V.laid a (a+n))(j:V'.ready=V.ready)(v:V'.rel=V.rel)(J:V'.wd=V.wd):Nv V':=by
 have hm:=Ca h.JA (a:=a) (b:=a+n) (by omega) (by omega) (by omega);have C:=(DF h.JA (a:=a) (b:=a+n) (by omega) (by omega) (by omega)).1;have y: ∀p,mem V'.laid p->512<=p/\p<34359738368:=fun p hp=>by
  rw[d,hm]at hp;rcases hp with hp|hp
  ·exact h.Gn p hp
  ·omega
 refine⟨by rw[d];exact C,by rw[j];exact h.KT,by rw[v];exact h.MZ,fun p hp=> ?_,fun p hp=> ?_,fun p hp=> ?_,y,fun p i a b hp=> ?_,?_⟩
 ·rw[d,hm];rw[j]at hp;exact .inl (h.rl p hp)
 ·rw[d,hm];rw[v]at hp;exact .inl (h.el p hp)
 ·rw[j]at hp;rw[v];exact h.re p hp
 ·rw[j]at hp;rw[J];exact h.clean p i a b hp
 ·rw[j,v,d];exact UT h.KT h.MZ C (fun p hp=>(hm p).2 (.inl (h.rl p hp))) (fun p hp=>(hm p).2 (.inl (h.el p hp))) h.re fun p hp=>(y p (by rw[d];exact hp)).2
theorem Nv.ND{V:VS}(h:Nv V){a n:Int}(h0:0<=a)(T:0<n)(Y:a+n<=34359738368)(d: ∀p,a<=p->p<a+n->mem V.laid p):Nv (HK V a n):=by
 have hm:=Ca h.KT (a:=a) (b:=a+n) (by omega) (by omega) (by omega);have K:=(DF h.KT (a:=a) (b:=a+n) (by omega) (by omega) (by omega)).1;have C:=fun p=>Cw (l:=V.rel) (a:=a) (b:=a+n) (n:=p) (by omega);have r1: ∀p,mem (HK V a n).ready p->mem V.laid p:=fun p hp=>by
  rcases(hm p).1 hp with g|g
  ·exact h.rl p g
  ·exact d p g.1 g.2
 have j: ∀p,mem (HK V a n).rel p->mem V.laid p:=fun p hp=>h.el p ((C p).1 hp).1;have v: ∀p,mem (HK V a n).ready p-> ¬mem (HK V a n).rel p:=fun p hp O=>by
  have y:=(C p).1 O;rcases(hm p).1 hp with g|g
  ·exact h.re p g y.1
  ·exact y.2 g
 have J:Ok (HK V a n).rel:=Fc h.MZ (by omega);refine⟨h.JA,K,J,r1,j,v,h.Gn,fun p i a1 b1 hp=> ?_,UT K J h.JA r1 j v fun p hp=>(h.Gn p hp).2⟩;show(if a<=p/\p<a+n/\I9 V.rel p=true then GQ V a p else V.wd p i)=0;have g:=fun x=>hp ((hm p).2 x);rw[if_neg fun x=>g (.inr ⟨x.1,x.2.1⟩)];exact h.clean p i a1 b1 fun x=>g (.inl x)
theorem Nv.release{V:VS}(h:Nv V){a n:Int}(h0:0<=a)(T:0<n)(Y:a+n<=34359738368)(d: ∀p,a<=p->p<a+n->mem V.ready p):Nv (Ga V a n):=by
 have hm:=Ca h.MZ (a:=a) (b:=a+n) (by omega) (by omega) (by omega);have K:=(DF h.MZ (a:=a) (b:=a+n) (by omega) (by omega) (by omega)).1;have j:=fun p=>Cw (l:=V.ready) (a:=a) (b:=a+n) (n:=p) (by omega);have r1: ∀p,mem (Ga V a n).ready p->mem V.laid p:=fun p hp=>h.rl p ((j p).1 hp).1;have y: ∀p,mem (Ga V a n).rel p->mem V.laid p:=fun p hp=>by
  rcases(hm p).1 hp with g|g
  ·exact h.el p g
  ·exact h.rl p (d p g.1 g.2)
 have C: ∀p,mem (Ga V a n).ready p-> ¬mem (Ga V a n).rel p:=fun p hp O=>by
  have J:=(j p).1 hp;rcases(hm p).1 O with g|g
  ·exact h.re p J.1 g
  ·exact J.2 g
 have v:Ok (Ga V a n).ready:=Fc h.KT (by omega);refine⟨h.JA,v,K,r1,y,C,h.Gn,fun p i a1 b1 hp=> ?_,UT v K h.JA r1 y C fun p hp=>(h.Gn p hp).2⟩;show(if a<=p/\p<a+n then 0 else V.wd p i)=0;by_cases g:a<=p/\p<a+n
 ·rw[if_pos g]
 ·rw[if_neg g];exact h.clean p i a1 b1 fun x=>hp ((j p).2 ⟨x,g⟩)
theorem M6.take{V:TV}(h:M6 V){x n:Int}(y:0<n):M6 (V.take x n):=by
 obtain⟨j,f1,f2⟩:=h.cf;obtain⟨d,r1,v⟩:=h.cr;refine⟨fun p hp=>h.fi p (K7.1 hp).1,fun p hp=>K7.2 ⟨h.rf p (N9.1 hp).1,(N9.1 hp).2⟩,h.Gn,h.ci,⟨Cs j x (x+n),Fc f1 (by omega),fun p=> ?_⟩,⟨Cs d x (x+n),Fc r1 (by omega),fun p=> ?_⟩⟩
 ·rw[Cw (by omega),f2,K7]
 ·rw[Cw (by omega),v,N9]
theorem LH{f:Int->Bool}{x n p:Int}:(f p||inr x n p)=true↔f p=true∨(x<=p/\p<x+n):=by
 rw[Bool.or_eq_true_iff,AR]
theorem M6.grow{V:TV}(h:M6 V){c n:Int}(y:0<=c)(j:0<n)(J:c+n<=67108864):M6 (V.grow c n):=by
 obtain⟨li,i1,i2⟩:=h.ci;obtain⟨C,f1,f2⟩:=h.cf;obtain⟨v,r1,d⟩:=h.cr;have key: ∀{l:Iv} {f:Int->Bool},Ok l->(∀p,mem l p↔f p=true)-> ∃l',Ok l'/\ ∀p,mem l' p↔(f p||inr (c*512) (n*512) p)=true:=fun{l f} o g=>
  ⟨CX l (c*512) (c*512+n*512),(DF o (by omega) (by omega) (by omega)).1,fun p=>by rw[Ca o (by omega) (by omega) (by omega),g,LH]⟩
 refine⟨fun p hp=> ?_,fun p hp=> ?_,fun p hp=> ?_,key i1 i2,key f1 f2,key r1 d⟩
 ·exact LH.2 ((LH.1 hp).imp_left (h.fi p))
 ·exact LH.2 ((LH.1 hp).imp_left (h.rf p))
 ·rcases LH.1 hp with g|g
  ·exact h.Gn p g
  ·omega
theorem M6.K3{V:TV}(h:M6 V){x n:Int}(h0:0<=x)(v:0<n)(y:x+n<=34359738368)(hi:Im V.idle x n):M6 (V.K3 x n):=by
 obtain⟨d,r1,j⟩:=h.cr;refine⟨h.fi,fun p hp=> ?_,h.Gn,h.ci,h.cf,⟨CX d x (x+n),(DF r1 (by omega) (by omega) (by omega)).1,fun p=>by rw[Ca r1 (by omega) (by omega) (by omega),j];exact LH.symm⟩⟩;rcases LH.1 hp with g|g
 ·exact h.rf p g
 ·have:=hi p g.1 g.2;exact(Bool.and_eq_true_iff.1 this).1
section
variable{S:HS}
theorem Xz(d:M6 S.T){q:Int}(h:Fz S.T 1 q):L4 (filled S.T q):=by
 have h1:=h.1;have j:=h.2.1;refine⟨by show 0<=q/64*64;omega,by show q/64*64<_;omega,by show q/64*64 %64=0;omega,fun i hi=> ?_,fun i hi=> ?_⟩
 ·show(decide (i<64)&&_)=false;rw[decide_eq_false (by omega)];rfl
 ·have hi:(decide (i<64)&&S.T.rl (q/64*64+i))=true:=hi;show(decide (i<64)&&S.T.fr (q/64*64+i))=true;rw[Bool.and_eq_true_iff]at hi⊢;exact⟨hi.1,d.rf _ hi.2⟩
theorem HP.fill(h:HP S){i:Nat}{q:Int}(v:Fz S.T 1 q):HP (S.fill i q):=by
 refine⟨h.tv.take (by decide),h.vv,fun j d=> ?_,h.ok,h.fx⟩;show L4 (if j=i then filled S.T q else S.ca j);by_cases e:j=i
 ·rw[if_pos e];exact Xz h.tv v
 ·rw[if_neg e];exact h.ci j d
theorem GD.ok{S1:HS}{i:Nat}(h:GD S i S1)(d:HP S):HP S1:=by
 rcases h with ⟨_,q,j,rfl⟩|⟨_,rfl⟩
 ·exact d.fill j
 ·exact d
theorem GM.ok{S1:HS}{p n:Int}(h:GM S p n S1)(d:HP S):HP S1:=by
 rcases h with ⟨_,rfl⟩|⟨i,_,_,_,hf,_⟩
 ·exact d
 ·exact hf.ok d
theorem X0{C:CS}(h:L4 C)(k n:Nat):L4 (C.alloc k n):=by
 refine⟨h.b0,h.b1,h.wZ,fun i hi=> ?_,fun i hi=> ?_⟩
 ·show(C.has i&&_)=false;rw[h.hz i hi];rfl
 ·have hi:(C.rel i&& !(decide (k<=i)&&decide (i<k+n)))=true:=hi;show(C.has i&& !(decide (k<=i)&&decide (i<k+n)))=true;rw[Bool.and_eq_true_iff]at hi⊢;exact⟨h.rh i hi.1,hi.2⟩
theorem HP.Gx(h:HP S){i k n:Nat}(hi:i<64):HP (S.Gx i k n):=by
 refine⟨h.tv,h.vv,fun j d=> ?_,h.ok,h.fx⟩;show L4 (if j=i then(S.ca i).alloc k n else S.ca j);by_cases e:j=i
 ·rw[if_pos e];exact X0 (h.ci i hi) k n
 ·rw[if_neg e];exact h.ci j d
theorem HP.FC(h:HP S){page n:Int}(d:0<n):HP (S.FC page n):=⟨h.tv.take d,h.vv,h.ci,h.ok,h.fx⟩
theorem Pe{V:VS}(h:Nv V){hint n a:Int}(j:0<n)(d:Gv V hint n a):PK V.laid a n:=by
 rcases d with ⟨p,r,_,hf,rfl⟩|⟨_,d|⟨_,d⟩⟩
 ·exact hf
 ·exact d.2.1.fits h.JA j d.2.2
 ·exact d.2.1.fits h.JA j d.2.2
end
end Go.Sh
set_option linter.all false
set_option maxRecDepth 4000
set_option maxHeartbeats 4000000
namespace Go.Sh
section
variable{V:VS}
theorem MK{l:Iv}{d n a v:Int}(h:KP l d n a)(j:KP l d n v):a=v:=by
 rcases Int.lt_trichotomy a v with g|g|g
 ·obtain⟨m,m1,y,C⟩:=j.first a h.mul h.low h.fr g;exact absurd C (h.free m m1 y)
 ·exact g
 ·obtain⟨m,m1,y,C⟩:=h.first v j.mul j.low j.fr g;exact absurd C (j.free m m1 y)
theorem OU{l:Iv}{d n a:Int}(h:Tr l d n a)(y:JD l d n):False:=by
 rcases y with g|⟨C,j,v⟩
 ·have:=h.1;omega
 ·rw[MK h.2.1 j]at h;exact v h.2.2
theorem WQ{hint n a J:Int}(h:Gv V hint n a)(T:Gv V hint n J):a=J:=by
 rcases h with ⟨p,r,h1,y,C⟩|⟨h1,y⟩
 ·rcases T with ⟨K,O,j,d,v⟩|⟨j,_⟩
  ·rw[h1]at j;cases j;rw[C,v]
  ·exact absurd y (j p r h1)
 ·rcases T with ⟨K,O,j,d,v⟩|⟨_,d⟩
  ·exact absurd d (h1 K O j)
  ·rcases y with y|⟨y,C⟩
   ·rcases d with d|⟨d,_⟩
    ·exact MK y.2.1 d.2.1
    ·exact(OU y d).elim
   ·rcases d with d|⟨_,v⟩
    ·exact(OU d y).elim
    ·exact MK C.2.1 v.2.1
theorem X1{hint n a:Int}(h:Gv V hint n a)(d:Ke V hint n):False:=by
 rcases h with ⟨p,r,h1,j,_⟩|⟨_,h|⟨_,h⟩⟩
 ·exact d.1 p r h1 j
 ·exact OU h d.2.1
 ·exact OU h d.2.2
end
end Go.Sh
set_option linter.all false
set_option maxRecDepth 8000
set_option maxHeartbeats 2000000
namespace Go.Sh
theorem LI{V:TV}{n p d:Int}(h:Fz V n p)(j:Fz V n d):p=d:=Int.le_antisymm (h.2.2.2 d j.2.2.1) (j.2.2.2 p h.2.2.1)
section
variable{S S1 S2:HS}
theorem GD.uniq{i:Nat}(h:GD S i S1)(J:GD S i S2):S1=S2:=by
 rcases h with ⟨he,q,C,rfl⟩|⟨v,rfl⟩
 ·rcases J with ⟨_,y,j,rfl⟩|⟨d,rfl⟩
  ·rw[LI C j]
  ·rcases d with d|d
   ·exact absurd he d
   ·have:=d q;rw[C.2.2.1 q (Int.le_refl _) (by omega)]at this;cases this
 ·rcases J with ⟨he,y,j,rfl⟩|⟨d,rfl⟩
  ·rcases v with v|v
   ·exact absurd he v
   ·have:=v y;rw[j.2.2.1 y (Int.le_refl _) (by omega)]at this;cases this
  ·rfl
theorem GM.uniq{p n:Int}(h:GM S p n S1)(C:GM S p n S2):S1=S2:=by
 rcases h with ⟨v,rfl⟩|⟨i,hi,hp,v,hf,_⟩
 ·rcases C with ⟨_,rfl⟩|⟨i,hi,hp,d,hf,_⟩
  ·rfl
  ·exact absurd ⟨by omega,by omega,d⟩ v
 ·rcases C with ⟨d,rfl⟩|⟨j,K,J,d,y,_⟩
  ·exact absurd ⟨by omega,by omega,v⟩ d
  ·obtain rfl:i=j:=by omega
   exact hf.uniq y
theorem Vp.LJ{p n page:Int}(h:Vp S p n page S2)(K:GM S p n S1): ∃x,Fz S1.T n x/\page=x/\S2=S1.FC x n:=by
 rcases h with ⟨Y,i,k,hi,hp,O,hf,J,_,_,rfl,rfl⟩|⟨Y,ht,d,rfl⟩
 ·rcases K with ⟨v,rfl⟩|⟨j,hj,aB,v,C,y⟩
  ·exact absurd ⟨by omega,by omega,O⟩ v
  ·obtain rfl:i=j:=by omega
   rw[hf.uniq C]at J;exact absurd J (y k)
 ·rw[ht.uniq K]at d⊢;exact⟨page,d,rfl,rfl⟩
theorem Vp.uniq{p n a b:Int}(h:Vp S p n a S1)(h':Vp S p n b S2):a=b/\S1=S2:=by
 rcases h with ⟨Y,i,k,hi,hp,hn,hf,T,hl,_,rfl,rfl⟩|⟨Y,C,d,rfl⟩
 ·rcases h' with ⟨T2,j,O,hj,aD,aF,J,y,K,_,rfl,rfl⟩|⟨T2,C,d,rfl⟩
  ·obtain rfl:i=j:=by omega
   obtain rfl:=hf.uniq J;obtain rfl:k=O:=Nat.le_antisymm (hl O y) (K k T);exact⟨rfl,rfl⟩
  ·exact(Vp.LJ (.inl ⟨Y,i,k,hi,hp,hn,hf,T,hl,‹_›,rfl,rfl⟩) C).elim fun x v=>by
    rw[LI d v.1];exact⟨v.2.1,v.2.2⟩
 ·obtain⟨x,v,rfl,rfl⟩:=h'.LJ C;rw[LI d v];exact⟨rfl,rfl⟩
theorem SG.uniq{n:Int}(h:SG S n S1)(v:SG S n S2):S1=S2:=by
 obtain⟨_,a,d,rfl⟩:=h;obtain⟨_,b,j,rfl⟩:=v;rw[WQ d j]
theorem SG.not{n:Int}(h:SG S n S1)(v:Ox S n S2):False:=by
 obtain⟨j,a,d,rfl⟩:=h;rcases v with ⟨r,h1,_⟩|⟨_,h1,_⟩
 ·exact j r h1
 ·exact X1 d h1
theorem Ox.uniq{n:Int}(h:Ox S n S1)(y:Ox S n S2):S1=S2:=by
 rcases h with ⟨r,h1,rfl⟩|⟨h0,h1,rfl⟩
 ·rcases y with ⟨v,d,rfl⟩|⟨j,_,_⟩
  ·rw[h1]at d;cases d;rfl
  ·exact absurd h1 (j r)
 ·rcases y with ⟨v,d,rfl⟩|⟨j,_,rfl⟩
  ·exact absurd d (h0 v)
  ·rfl
theorem MB.uniq{p n a b:Int}(h:MB S p n a S1)(v:MB S p n b S2):a=b/\S1=S2:=by
 rcases h with h|⟨S0,aA,T,J,Y,hf,rfl⟩
 ·rcases v with v|⟨T0,K,j,d,C,y,rfl⟩
  ·exact h.uniq v
  ·obtain⟨x,O,_⟩:=h.LJ j;exact absurd O.2.2.1 (d x)
 ·rcases v with v|⟨T0,K,j,d,C,y,rfl⟩
  ·obtain⟨x,O,_⟩:=v.LJ T;exact absurd O.2.2.1 (J x)
  ·obtain rfl:=T.uniq j;obtain rfl:=Y.uniq C;rw[LI hf y];exact⟨rfl,rfl⟩
theorem Made.uniq{T:HS}{page n:Int}(h:Made S page n S1)(j:Made S page n T):S1=T:=by
 rcases h with ⟨h1,rfl⟩|⟨h1,_,rfl⟩
 ·rcases j with ⟨_,rfl⟩|⟨d,_,_⟩
  ·rfl
  ·exact absurd h1 d
 ·rcases j with ⟨d,_⟩|⟨d,_,rfl⟩
  ·exact absurd d h1
  ·rfl
theorem Found.uniq{p n a b:Int}(h:Found S p n a S1)(y:Found S p n b S2):a=b/\S1=S2:=by
 obtain⟨T,v,hm⟩:=h;obtain⟨C,d,j⟩:=y;obtain⟨rfl,rfl⟩:=v.uniq d;exact⟨rfl,hm.uniq j⟩
theorem Found.not{p n a:Int}(h:Found S p n a S1)(Y:NF S p n S2):False:=by
 obtain⟨T,j,hm⟩:=h;rcases Y with ⟨S0,hs,v,K⟩|⟨T',page,r,d,y,O,_⟩
 ·rcases j with j|⟨aC,aA,d,J,C,aD,rfl⟩
  ·obtain⟨x,hx,_⟩:=j.LJ hs;exact v x hx.2.2.1
  ·obtain rfl:=d.uniq hs;exact C.not K
 ·obtain⟨rfl,rfl⟩:=j.uniq d;rcases hm with ⟨h1,_⟩|⟨_,h1,_⟩
  ·exact y h1
  ·exact h1 r O
theorem NF.uniq{p n:Int}(h:NF S p n S1)(h':NF S p n S2):S1=S2:=by
 rcases h with ⟨S0,hs,K,Y⟩|⟨T,page,r,ht,aF,hr,rfl⟩
 ·rcases h' with ⟨aD,y,j,v⟩|⟨T',J,r',d,O,C,_⟩
  ·obtain rfl:=hs.uniq y;exact Y.uniq v
  ·exfalso;rcases d with d|⟨T0,aB,d,j,v,_,_⟩
   ·obtain⟨x,hx,_⟩:=d.LJ hs;exact K x hx.2.2.1
   ·obtain rfl:=d.uniq hs;exact v.not Y
 ·rcases h' with ⟨aD,y,j,v⟩|⟨T',J,r',d,O,C,rfl⟩
  ·exfalso;rcases ht with ht|⟨T0,aB,d,K,Y,_,_⟩
   ·obtain⟨x,hx,_⟩:=ht.LJ y;exact j x hx.2.2.1
   ·obtain rfl:=d.uniq y;exact Y.not v
  ·obtain⟨rfl,rfl⟩:=ht.uniq d;rw[hr]at C;cases C;rfl
theorem Next.uniq{a b:Int}{X Y:FX}(h:Next S a X)(j:Next S b Y):a=b/\X=Y:=by
 rcases h with ⟨h1,rfl,rfl⟩|⟨x,r,h1,rfl,rfl⟩
 ·rcases j with ⟨_,rfl,rfl⟩|⟨x,r,d,_⟩
  ·exact⟨rfl,rfl⟩
  ·rw[h1]at d;cases d
 ·rcases j with ⟨d,_⟩|⟨v,y,d,rfl,rfl⟩
  ·rw[h1]at d;cases d
  ·rw[h1]at d;cases d;exact⟨rfl,rfl⟩
theorem NK{n:Int}(j:1<=n)(d:n<=134217728):GN n %512=0/\n<=GN n/\GN n<=134217728/\GN n<n+512:=by unfold GN;omega
theorem a7(y:Al S no)(j:HP S){n a:Int}(K:1<=n)(C:n<=134217728)(O:Gv S.V S.hint (GN n) a)(a0:0<=a):
  Al (S.grown {S.V with rf:=S.V.rf.tail,pl:=S.V.pl.tail,laid:=CX S.V.laid a (a+GN n)} a (GN n)) no/\HP (S.grown {S.V with rf:=S.V.rf.tail,pl:=S.V.pl.tail,laid:=CX S.V.laid a (a+GN n)} a (GN n))/\
   Im (S.grown {S.V with rf:=S.V.rf.tail,pl:=S.V.pl.tail,laid:=CX S.V.laid a (a+GN n)} a (GN n)).T.fr a n/\a %512=0/\a+GN n<=34359738368/\ ∀p,a<=p->p<a+GN n->S.T.GH p=false:=by
 obtain⟨Y,u2,u3,u4⟩:=NK K C;have hf:=Pe j.vv (by omega) O;obtain⟨f1,f2,f3,f4⟩:=hf;have d: ∀p,a<=p->p<a+GN n->S.T.GH p=false:=fun p h1 J=>Dg fun hp=>(C4 j.vv.JA (by omega)).1 f4 p h1 J ((y.la p).2 hp);have v:512<=a:=by omega
 refine⟨y.grown j a0 (by omega) f3 f1 Y d rfl rfl,⟨j.tv.grow (by omega) (by omega) (by omega),j.vv.UK (by omega) v f3 rfl rfl rfl rfl,j.ci,(DF j.ok (a:=a/512) (b:=(a+GN n)/512) (by omega) (by omega) (by omega)).1,j.fx⟩,fun m q1 q2=> ?_,f1,f3,d⟩;show(S.T.fr m||inr (a/512*512) (GN n/512*512) m)=true;exact LH.2 (.inr (by omega))
theorem Vp.inv{p n page:Int}(h:Vp S p n page S1)(J:Al S no)(v:HP S)(n0:1<=n):Al S1 (inr page n)/\HP S1/\0<=page/\page+n<=34359738368:=by
 rcases h with ⟨Y,i,k,hi,hp,hn,hf,T,hl,y,rfl,rfl⟩|⟨Y,O,d,rfl⟩
 ·have h1:=hf.inv J v hi;have j:=hf.ok v;have K:=h1.Gx j hi T y;have e:((n.toNat:Nat):Int)=n:=by omega
  rw[e]at K;have C:=j.ci i hi;refine⟨K,j.Gx hi,?_,?_⟩
  ·have:=C.b0;omega
  ·have:=C.b1;have:=C.wZ;omega
 ·have h1:=O.inv J v;have j:=O.ok v;exact⟨h1.FC j d.2.2.1,j.FC (by omega),d.1,d.2.1⟩
end
end Go.Sh
set_option linter.all false
set_option maxRecDepth 8000
set_option maxHeartbeats 2000000
namespace Go.Sh
section
variable{E:Env}{r:Nat}{V:TV}{Z:List Pr}{w:World}
theorem UU(H:Sat (JV E r V::Z) w)(j: ∀p,V.rl p=true->V.fr p=true){p n:Int}(hp:0<=p)(hn:0<n)(hb:p+n<=34359738368)(hi: ∀q,p<=q->q<p+n->V.GH q=true)(hf: ∀q,p<=q->q<p+n->V.fr q=false){K:Int->World->Prop}
  (Y: ∀w',Sat (JV E r (V.JL p n)::Z) w'->K 0 w'):F.BD E (some ⟨r,0,none⟩) p n false K w:=by
 obtain⟨l,⟨d,Bi⟩,H⟩:=Sat.Wa.1 H;have C:GL V p n:=⟨by omega,by omega,fun m a b=>hi m a b⟩;have h0:At l p n false 31=0:=(Qu d Bi hp (by omega) false (e:=31) (by decide)).2.2.2.2 C rfl fun m a b=>hf m a b;have O:=d.LQ Bi hp (n:=n) (by omega) (by omega);refine RY H (fun q T=>(d.f q).2 (j q ((d.r q).1 T))) hp (by omega) (by omega) (by omega) (fun h=>absurd h0 h) fun _ w' v=>Y w' ?_;have y:=(DF (Bi 1 (by decide)) (a:=p) (b:=p+n) (by omega) hp (by omega)).1;refine MC (l:=Sh.LQ l 3 p n) O.1 (fun i hi=> ?_) fun l' e0 e1 J=>v l' e0 e1 J;have h3:i=0∨i=1∨i=2:=by omega
 rcases h3 with rfl|rfl|rfl
 ·exact Bi 0 (by decide)
 ·exact y
 ·exact Bi 2 (by decide)
theorem OV(H:Sat (JV E r V::Z) w)(y:M6 V){n:Int}(n0:1<=n)(Y:n<18446744073709551616){K:Int->Int->Int->World->Prop}
  (O:(∀p,¬Im V.fr p n)-> ∀w',Sat (JV E r V::Z) w'->K 0 0 30 w')(J: ∀p x,Fz V n p-> ∀w',Sat (JV E r (V.take p n)::Z) w'->K p x 0 w'):F.Bp E (some ⟨r,0,none⟩) n K w:=by
 obtain⟨l,⟨v,Bi⟩,H⟩:=Sat.Wa.1 H;have d: ∀p,findL (l 1) n=some p->Fz V n p:=fun p hp=>by
  obtain⟨h1,h2⟩:=Ji (Bi 1 (by decide)) (by omega) hp;have j:=(HJ v).1 h1;have a0:=y.Gn p (y.fi p (j p (Int.le_refl _) (by omega)));have a1:=y.Gn (p+n-1) (y.fi _ (j (p+n-1) (by omega) (by omega)));exact⟨a0.1,by omega,j,fun p' T=>h2 p' ((HJ v).2 T)⟩
 refine V1 H (by omega) Y (fun p _ hp=> ?_) (fun h=>by omega) (fun _ hn w' C=>O (fun p hp=>K2 (Bi 1 (by decide)) (by omega) hn p ((HJ v).2 hp)) w' (Sat.Wa.2 ⟨l,⟨v,Bi⟩,C⟩)) fun _ p hp w' C=>J p _ (d p hp) w' (MC (l:=Sh.Mo l p n) (v.Mo (by omega)) (fun i hi=> ?_) fun l' e0 e1 e2=>C l' e0 e1 e2)
 ·have hf:=d p hp;exact⟨(Qu v Bi hf.1 (by omega) true (e:=32) (by decide)).2.2.1 ⟨by omega,hf.2.1,fun m a b=>y.fi m (hf.2.2.1 m a b)⟩ rfl hf.2.2.1,hf.1,hf.2.1⟩
 ·have h3:i=0∨i=1∨i=2:=by omega
  rcases h3 with rfl|rfl|rfl
  ·exact Bi 0 (by decide)
  ·exact Fc (Bi 1 (by decide)) (by omega)
  ·exact Fc (Bi 2 (by decide)) (by omega)
theorem WR(H:Sat (JV E r V::Z) w){c n:Int}(j:0<=c)(Y:0<n)(C:n<=262144)(J:c+n<=67108864)(hf: ∀p,c*512<=p->p<(c+n)*512->V.GH p=false){K:Int->World->Prop}
  (hK: ∀w',Sat (JV E r (V.grow c n)::Z) w'->K 0 w'):F.B5 E (some ⟨r,0,none⟩) c n K w:=by
 obtain⟨l,⟨v,Bi⟩,H⟩:=Sat.Wa.1 H;have h0:cnt (l 0) (c*512) ((c+n)*512)=0:=(C4 (Bi 0 (by decide)) (by omega)).2 fun p h1 O hm=>by
  have:=(v.i p).1 hm;rw[hf p h1 O]at this;cases this
 have T:=v.Se Bi j Y J;refine Xn H j (by omega) (by omega) (by omega) (fun h=>by omega) (fun _ h=>absurd h0 h) fun _ _ w' y=>hK w' (MC (l:=Se l c n) T (fun i hi=> ?_) fun l' a0 a1 a2=>y l' fun i hi=> ?_)
 ·have o: ∀i,i<4->Ok (CX (l i) (c*512) ((c+n)*512)):=fun i hi=>(DF (Bi i hi) (by omega) (by omega) (by omega)).1;have d:i=0∨i=1∨i=2:=by omega
  rcases d with rfl|rfl|rfl
  ·exact o 0 (by decide)
  ·exact o 1 (by decide)
  ·exact o 2 (by decide)
 ·have d:i=0∨i=1∨i=2:=by omega
  rcases d with rfl|rfl|rfl
  ·rw[a0];rfl
  ·rw[a1];rfl
  ·rw[a2];rfl
theorem ZK{l:Iv}(j:Ok l): ∀m:Iv,Ok m-> ∃d,Ok d/\ ∀p,mem d p↔mem l p/\ ¬mem m p
 | [],_=>⟨l,j,fun p=>⟨fun h=>⟨h,A9 p⟩,fun h=>h.1⟩⟩
 | q::m,hm=>by
  obtain⟨d,d1,d2⟩:=ZK j m hm.tail;have v:=hm.mem (List.mem_cons_self);refine⟨Cs d q.1 q.2,Fc d1 v.2.1,fun p=> ?_⟩;rw[Cw v.2.1,d2,mem_cons];constructor
  ·rintro⟨⟨a,b⟩,c⟩;exact⟨a,fun h=>h.elim c b⟩
  ·rintro⟨a,b⟩;exact⟨⟨a,fun h=>b (.inr h)⟩,fun h=>b (.inl h)⟩
theorem WS(H:Sat (JV E r V::Z) w)(hV:M6 V){n:Int}(n0:0<=n)(n1:n<18446744073709551616){K:Int->Int->World->Prop}
  (aD:n=0∨(∀p,V.idle p=false)-> ∀w',Sat (JV E r V::Z) w'->K 0 0 w')(aK: ∀p k,Oo V n p k->0<=p->p+k<=34359738368-> ∀w',Sat (JV E r (V.K3 p k)::Z) w'->K p k w'):F.BM E (some ⟨r,0,none⟩) n K w:=by
 obtain⟨l0,⟨Y,j⟩,H⟩:=Sat.Wa.1 H;obtain⟨d,d1,d2⟩:=ZK (j 1 (by decide)) (l0 2) (j 2 (by decide));obtain⟨l,rfl⟩: ∃l,l=fun i:Nat=>if i=3 then d else l0 i:=⟨_,rfl⟩
 generalize hl':(fun i:Nat=>if i=3 then d else l0 i)=l;have a0:l 0=l0 0:=by rw[<-hl'];rfl
 have a1:l 1=l0 1:=by rw[<-hl'];rfl
 have a2:l 2=l0 2:=by rw[<-hl'];rfl
 have a3:l 3=d:=by rw[<-hl'];rfl
 have h:=Y.congr a0 a1 a2;have Bi: ∀i,i<4->Ok (l i):=fun i hi=>by
  have h3:i=0∨i=1∨i=2∨i=3:=by omega
  rcases h3 with rfl|rfl|rfl|rfl
  ·rw[a0];exact j 0 hi
  ·rw[a1];exact j 1 hi
  ·rw[a2];exact j 2 hi
  ·rw[a3];exact d1
 have hi:Ze l:=⟨fun p hp=>(hV.Gn p ((h.i p).1 hp)).2,fun p hp=>(h.i p).2 (hV.fi p ((h.f p).1 hp)),fun p hp=>(h.f p).2 (hV.rf p ((h.r p).1 hp)),fun p=>by rw[a3,a1,a2,d2]⟩;have H:=H.fN a0 a1 a2;clear hl' a0 a1 a2 a3 d1 d2 Y j;have v: ∀p,mem (l 3) p↔V.idle p=true:=fun p=>by
  rw[hi.idle,h.f,h.r];unfold TV.idle;cases V.fr p<;>cases V.rl p<;>simp
 refine Xp H hi (Bi 3 (by decide)) n0 n1 (fun hz w' H'=>aD ?_ w' (Sat.Wa.2 ⟨l,⟨h,Bi⟩,H'⟩)) fun aN q m e1 p k e2 e3 w' H'=> ?_
 ·rcases hz with hz|hz
  ·refine .inr fun p=> ?_;have:=v p;rw[hz]at this;cases g:V.idle p with
   | false=>rfl
   | true=>exact absurd (this.2 g) (A9 p)
  ·exact .inl hz
 ·have MZ:=Bi 3 (by decide);rw[e1]at MZ;obtain⟨_,aH,aA⟩:=EJ.1 MZ;have hq:=aH.mem (List.mem_singleton.2 rfl);have O: ∀x,mem (l 3) x->x<q.2:=fun x J=>by
   rw[e1,mem_append]at J;rcases J with ⟨y,hy,h1,h2⟩|J
   ·have:=aA y hy q (List.mem_singleton.2 rfl);omega
   ·rcases mem_cons.1 J with h1|h1
    ·exact h1.2
    ·exact absurd h1 (A9 x)
  have T: ∀x,q.1<=x->x<q.2->mem (l 3) x:=fun x h1 h2=>by rw[e1,mem_append];exact .inr (mem_cons.2 (.inl ⟨h1,h2⟩))
  have C:q.1=0∨ ¬mem (l 3) (q.1-1):=by
   right;intro J;rw[e1,mem_append]at J;rcases J with ⟨y,hy,h1,h2⟩|J
   ·have:=aA y hy q (List.mem_singleton.2 rfl);omega
   ·rcases mem_cons.1 J with h1|h1
    ·omega
    ·exact absurd h1 (A9 _)
  have aM:q.2<=34359738368:=by
   have h1:=T (q.2-1) (by omega) (by omega);have:=hi.top _ (hi.free _ ((hi.idle _).1 h1).1);omega
  refine aK p k ⟨by omega,by omega,fun m h1 h2=>(v m).1 (T m (by omega) (by omega)),fun x J=>by have:=O x ((v x).2 J);omega,by omega,?_⟩ (by omega) (by omega) w' (MC (l:=Sh.nR l p k) ?_ (fun i aO=> ?_) fun l' b0 b1 b2=>H' l' b0 b1 b2)
  ·by_cases g:k=n
   ·exact .inl g
   ·by_cases g2:p %512=0
    ·exact .inr (.inl g2)
    ·right;right;have e:p=q.1:=by omega
     cases g3:V.idle (p-1)with
     | false=>rfl
     | true=>
      have hm:=(v _).2 g3;rw[e]at hm;rcases C with h1|h1
      ·omega
      ·exact absurd hm h1
  ·have b2:=Ca (Bi 2 (by decide)) (a:=p) (b:=p+k) (by omega) (by omega) (by omega);refine⟨h.i,h.f,fun x=> ?_⟩;show mem (CX (l 2) p (p+k)) x↔(V.rl x||inr p k x)=true;rw[b2,h.r,<-AR,Bool.or_eq_true]
  ·have h3:i=0∨i=1∨i=2:=by omega
   rcases h3 with rfl|rfl|rfl
   ·exact Bi 0 (by decide)
   ·exact Bi 1 (by decide)
   ·exact(DF (Bi 2 (by decide)) (a:=p) (b:=p+k) (by omega) (by omega) (by omega)).1
theorem Oo.uniq{n p k j v:Int}(h:Oo V n p k)(d:Oo V n j v):p=j/\k=v:=by
 have k0:=h.k0;have y:=d.k0;have kn:=h.kn;have C:=d.kn;have K:=h.last _ (d.row (j+v-1) (by omega) (by omega));have J:=d.last _ (h.row (p+k-1) (by omega) (by omega));have c1:=h.chunk;have c2:=d.chunk;rcases Int.lt_trichotomy p j with g|g|g
 ·exfalso;rcases d.most with m|m|m
  ·omega
  ·omega
  ·have:=h.row (j-1) (by omega) (by omega);rw[m]at this;cases this
 ·exact⟨g,by omega⟩
 ·exfalso;rcases h.most with m|m|m
  ·omega
  ·omega
  ·have:=d.row (p-1) (by omega) (by omega);rw[m]at this;cases this
end
end Go.Sh
set_option linter.all false
set_option maxRecDepth 8000
set_option maxHeartbeats 4000000
namespace Go.Sh
def SI.rs(I:SI):Int×Int×Int×Int×Bool×Int×Int:=(I.base,I.AB,I.state,I.cls,I.I7,I.elem,I.Ar)
theorem C0.congr{E:Env}{q:Nat}{I J:SI}{U M:Nat->Bool}(h:I.rs=J.rs):C0 E q I U M=C0 E q J U M:=by
 unfold SI.rs at h;injection h with h1 h
 injection h with h2 h
 injection h with h3 h
 injection h with h4 h
 injection h with h5 h
 injection h with h6 h7
 have d:F7 I=F7 J:=by funext s1 s2 lk;unfold F7;rw[h1,h2,h3,h4,h5,h6,h7]
 have j:ZD I U M=ZD J U M:=by
  funext ul ml lk;refine propext ⟨fun g=>⟨g.u,g.m,by rw[<-h7];exact g.lu,by rw[<-h7];exact g.lm,by rw[<-h7];exact g.Gn,by rw[<-h7];exact g.lk0,g.lk1⟩,fun g=>⟨g.u,g.m,by rw[h7];exact g.lu,by rw[h7];exact g.lm,by rw[h7];exact g.Gn,by rw[h7];exact g.lk0,g.lk1⟩⟩
 have v:Re E q I=Re E q J:=by funext ul ml s1 s2 lk;unfold Re;rw[d]
 unfold C0;rw[j,v]
section
variable{E:Env}{h:Nat}{S S':HS}{um um':TH}{g:RG}{Z:List Pr}{w:World}
theorem LG.congr{x:Int×Nat}(hs:(S'.sp x.1).map (fun y=>y.2.rs)=(S.sp x.1).map (fun y=>y.2.rs))(hu:um' x.1=um x.1):LG E S'.sp um' x=LG E S.sp um x:=by
 unfold LG;rw[hu];cases h1:S.sp x.1<;>cases h2:S'.sp x.1<;>rw[h1,h2]at hs
 ·cases hs
 ·cases hs
 ·exact C0.congr (by simpa using hs)
theorem Sat.wH(H:Sat (GG E h S um::Z) w)(O:S'.V=S.V)(C:S'.T=S.T)(e3:S'.ca=S.ca)(e4:S'.fx=S.fx)(J:S'.hint=S.hint)(j: ∀id,(S'.sp id).map (fun y=>y.2.rs)=(S.sp id).map fun y=>y.2.rs)(e7: ∀id,S.sp id≠none->um' id=um id):Sat (GG E h S' um'::Z) w:=by
 obtain⟨g,d,H⟩:=Sat.EI.1 H;have v: ∀id,S'.at id=S.at id:=fun id=>by
  have:=j id;unfold HS.at;cases h1:S.sp id<;>cases h2:S'.sp id<;>rw[h1,h2]at this
  ·cases this
  ·cases this
  ·simp only[Option.map_some,SI.rs]at this;injection this with this
   injection this with this
 have K: ∀id,S'.sp id≠none↔S.sp id≠none:=fun id=>by
  have:=j id;cases h1:S.sp id<;>cases h2:S'.sp id<;>rw[h1,h2]at this
  ·cases this
  ·cases this
  ·exact⟨fun _=>Option.some_ne_none _,fun _=>Option.some_ne_none _⟩
 refine Sat.EI.2 ⟨g,⟨by rw[e3];exact d.q,fun id=>by rw[K];exact d.mem id,?_⟩,?_⟩
 ·have:(g.L.map fun x=>S'.at x.1)=g.L.map fun x=>S.at x.1:=List.map_congr_left fun x _=>v x.1;rw[this];exact d.so
 ·have:Ap (LG E S'.sp um') g.L=Ap (LG E S.sp um) g.L:=Ap.congr fun x Y=>LG.congr (j x.1) (e7 x.1 ((d.mem x.1).1 (List.mem_map.2 ⟨x,Y,rfl⟩)));unfold C2 at H⊢;rw[O,C,e4,J,this];exact H
theorem OW(H:Sat (C2 E h S um g++Z) w): ∃R,Sat (JV E g.t S.T::R) w/\ ∀{d:TV} {w'},Sat (JV E g.t d::R) w'->Sat (C2 E h {S with T:=d} um g++Z) w':=
 ⟨_,H.front 2 rfl,fun{d w'} H'=>Sat.back (Ps:=C2 E h S um g++Z) 2 H' (by simp[C2])⟩
theorem ML(H:Sat (C2 E h S um g++Z) w): ∃R,Sat (Dl E g.m S.V::R) w/\ ∀{V':VS} {w'},Sat (Dl E g.m V'::R) w'->Sat (C2 E h {S with V:=V'} um g++Z) w':=
 ⟨_,H.front 1 rfl,fun{V' w'} H'=>Sat.back (Ps:=C2 E h S um g++Z) 1 H' (by simp[C2])⟩
theorem ZL{R:List Pr}(H:Sat (Cells h E.AY (C3 g.m g.t g.f g.sl S.hint g.v)::R) w):w.cell? (Addr.mk h 0 none)=some (.pointer (some ⟨g.m,0,none⟩)):=
 H.A2 (o:=0) (rh_0 g.m g.t g.f g.sl S.hint g.v)
theorem rhF{R:List Pr}(H:Sat (Cells h E.AY (C3 g.m g.t g.f g.sl S.hint g.v)::R) w):w.cell? ((Addr.mk h 0 none).add 8258)=some (.pointer (some ⟨g.f,0,none⟩)):=
 H.cell (o:=0) (m:=8258) (by rw[Nat.zero_add];exact UO g.m g.t g.f g.sl S.hint g.v 0)
theorem wI{R:List Pr}(H:Sat (Cells h E.AY (C3 g.m g.t g.f g.sl S.hint g.v)::R) w):w.cell? ((Addr.mk h 0 none).add 8260)=some (.int .u64 S.hint):=
 H.cell (o:=0) (m:=8260) (by rw[Nat.zero_add];exact UO g.m g.t g.f g.sl S.hint g.v 2)
theorem gR(H:Sat (C2 E h S um g++Z) w){x:Int}{K:World->Prop}(j: ∀w',Sat (C2 E h {S with hint:=x} um g++Z) w'->K w'):stCells ((Addr.mk h 0 none).add 8260) 0 [.int .u64 x] w K:=by
 refine Ak H (o:=0) (m:=8260) rfl (by rw[gN];decide) fun w' d=>j w' ?_;rw[Nat.zero_add,gO g.m g.t g.f g.sl S.hint g.v 2 (.int .u64 x) (f':=g.f) (sl':=g.sl) (hint':=x) rfl]at d;exact d
theorem n8{s:AZ}{R:List Pr}{g:RG}(H:Sat (Cells h E.AY (C3 g.m g.t g.f g.sl S.hint g.v)::R) w){K:World->Prop}(j: ∀w',Sat (Cells h E.AY (C3 g.m g.t g.f s S.hint g.v)::R) w'->K w'):stCells ((Addr.mk h 0 none).add 8259) 0 [.slice s.base s.len s.cap] w K:=by
 refine Ak H (o:=0) (m:=8259) rfl (by rw[gN];decide) fun w' d=>j w' ?_;rw[Nat.zero_add,gO g.m g.t g.f g.sl S.hint g.v 1 (.slice s.base s.len s.cap) (f':=g.f) (sl':=s) (hint':=S.hint) rfl]at d;exact d
theorem Hv(d:Xx S g)(H:Sat (C2 E h S' um g++Z) w)(v:S'.ca=S.ca)(j:S'.sp=S.sp):Sat (GG E h S' um::Z) w:=by
 refine Sat.EI.2 ⟨g,⟨by rw[v];exact d.q,by rw[j];exact d.mem,?_⟩,H⟩;have:S'.at=S.at:=by funext id;unfold HS.at;rw[j]
 rw[this];exact d.so
theorem Pf(H:Sat (GG E h S um::Z) w){p:Nat}(hp:p<64): ∃(t:Nat) (A D:List Value) (R:List Pr),A.length=2+p*129/\w.cell? ((Addr.mk h 0 none).add 1)=some (.pointer (some ⟨t,0,none⟩))/\Sat (TB h E.AY A D (S.ca p)::JV E t S.T::R) w/\
  ∀{y:CS} {C:TV} {w'},Sat (TB h E.AY A D y::JV E t C::R) w'->Sat (GG E h {S with T:=C,ca:=fun j=>if j=p then y else S.ca j} um::Z) w':=by
 obtain⟨g,d,H1⟩:=Sat.EI.1 H;obtain⟨O,Y⟩:=Sat.Rp (R:=Dl E g.m S.V::JV E g.t S.T::II E g.f S.fx::Row E.AW 2 g.sl (Bj HR g.L)::Ap (LG E S.sp um) g.L::Z) H1 d hp;refine⟨g.t,_,_,_,QE g.m g.t g.v hp,aZ H1,O.DR 1 rfl,fun{y C w'} H3=> ?_⟩;obtain⟨x,J,K⟩:=Y (H3.perm (.cons _ (.swap _ _ _)));refine Sat.EI.2 ⟨{g with v:=Jo g.v p x},⟨fun i hi=> ?_,d.mem,d.so⟩,K⟩;show Xq (if i=p then y else S.ca i) (Jo g.v p x i).1 (Jo g.v p x i).2.1 (Jo g.v p x i).2.2;unfold Jo;by_cases e:i=p
 ·rw[if_pos e,if_pos e];exact J
 ·rw[if_neg e,if_neg e];exact d.q i hi
theorem GM.GH{p n:Int}{S1:HS}(h:GM S p n S1):S1.V=S.V/\S1.hint=S.hint:=by
 rcases h with ⟨_,rfl⟩|⟨i,_,_,_,⟨_,q,_,rfl⟩|⟨_,rfl⟩,_⟩<;>exact⟨rfl,rfl⟩
theorem OX(H:Sat (GG E h S um::Z) w)(hI:Al S no)(hk:HP S){p n:Int}(n0:1<=n)(n1:n<=134217728){K:Int->Int->World->Prop}
  (aV: ∀page S2,Found S p n page S2->Al S2 (inr page n)->HP S2->0<=page->page+n<=34359738368-> ∀w',Sat (GG E h S2 um::Z) w'->K page 0 w')(aM: ∀S2,NF S p n S2-> ∀w',Sat (GG E h S2 um::Z) w'->K 0 13 w'):F.Be E (some ⟨h,0,none⟩) p n K w:=by
 unfold F.Be T0.Be;refine HH (fun st w'=>(st.2.1=30/\ ∃S0,GM S p n S0/\Sat (GG E h S0 um::Z) w')∨(st.2.1=0/\ ∃S1,Vp S p n st.1 S1/\Sat (GG E h S1 um::Z) w')) ?_ ?_
 ·refine HH (fun st w'=>st.1=decide (0<=p/\p<64/\n<16)/\w'=w) ?_ ?_
  ·refine AD (fun a1=>AD (fun a2=>⟨?_,rfl⟩) fun a2=>⟨?_,rfl⟩) fun a1=>⟨?_,rfl⟩
   ·show decide (n<16)=_;by_cases a3:n<16
    ·rw[decide_eq_true a3,decide_eq_true ⟨by omega,by omega,a3⟩]
    ·rw[decide_eq_false a3,decide_eq_false fun c=>a3 c.2.2]
   ·show false=_;rw[decide_eq_false fun c=>by omega]
   ·show false=_;rw[decide_eq_false fun c=>by omega]
  rintro⟨s,u⟩ _ w6 ⟨hs,rfl⟩;dsimp only at hs⊢;subst hs;refine AD (fun hp=> ?_) fun hp=>.inl ⟨rfl,S,.inl ⟨hp,rfl⟩,H⟩;obtain⟨p0,aL,aT⟩:=hp;have hi:p.toNat<64:=by omega
  have aW:p=((p.toNat:Nat):Int):=by omega
  refine HH (fun _ w'=> ∃S1,GD S p.toNat S1/\Sat (GG E h S1 um::Z) w') ?_ ?_
  ·obtain⟨t,A,D,R,hA,Y,H1,C⟩:=Pf H hi;have ha:((Addr.mk h 0 none).add 2).add (Int.toNat p*129)=Addr.mk h A.length none:=by rw[add_add,add_eq,Nat.zero_add,hA]
   have same: ∀{w'},Sat (TB h E.AY A D (S.ca p.toNat)::JV E t S.T::R) w'->Sat (GG E h S um::Z) w':=fun{w'} h'=>by
    have:=C h';rw[Yz]at this;exact this
   refine Aa ⟨⟨p0,aL⟩,?_⟩;rw[ha];refine OG H1 (fun he=>AV rfl (Aa ⟨⟨p0,aL⟩,Aa ⟨some ⟨t,0,none⟩,Y,?_⟩⟩)) fun he=>Ac rfl ⟨S,.inr ⟨.inl he,rfl⟩,H⟩
   ·rw[ha];refine V7 H1.drew hk.tv.fi hk.tv.rf hk.tv.Gn (fun h'=>absurd he h') (fun _ j w' v=>⟨S,.inr ⟨.inr j,rfl⟩,same v⟩) fun _ q O w' v=>⟨_,.inl ⟨he,q,O,rfl⟩,C v⟩
  rintro _ _ w9 ⟨S1,hf,H9⟩;obtain⟨t,A,D,R,hA,Y,bI,C⟩:=Pf H9 hi;have ha:((Addr.mk h 0 none).add 2).add (Int.toNat p*129)=Addr.mk h A.length none:=by rw[add_add,add_eq,Nat.zero_add,hA]
  refine Aa ⟨⟨p0,aL⟩,?_⟩;rw[ha,AH (n:=n)];refine UC bI (by omega) (by omega) (fun c=>by omega) (fun _ _ j=>.inl ⟨rfl,S1,.inr ⟨p.toNat,hi,aW,aT,hf,j⟩,H9⟩) fun _ _ k y hl bU w' v=>.inr ⟨rfl,S1.Gx p.toNat k n.toNat,.inl ⟨S1,p.toNat,k,hi,aW,aT,hf,y,hl,bU,rfl,rfl⟩,C v⟩
 rintro⟨pg,e,u⟩ _ w3 J;dsimp only at J⊢;refine HH (fun st w'=>(st.2.1=30/\ ∃S0,GM S p n S0/\(∀q,¬Im S0.T.fr q n)/\Sat (GG E h S0 um::Z) w')∨(st.2.1=0/\ ∃S1,Vp S p n st.1 S1/\Sat (GG E h S1 um::Z) w')) ?_ ?_
 ·rcases J with ⟨rfl,S0,Y,H3⟩|⟨rfl,S1,hg,H3⟩
  ·refine AV rfl ?_;obtain⟨g,hR,H4⟩:=Sat.EI.1 H3;obtain⟨R,H5,C⟩:=OW H4;refine Aa ⟨some ⟨g.t,0,none⟩,aZ H4,?_⟩;refine OV H5 (Y.ok hk).tv n0 (by omega) (fun j w' v=>.inl ⟨rfl,S0,Y,j,Hv hR (C v) rfl rfl⟩) fun q x O w' v=>.inr ⟨rfl,S0.FC q n,.inr ⟨S0,Y,O,rfl⟩,Hv hR (C v) rfl rfl⟩
  ·exact Ac rfl (.inr ⟨rfl,S1,hg,H3⟩)
 clear J;rintro⟨pg,e,u⟩ _ cB J;dsimp only at J⊢;refine HH (fun st w'=>st.2.1=0/\ ∃S1,MB S p n st.1 S1/\Al S1 (inr st.1 n)/\HP S1/\0<=st.1/\st.1+n<=34359738368/\Sat (GG E h S1 um::Z) w') ?_ ?_
 ·rcases J with ⟨rfl,S0,Y,j,H3⟩|⟨rfl,S1,hg,H3⟩
  ·refine AV rfl ⟨by decide,AU fun N hN=> ?_⟩;rw[AM (n:=n+511),Int.tdiv_eq_ediv_of_nonneg (by omega),AM (n:=(n+511)/512),AM]at hN;have hN:N=GN n:=by unfold GN;omega
   subst hN;obtain⟨u1,u2,u3,u4⟩:=NK n0 n1;have i0:=Y.inv hI hk;have k0:=Y.ok hk;obtain⟨g,hR,H4⟩:=Sat.EI.1 H3.drew;obtain⟨R,H5,C⟩:=ML H4;have hh:=i0.h0;have cJ:=i0.h1;refine Aa ⟨some ⟨g.m,0,none⟩,ZL H4,Aa ⟨S0.hint,wI H4,?_⟩⟩;refine SL H5 hh (by omega) (by omega) (by omega) (fun c=>by omega) (fun _ r y w' v=>AV rfl (aM _ (.inl ⟨S0,Y,j,.inl ⟨r,y,rfl⟩⟩) w' (Hv hR (C v) rfl rfl)))
    (fun _ y hu w' v=>AV rfl (aM _ (.inl ⟨S0,Y,j,.inr ⟨y,hu,rfl⟩⟩) w' (Hv hR (C v) rfl rfl))) fun _ y a a0 a1 hc cL bK=>Ac rfl ?_
   obtain⟨g1,g2,g3,g4,g5,g6⟩:=a7 i0 k0 n0 n1 hc (by omega);have bJ:=C (bK g2.vv);rw[AM (n:=a+GN n)];refine Aa (gR bJ fun cE a8=>Aa ⟨some ⟨g.t,0,none⟩,aZ a8,by decide,by decide,?_⟩);rw[Int.tdiv_eq_ediv_of_nonneg (by omega),Int.tdiv_eq_ediv_of_nonneg (by omega),AM (n:=a/512),AM (n:=GN n/512)];obtain⟨R2,bV,aO⟩:=OW a8;refine WR bV (by omega) (by omega) (by omega) (by omega) (fun q q1 q2=>g6 q (by omega) (by omega)) fun cI bR=> ?_;have a5:=aO bR;refine Aa ⟨some ⟨g.t,0,none⟩,aZ a5,?_⟩;obtain⟨R3,bT,bN⟩:=OW a5;refine OV bT g2.tv n0 (by omega) (fun j w' v=>absurd g3 (j a)) fun q x O w' v=> ?_;have j1:=g1.FC g2 O.2.2.1;exact⟨rfl,_,.inr ⟨S0,_,Y,j,⟨y,a,hc,rfl⟩,O,rfl⟩,j1,g2.FC (by omega),O.1,O.2.1,Hv hR (bN v) rfl rfl⟩
  ·obtain⟨j1,j2,j3,j4⟩:=hg.inv hI hk n0;exact Ac rfl ⟨rfl,S1,.inl hg,j1,j2,j3,j4,H3⟩
 clear J;rintro⟨pg,e,u⟩ _ cN ⟨e0,S1,Y,aF,d,aC,aA,bB⟩;dsimp only at e0 Y aF aC aA⊢;subst e0;refine Ac rfl ?_;obtain⟨g,hR,H4⟩:=Sat.EI.1 bB;obtain⟨R,H5,C⟩:=ML H4;refine Aa ⟨some ⟨g.m,0,none⟩,ZL H4,?_⟩;have hl: ∀q,pg<=q->q<pg+n->mem S1.V.laid q:=fun q q1 q2=>(aF.la q).2 (aF.li q (AR.2 ⟨q1,q2⟩));have bS:cnt S1.V.laid pg (pg+n)=n:=by
  have:=(DM d.vv.JA (a:=pg) (b:=pg+n) (by omega)).2 hl;omega
 have aN:cnt S1.V.ready pg (pg+n)=n↔IZ S1 pg n:=by
  have:=DM d.vv.KT (a:=pg) (b:=pg+n) (by omega);rw[show pg+n-pg=n by omega]at this;exact this
 have bQ:FY pg n:=⟨by omega,aA⟩;refine UM H5 aC (by omega) (by omega) (by omega) (fun c=>absurd bQ c) (fun _ c=>absurd bS c) (fun _ _ c w' v=>Ac rfl (aV pg S1 ⟨S1,Y,.inl ⟨aN.1 c,rfl⟩⟩ aF d aC aA w' (Hv hR (C v) rfl rfl)))
  (fun _ _ c r y aR aI=>AV rfl ?_) fun _ _ c y aR aI=>Ac rfl (aV pg _ ⟨S1,Y,.inr ⟨fun x=>c (aN.2 x),y,rfl⟩⟩ (aF.ND d aC (by omega) aA fun q q1 q2=>AR.2 ⟨q1,q2⟩) ⟨d.tv,d.vv.ND aC (by omega) aA hl,d.ci,d.ok,d.fx⟩ aC aA aR (Hv hR (C (aI (d.vv.ND aC (by omega) aA hl))) rfl rfl))
 have bM: ¬IZ S1 pg n:=fun x=>c (aN.2 x);have a9:Sat (GG E h {S1 with V:={S1.V with rf:=r}} um::Z) aR:=Hv hR (C aI) rfl rfl;clear aI C H5 H4 hR bB R g;have aP:Al {S1 with V:={S1.V with rf:=r}} (inr pg n):=aF.fC rfl rfl;have aH:HP {S1 with V:={S1.V with rf:=r}}:=⟨d.tv,⟨d.vv.JA,d.vv.KT,d.vv.MZ,d.vv.rl,d.vv.el,d.vv.re,d.vv.Gn,d.vv.clean,d.vv.l9⟩,d.ci,d.ok,d.fx⟩;have aJ:=fun w' (v:Sat (GG E h (({S1 with V:={S1.V with rf:=r}}:HS).EY pg n) um::Z) w')=>aM _ (.inr ⟨S1,pg,r,Y,bM,y,rfl⟩) w' v;generalize hS2:({S1 with V:={S1.V with rf:=r}}:HS)=S2 at a9 aP aH aJ;refine AK (fun st w'=> ∃i:Int,st.1=pg+i/\0<=i/\i<=n/\Sat (GG E h (S2.EY pg i) um::Z) w') (fun st _=>(pg+n-st.1).toNat) ⟨0,by show pg=pg+0;omega,Int.le_refl _,by omega,?_⟩ ?_
 ·have:S2.EY pg 0=S2:=by
   have e: ∀q,inr pg 0 q=false:=fun q=>by rw[Fg];omega
   unfold HS.EY;simp only[e,Bool.or_false,Bool.false_and]
  rw[this];exact a9
 rintro⟨_,u⟩ _ b1 ⟨i,rfl,i0,i1,bA⟩;dsimp only;rw[AM (n:=pg+n)];refine AD (fun cC=> ?_) fun b9=> ?_
 ·obtain⟨g,hR,H4⟩:=Sat.EI.1 bA.drew;obtain⟨R,H5,C⟩:=ML H4;refine Aa ⟨some ⟨g.t,0,none⟩,aZ H4,Aa ⟨some ⟨g.m,0,none⟩,ZL H4,?_⟩⟩;refine Pc H5 fun cD bW=> ?_;have a6:=C bW;refine⟨aZ a6,?_⟩;obtain⟨R2,bX,aO⟩:=OW a6;have bC:=aP.Mq aH (p:=pg+i) (AR.2 ⟨by omega,by omega⟩);have a4:=aP.li (pg+i) (AR.2 ⟨by omega,by omega⟩);refine OF bX (fun q O=> ?_) (by omega) (by omega) a4 ?_ fun cP bO=> ?_
  ·have O:(S2.T.rl q||(inr pg i q&& !I9 S2.V.ready q))=true:=O;show(S2.T.fr q||inr pg i q)=true;rw[Bool.or_eq_true_iff]at O⊢;rcases O with O|O
   ·exact .inl (aH.tv.rf q O)
   ·exact .inr (Bool.and_eq_true_iff.1 O).1
  ·show(S2.T.fr (pg+i)||inr pg i (pg+i))=false;rw[bC.1,Bool.false_or,Fg];omega
  ·rw[AM (n:=pg+i+1)];refine⟨⟨i+1,by omega,by omega,by omega,?_⟩,by omega⟩;have aU:=Hv (S':={S2.EY pg i with T:=_}) hR (aO bO) rfl rfl;have e:(if((UJ (S2.EY pg i).V (pg+i)) !=2)=true then(S2.EY pg i).T.back (pg+i) 1 else(S2.EY pg i).T.JL (pg+i) 1)=(S2.EY pg (i+1)).T:=by
    have b2:((UJ (S2.EY pg i).V (pg+i)) !=2)= !I9 S2.V.ready (pg+i):=by
     show(UJ S2.V (pg+i) !=2)=_;cases y:I9 S2.V.ready (pg+i)with
     | true=>rw[gC aH.vv (Az.1 y)];rfl
     | false=>
      have:UJ S2.V (pg+i)≠2:=by
       rcases JW aH.vv (pg+i)with c|c|c|c
       ·rw[c.1];decide
       ·rw[c.1];decide
       ·rw[Az.2 c.2.2.1]at y;cases y
       ·rw[c.1];decide
      simpa using this
    rw[b2];have aD: ∀q,inr pg (i+1) q=(inr pg i q||inr (pg+i) 1 q):=fun q=>by
     rw[Bool.eq_iff_iff,Bool.or_eq_true_iff,AR,AR,AR];omega
    cases y:I9 S2.V.ready (pg+i)with
    | true=>
     rw[if_neg (by simp)];unfold TV.JL HS.EY;dsimp only;congr 1
     ·funext q;rw[aD,Bool.or_assoc]
     ·funext q;rw[aD];by_cases e:q=pg+i
      ·rw[e,y];simp
      ·have:inr (pg+i) 1 q=false:=by rw[Fg];omega
       rw[this,Bool.or_false]
    | false=>
     rw[if_pos (by simp)];unfold TV.back HS.EY;dsimp only;congr 1
     ·funext q;rw[aD,Bool.or_assoc]
     ·funext q;rw[aD];by_cases e:q=pg+i
      ·rw[e,y];have:inr (pg+i) 1 (pg+i)=true:=AR.2 (by omega);rw[this];simp
      ·have:inr (pg+i) 1 q=false:=by rw[Fg];omega
       rw[this,Bool.or_false,Bool.or_false]
   rw[e]at aU;exact aU
 ·obtain rfl:i=n:=by omega
  exact aJ b1 bA
end
end Go.Sh
set_option linter.all false
set_option maxRecDepth 8000
set_option maxHeartbeats 4000000
namespace Go.Sh
def HT(um:TH)(id:Int)(U M:Nat->Bool):TH:=fun i=>if i=id then(U,M)else um i
section
variable{E:Env}{h:Nat}{S S':HS}{um um':TH}{g:RG}{Z:List Pr}{w:World}
def atK(S:HS)(x:Int×Nat):Int:=S.at x.1
theorem Xx.IK(d:Xx S g):IG (atK S) g.L:=List.pairwise_map.1 d.so
theorem Xx.nd(d:Xx S g):(g.L.map (·.1)).Nodup:=List.pairwise_map.2 (List.Pairwise.imp (fun{a b} hab e=>by unfold atK at hab;rw[e]at hab;omega) d.IK)
theorem Xx.SF{fl:Int->Bool}(j:Xx S g)(d:Al S fl):g.L.length<1099511627776:=by
 have:=d.SF _ j.nd fun n v=>(j.mem n).1 v;rwa[List.length_map]at this
theorem Rr{q:Nat}{I:SI}{page n:Int}{U M:Nat->Bool}(H:Sat (C0 E q I U M::GG E h S um::Z) w)(C:Al S (inr page n))(hk:HP S)(n0:0<n)(i1:I.base=page*8192){K:Int->World->Prop}
  (hK: ∀id X,Next S id X-> ∀w',(∀b,Sat (GG E h (S.DP id (b,I) page n X) (HT um id U M)::Z) w')->K id w'):F.B7 E (some ⟨h,0,none⟩) (some ⟨q,0,none⟩) K w:=by
 obtain⟨g,hI,H1⟩:=Sat.EI.1 (H.perm (.swap _ _ _));unfold F.B7 T0.B7;have b9:=hI.SF C;have cX:=C.fb;have key: ∀id X,Next S id X-> ∀w4,Sat (C2 E h {S with fx:=X} um g++C0 E q I U M::Z) w4->
   Am (Int×Unit) (fun J5=>
  Ay (Int×Unit) (0,()) w4 fun s8 _ w9 aJ=>
   NC (some (Addr.mk h 0 none)) fun bV=>
   ∃aM:AZ,w9.drew.cell? (bV.add 8259)=some (.slice aM.base aM.len aM.cap)/\
   CND (decide ((s8.1:Int)<((aM.len:Nat):Int))) (
    NC (some (Addr.mk h 0 none)) fun bQ=>
    ∃aF:AZ,w9.drew.cell? (bQ.add 8259)=some (.slice aF.base aF.len aF.cap)/\
    NC aF.base fun bO=>
    ((0:Int)<=s8.1/\(s8.1:Int)<(aF.len:Nat))/\
    ∃a6:(Option Addr),w9.drew.cell? ((bO.add (Int.toNat s8.1*2)).add 1)=some (.pointer a6)/\
    NC a6 fun bT=>
    ∃a3:Int,w9.drew.cell? bT=some (.int .u64 a3)/\
    NC (some (Addr.mk q 0 none)) fun bN=>
    ∃a4:Int,w9.drew.cell? bN=some (.int .u64 a4)/\
    CND (decide ((a3:Int)<a4)) (
     aJ (i64 (s8.1+1),()) w9.drew
    ) (
     J5 (s8.1,()) w9.drew
    )
   ) (
    J5 (s8.1,()) w9.drew
   )
 ) fun s6 _ w7=>
  AL (.cells ⟨[]⟩ E.AW) w7 fun a9 aQ=>
  NC (some (Addr.mk h 0 none)) fun b3=>
  ∃aA:AZ,aQ.cell? (b3.add 8259)=some (.slice aA.base aA.len aA.cap)/\
  ((0:Int)<=s6.1/\(s6.1:Int)<=(aA.cap:Nat))/\
  APP E.AW 2 16 #[.int .i64 0,.pointer none] ⟨(some (Addr.mk a9 0 none)),0,0⟩ ⟨(Gp aA.base aA.cap 0 2),(Int.toNat s6.1),aA.cap⟩ aQ fun bB a7=>
  AL (.cells ⟨[.int .i64 id,.pointer (some (Addr.mk q 0 none))]⟩ E.AW) a7 fun bC aZ=>
  APP E.AW 2 16 #[.int .i64 0,.pointer none] bB ⟨(some (Addr.mk bC 0 none)),1,1⟩ aZ fun a1 aS=>
  NC (some (Addr.mk h 0 none)) fun bM=>
  ∃Y:AZ,aS.cell? (bM.add 8259)=some (.slice Y.base Y.len Y.cap)/\
  ((0:Int)<=s6.1/\(s6.1:Int)<=(Y.len:Nat))/\
  APP E.AW 2 16 #[.int .i64 0,.pointer none] a1 ⟨(Gp Y.base Y.cap (Int.toNat s6.1) 2),(Y.len-(Int.toNat s6.1)),(Y.cap-(Int.toNat s6.1))⟩ aS fun J bD=>
  NC (some (Addr.mk h 0 none)) fun bJ=>
  stCells (bJ.add 8259) 0 [.slice J.base J.len J.cap] bD fun aK=>
  K id aK:=by
  intro id X hX w4 H4;obtain⟨We,aP,_⟩:=hX.live hk C;have aT: ∀x∈g.L,∃y,S.sp x.1=some y/\x.1≠id/\0<=y.2.base/\S.at x.1=y.2.base/\y.2.base %8192=0/\y.2.base/8192≠page:=fun x d=>by
   obtain⟨y,hy⟩:=Option.ne_none_iff_exists'.1 ((hI.mem x.1).1 (List.mem_map.2 ⟨x,d,rfl⟩));have hs:=C.sp x.1 y hy;have h1:=hs.2.2.2.2 (y.2.base/8192) (Int.le_refl _) (by omega);have cN:=hk.tv.Gn _ (C.ow _ (by omega:0<S.own (y.2.base/8192))).1;refine⟨y,hy,fun e=>(by rw[e,aP]at hy;cases hy),by omega,HS.Mf hy,hs.2.1,fun e=> ?_⟩;have:=(C.Mq hk (p:=page) (AR.2 ⟨Int.le_refl _,by omega⟩)).2.2.1;rw[e]at h1;omega
  refine HH (fun st w'=> ∃i:Nat,st.1=(i:Int)/\i<=g.L.length/\(∀(j:Nat) x,g.L[j]? =some x->j<i->S.at x.1<page*8192)/\(∀x,g.L[i]? =some x->page*8192<S.at x.1)/\Sat (C2 E h {S with fx:=X} um g++C0 E q I U M::Z) w') ?_ ?_
  ·refine AK (fun st w'=>Sat (C2 E h {S with fx:=X} um g++C0 E q I U M::Z) w'/\ ∃i:Nat,st.1=(i:Int)/\i<=g.L.length/\(∀(j:Nat) x,g.L[j]? =some x->j<i->S.at x.1<page*8192)) (fun st _=>((g.L.length:Int)-st.1).toNat) ⟨H4,0,rfl,Nat.zero_le _,fun j q _ hj=>by omega⟩ ?_;rintro⟨i',u⟩ _ w9 ⟨H9,i,hi,aC,O⟩;dsimp only at hi⊢;subst hi;have Hd:=H9.drew;have hl:=KI (Hd.front 4 rfl);refine Aa ⟨g.sl,UQ Hd,AD (fun bL=>Aa ⟨g.sl,UQ Hd,?_⟩) fun cG=>⟨i,rfl,aC,O,fun x d=> ?_,Hd⟩⟩
   ·obtain⟨x,d⟩: ∃x,g.L[i]? =some x:=⟨_,List.getElem?_eq_getElem (by omega)⟩;obtain⟨b,hb⟩:=(Hd.front 4 rfl).Fx (by decide) BU (i:=i) (by omega);rw[hb];obtain⟨y,hy,aD,yb,a8,hm,cI⟩:=aT x (List.mem_of_getElem? d);obtain⟨y',R',bK,h1⟩:=gQ (S:={S with fx:=X}) (Hd.front 5 rfl) ⟨hI.q,hI.mem,hI.so⟩ d;have e:y'=y:=by
     have:S.sp x.1=some y':=bK;rw[hy]at this;exact(Option.some.inj this).symm
    subst e;obtain⟨ul,ml,s1,s2,lk,cJ,h2⟩:=Sat.Ki.1 h1;obtain⟨cL,cQ,cH,cT,cU,_,h3⟩:=Sat.Ki.1 (Hd.front 6 rfl);refine Aa ⟨⟨by omega,bL⟩,some ⟨x.2,0,none⟩,?_,Aa ⟨_,h2.A2 rfl,Aa ⟨_,h3.A2 rfl,?_⟩⟩⟩
    ·have:=(Hd.front 4 rfl).CD BU hb d (j:=1) rfl;rw[add_add];exact this
    have eI:I.base/8192=page:=by omega
    rw[eI];refine AD (fun b6=> ?_) fun b7=>⟨i,rfl,aC,O,fun z hz=> ?_,Hd⟩
    ·rw[AH (n:=(i:Int)+1)];refine⟨⟨Hd,i+1,by omega,by omega,fun j z hz hj=> ?_⟩,by omega⟩;by_cases ej:j=i
     ·rw[ej,d]at hz;cases hz;rw[a8];omega
     ·exact O j z hz (by omega)
    ·rw[d]at hz;cases hz;rw[a8];omega
   ·have:=(List.getElem?_eq_some_iff.1 d).1;omega
  rintro⟨i',u⟩ _ w7 ⟨i,hi,aC,O,bA,H7⟩;dsimp only at hi⊢;subst hi;have bG:=(H7.front 4 rfl).IW (by decide) BU;refine Hu (n:=0) (z:=2) H7 rfl (by decide) fun a9 aQ H8=>Aa ⟨g.sl,UQ (H8.front 1 rfl),⟨by omega,by omega⟩,?_⟩;rw[Int.toNat_natCast];have aE: ∀(x:Int×Nat),∀v∈HR x,v.oneCell'=true:=fun x v hv=>by
   simp only[HR,List.mem_cons,List.not_mem_nil,or_false]at hv;rcases hv with rfl|rfl<;>rfl
  refine F4 (x:=⟨Gp g.sl.base g.sl.cap 0 2,i,g.sl.cap⟩) (news:=Bj HR (g.L.take i)) H8 rfl ((H8.front 5 rfl).N1 (by decide) BU aC) (by rw[DQ BU,List.length_take];dsimp only;rw[Nat.min_eq_left aC]) (Hg aE _) (by dsimp only;omega) (by dsimp only;omega) fun bB a7 aX a2=> ?_;rw[List.nil_append]at aX;dsimp only at a2;refine Ad (vs:=[.int .i64 id,.pointer (some (Addr.mk q 0 none))]) aX fun bC aZ bU _=>GP (news:=[.int .i64 id,.pointer (some (Addr.mk q 0 none))]) bU rfl rfl (aE (id,q)) (by omega) (by omega) fun a1 aS aV cC=> ?_;refine Aa ⟨g.sl,UQ (aV.front 1 rfl),⟨by omega,by omega⟩,?_⟩;refine F4 (x:=⟨Gp g.sl.base g.sl.cap i 2,g.sl.len-i,g.sl.cap-i⟩) (news:=Bj HR (g.L.drop i)) aV rfl ((aV.front 5 rfl).N2 (by decide) BU aC) (by rw[DQ BU,List.length_drop];dsimp only;rw[bG.1]) (Hg aE _) (by dsimp only;omega) (by dsimp only;omega) fun J bD a0 _=> ?_;have e3:Bj HR (g.L.take i)++[Value.int .i64 id,.pointer (some (Addr.mk q 0 none))]++Bj HR (g.L.drop i)=Bj HR (g.L.take i++[(id,q)]++g.L.drop i):=by
   rw[Hf,Hf];rfl
  rw[e3]at a0;refine Aa (n8 (s:=J) (a0.front 1 rfl) fun aK bS=>hK id X hX aK fun b=> ?_);have bE:(g.L.take i++[(id,q)]++g.L.drop i).Perm ((id,q)::g.L):=by
   have h1:(g.L.take i++[(id,q)]++g.L.drop i).Perm ([(id,q)]++(g.L.take i++g.L.drop i)):=by
    rw[List.append_assoc];exact List.perm_append_comm_assoc _ _ _
   rw[List.take_append_drop]at h1;exact h1
  have bX:=(bS.front 5 rfl).tail;have bY:=(bX.front 5 rfl).DR 5 rfl;have bR:=bY.perm (.swap _ _ _);have e4:Ap (LG E S.sp um) g.L=Ap (LG E (S.DP id (b,I) page n X).sp (HT um id U M)) g.L:=Ap.congr fun x d=>by
   obtain⟨y,hy,aD,_⟩:=aT x d;refine(LG.congr (S:=S) (S':=S.DP id (b,I) page n X) (um:=um) (um':=HT um id U M) ?_ ?_).symm
   ·show Option.map _ (if x.1=id then some (b,I)else S.sp x.1)=_;rw[if_neg aD]
   ·unfold HT;rw[if_neg aD]
  have e5:C0 E q I U M=LG E (S.DP id (b,I) page n X).sp (HT um id U M) (id,q):=by
   unfold LG HT;have:(S.DP id (b,I) page n X).sp id=some (b,I):=if_pos rfl;dsimp only;rw[this,if_pos rfl]
  have a5:Sat (C0 E q I U M::Ap (LG E S.sp um) g.L::Cells h E.AY (C3 g.m g.t g.f J S.hint g.v)::Row E.AW 2 J (Bj HR (g.L.take i++[(id,q)]++g.L.drop i))::Dl E g.m S.V::JV E g.t S.T::II E g.f X::Z) aK:=bR;rw[e4,e5]at a5;have b1:=(Sat.Lt.2 a5).Ls bE.symm;have bI:=((((b1.front 2 rfl).front 5 rfl).front 5 rfl).front 5 rfl).front 5 rfl;refine Sat.EI.2 ⟨{g with sl:=J,L:=g.L.take i++[(id,q)]++g.L.drop i},⟨hI.q,fun j=> ?_,?_⟩,bI⟩
  ·show j∈(g.L.take i++[(id,q)]++g.L.drop i).map (·.1)↔(if j=id then some (b,I)else S.sp j)≠none;rw[(bE.map (·.1)).mem_iff,List.map_cons,List.mem_cons,hI.mem];by_cases e:j=id
   ·rw[if_pos e];exact⟨fun _=>Option.some_ne_none _,fun _=>.inl e⟩
   ·rw[if_neg e];exact⟨fun c=>c.resolve_left e,.inr⟩
  ·have aN: ∀x∈g.L,(S.DP id (b,I) page n X).at x.1=S.at x.1:=fun x d=>by
    obtain⟨y,hy,aD,_⟩:=aT x d;unfold HS.at;show(match(if x.1=id then some (b,I)else S.sp x.1)with|some x=>x.2.base|none=>0)=_;rw[if_neg aD]
    try rfl
   have aY:(S.DP id (b,I) page n X).at id=page*8192:=by
    have:(S.DP id (b,I) page n X).sp id=some (b,I):=if_pos rfl;rw[HS.Mf this];exact i1
   have ht: ∀x∈g.L.take i,x∈g.L/\S.at x.1<page*8192:=fun x d=>by
    obtain⟨j,hj⟩:=List.mem_iff_getElem?.1 d;rw[List.getElem?_take]at hj;split at hj
    ·rename_i hji;exact⟨List.mem_of_getElem? hj,O j x hj hji⟩
    ·cases hj
   have hd: ∀x∈g.L.drop i,x∈g.L/\page*8192<S.at x.1:=fun x d=>by
    obtain⟨j,hj⟩:=List.mem_iff_getElem?.1 d;rw[List.getElem?_drop]at hj;refine⟨List.mem_of_getElem? hj,?_⟩;have cF:=(List.getElem?_eq_some_iff.1 hj).1;obtain⟨z,hz⟩: ∃z,g.L[i]? =some z:=⟨_,List.getElem?_eq_getElem (by omega)⟩;have:=bA z hz;by_cases e:j=0
    ·subst e;rw[Nat.add_zero,hz]at hj;cases hj;exact this
    ·have:=hI.IK.lt hz hj (by omega);unfold atK at this;omega
   show((g.L.take i++[(id,q)]++g.L.drop i).map fun x=>(S.DP id (b,I) page n X).at x.1).Pairwise (· < ·);have e6:((g.L.take i++[(id,q)]++g.L.drop i).map fun x=>(S.DP id (b,I) page n X).at x.1)=(g.L.take i).map (fun x=>S.at x.1)++[page*8192]++(g.L.drop i).map fun x=>S.at x.1:=by
    rw[List.map_append,List.map_append,List.map_congr_left (l:=g.L.take i) (g:=fun x=>S.at x.1) fun x d=>aN x (ht x d).1,List.map_congr_left (l:=g.L.drop i) (g:=fun x=>S.at x.1) fun x d=>aN x (hd x d).1];show _++[(S.DP id (b,I) page n X).at id]++_=_;rw[aY]
   rw[e6,List.pairwise_append,List.pairwise_append];refine⟨⟨?_,List.pairwise_singleton _ _,fun a ha c hc=> ?_⟩,?_,fun a ha c hc=> ?_⟩
   ·exact List.pairwise_map.2 (hI.IK.take i)
   ·obtain⟨x,d,rfl⟩:=List.mem_map.1 ha;rw[List.mem_singleton.1 hc];exact(ht x d).2
   ·exact List.pairwise_map.2 (hI.IK.drop i)
   ·obtain⟨y,hy,rfl⟩:=List.mem_map.1 hc;have h2:=(hd y hy).2;rcases List.mem_append.1 ha with ha|ha
    ·obtain⟨x,d,rfl⟩:=List.mem_map.1 ha;have:=(ht x d).2;omega
    ·rw[List.mem_singleton.1 ha];exact h2
 refine Aa ⟨some ⟨g.f,0,none⟩,rhF H1,?_⟩;have bk: ∀{X:FX} {w'},Sat (II E g.f X::(C2 E h S um g++C0 E q I U M::Z).eraseIdx 3) w'->Sat (C2 E h {S with fx:=X} um g++C0 E q I U M::Z) w':=fun{X w'} h'=>Sat.back (Ps:=C2 E h S um g++C0 E q I U M::Z) 3 h' (by simp[C2]);exact V8 (H1.front 3 rfl) (by omega) (fun hb w' H'=>key _ _ (.inl ⟨hb,rfl,rfl⟩) w' (bk H')) fun a r hb w' H'=>key _ _ (.inr ⟨a,r,hb,rfl,rfl⟩) w' (bk H')
theorem LK(H:Sat (GG E h S um::Z) w)(hI:Al S no)(hk:HP S){p n c:Int}{np:Bool}(n0:0<=n)(n1:n<18446744073709551616){K:Int->Int->World->Prop}
  (aA:E7 0 n c-> ∀w',Sat (GG E h S um::Z) w'->K 0 1 w')
  (C: ¬E7 0 n c-> ∀S2,NF S p n S2-> ∀w',Sat (GG E h S2 um::Z) w'->K 0 13 w')
  (aB: ¬E7 0 n c-> ∀page S2 id X,Found S p n page S2->Next S2 id X-> ∀w',(∀b,Sat (GG E h (S2.DP id (b,IX page n c np) page n X) (HT um id NI NI)::Z) w')->K id 0 w'):
  F.B8 E (some ⟨h,0,none⟩) p n c np K w:=by
 unfold F.B8 T0.B8;refine Rh H (by decide) n0 n1 (fun j w3 J=>AV rfl (aA j w3 J)) fun j b w3 J=>Ac rfl ?_;have Y:=j;unfold E7 at Y;have hn:n<=134217728:=by
  by_cases c0:c=0
  ·omega
  ·have:=(KE (c:=c) (by omega) (by omega)).2;omega
 refine OX J.tail hI hk (by omega) hn (fun page S2 hF T d p0 p1 w6 H6=>Ac rfl ?_) fun S2 hL w6 H6=>AV rfl (C j S2 hL w6 H6);refine Rh H6 p0 n0 n1 (fun v=> ?_) fun _ b2 w9 H9=> ?_
 ·unfold E7 at v;omega
 ·exact Rr H9 T d (by omega) rfl fun id X hX O y=>aB j page S2 id X hF hX O y
theorem KR(H:Sat (GG E h S um::Z) w)(hI:Al S no)(hk:HP S){n el:Int}(n0:0<=n)(n1:n<18446744073709551616)(e1:el<9223372036854775808){K:Int->Int->World->Prop}
  (aA:E4 n el-> ∀w',Sat (GG E h S um::Z) w'->K 0 1 w')
  (C: ¬E4 n el-> ∀S2,NF S (-1) n S2-> ∀w',Sat (GG E h S2 um::Z) w'->K 0 13 w')
  (aB: ¬E4 n el-> ∀page S2 id X,Found S (-1) n page S2->Next S2 id X-> ∀w',(∀b,Sat (GG E h (S2.DP id (b,RQ page n el) page n X) (HT um id NI NI)::Z) w')->K id 0 w'):
  F.Bs E (some ⟨h,0,none⟩) n el K w:=by
 unfold F.Bs T0.Bs;refine Ri H (by decide) n0 n1 (.inr rfl) e1 (fun d w3 J=>AV rfl (aA d w3 J)) fun d b w3 J=>Ac rfl ?_;have Y:=d;unfold E4 at Y;refine OX J.tail hI hk (by omega) (by omega) (fun page S2 hF T j p0 p1 w6 H6=>Ac rfl ?_) fun S2 hL w6 H6=>AV rfl (C d S2 hL w6 H6);refine Ri H6 p0 n0 n1 (.inl p1) e1 (fun v=>absurd v d) fun _ b2 w9 H9=> ?_;exact Rr H9 T j (by omega) rfl fun id X hX O y=>aB d page S2 id X hF hX O y
end
end Go.Sh
set_option linter.all false
set_option maxRecDepth 8000
set_option maxHeartbeats 4000000
namespace Go.Sh
section
variable{E:Env}{h:Nat}{S S':HS}{um um':TH}{g:RG}{Z:List Pr}{w:World}
theorem Vg.len{X:FX}(h:Vg X):X.bk.length<=X.n:=by
 have:=T6 X.n (X.bk.map fun a:Nat=>(a:Int)+1) (List.pairwise_map.2 (List.Pairwise.imp (fun{a b} hab e=>hab (by omega)) h.nd)) fun n j=>by
  obtain⟨a,d,rfl⟩:=List.mem_map.1 j;have:=h.lt a d;omega
 rwa[List.length_map]at this
theorem MM(H:Sat (GG E h S um::Z) w)(d:Al S no)(hk:HP S){id:Int}{K:Int->World->Prop}(aV:S.sp id=none-> ∀w',Sat (GG E h S um::Z) w'->K 35 w')
  (aR: ∀x,S.sp id=some x->0<cN (um id).1 x.2.Ar.toNat-> ∀w',Sat (GG E h S um::Z) w'->K 33 w')
  (a5: ∀x,∀a:Nat,S.sp id=some x->cN (um id).1 x.2.Ar.toNat=0->id=(a:Int)+1-> ∀w',Sat (GG E h (S.free a (x.2.base/8192) x.2.AB) um::Z) w'->K 0 w'):F.CO E (some ⟨h,0,none⟩) id K w:=by
 have H0:=H;obtain⟨g,hI,H⟩:=Sat.EI.1 H;have aK:=hI.SF d;unfold F.CO T0.CO;refine Pd H hI aK (fun hs=>AV rfl (aV hs w H0)) fun i q hi=> ?_;have hl:=KI (H.front 4 rfl);have aS:=(H.front 4 rfl).IW (by decide) BU;have J:=(List.getElem?_eq_some_iff.1 hi).1;obtain⟨b,hb⟩:=(H.front 4 rfl).Fx (by decide) BU (i:=i) J;refine Ac (decide_eq_false (by omega)) (Aa ⟨g.sl,UQ H,?_⟩);rw[hb];have hc:w.cell? ((((Addr.mk b 0 none).add (Int.toNat (i:Int)*2))).add 1)=some (.pointer (some ⟨q,0,none⟩)):=by
  have:=(H.front 4 rfl).CD BU hb hi (j:=1) rfl;rw[add_add];exact this
 refine Aa ⟨⟨by omega,by omega⟩,some ⟨q,0,none⟩,hc,?_⟩;have hm:id∈g.L.map (·.1):=List.mem_map.2 ⟨(id,q),List.mem_of_getElem? hi,rfl⟩;obtain⟨x,hx⟩:=Option.ne_none_iff_exists'.1 ((hI.mem id).1 hm);have Y:=d.sp id x hx;have h1:=(H.front 5 rfl).Hs hi;have e:LG E S.sp um (id,q)=C0 E q x.2 (um id).1 (um id).2:=by unfold LG;dsimp only;rw[hx]
 rw[e]at h1;refine Xv h1 Y.2.2.2.1 (fun hu=>AV rfl (aR x hx hu w H0)) fun hu w8 c0 c1 H8=>Ac rfl ?_;obtain⟨a,ha,aP,aX⟩:=(d.sf id).1 (by rw[hx];exact Option.some_ne_none _);generalize hP:x.2.base/8192=P at *
 generalize hN:x.2.AB=N at *
 have C: ∀r,P<=r->r<P+N->S.T.GH r=true/\S.T.fr r=false:=fun r r1 r2=>by
  have:=d.ow r (by rw[Y.2.2.2.2 r r1 r2];exact Y.1);exact⟨this.1,this.2.1⟩
 have a0:=hk.tv.Gn P (C P (Int.le_refl _) (by omega)).1;have bG:=hk.tv.Gn (P+N-1) (C (P+N-1) (by omega) (by omega)).1;have aE: ∀y∈g.L.eraseIdx i,y.1≠id:=fun y hy e=>by
  have h2:=(Dm hi).map (·.1);have h3:=h2.nodup_iff.1 hI.nd;rw[List.map_cons]at h3;exact(List.nodup_cons.1 h3).1 (List.mem_map.2 ⟨y,hy,e⟩)
 generalize hS1:S.free a P N=S1;have s1:S1.T=S.T.JL P N:=by rw[<-hS1];rfl
 have s2:S1.fx=⟨S.fx.n,a::S.fx.bk⟩:=by rw[<-hS1];rfl
 have s3: ∀j,S1.sp j=if j=id then none else S.sp j:=fun j=>by rw[<-hS1,ha];rfl
 have s4:S1.V=S.V/\S1.ca=S.ca/\S1.hint=S.hint:=by rw[<-hS1];exact⟨rfl,rfl,rfl⟩
 have e2:Ap (LG E S.sp um) (g.L.eraseIdx i)=Ap (LG E S1.sp um) (g.L.eraseIdx i):=Ap.congr fun y hy=>by
  refine(LG.congr ?_ rfl).symm;rw[s3,if_neg (aE y hy)]
 have H9:=Sat.back (Ps:=[Cells h E.AY (C3 g.m g.t g.f g.sl S.hint g.v),Dl E g.m S.V,JV E g.t S.T,II E g.f S.fx,Row E.AW 2 g.sl (Bj HR g.L),YB]++Z) 5 (P':=Ap (LG E S1.sp um) (g.L.eraseIdx i)) (by rw[<-e2];exact H8) (by simp);have H9:Sat (Cells h E.AY (C3 g.m g.t g.f g.sl S.hint g.v)::Dl E g.m S.V::JV E g.t S.T::II E g.f S.fx::Row E.AW 2 g.sl (Bj HR g.L)::Ap (LG E S1.sp um) (g.L.eraseIdx i)::Z) w8.drew:=H9.drew;refine Aa ⟨some ⟨g.t,0,none⟩,aZ H9,Aa ⟨_,c0,Aa ⟨_,c1,?_⟩⟩⟩;refine UU (H9.front 2 rfl) hk.tv.rf a0.1 Y.2.2.1 (by omega) (fun r r1 r2=>(C r r1 r2).1) (fun r r1 r2=>(C r r1 r2).2) fun bM aW=> ?_;have aI:=aW.front 1 rfl;refine Aa ⟨some ⟨g.f,0,none⟩,rhF aI,?_⟩;rw[ha];have bJ:=d.fb;have bK:=hk.fx.len;refine V9 (aI.front 3 rfl) aP aX (by omega) fun bO aT=> ?_;have a4:=aT.front 1 rfl;refine Hu (n:=0) (z:=2) a4 rfl (by decide) fun bA bE aD=>Aa ⟨g.sl,UQ (aD.front 1 rfl),⟨by omega,by omega⟩,?_⟩;rw[Int.toNat_natCast];have aB: ∀(x:Int×Nat),∀v∈HR x,v.oneCell'=true:=fun x v hv=>by
  simp only[HR,List.mem_cons,List.not_mem_nil,or_false]at hv;rcases hv with rfl|rfl<;>rfl
 refine F4 (x:=⟨Gp g.sl.base g.sl.cap 0 2,i,g.sl.cap⟩) (news:=Bj HR (g.L.take i)) aD rfl ((aD.front 5 rfl).N1 (by decide) BU (Nat.le_of_lt J)) (by rw[DQ BU,List.length_take];dsimp only;rw[Nat.min_eq_left (Nat.le_of_lt J)]) (Hg aB _) (by dsimp only;omega) (by dsimp only;omega) fun bH bN aA aJ=> ?_;rw[List.nil_append]at aA;dsimp only at aJ;rw[AH (n:=(i:Int)+1)];refine Aa ⟨g.sl,UQ (aA.front 1 rfl),⟨by omega,by omega⟩,?_⟩;rw[show Int.toNat ((i:Int)+1)=i+1 by omega];refine F4 (x:=⟨Gp g.sl.base g.sl.cap (i+1) 2,g.sl.len-(i+1),g.sl.cap-(i+1)⟩) (news:=Bj HR (g.L.drop (i+1))) aA rfl ((aA.front 5 rfl).N2 (by decide) BU J) (by rw[DQ BU,List.length_drop];dsimp only;rw[aS.1]) (Hg aB _) (by dsimp only;omega) (by dsimp only;omega) fun O bI aL _=> ?_;rw[<-Hf,<-List.eraseIdx_eq_take_drop_succ]at aL;refine Aa (n8 (s:=O) (aL.front 1 rfl) fun aH aQ=> ?_);have aY:=(aQ.front 5 rfl).tail;have a1:Sat (Cells h E.AY (C3 g.m g.t g.f O S.hint g.v)::Row E.AW 2 O (Bj HR (g.L.eraseIdx i))::II E g.f ⟨S.fx.n,a::S.fx.bk⟩::JV E g.t (S.T.JL P N)::Dl E g.m S.V::Ap (LG E S1.sp um) (g.L.eraseIdx i)::Z) aH:=aY;have aU:=((((a1.front 1 rfl).front 2 rfl).front 3 rfl).front 4 rfl).front 4 rfl;refine a5 x a hx hu ha aH ?_;rw[hP,hN,hS1];refine Sat.EI.2 ⟨{g with sl:=O,L:=g.L.eraseIdx i},⟨by rw[s4.2.1];exact hI.q,fun j=> ?_,?_⟩,?_⟩
 ·rw[s3];by_cases e:j=id
  ·rw[if_pos e];exact⟨fun c=>by obtain⟨y,hy,e2⟩:=List.mem_map.1 c;exact absurd (e2.trans e) (aE y hy),fun c=>absurd rfl c⟩
  ·rw[if_neg e,<-hI.mem j,((Dm hi).map (·.1)).mem_iff,List.map_cons,List.mem_cons];exact⟨.inr,fun c=>c.resolve_left e⟩
 ·have e6:((g.L.eraseIdx i).map fun x=>S1.at x.1)=(g.L.eraseIdx i).map fun x=>S.at x.1:=List.map_congr_left fun y hy=>by
   unfold HS.at;rw[s3,if_neg (aE y hy)]
  show((g.L.eraseIdx i).map fun x=>S1.at x.1).Pairwise (· < ·);rw[e6];exact List.Pairwise.sublist ((List.eraseIdx_sublist g.L i).map _) hI.so
 ·unfold C2;dsimp only;rw[s4.1,s4.2.2,s1,s2];exact aU
theorem I8.uniq{n m m':Int}{S1 S2:HS}(h:I8 S n S1 m):I8 S n S2 m'->S1=S2/\m=m':=by
 induction h generalizing S2 m' with
 | stop hs=>
  intro d;cases d with
  | stop hs'=>exact⟨rfl,rfl⟩
  | step ha r=>
   exfalso;rcases hs with hs|hs
   ·have:=ha.k0;have:=ha.kn;omega
   ·have:=ha.row _ (Int.le_refl _) (by have:=ha.k0;omega);rw[hs]at this;cases this
 | step ha r ih=>
  intro d;cases d with
  | stop hs=>
   exfalso;rcases hs with hs|hs
   ·have:=ha.k0;have:=ha.kn;omega
   ·have:=ha.row _ (Int.le_refl _) (by have:=ha.k0;omega);rw[hs]at this;cases this
  | step ha' r'=>
   obtain⟨rfl,rfl⟩:=ha.uniq ha';obtain⟨j,v⟩:=ih r';exact⟨j,by rw[v]⟩
theorem HP.K3(d:HP S)(C:Al S no){x k:Int}(h0:0<=x)(j:0<k)(v:x+k<=34359738368)(y:Im S.T.idle x k):HP (S.K3 x k):=
 ⟨d.tv.K3 h0 j v y,d.vv.release h0 j v fun p J K=>(C.idle d (y p J K)).2.2.1,d.ci,d.ok,d.fx⟩
theorem WT(H:Sat (GG E h S um::Z) w)(hI:Al S no)(hk:HP S)(O:DE S.V.laid<=1000000){n:Int}(n0:0<=n)(n1:n<18446744073709551616){K:Int->World->Prop}
  (hK: ∀S' m,I8 S n S' m-> ∀w',Sat (GG E h S' um::Z) w'->K m w'):F.BY E (some ⟨h,0,none⟩) n K w:=by
 unfold F.BY T0.BY;refine AK (fun st w'=> ∃S1,0<=st.1/\st.1<=n/\Al S1 no/\HP S1/\S1.V.laid=S.V.laid/\(∀S' m,I8 S1 (n-st.1) S' m->I8 S n S' (st.1+m))/\Sat (GG E h S1 um::Z) w') (fun st _=>(n-st.1).toNat)
  ⟨S,Int.le_refl _,n0,hI,hk,rfl,fun S' m hs=>by show I8 S n S' (0+m);rw[Int.zero_add];rwa[show n-0=n by omega]at hs,H⟩ ?_
 rintro⟨d,v⟩ _ w2 ⟨S1,l0,l1,C,j,aA,J,H2⟩;dsimp only at l0 l1 J⊢;have y:(n-d=0∨ ∀p,S1.T.idle p=false)-> ∀w',Sat (GG E h S1 um::Z) w'->K d w':=fun hz w' H'=>by
  have:=J S1 0 (.stop hz);rw[Int.add_zero]at this;exact hK S1 _ this w' H'
 refine AD (fun aM=> ?_) fun hz=>y (.inl (by omega)) w2 H2;obtain⟨g,hR,H3⟩:=Sat.EI.1 H2;obtain⟨R,H4,hb⟩:=OW H3;refine Aa ⟨some ⟨g.t,0,none⟩,aZ H3,?_⟩;rw[AM (n:=n-d)];refine WS H4 j.tv (by omega) (by omega) (fun hz w8 H8=>AV rfl (y hz w8 (Hv hR (hb H8) rfl rfl))) fun p k hs p0 pb w8 H8=>Ac (by have:=hs.k0;simpa using(by omega: ¬k=0)) ?_;have k0:=hs.k0;have kn:=hs.kn;have H9:=hb H8;obtain⟨R2,aE,aF⟩:=ML H9;refine Aa ⟨some ⟨g.m,0,none⟩,ZL H9,?_⟩;have Y: ∀q,p<=q->q<p+k->mem S1.V.ready q:=fun q a b=>(C.idle j (hs.row q a b)).2.2.1;have aB:cnt S1.V.ready p (p+k)=k:=by
  have:=(DM j.vv.KT (a:=p) (b:=p+k) (by omega)).2 Y;omega
 have aH:FY p k:=⟨by omega,pb⟩;refine SK (by rw[aA];exact O) aE p0 (by omega) (by omega) (by omega) (fun c=>absurd aH c) (fun _ c=>absurd aB c) fun _ _ aT aC=> ?_;rw[AM (n:=d+k)];have Bi:=j.K3 C p0 k0 pb hs.row;refine⟨⟨S1.K3 p k,by show 0<=d+k;omega,by show d+k<=n;omega,C.K3 j k0 hs.row,Bi,aA,fun S' m' aG=> ?_,Hv hR (aF (aC Bi.vv)) rfl rfl⟩,by show(n-(d+k)).toNat<(n-d).toNat;omega⟩;have:=J S' (k+m') (.step hs (by rw[show n-d-k=n-(d+k) by omega];exact aG));show I8 S n S' (d+k+m');rw[show d+k+m'=d+(k+m') by omega];exact this
theorem Rt{l:Nat->Iv}{L:CL}{U G:Int->Bool}(d:RU l L U G)(C:LV l S.T)(j:Al S no)(v:HP S):((512*L.length:Nat):Int)=cP S.T.GH:=by
 have h1: ∀q,mem S.ks q↔ ∃c∈L,c.1=q:=fun q=>by
  have a1:=j.ks (q*512);have a2:=d.l0 (q*512);rw[Int.mul_ediv_cancel q (by decide)]at a1 a2;rw[a1,<-C.i,a2]
 have hlen:=P7 (key:=fun c:Int×Nat=>c.1) (L:=L) d.IK v.ok h1 (a:=0) (n:=67108864) fun q y=>by
  obtain⟨c,J,rfl⟩:=(h1 q).1 y;have:=d.QB c J;omega
 have:=(j.counts v).1;omega
theorem SM(H:Sat (GG E h S um::Z) w)(d:Al S no)(hk:HP S){K:Int->Int->Int->World->Prop}(hK: ∀w',Sat (GG E h S um::Z) w'->K (cP S.T.GH) S.AB (cP S.gone) w'):F.CC E (some ⟨h,0,none⟩) K w:=by
 obtain⟨g,hI,H⟩:=Sat.EI.1 H;unfold F.CC T0.CC;have a8:=KI (H.front 4 rfl);have bE:=hI.SF d;have bK:=d.pgs;have aE:=d.KQ hk;have a3:=Jj S.gone;have aP:=Jj S.T.GH;generalize hci:cP S.T.GH=CI at hK aP;generalize hcg:cP S.gone=CG at hK a3 aE;refine Aa ⟨some ⟨g.t,0,none⟩,aZ H,Po (H.front 2 rfl) ?_⟩;have aM: ∀n,n∈g.L.map (·.1)↔S.sp n≠none:=hI.mem;refine AK (fun st w'=>Sat (C2 E h S um g++Z) w'/\ ∃i:Nat,st.2.1=(i:Int)/\i<=g.L.length/\st.1=Rq S ((g.L.take i).map (·.1))) (fun st _=>((g.L.length:Int)-st.2.1).toNat) ⟨H,0,rfl,Nat.zero_le _,?_⟩ ?_
 ·show(0:Int)=Rq S [];unfold Rq;rw[N7];intro p;simp
 clear H;rintro⟨us,i',u⟩ _ w6 ⟨H,i,hi,bI,O⟩;dsimp only at hi O⊢;subst hi;refine Aa ⟨g.sl,UQ H,AD (fun aB=>Aa ⟨g.sl,UQ H,?_⟩) fun aQ=> ?_⟩
 ·obtain⟨x,hx⟩: ∃x,g.L[i]? =some x:=⟨_,List.getElem?_eq_getElem (by omega)⟩;obtain⟨b,hb⟩:=(H.front 4 rfl).Fx (by decide) BU (i:=i) (by omega);rw[hb];obtain⟨y,R',hy,h1⟩:=gQ (H.front 5 rfl) hI hx;obtain⟨ul,ml,s1,s2,lk,bL,h2⟩:=Sat.Ki.1 h1;refine Aa ⟨⟨by omega,aB⟩,some ⟨x.2,0,none⟩,?_,Aa ⟨_,h2.cell rfl,?_⟩⟩
  ·have:=(H.front 4 rfl).CD BU hb hx (j:=1) rfl;rw[add_add];exact this
  have a2:x.1∉(g.L.take i).map (·.1):=fun c=>by
   have h3:=hI.nd;have e:g.L=g.L.take i++x::g.L.drop (i+1):=by
    have aT:=(List.getElem?_eq_some_iff.1 hx);rw[<-aT.2,List.getElem_cons_drop,List.take_append_drop]
   rw[e,List.map_append,List.nodup_append]at h3;exact h3.2.2 x.1 c x.1 (by simp) rfl
  have J:=aY d hk hy a2;have e2:(g.L.take i).map (·.1)++[x.1]=(g.L.take (i+1)).map (·.1):=by rw[List.take_succ,hx];simp
  rw[e2]at J;have aJ: ∀l,0<=Rq S l/\Rq S l<=34359738368:=fun l=>Jj _;have b1:=aJ ((g.L.take (i+1)).map (·.1));have b2:=aJ ((g.L.take i).map (·.1));have bM:=(d.sp x.1 y hy).2.2.1;have Y:=J.1;clear J;generalize hA:Rq S ((g.L.take i).map (·.1))=A at O b2 Y;generalize hB:Rq S ((g.L.take (i+1)).map (·.1))=B at b1 Y;rw[O,AM (n:=A+y.2.AB),AH (n:=(i:Int)+1)];exact⟨⟨H,i+1,by omega,by omega,by rw[hB];exact Y.symm⟩,by omega⟩
 ·obtain rfl:i=g.L.length:=by omega
  rw[List.take_length,gP d aM]at O;subst O;have bO:0<=NT S.T.rl:=by
   obtain⟨l,o,hl⟩:=hk.tv.cr;rw[VE o hl];exact Ij o
  refine AK (fun st w'=>Sat (C2 E h S um g++Z) w'/\ ∃i:Nat,st.2.1=(i:Int)/\i<=64/\st.1=NT S.T.rl+Go.Sh.KQ S.ca i) (fun st _=>(64-st.2.1).toNat) ⟨H,0,rfl,by decide,by show NT S.T.rl=NT S.T.rl+0;omega⟩ ?_;clear H;rintro⟨gn,p',u⟩ _ aR ⟨H,p,hp,bF,aA⟩;dsimp only at hp aA⊢;subst hp;have a1:=Mb S.ca p (64-p);rw[show p+(64-p)=64 by omega]at a1;refine AD (fun aB=> ?_) fun aQ=> ?_
  ·have aS:=Mb S.ca (p+1) (64-(p+1));rw[show p+1+(64-(p+1))=64 by omega]at aS;have aV:Go.Sh.KQ S.ca (p+1)=Go.Sh.KQ S.ca p+cN (S.ca p).rel 64:=rfl;have a0:=Mb S.ca 0 p;rw[Nat.zero_add]at a0;have a6:Go.Sh.KQ S.ca 0=0:=rfl;have hq:=hI.q p (by omega);refine AK (fun st w'=>Sat (C2 E h S um g++Z) w'/\ ∃k:Nat,st.2.1=(k:Int)/\k<=64/\st.1=NT S.T.rl+Go.Sh.KQ S.ca p+cN (S.ca p).rel k) (fun st _=>(64-st.2.1).toNat) ⟨H,0,rfl,by decide,by rw[aA];show _=_+((0:Nat):Int);omega⟩ ?_;clear H;rintro⟨aU,k',u⟩ _ a5 ⟨H,k,aK,a7,C⟩;dsimp only at aK C⊢;subst aK;refine AD (fun aL=> ?_) fun bT=> ?_
   ·have Hq:Sat (Cells h E.AY (qW (aX g.m g.t g.v p) (mV g.f g.sl S.hint g.v p) (g.v p).1 (g.v p).2.1 (g.v p).2.2)::(Dl E g.m S.V::JV E g.t S.T::II E g.f S.fx::Row E.AW 2 g.sl (Bj HR g.L)::Ap (LG E S.sp um) g.L::Z)) a5:=by
     rw[<-UN g.m g.t g.f g.sl S.hint g.v (by omega:p<64)];exact H
    have ha:((Addr.mk h 0 none).add 2).add (Int.toNat (p:Int)*129)=Addr.mk h (aX g.m g.t g.v p).length none:=by
     rw[add_add,add_eq,Nat.zero_add,QE _ _ _ (by omega),Int.toNat_natCast]
    have c1:=V5 Hq (i:=(k:Int)) (by omega) (by omega);have c2:=Xt Hq (i:=(k:Int)) (by omega) (by omega);rw[<-ha]at c1 c2;have aC:=hq.rl k (by omega);have aD:=hq.hs k (by omega);have J:cN (S.ca p).rel (k+1)=cN (S.ca p).rel k+((S.ca p).rel k).toNat:=rfl;have hle:cN (S.ca p).rel (k+1)<=k+1:=PE _ _;have bB:cN (S.ca p).rel k<=k:=PE _ _;refine HH (fun st w'=>st.1=(S.ca p).rel k/\Sat (C2 E h S um g++Z) w') ?_ ?_
    ·refine Aa ⟨⟨by omega,aB⟩,⟨by omega,aL⟩,_,c1,AQ (fun e=>Aa ⟨⟨by omega,aB⟩,⟨by omega,aL⟩,_,c2,?_,H⟩) fun e=>⟨?_,H⟩⟩
     ·show(g.v p).2.2 k=_;rw[aC,<-aD,e];rfl
     ·show false=_;rw[aC,<-aD,e];rfl
    rintro⟨b,u⟩ _ bP ⟨hb,aH⟩;dsimp only at hb⊢;rw[AH (n:=(k:Int)+1)];refine AQ (fun e=>⟨⟨aH,k+1,by omega,by omega,?_⟩,by omega⟩) fun e=>⟨⟨aH,k+1,by omega,by omega,?_⟩,by omega⟩
    ·rw[hb]at e;rw[AM (n:=aU+1),J,e,C];show _=_+((_+1:Nat):Int);omega
    ·rw[hb]at e;rw[J,e,C];show _=_+((_+0:Nat):Int);omega
   ·obtain rfl:k=64:=by omega
    rw[AH (n:=(p:Int)+1)];exact⟨⟨H,p+1,by omega,by omega,by rw[C,aV];omega⟩,by omega⟩
  ·obtain rfl:p=64:=by omega
   rw[aE]at aA;subst aA;obtain⟨l,⟨hl,Bi⟩,Ht⟩:=Sat.Wa.1 (H.front 2 rfl);obtain⟨s,L,U,G,hR,Hr⟩:=Sat.HQ.1 Ht;have hlen:=Ia Hr;have aI:=Rt hR hl d hk;rw[hci]at aI;refine Aa ⟨some ⟨g.t,0,none⟩,aZ H,Aa ⟨s,Dh Hr,AU fun t ht=> ?_⟩⟩;rw[hlen,AH (n:=512*((L.length:Nat):Int)),AM (n:=512*((L.length:Nat):Int)),show 512*((L.length:Nat):Int)=((512*L.length:Nat):Int) by omega,aI]at ht;rw[ht];exact hK aR (Sat.EI.2 ⟨g,hI,H⟩)
theorem a8:(List.range 64).flatMap (qc fun _=>(0,(fun _=>false),fun _=>false))=Oh:=by
 unfold Oh;refine LF fun i _=> ?_;unfold qc GR;rw[<-LR];rfl
theorem X2{m:Nat}{V:VS}(H:Sat (Dl E m V::Z) w){K:Option Addr->World->Prop}(y: ∀b w',Sat (GG E b (HS.new V) um::Z) w'->K (some ⟨b,0,none⟩) w'):F.EM E (some ⟨m,0,none⟩) K w:=by
 unfold F.EM T0.EM;refine Xu H fun f w3 J=>Ad (vs:=[.slice none 0 0]) J fun d Y C _=> ?_;have T:Sat (JV E d TV.nil::II E f ⟨0,[]⟩::Dl E m V::Z) Y:=MC (l:=fun _=>[]) ⟨fun p=>⟨fun c=>absurd c (A9 p),fun c=>by cases c⟩,fun p=>⟨fun c=>absurd c (A9 p),fun c=>by cases c⟩,fun p=>⟨fun c=>absurd c (A9 p),fun c=>by cases c⟩⟩ (fun _ _=>trivial) fun l' a0 a1 a2=>(Sat.fO (l:=fun _=>[]) C fun _=>rfl).fN a0 a1 a2;rw[<-a8];refine Ad (vs:=C3 m d f ⟨none,0,0⟩ 0 fun _=>(0,(fun _=>false),fun _=>false)) T fun b j H7 _=>y b j (Sat.EI.2 ⟨⟨m,d,f,⟨none,0,0⟩,fun _=>(0,(fun _=>false),fun _=>false),[]⟩,⟨fun i hi=>⟨Int.le_refl _,by show(0:Int)+64<=34359738368;decide,fun c=>absurd (fun _=>rfl) c,fun _ _=>rfl,fun _ _=>rfl,fun _ _=>rfl⟩,fun id=>⟨fun c=>(by cases c),fun c=>absurd rfl c⟩,List.Pairwise.nil⟩,?_⟩);have O:=((Sat.MW (H7.nil E.AW 2) (LG E (HS.new V).sp um)));have v:Sat (Ap (LG E (HS.new V).sp um) []::Row E.AW 2 ⟨none,0,0⟩ []::Cells b E.AY (C3 m d f ⟨none,0,0⟩ 0 fun _=>(0,(fun _=>false),fun _=>false))::JV E d TV.nil::II E f ⟨0,[]⟩::Dl E m V::Z) j:=O;exact((((v.front 1 rfl).front 4 rfl).front 4 rfl).front 5 rfl).front 5 rfl
end
end Go.Sh
set_option linter.all false
set_option maxRecDepth 4000
set_option maxHeartbeats 2000000
namespace Go.Sh
section
variable{E:Env}{c:Nat}{V:VS}{Z:List Pr}{w:World}{g:MG}{P:aU}{W:fZ}
end
end Go.Sh
set_option linter.all false
set_option maxRecDepth 4000
set_option maxHeartbeats 4000000
namespace Go.Sh
theorem UW(i:Nat){t:Nat}{Ps:List Pr}{w:World}{K:Nat->World->Prop}(H:Sat Ps w)(hi:Ps[i]? =some YB)(j: ∀b w',Sat (Ps.set i (Row t 1 ⟨some ⟨b,0,none⟩,0,0⟩ [])) w'->K b w'):AL (.cells ⟨[]⟩ t) w K:=
 Hu (n:=0) (z:=1) (H.front i hi).tail rfl (by decide) fun b w' d=>j b w' (Sat.back i d (List.getElem?_eq_some_iff.1 hi).1)
theorem MN(i:Nat){t bytes b:Nat}{zs:Array Value}{a:AZ}{vs:List Value}{Ps:List Pr}{w:World}{K:AZ->World->Prop}(H:Sat Ps w)(hi:Ps[i]? =some (Row t 1 ⟨some ⟨b,0,none⟩,0,0⟩ []))(hz:zs.size=1)
  (d: ∀w',Sat (Ps.eraseIdx i) w'->rowAt w' a.base a.len vs)(J:vs.length=a.len)(hlen:a.len<=1099511627776)(j:bytes<=8)(O: ∀v∈vs,v.oneCell'=true)(C: ∀s' w',Sat (Ps.set i (Row t 1 s' vs)) w'->K s' w'):
  APP t 1 bytes zs ⟨some ⟨b,0,none⟩,0,0⟩ a w K:=by
 have hm:(0+a.len)*bytes<=1099511627776*8:=Nat.mul_le_mul (by omega) j;exact F4 (H.front i hi) hz (by simpa using d w (H.front i hi).tail) (by simpa using J) O (by simp only;omega) (by simp only;omega) fun s' w' y _=>C s' w' (Sat.back i y (List.getElem?_eq_some_iff.1 hi).1)
section
variable{E:Env}{b c:Nat}{V:VS}{Z Rs:List Pr}{w:World}
theorem mY(pl:List Int)(rf:List Bool)(fl:List Int):Nv (Mh pl rf fl):=
 ⟨trivial,trivial,trivial,fun p h=>absurd h (A9 p),fun p h=>absurd h (A9 p),fun p h=>absurd h (A9 p),fun p h=>absurd h (A9 p),fun _ _ _ _ _=>rfl,by show DE []+DE []<=DE [];decide⟩
theorem WU{b1 t1:Nat}{vs:List Value}{s0 s1 s2:AZ}{pl:List Int}{rf:List Bool}{fl:List Int}(d: ∀x∈pl,0<=x/\x<18446744073709551616)
  (H:Sat (Cells c E.As [Ie s0,Ie s1,Ie s2,.slice none 0 0,.slice none 0 0]::Cells b1 t1 vs::Row E.AJ 1 s0 (ints .u64 pl)::Row E.Ag 1 s1 (A6 rf)::Row E.AJ 1 s2 (ints .u64 fl)::Rs) w):Sat (Dl E c (Mh pl rf fl)::Rs) w:=by
 refine Sat.Kj.2 ⟨⟨s0,s1,s2,⟨none,0,0⟩,⟨none,0,0⟩⟩,[],[],⟨mY pl rf fl,.nil,.nil,fun p=>⟨fun h=>absurd h (A9 p),fun⟨e,he,_⟩=>(by cases he)⟩,fun e he=>(by cases he),fun e he=>(by cases he),fun e he=>(by cases he),d⟩,?_⟩;have h1:=(H.front 1 rfl).tail;have v:=(h1.front 1 rfl).iD;have J:=(v.front 2 rfl).iD;have j:=(J.front 3 rfl).iD;have C:=(j.nil E.Ai 3);have y:=(C.nil E.BS 2);exact y.perm ((List.reverse_perm [_,_,_,_,_,_]).symm.append_right Rs)
theorem a9(H:Sat Rs w){a0 a1 a2:AZ}{pl:List Int}{rf:List Bool}{fl:List Int}(j: ∀x∈pl,0<=x/\x<18446744073709551616)
  (h0: ∀w',Sat Rs w'->rowAt w' a0.base a0.len (ints .u64 pl))(l0:pl.length=a0.len)(k0:a0.len<=1099511627776)
  (h1: ∀w',Sat Rs w'->rowAt w' a1.base a1.len (A6 rf))(l1:rf.length=a1.len)(k1:a1.len<=1099511627776)
  (T: ∀w',Sat Rs w'->rowAt w' a2.base a2.len (ints .u64 fl))(l2:fl.length=a2.len)(Y:a2.len<=1099511627776)
  {K:Option Addr->World->Prop}(hK: ∀b w',Sat (Dl E b (Mh pl rf fl)::Rs) w'->K (some ⟨b,0,none⟩) w'):F.Gr E a0 a1 a2 K w:=by
 unfold F.Gr;have v:(ints IntKind.u64 pl).length=a0.len:=by rw[ints,List.length_map];exact l0
 have O:(A6 rf).length=a1.len:=by rw[A6,List.length_map];exact l1
 have y:(ints IntKind.u64 fl).length=a2.len:=by rw[ints,List.length_map];exact l2
 refine Ad (vs:=[Ie a0,Ie a1,Ie a2]) H.emp.emp.emp fun b1 w2 H2 _=> ?_;have J:=H2.drew;clear H2;have t4: ∀{P0 P1 P2:Pr} {w'},Sat (P0::P1::P2::Rs) w'->Sat Rs w':=fun h=>h.tail.tail.tail;refine⟨a0,J.A2 rfl,a1,J.cell rfl,a2,J.cell rfl,?_⟩
 repeat' first
  | (exact Sat.cell (by assumption) (by rfl))
  | (exact Sat.A2 (by assumption) (by rfl))
  | (refine MN 1 (a:=a0) (vs:=ints .u64 pl) (by assumption) (by rfl) rfl (by intro w' h;exact h0 w' (t4 h)) v k0 (by decide) (QD _ _) fun s' w' d=> ?_)
  | (refine MN 1 (a:=a2) (vs:=ints .u64 fl) (by assumption) (by rfl) rfl (by intro w' h;exact T w' (t4 h)) y Y (by decide) (QD _ _) fun s' w' d=> ?_)
  | (refine MN 2 (a:=a1) (vs:=A6 rf) (by assumption) (by rfl) rfl (by intro w' h;exact h1 w' (t4 h)) O k1 (by decide) (fY _) fun s' w' d=> ?_)
  | (refine MN 3 (a:=a0) (vs:=ints .u64 pl) (by assumption) (by rfl) rfl (by intro w' h;exact h0 w' (t4 h)) v k0 (by decide) (QD _ _) fun s' w' d=> ?_)
  | (refine MN 3 (a:=a2) (vs:=ints .u64 fl) (by assumption) (by rfl) rfl (by intro w' h;exact T w' (t4 h)) y Y (by decide) (QD _ _) fun s' w' d=> ?_)
  | (refine UW 2 (t:=E.Ag) (by assumption) (by rfl) fun C w' d=> ?_)
  | (refine UW 1 (t:=E.AJ) (by assumption) (by rfl) fun C w' d=> ?_)
  | (refine UW 3 (t:=E.AJ) (by assumption) (by rfl) fun C w' d=> ?_)
  | (refine Ad (vs:=[Ie _,Ie _,Ie _,.slice none 0 0,.slice none 0 0]) (by assumption) fun C w' d _=>hK _ _ (WU j d))
  | (refine Ad (vs:=[Ie _,Ie _,Ie _,.slice none 0 0,.slice none 0 0]) (by assumption) fun C w' d _=>hK _ _ (WU j (d.perm (.cons _ (.cons _ (((List.Perm.swap _ _ _).trans (.cons _ (.swap _ _ _))).trans (.swap _ _ _)))))))
  | (refine And.intro ?_ ?_)
end
end Go.Sh

/- What the law's functions do. No further condition. -/
import Derived.Test.YtjibkpcalinfhaaGreatDoorK
import Derived.Test.YtjibkpcalinfhaaGreatDoorC
import Derived.Test.YtjibkpcalinfhaaGreatDoorA
import Derived.Test.YtjibkpcalinfhaaGreatDoorH
import Derived.Test.YtjibkpcalinfhaaGreatDoorL
import Derived.Test.YtjibkpcalinfhaaGreatDoorY
set_option linter.all false
set_option maxRecDepth 50000
set_option maxHeartbeats 4000000
namespace Go.Sh
def R9(n:Nat)(b:Bool):List.replicate n (Value.bool b)=flags n λ_=>b:=by
 apply List.ext_getElem?;intro i;rw[List.getElem?_replicate];by_cases h:i<n
 .rw[if_pos h,I3 h]
 .rw[if_neg h,List.getElem?_eq_none (by rw[Ca];omega)]
section
variable{E:Env}{w:World}{Z:List Pr}{r:Nat}{l:Nat->Iv}
def Sat.mO{b:Nat}(H:Sat (Cells b E.Cp [.slice none 0 0]::Z) w)(d: ∀i,l i=[]):Sat (Gg E b l::Z) w:=by
 have v: ∀i p,¬mem (l i) p:=λi p=>by rw[d];exact CM p
 refine Sat.KW.2 ⟨⟨none,0,0⟩,[],λ_=>false,λ_=>false,⟨List.Pairwise.nil,λc j=>(by cases j),by rw[d];trivial,by rw[d];trivial,by rw[d];trivial,λp=> ?_,λp=> ?_,λp=> ?_⟩,?_⟩
 .grind
 .grind
 .grind
 .have h1:=(H.nil E.A0 2);have h2:=h1.LH (T8 E (λ_=>false) λ_=>false);exact h2.perm (List.Perm.trans (.swap _ _ _) (List.Perm.trans (.cons _ (.swap _ _ _)) (.swap _ _ _)))
def WX(H:Sat Z w){c:Int}{U G:Int->Bool}(hU: ∀k,0<=k->k<512->U (c*512+k)=false)(hG: ∀k,0<=k->k<512->G (c*512+k)=true){K:Option Addr->World->Prop}
  (J: ∀b w',Sat (T8 E U G (c,b)::Z) w'->K (some ⟨b,0,none⟩) w'):F.E3 E K w:=by
 unfold F.E3 T0.E3;have C:(Array.replicate 1024 (Value.bool false))=⟨List.replicate 1024 (.bool false)⟩:=by grind
 rw[C];generalize hrep:List.replicate 1024 (Value.bool false)=rep;have hl:rep.length=1024:=by grind
 refine AO H λb w2 y _=> ?_;rw[add_eq,Nat.zero_add];refine gU y (o:=512) (by omega) (by decide) (by decide) (by decide) true λY vs T O v=>J b Y ?_;have e:vs=flags 512 (λk=>U ((c,b).1*512+k))++flags 512 (λk=>G ((c,b).1*512+k)):=by
  apply List.ext_getElem?;intro j;rw[O j];have d:(0+512:Int).toNat=512:=rfl;have h0:(0:Int).toNat=0:=rfl;rw[d,h0];by_cases g1:j<512
  .rw[if_neg (by omega),List.getElem?_append_left (by rw[Ca];omega),I3 g1,<-hrep,List.getElem?_replicate,if_pos (by omega)]
   grind
  .by_cases g2:j<1024
   .rw[if_pos (by omega),List.getElem?_append_right (by rw[Ca];omega),Ca,I3 (by omega)]
    grind
   .rw[if_neg (by omega),List.getElem?_eq_none (by omega),List.getElem?_eq_none (by rw[List.length_append,Ca,Ca];omega)]
 rw[e]at v;exact v
def a7(H:Sat (Gg E r l::Z) w){c n:Int}(hc:0<=c)(bW:c<18446744073709551616)(hn:0<=n)(b0:n<18446744073709551616){K:Int->World->Prop}
  (Y:(n=0∨262144<n∨67108864<c∨67108864-c<n)->K 1 w)
  (aB: ¬(n=0∨262144<n∨67108864<c∨67108864-c<n)->cnt (l 0) (c*512) ((c+n)*512)≠0-> ∀w',Sat (Gg E r l::Z) w'->K 34 w')
  (aI: ¬(n=0∨262144<n∨67108864<c∨67108864-c<n)->cnt (l 0) (c*512) ((c+n)*512)=0-> ∀w',(∀l',(∀i,i<3->l' i=Dl (l i) (c*512) ((c+n)*512))->Sat (Gg E r l'::Z) w')->K 0 w'):
  F.CV E (some ⟨r,0,none⟩) c n K w:=by
 obtain⟨s,L,U,G,hI,H⟩:=Sat.KW.1 H;have back: ∀{w'},Sat (Kf E r s L U G++Z) w'->Sat (Gg E r l::Z) w':=λh=>Sat.KW.2 ⟨s,L,U,G,hI,h⟩;unfold F.CV T0.CV;refine AU (Bc (λe j=>AR rfl (Y (.inl e))) λe1=>AB (λe j=>AR rfl (Y (.inr (.inl e)))) λe2=>AB (λe j=>AR rfl (Y (.inr (.inr (.inl e))))) λe3=> ?_);rw[AM (n:=67108864-c)];refine λj=>AB (λe=>Y (.inr (.inr (.inr e)))) λe4=> ?_;have aD: ¬(n=0∨262144<n∨67108864<c∨67108864-c<n):=by omega
 have aB:=aB aD;have aI:=aI aD;clear Y;have bY:=O0 hI.Ho hI.dV;have hlen:=Nb H;refine MZ H λw6 ok A6 H6=> ?_;clear A6;have bM:=SS L c;have aT:cnt (l 0) (c*512) ((c+n)*512)=0↔ ∀y∈L,¬(c<=y.1/\y.1<c+n):=by
  rw[Dn hI.cY (by omega)];constructor
  .intro h y J ⟨h1,h2⟩;exact h (y.1*512) (by omega) (by omega) ((hI.l0 _).2 ⟨y,J,by omega⟩)
  .intro h m h1 h2 hm;obtain⟨y,J,bG⟩:=(hI.l0 m).1 hm
   grind
 simp only[AG];refine Jy (λst w'=>w'=w6/\(st.1=false-> ∀y,L[posC L c]? =some y->c+n<=y.1)/\(st.1=true->cnt (l 0) (c*512) ((c+n)*512)≠0)) ?_ ?_
 .refine⟨s,Fy H6,AB (λbE=>⟨s,Fy H6,?_⟩) λbC=>⟨rfl,λ_ y J=> ?_,λe=>by cases e⟩⟩
  .have hg:=List.getElem?_eq_getElem (show posC L c<L.length by omega);obtain⟨a,ha,bZ,c1,_⟩:=K7 H6 hg;generalize L[posC L c]=x at hg c1;rw[ha];simp only[AG,Int.toNat_natCast];rw[AM (n:=c+n)];refine⟨⟨by omega,by omega⟩,_,c1,by trivial,λe y J=> ?_,λe=> ?_⟩
   .grind
   .have h1:=of_decide_eq_true e;have h2:=SU hg
    grind
  grind
 rintro⟨bt,v⟩ _ w9 ⟨rfl,aG,aH⟩;dsimp only at aG aH⊢;refine AS (λe=>aB (aH e) w9 (back H6)) λe=> ?_;have aK:=aG e;clear aG aH;have T: ∀y∈L,¬(c<=y.1/\y.1<c+n):=by
  intro y J ⟨h1,h2⟩;obtain⟨j,O⟩:=List.mem_iff_getElem?.1 J;have bD:=(List.getElem?_eq_some_iff.1 O).1;by_cases g:j<posC L c
  .have:=Hl O g;omega
  .have hg:=List.getElem?_eq_getElem (show posC L c<L.length by omega);have h3:=aK _ hg;rcases Nat.lt_or_eq_of_le (Nat.le_of_not_lt g)with g2|g2
   .have:=List.pairwise_iff_getElem.1 hI.Ho (posC L c) j (by omega) bD g2
    grind
   grind
 have bA:=aT.2 T;clear aB aT;generalize hU':(λp:Int=>if c*512<=p/\p<(c+n)*512 then false else U p)=U';generalize hG':(λp:Int=>if c*512<=p/\p<(c+n)*512 then true else G p)=G';have aR: ∀d k,c<=d->d<c+n->0<=k->k<512->U' (d*512+k)=false/\G' (d*512+k)=true:=λd k h1 h2 h3 h4=>by grind
 have a9: ∀y∈L,T8 E U G y=T8 E U' G' y:=λy J=>by
  have b1:=T y J;unfold T8;congr 2
  .refine I4 λk h0 h1=> ?_;rw[<-hU'];dsimp only;rw[if_neg (by omega)]
  .refine I4 λk h0 h1=> ?_;rw[<-hG'];dsimp only;rw[if_neg (by omega)]
 have a4:Sat (Aa (T8 E U' G') L::Cells r E.Cp [.slice s.base s.len s.cap]::Row E.A0 2 s (parts L)::Z) w9:=by
  rw[<-Aa.congr a9];exact H6.front 2 rfl
 refine Gs (n:=0) (z:=2) a4 rfl (by decide) λbQ bH aA=> ?_;have aL:=(aA.front 3 rfl).JJ;have aV:(parts L).length=s.len*2:=by rw[N4,hlen]
 refine⟨s,(aA.front 2 rfl).Af rfl,⟨by omega,by have:=(aA.front 3 rfl).own.cap;omega⟩,?_⟩;rw[Ll,Int.toNat_natCast];have bF:rowAt bH s.base (posC L c*2) (parts (L.take (posC L c))):=by
  have:=Kr aL (m:=posC L c*2) (by omega) aV;rwa[T6]at this
 refine FU (x:=⟨s.base,posC L c,s.cap⟩) (news:=parts (L.take (posC L c))) aA rfl bF (by rw[N4,List.length_take];grind) (VO _) (by grind) (by grind) λUW b3 aN aE=> ?_;rw[List.nil_append]at aN;have aE:UW.len=posC L c:=by grind
 refine AI (λst w'=> ∃(k:Nat) (M:CL),st.2.1=(k:Int)/\(k:Int)<=n/\M.length=k/\(∀(j:Nat) y,M[j]? =some y->y.1=c+j)/\st.1.len=posC L c+k/\
   Sat (Row E.A0 2 st.1 (parts (L.take (posC L c)++M))::Aa (T8 E U' G') M::Aa (T8 E U' G') L::Cells r E.Cp [.slice s.base s.len s.cap]::Row E.A0 2 s (parts L)::Z) w') (λst _=>(n-st.2.1).toNat)
  ⟨0,[],rfl,by show(0:Int)<=n;omega,rfl,λj y h=>(by cases h),aE,by rw[List.append_nil];exact(aN.LH (T8 E U' G')).perm (.swap _ _ _)⟩ ?_
 rintro⟨ZI,k',v⟩ _ bI ⟨k,M,hk,bX,hM,bV,aW,C⟩;dsimp only at hk aW C⊢;subst hk;refine AB (λbE=> ?_) λbC=> ?_
 .refine WX C (c:=c+k) (U:=U') (G:=G') (λi h0 h1=>(aR (c+k) i (by omega) (by omega) h0 h1).1) (λi h0 h1=>(aR (c+k) i (by omega) (by omega) h0 h1).2) λb b4 aY=> ?_;rw[AM (n:=c+(k:Int)),AM (n:=(k:Int)+1)];refine AO aY λbR b5 aZ _=> ?_;refine Er (news:=[.int .u64 (c+k),.pointer (some ⟨b,0,none⟩)]) (aZ.EM 1 rfl) rfl rfl (by simp[Value.oneCell']) (by omega) (by omega) λIQ bJ aO bN=> ?_;have ep:parts (L.take (posC L c)++M)++[Value.int .u64 (c+k),.pointer (some ⟨b,0,none⟩)]=parts (L.take (posC L c)++(M++[(c+(k:Int),b)])):=by
   rw[<-List.append_assoc,VN (L.take (posC L c)++M)];rfl
  rw[ep]at aO;refine⟨⟨k+1,M++[(c+(k:Int),b)],by omega,by omega,by simp[hM],λj y O=> ?_,by omega,?_⟩,by omega⟩
  .grind
  .have h1:Sat (T8 E U' G' (c+(k:Int),b)::Aa (T8 E U' G') M::Row E.A0 2 IQ (parts (L.take (posC L c)++(M++[(c+(k:Int),b)])))::Aa (T8 E U' G') L::Cells r E.Cp [.slice s.base s.len s.cap]::Row E.A0 2 s (parts L)::Z) bJ:=
    aO.perm (List.Perm.trans (.swap _ _ _) (.cons _ (.swap _ _ _)))
   exact h1.S7.perm (.swap _ _ _)
 .have bL:(k:Int)=n:=by omega
  have aC:=(C.front 4 rfl).JJ;refine⟨s,(C.front 3 rfl).Af rfl,⟨by omega,by omega⟩,?_⟩;have aU:=(C.front 4 rfl).own.cap;have bB:rowAt bI (GN s.base s.cap (posC L c) 2) ((s.len-posC L c)*2) (parts (L.drop (posC L c))):=by
   have:=Ip (z:=2) aC rfl (k:=posC L c) (by omega) aU aV;rwa[T7]at this
  refine FU (x:=⟨GN s.base s.cap (posC L c) 2,s.len-posC L c,s.cap-posC L c⟩) (news:=parts (L.drop (posC L c))) C rfl bB (by rw[N4,List.length_drop];grind) (VO _) (by grind) (by grind) λPa b6 aP bO=> ?_;rw[<-VN]at aP;have a3:=(aP.front 3 rfl);refine CN a3 (o:=0) rfl (by simp) λaX aF=>aI bA aX λl' aJ=> ?_;simp only[List.set]at aF;generalize hN:L.take (posC L c)++M++L.drop (posC L c)=N at aF;have a8:(M++L).Perm N:=by
   rw[<-hN,List.append_assoc];have h1:(M++L).Perm (M++(L.take (posC L c)++L.drop (posC L c))):=by rw[List.take_append_drop]
   grind
  have a6: ∀y,y∈N↔y∈M∨y∈L:=λy=>by grind
  have a5: ∀y∈M,c<=y.1/\y.1<c+n:=λy J=>by
   obtain⟨j,O⟩:=List.mem_iff_getElem?.1 J
   grind
  have a0:=FG hI.cY (a:=c*512) (b:=(c+n)*512) (by omega) (by omega) (by omega);have a1:=FG hI.LM (a:=c*512) (b:=(c+n)*512) (by omega) (by omega) (by omega);have a2:=FG hI.Pj (a:=c*512) (b:=(c+n)*512) (by omega) (by omega) (by omega);rw[<-aJ 0 (by decide)]at a0;rw[<-aJ 1 (by decide)]at a1;rw[<-aJ 2 (by decide)]at a2;refine Sat.KW.2 ⟨Pa,N,U',G',⟨?_,λy J=> ?_,a0.1,a1.1,a2.1,λp=> ?_,λp=> ?_,λp=> ?_⟩,?_⟩
  .rw[<-hN];unfold N5;rw[List.append_assoc,List.pairwise_append,List.pairwise_append];refine⟨hI.Ho.sublist (List.take_sublist _ _),⟨?_,hI.Ho.sublist (List.drop_sublist _ _),?_⟩,?_⟩
   .rw[List.pairwise_iff_getElem]
    grind
   .intro a ha d hd;have:=a5 a ha;obtain⟨j,O⟩:=List.mem_iff_getElem?.1 hd;rw[List.getElem?_drop]at O;have h2:=Oz hI.Ho O (n:=c) (by omega)
    grind
   .intro a ha d hd;obtain⟨j,O⟩:=List.mem_iff_getElem?.1 ha;rw[List.getElem?_take]at O;split at O
    .rename_i hj2;have h1:=Hl O hj2;rcases List.mem_append.1 hd with hd|hd
     .grind
     .obtain⟨i,hi⟩:=List.mem_iff_getElem?.1 hd;rw[List.getElem?_drop]at hi;have h2:=Oz hI.Ho hi (n:=c) (by omega);omega
    .cases O
  .rcases(a6 y).1 J with h|h
   .grind
   .exact hI.dV y h
  .rw[a0.2.1,hI.l0];constructor
   .rintro(⟨y,J,bG⟩|⟨h1,h2⟩)
    .grind
    .have hg:=List.getElem?_eq_getElem (l:=M) (i:=(p/512-c).toNat) (by omega)
     grind
   grind
  .rw[a1.2.1,a0.2.1,hI.l1,<-hU']
   grind
  .rw[a2.2.1,a0.2.1,hI.l2,<-hG']
   grind
  .have h1:Sat (Aa (T8 E U' G') M::Aa (T8 E U' G') L::Cells r E.Cp [.slice Pa.base Pa.len Pa.cap]::Row E.A0 2 Pa (parts N)::Row E.A0 2 s (parts L)::Z) aX:=
    aF.perm (List.Perm.trans (List.Perm.trans (.cons _ (.swap _ _ _)) (.swap _ _ _)) (.cons _ (List.Perm.trans (.cons _ (.swap _ _ _)) (.swap _ _ _))))
   have h2:=(Sat.cE.2 h1).JM a8;exact(h2.front 3 rfl).tail.perm (List.Perm.trans (.swap _ _ _) (.cons _ (.swap _ _ _)))
end
section
variable{E:Env}{w:World}{Z:List Pr}{r:Nat}{l:Nat->Iv}
end
section
variable{E:Env}{w:World}{Z:List Pr}{r:Nat}{l:Nat->Iv}
def Yg(H:Sat (Gg E r l::Z) w){K:Int->Bool->World->Prop}(d: ∀w',Sat (Gg E r l::Z) w'->K ((findL (l 1) 1).getD 0) (findL (l 1) 1).isSome w'):F.CC E (some ⟨r,0,none⟩) K w:=by
 unfold F.CC T0.CC;exact UD H (by decide) (by decide) λw' h=>d w' h
end
def Mp(E:Env)(r:Nat)(V:TV):Pr:=Ex λl:Nat->Iv=>Jj (LV l V/\ ∀i,i<4->Ok (l i)) (Gg E r l)
section
variable{E:Env}{w:World}{Z:List Pr}{r t:Nat}{V:TV}{l:Nat->Iv}
def Sat.mP:Sat (Mp E r V::Z) w↔ ∃l,(LV l V/\ ∀i,i<4->Ok (l i))/\Sat (Gg E r l::Z) w:=by
 unfold Mp;rw[Sat.ex];constructor
 .rintro⟨l,h⟩;exact⟨l,Sat.where.1 h⟩
 .rintro⟨l,h⟩;exact⟨l,Sat.where.2 h⟩
def LV.congr{l l':Nat->Iv}(h:LV l V)(h0:l' 0=l 0)(h1:l' 1=l 1)(h2:l' 2=l 2):LV l' V:=⟨by rw[h0];exact h.i,by rw[h1];exact h.f,by rw[h2];exact h.r⟩
def O2(h:LV l V)(A6: ∀i,i<3->Ok (l i))(H: ∀l',l' 0=l 0->l' 1=l 1->l' 2=l 2->Sat (Gg E r l'::Z) w):Sat (Mp E r V::Z) w:=by
 refine Sat.mP.2 ⟨λi=>if i<3 then l i else [],⟨h.congr rfl rfl rfl,λi d=> ?_⟩,H _ rfl rfl rfl⟩;by_cases g:i<3
 .grind
 .show Ok (if i<3 then l i else []);rw[if_neg g];trivial
def WY(H:Sat (Mp E r V::Z) w){p:Int}(hp:0<=p)(j:p<18446744073709551616){K:Bool->Bool->Bool->World->Prop}(O: ∀w',Sat (Mp E r V::Z) w'->K (V.Li p) (V.fr p) (V.rl p) w'):
  F.Bp E (some ⟨r,0,none⟩) p K w:=by
 obtain⟨l,d,H⟩:=Sat.mP.1 H;obtain⟨s,L,U,G,hI,H⟩:=Sat.KW.1 H;refine RR hI H hp j λw' r0 r1 r2 h0 h1 h2 v=> ?_;have y:r0=V.Li p:=Bool.eq_iff_iff.2 (h0.trans (d.1.i p));have C:r1=V.fr p:=Bool.eq_iff_iff.2 (h1.trans (d.1.f p));have J:r2=V.rl p:=Bool.eq_iff_iff.2 (h2.trans (d.1.r p));rw[y,C,J];exact O w' (Sat.mP.2 ⟨l,d,Sat.KW.2 ⟨s,L,U,G,hI,v⟩⟩)
def WZ(H:Sat (Mp E r V::Z) w)(v: ∀p,V.fr p=true->0<=p/\p<34359738368){K:Int->Bool->World->Prop}(y:(∀p,V.fr p=false)-> ∀w',Sat (Mp E r V::Z) w'->K 0 false w')
  (C: ∀p,IH V 1 p-> ∀w',Sat (Mp E r V::Z) w'->K p true w'):F.CC E (some ⟨r,0,none⟩) K w:=by
 obtain⟨l,d,H⟩:=Sat.mP.1 H;refine Yg H λw' T=> ?_;have O:=Sat.mP.2 ⟨l,d,T⟩;cases hf:findL (l 1) 1 with
 | none=>
  refine y (λp=> ?_) w' O;cases g:V.fr p with
  | false=>rfl
  | true=>exact absurd ((Hx d.1).2 λm a c=>by grind) (MN (d.2 1 (by decide)) (by decide) hf p)
 | some p=>
  obtain⟨h1,h2⟩:=Kw (d.2 1 (by decide)) (by decide) hf;have j:=(Hx d.1).1 h1;have:=v p (j p (Int.le_refl _) (by omega));exact C p ⟨this.1,by omega,j,λY J=>h2 Y ((Hx d.1).2 J)⟩ w' O
def Wa(H:Sat (Mp E r V::Z) w){p:Int}(hp:0<=p)(aA:p<34359738368)(Y:V.Li p=true)(hf:V.fr p=true){K:Int->Int->World->Prop}(T: ∀x y w',Sat (Mp E r (V.take p 1)::Z) w'->K x y w'):
  F.Bw E (some ⟨r,0,none⟩) p 1 K w:=by
 obtain⟨l,⟨d,A6⟩,H⟩:=Sat.mP.1 H;have hr:HD V p 1:=⟨by decide,by omega,λm a b=>by grind⟩;have h0:At l p 1 true 32=0:=(TT d A6 hp (by decide) true (e:=32) (by decide)).2.2.1 hr rfl λm a b=>by grind
 refine UB H hp (by omega) (by decide) (by decide) (λh=>absurd h0 h) λ_ w' j=>T _ _ w' (O2 (l:=Sh.OL l p 1) (d.OL (by decide)) (λi Y=> ?_) λl' v C J=>j l' v C J);have O:i=0∨i=1∨i=2:=by omega
 rcases O with rfl|rfl|rfl
 .exact A6 0 (by decide)
 .exact GX (A6 1 (by decide)) (by omega)
 .exact GX (A6 2 (by decide)) (by omega)
def Wb(H:Sat (Mp E r V::Z) w)(J: ∀p,V.rl p=true->V.fr p=true){p:Int}{g:Bool}(hp:0<=p)(aC:p<34359738368)(Y:V.Li p=true)(hf:V.fr p=false){K:Int->World->Prop}
  (hK: ∀w',Sat (Mp E r (if g then V.back p 1 else V.Kx p 1)::Z) w'->K 0 w'):
  F.Bf E (some ⟨r,0,none⟩) p 1 g K w:=by
 obtain⟨l,⟨d,A6⟩,H⟩:=Sat.mP.1 H;have hr:HD V p 1:=⟨by decide,by omega,λm a b=>by grind⟩;have h0:At l p 1 false 31=0:=(TT d A6 hp (by decide) false (e:=31) (by decide)).2.2.2.2 hr rfl λm a b=>by grind
 have T:=d.Mi A6 hp (n:=1) (by decide) (by omega);refine UC H (λq hq=>(d.f q).2 (J q ((d.r q).1 hq))) hp (by omega) (by decide) (by decide) (λh=>absurd h0 h) λ_ w' O=>hK w' ?_;have o1:=(FG (A6 1 (by decide)) (a:=p) (b:=p+1) (by omega) hp (by omega)).1;have o2:=(FG (A6 2 (by decide)) (a:=p) (b:=p+1) (by omega) hp (by omega)).1;cases g
 .refine O2 (l:=Sh.Mi l 3 p 1) T.1 (λi Y=> ?_) λl' j v y=>O l' j v y;have C:i=0∨i=1∨i=2:=by omega
  rcases C with rfl|rfl|rfl
  .exact A6 0 (by decide)
  .exact o1
  .exact A6 2 (by decide)
 .refine O2 (l:=Sh.Mi l 2 p 1) T.2 (λi Y=> ?_) λl' j v y=>O l' j v y;have C:i=0∨i=1∨i=2:=by omega
  rcases C with rfl|rfl|rfl
  .exact A6 0 (by decide)
  .exact o1
  .exact o2
end
def Hm(B:Int)(u g:Int->Bool):List Value:=.int .u64 B::(flags 64 u++flags 64 g)
structure mQ(S:CS)(B:Int)(u g:Int->Bool):Prop where
 b0:0<=B
 b1:B+64<=34359738368
 bs: ¬S.empty->B=S.base
 hs: ∀i:Nat,i<64->u i=S.has i
 rl: ∀i:Nat,i<64->S.rel i=(S.has i&&g i)
 hz: ∀i:Nat,64<=i->S.has i=false
section
variable{E:Env}{w:World}{Z:List Pr}{r t q c b ty:Nat}{V:TV}{S:CS}{B:Int}{u g:Int->Bool}
def zZ{i:Int}(h0:0<=i)(h1:i<64):(Hm B u g)[1+i.toNat]? =some (.bool (u i)):=by
 show(Value.int .u64 B::(flags 64 u++flags 64 g))[1+i.toNat]? =_;rw[Nat.add_comm,List.getElem?_cons_succ,List.getElem?_append_left (by rw[Ca];omega)];have:=MC (n:=64) (u:=u) h0 (by omega)
 grind
def z3{i:Int}(h0:0<=i)(h1:i<64):(Hm B u g)[65+i.toNat]? =some (.bool (g i)):=by
 show(Value.int .u64 B::(flags 64 u++flags 64 g))[65+i.toNat]? =_;rw[show 65+i.toNat=(64+i.toNat)+1 by omega,List.getElem?_cons_succ,List.getElem?_append_right (by rw[Ca];omega),Ca,show 64+i.toNat-64=i.toNat by omega];have:=MC (n:=64) (u:=g) h0 (by omega)
 grind
def z4{i:Int}(h0:0<=i)(h1:i<64)(x:Bool):(Hm B u g).set (1+i.toNat) (.bool x)=Hm B (λj=>if j=i then x else u j) g:=by
 unfold Hm;rw[Nat.add_comm,List.set_cons_succ,List.set_append_left _ _ (by rw[Ca];omega)];have:=Ns (n:=64) (u:=u) h0 x
 grind
def z5{i:Int}(h0:0<=i)(h1:i<64)(x:Bool):(Hm B u g).set (65+i.toNat) (.bool x)=Hm B u (λj=>if j=i then x else g j):=by
 unfold Hm;rw[show 65+i.toNat=(64+i.toNat)+1 by omega,List.set_cons_succ,List.set_append_right _ _ (by rw[Ca];omega),Ca,show 64+i.toNat-64=i.toNat by omega];have:=Ns (n:=64) (u:=g) h0 x
 grind
def qR:(Hm B u g).length=129:=by simp[Hm,Ca]
def Yh(v:Nat->Bool)(a m:Nat)(d:a<=m): ∀N,m<N->cN (λk=>v k&&(decide (a<=k)&&decide (k<m+1))) N=cN (λk=>v k&&(decide (a<=k)&&decide (k<m))) N+(if v m then 1 else 0)
 | 0,h=>by omega
 | N+1,h=>by
  simp only[cN];rcases Nat.lt_or_eq_of_le (Nat.le_of_lt_succ h)with q|q
  .rw[Yh v a m d N q]
   grind
  .subst q;have e:cN (λk=>v k&&(decide (a<=k)&&decide (k<m+1))) m=cN (λk=>v k&&(decide (a<=k)&&decide (k<m))) m:=kZ λi j=>by grind
   grind
def qS(v:Nat->Bool)(N:Nat)(h: ∀i,i<N->v i=false):cN v N=0:=by
 induction N with
 | zero=>rfl
 | succ n ih=>simp only[cN];grind
end
section
variable{E:Env}{w:World}{Z:List Pr}{r t q c b ty:Nat}{V:TV}{S:CS}{B:Int}{u g:Int->Bool}
end
def qW(A D:List Value)(B:Int)(u g:Int->Bool):List Value:=A++(Hm B u g++D)
def dW(q ty:Nat)(A D:List Value)(S:CS):Pr:=Ex λx:Int×(Int->Bool)×(Int->Bool)=>Jj (mQ S x.1 x.2.1 x.2.2) (Cells q ty (qW A D x.1 x.2.1 x.2.2))
section
variable{E:Env}{w:World}{Z:List Pr}{r t q c b ty:Nat}{V:TV}{S:CS}{B:Int}{u g:Int->Bool}{A D:List Value}
def Sat.vV:Sat (dW q ty A D S::Z) w↔ ∃B u g,mQ S B u g/\Sat (Cells q ty (qW A D B u g)::Z) w:=by
 unfold dW;rw[Sat.ex];constructor
 .rintro⟨⟨B,u,g⟩,h⟩;exact⟨B,u,g,Sat.where.1 h⟩
 .rintro⟨B,u,g,h⟩;exact⟨⟨B,u,g⟩,Sat.where.2 h⟩
def a8{i:Nat}(d:i<129):(qW A D B u g)[A.length+i]? =(Hm B u g)[i]? :=by
 unfold qW;rw[List.getElem?_append_right (by omega),show A.length+i-A.length=i by omega,List.getElem?_append_left (by rw[qR];omega)]
def a9{i:Nat}(d:i<129)(x:Value){B':Int}{u' g':Int->Bool}(h:(Hm B u g).set i x=Hm B' u' g'):(qW A D B u g).set (A.length+i) x=qW A D B' u' g':=by
 unfold qW;rw[List.set_append_right _ _ (by omega),show A.length+i-A.length=i by omega,List.set_append_left _ _ (by rw[qR];omega),h]
def mR:(qW A D B u g).length=A.length+129+D.length:=by unfold qW;rw[List.length_append,List.length_append,qR];omega
def bA(H:Sat (Cells q ty (qW A D B u g)::Z) w):w.cell? (Addr.mk q A.length none)=some (.int .u64 B):=H.Af (o:=A.length) (by
 have:=a8 (A:=A) (D:=D) (B:=B) (u:=u) (g:=g) (i:=0) (by decide);rw[Nat.add_zero]at this;rw[this];rfl)
def sB(H:Sat (Cells q ty (qW A D B u g)::Z) w){i:Int}(h0:0<=i)(h1:i<64):w.cell? (((Addr.mk q A.length none).add 1).add (i.toNat*1))=some (.bool (u i)):=by
 rw[add_add,Nat.mul_one];exact H.cell (o:=A.length) (m:=1+i.toNat) (by rw[a8 (by omega)];exact zZ h0 h1)
def vW(H:Sat (Cells q ty (qW A D B u g)::Z) w){i:Int}(h0:0<=i)(h1:i<64):w.cell? (((Addr.mk q A.length none).add 65).add (i.toNat*1))=some (.bool (g i)):=by
 rw[add_add,Nat.mul_one];exact H.cell (o:=A.length) (m:=65+i.toNat) (by rw[a8 (by omega)];exact z3 h0 h1)
def z6(H:Sat (Cells q ty (qW A D B u g)::Z) w){x:Int}{K:World->Prop}(d: ∀w',Sat (Cells q ty (qW A D x u g)::Z) w'->K w'):stCells (Addr.mk q A.length none) 0 [.int .u64 x] w K:=by
 refine CN H (o:=A.length) rfl (by rw[mR];omega) λw' j=>d w' ?_;have:=a9 (A:=A) (D:=D) (B:=B) (u:=u) (g:=g) (i:=0) (by decide) (.int .u64 x) (B':=x) (u':=u) (g':=g) rfl
 grind
def sC(H:Sat (Cells q ty (qW A D B u g)::Z) w){i:Int}(h0:0<=i)(h1:i<64){x:Bool}{K:World->Prop}(v: ∀w',Sat (Cells q ty (qW A D B (λj=>if j=i then x else u j) g)::Z) w'->K w'):
  stCells (((Addr.mk q A.length none).add 1).add (i.toNat*1)) 0 [.bool x] w K:=by
 rw[add_add,Nat.mul_one];refine Ab H (o:=A.length) (m:=1+i.toNat) rfl (by rw[mR];omega) λw' d=>v w' ?_;rw[a9 (by omega) _ (z4 h0 h1 x)]at d;exact d
def z7(H:Sat (Cells q ty (qW A D B u g)::Z) w){i:Int}(h0:0<=i)(h1:i<64){x:Bool}{K:World->Prop}(v: ∀w',Sat (Cells q ty (qW A D B u (λj=>if j=i then x else g j))::Z) w'->K w'):
  stCells (((Addr.mk q A.length none).add 65).add (i.toNat*1)) 0 [.bool x] w K:=by
 rw[add_add,Nat.mul_one];refine Ab H (o:=A.length) (m:=65+i.toNat) rfl (by rw[mR];omega) λw' d=>v w' ?_;rw[a9 (by omega) _ (z5 h0 h1 x)]at d;exact d
def QD(H:Sat (dW q ty A D S::Z) w){K:Bool->World->Prop}(j:S.empty->K true w)(d: ¬S.empty->K false w):F.ED E (some ⟨q,A.length,none⟩) K w:=by
 obtain⟨B,u,g,hI,H⟩:=Sat.vV.1 H;unfold F.ED;simp only[AG];refine AI (λst w'=> ∃i:Nat,st.1=i/\i<=64/\(∀k:Nat,k<i->S.has k=false)/\w'=w) (λst _=>(64-st.1).toNat) ⟨0,rfl,by decide,λk hk=>by omega,rfl⟩ ?_;rintro⟨Y,v⟩ _ w2 ⟨i,y,C,T,rfl⟩;dsimp only at y⊢;subst y;refine AB (λO=>⟨⟨by omega,by omega⟩,_,sB H (by omega) (by omega),AS (λe=>d λh=> ?_) λe=> ?_⟩) λJ=>j λk=> ?_
 .rw[hI.hs i (by omega)]at e;rw[h i]at e;cases e
 .rw[AF (n:=(i:Int)+1)];refine⟨⟨i+1,by omega,by omega,λk hk=> ?_,by trivial⟩,by omega⟩;rcases Nat.lt_or_eq_of_le (Nat.le_of_lt_succ hk)with g|g
  .grind
  .subst g;rw[<-hI.hs k (by omega)];exact e
 .rcases Nat.lt_or_ge k 64 with g|g
  .grind
  .exact hI.hz k g
def Wc(H:Sat (dW q ty A D S::Z) w){n:Int}(a8: -9223372036854775808<=n)(a9:n<9223372036854775808){K:Int->Int->Int->World->Prop}
  (aA:n<1∨64<n->K 0 0 1 w)(aJ:1<=n->n<=64->(∀i,¬JZ S.has i n.toNat)->K 0 0 30 w)
  (aK:1<=n->n<=64-> ∀i,JZ S.has i n.toNat->(∀j,JZ S.has j n.toNat->i<=j)->i+n.toNat<=64-> ∀w',Sat (dW q ty A D (S.alloc i n.toNat)::Z) w'->
   K (S.base+i) (cN (λk=>S.rel k&&(decide (i<=k)&&decide (k<i+n.toNat))) 64) 0 w'):F.FI E (some ⟨q,A.length,none⟩) n K w:=by
 obtain⟨B,u,g,hI,H⟩:=Sat.vV.1 H;unfold F.FI;refine AU (AB (λh j=>AR rfl (aA (.inl h))) λg1 j=>AB (λh=>aA (.inr h)) λg2=> ?_);simp only[AG];generalize hN:n.toNat=N at *
 have bB:n=(N:Int):=by omega
 refine AI (λst w'=> ∃i run:Nat,st.2.1=i/\st.1=run/\i<=64/\run<=i/\run<N/\(∀k,i-run<=k->k<i->S.has k=true)/\(∀j,JZ S.has j N->i<j+N)/\(run=i∨S.has (i-run-1)=false)/\w'=w) (λst _=>(64-st.2.1).toNat)
  ⟨0,0,rfl,rfl,by decide,by decide,by omega,λk _ h=>by omega,λj _=>by omega,.inl rfl,rfl⟩ ?_
 rintro⟨r',i',v⟩ _ w5 ⟨i,run,hi,hr,aR,bD,bC,aV,O,aN,rfl⟩;dsimp only at hi hr⊢;subst hi;subst hr;refine AB (λa7=> ?_) λa3=> ?_
 .rw[AF (n:=(run:Int)+1),AF (n:=(i:Int)+1)];have a5:=hI.hs i (by omega);refine AU ⟨⟨by omega,by omega⟩,_,sB H (by omega) (by omega),AS (λe j=> ?_) λe j=> ?_⟩
  .have e:S.has i=false:=by grind
   refine AR (by simp;omega) ⟨⟨i+1,0,by omega,rfl,by omega,by omega,by omega,λk h1 h2=>by omega,λj d=> ?_,.inr (by grind),by trivial⟩,by omega⟩;have:=O j d;rcases Nat.lt_or_ge (i+1) (j+N)with q|q
   .exact q
   .have:=d (i-j) (by omega)
    grind
  .have e:S.has i=true:=by grind
   have y: ∀k,i-run<=k->k<i+1->S.has k=true:=λk h1 h2=>by grind
   refine AB (λaS=>⟨⟨i+1,run+1,by omega,by omega,by omega,by omega,by omega,λk h1 h2=>y k (by omega) h2,λj d=> ?_,?_,by trivial⟩,by omega⟩) λaP=>AY λaO C=> ?_
   .have:=O j d;rcases Nat.lt_or_ge (i+1) (j+N)with q|q
    .exact q
    .rcases aN with h|h
     .omega
     .have:=d (i-run-1-j) (by omega)
      grind
   .grind
   .have aU:run+1=N:=by omega
    have C:aO=((i+1-N:Nat):Int):=by
     rw[AF (n:=(i:Int)-n),AF]at C;omega
    generalize ha:i+1-N=a at C;have aD:JZ S.has a N:=λk hk=>y _ (by omega) (by omega);subst C;have aC: ¬S.empty:=λh=>by rw[h i]at e;cases e
    refine AI (λst w'=> ∃k:Nat,st.2.1=k/\a<=k/\k<=i+1/\st.1=cN (λj=>S.rel j&&(decide (a<=j)&&decide (j<k))) 64/\Sat (Cells q ty (qW A D B (λj=>if(a:Int)<=j/\j<k then false else u j) g)::Z) w') (λst _=>((i:Int)+1-st.2.1).toNat)
     ⟨a,rfl,Nat.le_refl _,by omega,?_,?_⟩ ?_
    .show(0:Int)=_;rw[qS _ _ λj d=> ?_];rfl
     grind
    .have:(λj:Int=>if(a:Int)<=j/\j<(a:Int)then false else u j)=u:=by funext j;rw[if_neg (by omega)]
     grind
    rintro⟨cn,k',v⟩ _ aE ⟨k,hk,aH,a6,aI,J⟩;dsimp only at hk aI⊢;subst hk;refine AB (λhle=> ?_) λa4=> ?_
    .have aL:=y k (by omega) (by omega);have aM:=hI.rl k (by omega);rw[aL,Bool.true_and]at aM;have a2:=Yh S.rel a k aH 64 (by omega);have a1:=PS (λj=>S.rel j&&(decide (a<=j)&&decide (j<k))) 64;rw[AF (n:=cn+1),AF (n:=(k:Int)+1)];have fin: ∀T:Int,T=cN (λj=>S.rel j&&(decide (a<=j)&&decide (j<k+1))) 64->
       ((0:Int)<=(k:Int)/\(k:Int)<(64:Nat))/\stCells (((Addr.mk q A.length none).add 1).add (Int.toNat (k:Int)*1)) 0 [.bool false] aE λaF=>
        (∃m:Nat,(k:Int)+1=m/\a<=m/\m<=i+1/\T=cN (λj=>S.rel j&&(decide (a<=j)&&decide (j<m))) 64/\Sat (Cells q ty (qW A D B (λj=>if(a:Int)<=j/\j<m then false else u j) g)::Z) aF)/\((i:Int)+1-((k:Int)+1)).toNat<((i:Int)+1-(k:Int)).toNat:=λT Y=>by
      refine⟨⟨by omega,by omega⟩,sC J (by omega) (by omega) λaF aW=>⟨⟨k+1,by omega,by omega,by omega,Y,?_⟩,by omega⟩⟩;have:(λj:Int=>if(a:Int)<=j/\j<((k+1:Nat):Int)then false else u j)=λj=>if j=(k:Int)then false else if(a:Int)<=j/\j<(k:Int)then false else u j:=by grind
      grind
     refine AU ⟨⟨by omega,by omega⟩,_,vW J (by omega) (by omega),AS (λe1 j=>fin _ ?_) λe1 j=>fin _ ?_⟩
     .grind
     grind
    .have aB:k=i+1:=by omega
     have Cr:=bA J;refine⟨B,Cr,AY λt25 ht=> ?_⟩;have aZ:=hI.b0;have a0:=hI.b1;rw[AF (n:=(i:Int)-n),AF (n:=(i:Int)-n+1),AM (n:=(i:Int)-n+1),AM]at ht;have aG:a+N=i+1:=by omega
     have:=aK (by omega) (by omega) a aD (λj d=>by have:=O j d;omega) (by omega) aE (Sat.vV.2 ⟨B,_,g,⟨hI.b0,hI.b1,λ_=>hI.bs aC,λj d=> ?_,λj d=> ?_,λj d=> ?_⟩,J⟩)
     .rw[<-hI.bs aC,aG,<-aB]at this
      grind
     .show(if(a:Int)<=(j:Int)/\(j:Int)<(k:Int)then false else u j)=(S.has j&& !(decide (a<=j)&&decide (j<a+N)));rw[hI.hs j d]
      grind
     .show(S.rel j&& !(decide (a<=j)&&decide (j<a+N)))=((S.has j&& !(decide (a<=j)&&decide (j<a+N)))&&g j);rw[hI.rl j d]
      grind
     .show(S.has j&& !(decide (a<=j)&&decide (j<a+N)))=false;rw[hI.hz j d];rfl
 .refine aJ (by omega) (by omega) λj d=> ?_;have h1:=O j d;have h2:=d (N-1) (by omega);rw[hI.hz _ (by omega)]at h2;cases h2
def Yi(H:Sat (dW q ty A D S::Mp E r V::Z) w)(aA: ∀p,V.fr p=true->V.Li p=true)(a1: ∀p,V.rl p=true->V.fr p=true)(aB: ∀p,V.Li p=true->0<=p/\p<34359738368){K:Int->World->Prop}
  (aK: ¬S.empty-> ∀w',Sat (dW q ty A D S::Mp E r V::Z) w'->K 33 w')(aL:S.empty->(∀p,V.fr p=false)-> ∀w',Sat (dW q ty A D S::Mp E r V::Z) w'->K 30 w')
  (aM:S.empty-> ∀p,IH V 1 p-> ∀w',Sat (dW q ty A D ⟨p/64*64,λi=>decide (i<64)&&V.fr (p/64*64+i),λi=>decide (i<64)&&V.rl (p/64*64+i)⟩::Mp E r (V.take (p/64*64) 64)::Z) w'->K 0 w'):
  F.CT E (some ⟨q,A.length,none⟩) (some ⟨r,0,none⟩) K w:=by
 unfold F.CT T0.CT;have sw: ∀{P1 P2:Pr} {w'},Sat (P1::P2::Z) w'->Sat (P2::P1::Z) w':=λh=>h.perm (.swap _ _ _);refine QD H (λhe=>AP rfl ?_) λhe=>AR rfl (aK he w H);refine WZ (sw H) (λp hp=>aB p (aA p hp)) (λaN w' H'=>AR rfl (aL he aN w' (sw H'))) λp hp w5 H5=>AP rfl ⟨by decide,?_⟩;have aO:=hp.1;have a0:=hp.2.1;obtain⟨B0,u,g,hI,H6⟩:=Sat.vV.1 (sw H5);rw[Int.tmod_eq_emod_of_nonneg aO,AM (n:=p-p %64),show p-p %64=p/64*64 by omega];simp only[AG];have C:=aM he p hp;generalize hB:p/64*64=B at C⊢;have Y:0<=B/\B+64<=34359738368/\B %64=0:=by omega
 refine z6 H6 λw7 H7=> ?_;have H7:Sat (Cells q ty (qW A D B u g)::Mp E r V::Z) w7:=H7;have y:V.take B ((0:Nat):Int)=V:=by
  have e: ∀q,inr B ((0:Nat):Int) q=false:=λq=>IU.2 (by omega);unfold TV.take;simp only[e];simp
 have J: ∀i:Nat,(V.take B i).take (B+i) 1=V.take B ((i+1:Nat):Int):=λi=>by
  have e: ∀x,(!inr B ((i+1:Nat):Int) x)=(!inr B i x&& !inr (B+i) 1 x):=λx=>by
   rw[<-Bool.not_or];congr 1;apply Bool.eq_iff_iff.2;rw[Bool.or_eq_true,As,As,As];omega
  unfold TV.take
  grind
 refine AI (λst w'=> ∃i:Nat,st.1=(i:Int)/\i<=64/\Sat (Cells q ty (qW A D B (λj=>if j<(i:Int)then V.fr (B+j)else u j) (λj=>if j<(i:Int)then V.rl (B+j)else g j))::Mp E r (V.take B i)::Z) w') (λst _=>(64-st.1).toNat)
  ⟨0,rfl,by decide,?_⟩ ?_
 .rw[y]
  skip
  have e:qW A D B (λj=>if j<((0:Nat):Int)then V.fr (B+j)else u j) (λj=>if j<((0:Nat):Int)then V.rl (B+j)else g j)=qW A D B u g:=by
   have f1:flags 64 (λj=>if j<((0:Nat):Int)then V.fr (B+j)else u j)=flags 64 u:=I4 λk h0 h1=>if_neg (by omega);have f2:flags 64 (λj=>if j<((0:Nat):Int)then V.rl (B+j)else g j)=flags 64 g:=I4 λk h0 h1=>if_neg (by omega);unfold qW Hm;rw[f1,f2]
  grind
 rintro⟨i',v⟩ _ w9 ⟨i,hi,aU,H9⟩;dsimp only at hi⊢;subst hi;refine AB (λaC=> ?_) λaY=> ?_
 .refine⟨B,bA H9,?_⟩;rw[AM (n:=(i:Int)),AM (n:=B+(i:Int)),AF (n:=(i:Int)+1)];refine WY (sw H9) (by omega) (by omega) λa2 aD=>⟨⟨by omega,by omega⟩,sC (sw aD) (by omega) aC λa3 aE=>⟨⟨by omega,by omega⟩,z7 aE (by omega) aC λa4 d=> ?_⟩⟩;have aS:inr B (i:Int) (B+i)=false:=IU.2 (by omega);have T:(V.take B i).fr (B+i)=V.fr (B+i):=by show(V.fr (B+i)&& !inr B i (B+i))=_;grind
  have aI:(V.take B i).rl (B+i)=V.rl (B+i):=by show(V.rl (B+i)&& !inr B i (B+i))=_;grind
  rw[T,aI]at d;have aG:(λj:Int=>if j=(i:Int)then V.fr (B+i)else if j<(i:Int)then V.fr (B+j)else u j)=λj=>if j<((i+1:Nat):Int)then V.fr (B+j)else u j:=by grind
  have aH:(λj:Int=>if j=(i:Int)then V.rl (B+i)else if j<(i:Int)then V.rl (B+j)else g j)=λj=>if j<((i+1:Nat):Int)then V.rl (B+j)else g j:=by grind
  rw[aG,aH]at d;rw[T];refine AS (λe=> ?_) λe=> ?_
  .refine⟨B,bA d,?_⟩;rw[AM (n:=B+(i:Int))];refine Wa (sw d) (by omega) (by omega) (aA _ e) (by grind) ?_;intro _ _ a5 O;refine⟨⟨i+1,by omega,by omega,?_⟩,by omega⟩;rw[J]at O;exact sw O
  .refine⟨⟨i+1,by omega,by omega,?_⟩,by omega⟩;have aZ:V.rl (B+i)=false:=by grind
   have:V.take B ((i+1:Nat):Int)=V.take B i:=by
    have e1: ∀x,(V.fr x&& !inr B ((i+1:Nat):Int) x)=(V.fr x&& !inr B i x):=λx=>by
     by_cases hx:x=B+i
     .grind
     .have:inr B ((i+1:Nat):Int) x=inr B i x:=Bool.eq_iff_iff.2 (by rw[As,As];omega);rw[this]
    have e2: ∀x,(V.rl x&& !inr B ((i+1:Nat):Int) x)=(V.rl x&& !inr B i x):=λx=>by grind
    unfold TV.take
    grind
   grind
 .have aJ:i=64:=by omega
  subst aJ;refine C w9 (Sat.vV.2 ⟨B,_,_,⟨Y.1,Y.2.1,λ_=>rfl,λk hk=> ?_,λk hk=> ?_,λk hk=> ?_⟩,H9⟩)
  .grind
  .grind
  grind
end
def Sat.qT{F:List Pr}{w:World}{t:Nat}{s:AX}{vs us:List Value}(H:Sat (Row t 1 s (vs++us)::F) w):Sat (Row t 1 ⟨s.base,vs.length,s.cap⟩ vs::F) w:=by
 obtain⟨D,h,hs⟩:=H.step;have d:=h.2;have C:vs.length+us.length=s.len:=by have:=d.len;grind
 refine hs w D _ (Ext.refl _ _) ⟨h.1,⟨by simp,by have:=d.cap;grind,d.top,?_⟩⟩ λ_ hk=>.inl hk;rcases d.row with h1|⟨b,cs,h1,h2,v,y,j⟩
 .grind
 .refine .inr ⟨b,cs,h1,h2,v,y,?_⟩;simp only[Nat.mul_one]at j⊢;rw[show vs.length=min vs.length s.len by omega,<-List.take_take,j,List.take_left'];rfl
def Mu(X:FX):List Bool:=(List.range X.n).map λi=>decide (i∉X.bk)
def KX(X:FX):List Int:=X.bk.reverse.map λa:Nat=>(a:Int)+1
def Ib(X:FX):(Mu X).length=X.n:=by simp[Mu]
def K8{X:FX}{i:Nat}(h:i<X.n):(Mu X)[i]? =some (decide (i∉X.bk)):=by simp[Mu,h]
def Qu(X:FX):(KX X).length=X.bk.length:=by simp[KX]
def sD(E:Env)(b:Nat)(X:FX)(s1 s2:AX):List Pr:=[Cells b E.JO [.int .i64 64,.int .i64 (X.n:Int),FJ s1,FJ s2],Row E.Ad 1 s1 (BB (Mu X)),Row E.CO 1 s2 (ints .i64 (KX X))]
def KN(E:Env)(b:Nat)(X:FX):Pr:=Ex λx:AX×AX=>Jj (Xs X) (Lo (sD E b X x.1 x.2))
section
variable{E:Env}{b:Nat}{X:FX}{Z:List Pr}{w:World}
def Sat.gW:Sat (KN E b X::Z) w↔ ∃s1 s2,Xs X/\Sat (sD E b X s1 s2++Z) w:=by
 unfold KN;rw[Sat.ex];constructor
 .rintro⟨⟨s1,s2⟩,h⟩;rw[Sat.where,Sat.star]at h
  grind
 .rintro⟨s1,s2,h1,h2⟩;refine⟨⟨s1,s2⟩,?_⟩;rw[Sat.where,Sat.star]
  grind
def bB(H:Sat Z w){K:Option Addr->Int->World->Prop}(v: ∀b w',Sat (KN E b ⟨0,[]⟩::Z) w'->K (some ⟨b,0,none⟩) 0 w'):F.Ih E 64 K w:=by
 unfold F.Ih;refine AU (AP (by decide) λj=>AP (by decide) ?_);refine AO (vs:=[.int .i64 64,.int .i64 0,.slice none 0 0,.slice none 0 0]) H λb w' d _=>v b w' (Sat.gW.2 ⟨⟨none,0,0⟩,⟨none,0,0⟩,⟨.nil,λi h=>(by cases h),by decide⟩,?_⟩);exact((d.nil E.Ad 1).nil E.CO 1).perm ((List.reverse_perm [_,_,_]).symm.append_right Z)|>.perm (.cons _ (.refl _))
def gX{X:FX}{a:Nat}{r:List Nat}(hI:Xs X)(d:X.bk=a::r):(Mu X).set a true=Mu ⟨X.n,r⟩:=by
 have j:=hI.nd;rw[d,List.nodup_cons]at j;apply List.ext_getElem?;intro i;have v:a<X.n:=hI.lt a (by rw[d];simp);rw[List.getElem?_set];by_cases e:a=i
 .subst e;rw[if_pos rfl,if_pos (by rw[Ib];exact v)];have:=K8 (X:=⟨X.n,r⟩) (i:=a) v
  grind
 .rw[if_neg e];by_cases g:i<X.n
  .rw[K8 g,K8 (X:=⟨X.n,r⟩) g,d]
   grind
  .rw[List.getElem?_eq_none (by rw[Ib];omega),List.getElem?_eq_none (by rw[Ib];show X.n<=i;omega)]
def gY{X:FX}{a:Nat}(d:a<X.n):(Mu X).set a false=Mu ⟨X.n,a::X.bk⟩:=by
 apply List.ext_getElem?;intro i;rw[List.getElem?_set];by_cases e:a=i
 .subst e;rw[if_pos rfl,if_pos (by rw[Ib];exact d)];have:=K8 (X:=⟨X.n,a::X.bk⟩) (i:=a) d
  grind
 .rw[if_neg e];by_cases g:i<X.n
  .rw[K8 g,K8 (X:=⟨X.n,a::X.bk⟩) g]
   grind
  .rw[List.getElem?_eq_none (by rw[Ib];omega),List.getElem?_eq_none (by rw[Ib];show X.n<=i;omega)]
def mS{X:FX}(d:X.bk=[]):Mu X++[true]=Mu ⟨X.n+1,[]⟩:=by
 unfold Mu;rw[d,List.range_succ];simp
def Yj(H:Sat (KN E b X::Z) w)(aM:X.n<1099511627776){K:Int->World->Prop}
  (aG:X.bk=[]-> ∀w',Sat (KN E b ⟨X.n+1,[]⟩::Z) w'->K ((X.n:Int)+1) w')
  (aH: ∀a r,X.bk=a::r-> ∀w',Sat (KN E b ⟨X.n,r⟩::Z) w'->K ((a:Int)+1) w'):F.GI E (some ⟨b,0,none⟩) K w:=by
 obtain⟨s1,s2,hI,H⟩:=Sat.gW.1 H;have aI:=(H.front 1 rfl).C1;have d:=(H.front 2 rfl).C1;rw[BB,List.length_map,Ib,Nat.mul_one]at aI;rw[ints,List.length_map,Qu,Nat.mul_one]at d;unfold F.GI;simp only[AG];refine⟨s2,H.cell rfl,?_⟩;cases hb:X.bk with
 | nil=>
  rw[hb]at d;simp at d;refine AP (decide_eq_false (by omega)) ⟨(X.n:Int),H.cell rfl,?_⟩;rw[AF (n:=(X.n:Int)+1)];refine Ab H (o:=0) (m:=1) rfl (by simp) λaU T=>⟨s1,T.cell rfl,?_⟩;refine AO (vs:=[.bool true]) T λaO aV aB _=> ?_;refine Er (news:=[.bool true]) (aB.EM 1 rfl) rfl rfl (by simp[Value.oneCell']) (by omega) (by omega) λUx aW aC _=> ?_;refine Ab (aC.front 1 rfl) (o:=0) (m:=2) rfl (by simp) λaK v=>⟨_,v.cell rfl,aG hb aK (Sat.gW.2 ⟨Ux,s2,⟨.nil,λi h=>(by cases h),by grind⟩,?_⟩)⟩;have e1:BB (Mu X)++[.bool true]=BB (Mu ⟨X.n+1,[]⟩):=by rw[<-mS hb];simp[BB]
  have e2:KX X=KX ⟨X.n+1,[]⟩:=by unfold KX;rw[hb]
  rw[e1,e2]at v;exact v
 | cons a r=>
  have aF:KX X=KX ⟨X.n,r⟩++[(a:Int)+1]:=by unfold KX;grind
  have hlen:(KX ⟨X.n,r⟩).length=r.length:=Qu _;rw[hb,List.length_cons]at d;have ha:a<X.n:=hI.lt a (by rw[hb];simp);obtain⟨x2,aA⟩:=(H.front 2 rfl).own.Ep (by omega);obtain⟨x1,Y⟩:=(H.front 1 rfl).own.Ep (by omega);have aL:=(H.front 2 rfl).own.cap;have aN:=(H.front 2 rfl).own.top;refine AR (decide_eq_true (by omega)) ⟨s2,H.cell rfl,?_⟩;rw[AF (n:=((s2.len:Nat):Int)-1),show Int.toNat (((s2.len:Nat):Int)-1)=r.length by omega,aA];simp only[AG];have c6:w.cell? ((Addr.mk x2 0 none).add (r.length*1))=some (.int .i64 ((a:Int)+1)):=by
   refine(H.front 2 rfl).own.cell aA ?_;rw[Nat.mul_one];refine JL ?_
   grind
  refine⟨⟨by omega,by omega⟩,_,c6,s2,H.cell rfl,⟨by omega,by omega⟩,?_⟩;rw[Ll,AF (n:=(a:Int)+1-1),show Int.toNat ((a:Int)+1-1)=a by omega];refine Ab H (o:=0) (m:=3) rfl (by simp) λaT y=>⟨s1,y.cell rfl,?_⟩;rw[Y];simp only[AG,Nat.mul_one];refine⟨⟨by omega,by omega⟩,?_⟩;refine Gp (y.front 1 rfl) (j:=a) rfl (by rw[BB,List.length_map,Ib];exact ha) Y λaJ C=>aH a r hb aJ (Sat.gW.2 ⟨s1,⟨s2.base,r.length,s2.cap⟩,⟨?_,λi hi=>hI.lt i (by rw[hb];exact .tail _ hi),hI.KV⟩,?_⟩)
  .have:=hI.nd
   grind
  .have e1:(BB (Mu X)).set a (.bool true)=BB (Mu ⟨X.n,r⟩):=by rw[<-gX hI hb];unfold BB;rw[List.map_set]
   rw[e1]at C;have J:=C.front 2 rfl;have e2:ints .i64 (KX X)=ints .i64 (KX ⟨X.n,r⟩)++[.int .i64 ((a:Int)+1)]:=by rw[aF];simp[ints]
   rw[e2]at J;have O:=J.qT;have e3:(ints .i64 (KX ⟨X.n,r⟩)).length=r.length:=by rw[ints,List.length_map,hlen]
   rw[e3]at O;exact O.front 2 rfl|>.perm (.cons _ (.swap _ _ _))
def Yk(H:Sat (KN E b X::Z) w){a:Nat}(J:a<X.n)(C:a∉X.bk)(aD:X.bk.length<1099511627776){K:Int->World->Prop}(hK: ∀w',Sat (KN E b ⟨X.n,a::X.bk⟩::Z) w'->K 0 w'):F.Cv E (some ⟨b,0,none⟩) ((a:Int)+1) K w:=by
 obtain⟨s1,s2,hI,H⟩:=Sat.gW.1 H;have Y:=(H.front 1 rfl).C1;have aA:=(H.front 2 rfl).C1;have hf:=hI.KV;rw[BB,List.length_map,Ib,Nat.mul_one]at Y;rw[ints,List.length_map,Qu,Nat.mul_one]at aA;obtain⟨x1,d⟩:=(H.front 1 rfl).own.Ep (by omega);have v:w.cell? ((Addr.mk x1 0 none).add (a*1))=some (.bool true):=by
  refine(H.front 1 rfl).own.cell d ?_;rw[Nat.mul_one];refine Kl ?_;rw[K8 J,decide_eq_true C]
 unfold F.Cv T0.Cv F.Hb;simp only[AG];refine AR (decide_eq_true (by omega)) ⟨(X.n:Int),H.cell rfl,AR (decide_eq_true (by omega)) ⟨s1,H.cell rfl,?_⟩⟩;rw[AF (n:=(a:Int)+1-1),show Int.toNat ((a:Int)+1-1)=a by omega,d];simp only[AG];refine⟨⟨by omega,by omega⟩,true,v,AP rfl ⟨s1,H.cell rfl,?_⟩⟩;rw[d];simp only[AG,Nat.mul_one];refine⟨⟨by omega,by omega⟩,Gp (H.front 1 rfl) (j:=a) rfl (by rw[BB,List.length_map,Ib];exact J) d λw6 H6=>⟨s2,(H6.front 1 rfl).cell rfl,?_⟩⟩;refine AO (vs:=[.int .i64 ((a:Int)+1)]) H6 λb9 aI O _=> ?_;refine Er (news:=[.int .i64 ((a:Int)+1)]) (O.EM 2 rfl) rfl rfl (by simp[Value.oneCell']) (by omega) (by omega) λZg aJ T _=> ?_;refine Ab (T.front 2 rfl) (o:=0) (m:=3) rfl (by simp) λaB y=>hK aB (Sat.gW.2 ⟨s1,Zg,⟨List.nodup_cons.2 ⟨C,hI.nd⟩,λi hi=>by
  rcases List.mem_cons.1 hi with e|e
  .rw[e];exact J
  .exact hI.lt i e,hI.KV⟩,?_⟩)
 have e1:(BB (Mu X)).set a (.bool false)=BB (Mu ⟨X.n,a::X.bk⟩):=by rw[<-gY J];unfold BB;rw[List.map_set]
 have e2:ints .i64 (KX X)++[.int .i64 ((a:Int)+1)]=ints .i64 (KX ⟨X.n,a::X.bk⟩):=by simp[ints,KX]
 rw[e1,e2]at y;exact y.perm (.cons _ (.swap _ _ _))
end
def powL:Nat->Int->Bool
 | 0,n=>n==1
 | k+1,n=>if n>1 then(if Int.tmod n 2=0 then powL k (u64 (Int.tdiv n 2))else n==1)else n==1
def Po.mT(s:Po):Bool:=decide (1<s.l.length)&&(s.last.2.1==i64 (Int.tdiv (bytesF s.size 16 8192) 8192)&&(i64 (Int.tdiv (bytesF s.size 16 8192) s.last.1)==i64 (Int.tdiv (bytesF s.size 16 8192) s.size)))
def Po.z8(s:Po):Bool:=(s.mT==s.same)&&(powL 64 (u64 s.size)==V9 (u64 s.size))
def allOk5:Nat->Po->Bool
 | 0,_=>true
 | n+1,s=>match s.z8 with
  | true=>allOk5 n s.next
  | false=>false
def qU:allOk5 rounds (OM 0)=true:=by decide+kernel
def RS: ∀(n k:Nat),allOk5 n (OM k)=true-> ∀j,j<n->(OM (k+j)).z8=true
 | 0,k,h,j,hj=>by omega
 | n+1,k,h,j,hj=>by
  unfold allOk5 at h;split at h
  .rename_i hg;cases j with
   | zero=>exact hg
   | succ j=>have:=RS n (k+1) h j (by omega);grind
  .cases h
def z8{k:Nat}(h:k<rounds):(OM k).mT=(OM k).same/\powL 64 (u64 (OM k).size)=V9 (u64 (OM k).size):=by
 have:=RS rounds 0 qU k h;rw[Nat.zero_add]at this;unfold Po.z8 at this
 grind
section
variable{E:Env}{w:World}{Z:List Pr}
def Qv{n:Int}(y:0<=n)(C:n<18446744073709551616){K:Bool->World->Prop}(d:K (powL 64 n) w):F.JS E n K w:=by
 unfold F.JS;refine AI (λst w'=>w'=w/\ ∃i:Nat,i<=64/\0<=st.1/\st.1<(2:Int)^(64-i)/\powL (64-i) st.1=powL 64 n) (λst _=>st.1.toNat) ⟨rfl,0,by decide,y,C,rfl⟩ ?_;rintro⟨m,u⟩ _ J ⟨rfl,i,O,m0,m1,hm⟩;dsimp only at m0 m1 hm⊢;have j:(m>1->Int.tmod m 2≠0)->K (m==1) J:=λh=>by
  rw[<-hm]at d;cases hk:64-i with
  | zero=>rw[hk]at d;exact d
  | succ k=>
   rw[hk]at d;unfold powL at d;by_cases g:m>1
   .rw[if_pos g,if_neg (h g)]at d;exact d
   .rw[if_neg g]at d;exact d
 refine AB (λg=>⟨by decide,Bc (λe=>⟨by decide,?_⟩) λe=>j λ_=>e⟩) λg=>j λh=>absurd h g;cases hk:64-i with
 | zero=>grind
 | succ k=>
  rw[hk]at m1 hm;unfold powL at hm;rw[if_pos g,if_pos e]at hm;have hp:(2:Int)^(k+1)=2^k*2:=Int.pow_succ 2 k;have v:(2:Int)^(k+1)<=2^64:=by
   have:(2:Nat)^(k+1)<=2^64:=Nat.pow_le_pow_right (by decide) (by omega)
   grind
  have hd:Int.tdiv m 2=m/2:=Int.tdiv_eq_ediv_of_nonneg m0;have he:(2:Int)^64=18446744073709551616:=by decide
  have hu:u64 (Int.tdiv m 2)=m/2:=by rw[hd,AM]
  rw[hu]at hm⊢;exact⟨⟨rfl,i+1,by omega,by omega,by grind,by show powL (64-(i+1)) (m/2)=_;rw[show 64-(i+1)=k by omega];exact hm⟩,by omega⟩
def Yl{n:Int}(v:n<2∨n≠0){K:Int->World->Prop}(d:K (if n<2 then 0 else IntKind.wrap .u32 (IntKind.wrap .u32 (Int.tdiv 4294967295 n)+1)) w):F.Hu E n K w:=by
 unfold F.Hu;refine AB (λh=> ?_) λh=>⟨by omega,AY λx j=> ?_⟩
 .rw[if_pos h]at d;exact d
 .rw[if_neg h]at d;rw[j];exact d
def RT(H:Sat Z w){K:AX->Int->World->Prop}(hK: ∀s w',Sat (Row E.Ar 4 s (Ao HW KH)::Z) w'->K s 0 w'):F.Dw E 8192 32768 K w:=by
 unfold F.Dw T0.Dw;have p1:powL 64 (u64 8192)=true:=by decide+kernel
 have p2:powL 64 (u64 32768)=true:=by decide+kernel
 refine AU (AP (by decide) (AP (by decide) (Qv (by decide+kernel) (by decide+kernel) ?_)));rw[p1];refine AP rfl (AP (by decide) (AP (by decide+kernel) (Qv (by decide+kernel) (by decide+kernel) ?_)));rw[p2];refine λj=>AP rfl ?_;obtain⟨aA,aJ⟩:=runs;refine Gs (n:=1) (z:=4) H rfl (by decide) λb8 w9 H9=> ?_;refine AI (λst w'=> ∃k:Nat,k<=rounds/\st.2.1=(OM k).L5/\st.2.2.1=(OM k).size/\Sat (Row E.Ar 4 st.1 (Ao HW (OM k).l)::Z) w') (λst _=>(40000-st.2.2.1).toNat)
  ⟨0,Nat.zero_le _,rfl,rfl,H9⟩ ?_
 rintro⟨D6,L5,size,v⟩ _ bE ⟨k,hk,aL,aI,O⟩;dsimp only at aL aI O⊢;have hl:=O.F9 (by decide) Al;refine AB (λhle=> ?_) λaE=> ?_
 .have aF:k<rounds:=by
   rcases Nat.lt_or_eq_of_le hk with g|g
   .exact g
   .subst g;rw[aJ]at aI;have:=dF;omega
  have hg:=Pp (aA k aF);obtain⟨o1,o2⟩:=z8 aF;rw[aL,aI];generalize hS:OM k=S at hg aI aL O hl o1 o2⊢;have aG:OM (k+1)=S.next:=by rw[<-hS];rfl
  have bT:=hg.s0;have bU:=hg.s1;have aW:=hg.l0;have bH:=hg.l1;have bL:=hg.st0;have bM:=hg.st1;refine AV (λst w'=>st.1=I7 S.size S.L5/\w'=bE) ?_ ?_
  .refine Qv (by rw[AM];omega) (by rw[AM];omega) ?_;rw[o2];unfold I7;cases hp:V9 (u64 S.size)
   .refine AP rfl ⟨?_,rfl⟩
    grind
   .rw[if_neg (by decide)];refine AR rfl (AB (λh=>⟨?_,rfl⟩) λh=>AB (λh2=>⟨by decide,AY λx hx=>⟨?_,rfl⟩⟩) λh2=>AB (λh3=>⟨?_,rfl⟩) λh3=>⟨?_,rfl⟩)
    .omega
    .omega
    .omega
    omega
  rintro⟨step,v⟩ _ bF ⟨aB,rfl⟩;dsimp only at aB⊢;subst aB;refine AI (λst w'=>w'=bF/\ ∃i:Nat,i<=16/\st.1=8192+i*8192/\bytesF S.size (16-i) st.1=bytesF S.size 16 8192) (λst _=>(200000-st.1).toNat) ⟨rfl,0,by decide,by omega,rfl⟩ ?_;rintro⟨n,v⟩ _ b5 ⟨rfl,i,hi,hn,C⟩;dsimp only at hn C⊢;refine⟨by omega,by decide,AB (λaE=> ?_) λhle=> ?_⟩
  .rcases Nat.lt_or_ge i 16 with h8|h8
   .obtain⟨k,hk⟩: ∃k,16-i=k+1:=⟨15-i,by omega⟩;rw[hk]at C;rw[AF (n:=n+8192)];refine⟨⟨rfl,i+1,by omega,by omega,?_⟩,by omega⟩;rw[<-C,show 16-(i+1)=k by omega];unfold bytesF;rw[if_pos aE,AF (n:=n+8192)];cases k<;>rfl
   .have:i=16:=by omega
    subst this;have:bytesF S.size 0 n=n:=rfl;rw[show 16-16=0 from rfl,this]at C;have A6:=hg.L5
    grind
  have aY:n=bytesF S.size 16 8192:=by
   rw[<-C];cases h:16-i with
   | zero=>rfl
   | succ k=>unfold bytesF;rw[if_neg (by omega)]
  rw[aY];clear aY C hn hi hle;have J:=Xx aW;obtain⟨b,C⟩:=O.FZ (by decide) Al (i:=S.l.length-1) (by omega);rw[AF (n:=((D6.len:Nat):Int)-1),C];simp only[AG];refine AY λlast a1=> ?_;have et:Int.toNat last=S.l.length-1:=by omega
  rw[et];have Hd:=O.drew;have c0:=Hd.Bu Al C J (j:=0) rfl;have c1:=Hd.Bu Al C J (j:=1) rfl;have aM:S.l.getLastD (0,0,0,0)=S.last:=rfl;rw[aM]at c0 c1 J;rw[Nat.add_zero]at c0;rw[AF (n:=S.size+I7 S.size S.L5)];have bK:S.next.size=S.size+I7 S.size S.L5:=AF;have d:(0:Int)<=last/\last<(D6.len:Nat):=⟨by omega,by omega⟩;refine AV (λst w'=>st.1=S.same/\Sat (Row E.Ar 4 D6 (Ao HW S.l)::Z) w') ?_ ?_
  .rw[<-o1];unfold Po.mT;refine AB (λh1=>⟨d,S.last.2.1,by rw[add_add];exact c1,by decide,Bc (λe1=> ?_) λe1=> ?_⟩) λh1=> ?_
   .have d1:decide (1<S.l.length)=true:=decide_eq_true (by omega);have a7:=c0;refine⟨d,S.last.1,a7,hg.nz (by omega),by omega,?_,Hd⟩
    grind
   .refine⟨?_,Hd⟩
    grind
   .refine⟨?_,Hd⟩
    grind
  rintro⟨x,v⟩ _ b6 ⟨hx,aP⟩;dsimp only at hx;subst hx;refine AS (λe=>⟨d,?_⟩) λe=>⟨by decide,?_⟩
  .have hs:=Gp aP (j:=(S.l.length-1)*4) (v:=.int .i64 S.size) (K:=λaZ=>(∃k:Nat,k<=rounds/\I7 S.size S.L5=(OM k).L5/\S.size+I7 S.size S.L5=(OM k).size/\Sat (Row E.Ar 4 D6 (Ao HW (OM k).l)::Z) aZ)/\(40000-(S.size+I7 S.size S.L5)).toNat<(40000-S.size).toNat) rfl (by rw[De Al];omega) C λaZ a4=>⟨⟨k+1,by omega,by rw[aG];rfl,by grind,?_⟩,by omega⟩
   .exact hs
   .have:=IV Al J (j:=0) (y:=(S.size,S.last.2)) (v:=.int .i64 S.size) (by decide) rfl;rw[Nat.add_zero]at this;rw[this,Xw aW]at a4;rw[aG];unfold Po.next
    grind
  .refine AO aP λbQ b7 a5 _=> ?_;refine Er (news:=HW (S.size,i64 (Int.tdiv (bytesF S.size 16 8192) 8192),0,0)) a5 rfl rfl (Xt _) (by omega) (by omega) λPW b9 a6 _=>⟨⟨k+1,by omega,by rw[aG];rfl,by grind,?_⟩,by omega⟩;have e1:Ao HW S.l++HW (S.size,i64 (Int.tdiv (bytesF S.size 16 8192) 8192),0,0)=Ao HW (S.l++[(S.size,i64 (Int.tdiv (bytesF S.size 16 8192) 8192),0,0)]):=by rw[FR];simp[Ao]
   rw[e1]at a6;rw[aG];unfold Po.next
   grind
 .have aF:k=rounds:=by
   rcases Nat.lt_or_eq_of_le hk with g|g
   .have:=(Pp (aA k g)).s1;omega
   .exact g
  subst aF;rw[aJ]at O hl;have hlen:=dG;cases hL:Xv.l with
  | nil=>grind
  | cons c0 T=>
   rw[hL]at O hl hlen;have hT:T.length=67:=by grind
   have aV: ∀i c,T[i]? =some c->Xu c=true:=λi c hc=>by
    have:=dH;rw[hL]at this;exact List.all_eq_true.1 this c (List.mem_of_getElem? hc)
   have bN:KH=c0::T.map EJ:=by unfold KH;rw[hL]
   refine AI (λst w'=> ∃i:Nat,st.1=(i:Int)+1/\i<=67/\Sat (Row E.Ar 4 D6 (Ao HW (c0::((T.take i).map EJ++T.drop i)))::Z) w') (λst _=>(68-st.1).toNat) ⟨0,rfl,by decide,O⟩ ?_;rintro⟨i',v⟩ _ bG ⟨i,hi,bI,Y⟩;dsimp only at hi⊢;subst hi;refine AB (λbY=> ?_) λbV=> ?_
   .have bX:i<67:=by omega
    obtain⟨c,hc⟩: ∃c,T[i]? =some c:=⟨_,List.getElem?_eq_getElem (by omega)⟩;have A6:=aV i c hc;unfold Xu at A6;simp only[Bool.and_eq_true,Bool.or_eq_true,decide_eq_true_eq,bne_iff_ne]at A6;obtain⟨o1,o2,o3,o4⟩:=A6;have et:Int.toNat ((i:Int)+1)=i+1:=by omega
    rw[et,AF (n:=(i:Int)+1+1)];generalize hF:(c0::((T.take i).map EJ++T.drop i))=FX at Y;have bS:FX.length=68:=by grind
    have aC:FX[i+1]? =some c:=by grind
    have bA:FX.set (i+1) (EJ c)=c0::((T.take (i+1)).map EJ++T.drop (i+1)):=by
     rw[<-hF,List.set_cons_succ];congr 1;have bB:c=T[i]:=by rw[List.getElem?_eq_getElem (by omega)]at hc;exact(Option.some.inj hc).symm
     rw[List.set_append_right _ _ (by rw[List.length_map,List.length_take];omega),List.length_map,List.length_take,Nat.min_eq_left (by omega),Nat.sub_self,List.take_succ_eq_append_getElem (by omega),List.map_append,List.drop_eq_getElem_cons (by omega),List.set_cons_zero,List.append_assoc,bB];rfl
    obtain⟨b,C⟩:=Y.FZ (by decide) Al (i:=i+1) (by omega);rw[C];simp only[AG];have d0:=Y.Bu Al C aC (j:=0) rfl;have d1:=Y.Bu Al C aC (j:=1) rfl;rw[Nat.add_zero]at d0;have d:(0:Int)<=(i:Int)+1/\(i:Int)+1<(D6.len:Nat):=⟨by omega,by omega⟩;refine⟨d,c.2.1,by rw[add_add];exact d1,d,c.1,d0,o1,o2,by decide,AY λwide aN=> ?_⟩;refine AV (λ_ w'=>Sat (Row E.Ar 4 D6 (Ao HW (FX.set (i+1) ((EJ c).1,c.2)))::Z) w') ?_ ?_
    .refine⟨d,c.1,d0,AB (λaE=>⟨d,?_⟩) λbZ=> ?_⟩
     .have e1:(EJ c).1=wide:=by unfold EJ;dsimp only;rw[<-aN,if_pos aE]
      refine Gp Y (j:=(i+1)*4) rfl (by rw[De Al];omega) C λcB bO=> ?_;have:=IV Al aC (j:=0) (y:=(wide,c.2)) (v:=.int .i64 wide) (by decide) rfl
      grind
     .have e1:(EJ c).1=c.1:=by unfold EJ;grind
      show Sat (Row E.Ar 4 D6 (Ao HW (FX.set (i+1) ((EJ c).1,c.2)))::Z) bG;rw[e1];have:FX.set (i+1) (c.1,c.2)=FX:=by
       have:=List.getElem?_eq_some_iff.1 aC;rw[show(c.1,c.2)=FX[i+1]from this.2.symm,List.set_getElem_self]
      grind
    rintro _ _ cA aQ;have g1:(FX.set (i+1) ((EJ c).1,c.2))[i+1]? =some ((EJ c).1,c.2):=by grind
    have f0:=aQ.Bu Al C g1 (j:=0) rfl;rw[Nat.add_zero]at f0;have aH:i64 (Int.tdiv (i64 (c.2.1*8192)) (EJ c).1)=(EJ c).2.2.1:=rfl;refine⟨d,(EJ c).1,f0,o3,d,?_⟩;rw[aH,add_add];refine Gp aQ (j:=(i+1)*4+2) rfl (by rw[De Al,List.length_set];omega) C λcC aK=> ?_;have:=IV Al g1 (j:=2) (y:=((EJ c).1,c.2.1,(EJ c).2.2.1,c.2.2.2)) (v:=.int .i64 (EJ c).2.2.1) (by decide) rfl;rw[this,List.set_set]at aK;have g2:(FX.set (i+1) ((EJ c).1,c.2.1,(EJ c).2.2.1,c.2.2.2))[i+1]? =some ((EJ c).1,c.2.1,(EJ c).2.2.1,c.2.2.2):=by grind
    have aT:=aK.Bu Al C g2 (j:=0) rfl;rw[Nat.add_zero]at aT;refine⟨d,(EJ c).1,aT,Yl o4 ⟨d,?_⟩⟩;have aX:(if IntKind.wrap .u32 (EJ c).1<2 then(0:Int)else IntKind.wrap .u32 (IntKind.wrap .u32 (Int.tdiv 4294967295 (IntKind.wrap .u32 (EJ c).1))+1))=(EJ c).2.2.2:=rfl;rw[aX,add_add];refine Gp aK (j:=(i+1)*4+3) rfl (by rw[De Al,List.length_set];omega) C λcD aR=>⟨⟨i+1,by omega,by omega,?_⟩,by omega⟩;have h3:=IV Al g2 (j:=3) (y:=EJ c) (v:=.int .u32 (EJ c).2.2.2) (by decide) rfl;rw[h3,List.set_set,bA]at aR;exact aR
   .have bW:i=67:=by omega
    grind
end
def tr(l:List Bool)(i:Nat):Bool:=l.getD i false
def dX{l:List Bool}{i:Nat}(h:i<l.length):l[i]? =some (tr l i):=by
 unfold tr
 grind
def RU{l:List Bool}{i:Nat}(h:l.length<=i):tr l i=false:=by
 unfold tr
 grind
def mU{l:List Bool}{i j:Nat}(h:i<l.length)(x:Bool):tr (l.set i x) j=if j=i then x else tr l j:=by
 unfold tr
 grind
def mV{l:List Bool}{j n:Nat}:tr (l++List.replicate n false) j=tr l j:=by
 by_cases h:j<l.length
 .unfold tr;grind
 .rw[RU (l:=l) (by omega)];unfold tr
  grind
structure dY(S:SI)(U M:Nat->Bool)(ul ml:List Bool)(lk:Int):Prop where
 u: ∀i,U i=tr ul i
 m: ∀i,M i=tr ml i
 lu:(ul.length:Int)<=S.AK
 lm:(ml.length:Int)<=S.AK
 Ju:S.AK<=137438953472
 lk0:0<=lk/\lk<=S.AK
 lk1: ∀i:Nat,(i:Int)<lk->U i=true
def GM(S:SI)(s1 s2:AX)(d:Int):List Value:=[.int .u64 (S.base/8192),.int .u64 S.AA,.int .i64 S.state,.int .i64 S.cls,.bool S.Fv,.int .i64 S.elem,.int .i64 S.AK,FJ s1,FJ s2,.int .i64 d]
def UE(E:Env)(q:Nat)(S:SI)(ul ml:List Bool)(s1 s2:AX)(d:Int):List Pr:=[Cells q E.DO (GM S s1 s2 d),Row E.Ad 1 s1 (BB ul),Row E.Ad 1 s2 (BB ml)]
def A2(E:Env)(q:Nat)(S:SI)(U M:Nat->Bool):Pr:=Ex λx:List Bool×List Bool×AX×AX×Int=>Jj (dY S U M x.1 x.2.1 x.2.2.2.2) (Lo (UE E q S x.1 x.2.1 x.2.2.1 x.2.2.2.1 x.2.2.2.2))
section
variable{E:Env}{q:Nat}{S:SI}{U M:Nat->Bool}{Z:List Pr}{w:World}
def Sat.Gk:Sat (A2 E q S U M::Z) w↔ ∃ul ml s1 s2 d,dY S U M ul ml d/\Sat (UE E q S ul ml s1 s2 d++Z) w:=by
 unfold A2;rw[Sat.ex];constructor
 .rintro⟨⟨ul,ml,s1,s2,d⟩,h⟩;rw[Sat.where,Sat.star]at h
  grind
 .rintro⟨ul,ml,s1,s2,d,h1,h2⟩;refine⟨⟨ul,ml,s1,s2,d⟩,?_⟩;rw[Sat.where,Sat.star]
  grind
def Jv{s:AX}{l:List Bool}(H:Sat (Row E.Ad 1 s (BB l)::Z) w):l.length=s.len:=by
 have:=H.C1;rw[BB,List.length_map,Nat.mul_one]at this;omega
def Nc{s:AX}{l:List Bool}(H:Sat (Row E.Ad 1 s (BB l)::Z) w){i:Nat}{K:Bool->World->Prop}(d:K (tr l i) w):F.Fs E s i K w:=by
 unfold F.Fs;have v:=Jv H;refine AR (decide_eq_true (by omega)) (AB (λh=> ?_) λh=> ?_)
 .obtain⟨b,j⟩:=H.own.Ep (by omega);rw[j];simp only[AG];refine⟨⟨by omega,h⟩,_,?_,d⟩;rw[Int.toNat_natCast,Nat.mul_one];exact H.own.cell j (Kl (dX (by omega)))
 .rw[RU (by omega)]at d;omega
def QE{s:AX}{l:List Bool}(H:Sat (Row E.Ad 1 s (BB l)::Z) w){i:Nat}(hi:i<1099511627776){x:Bool}{K:AX->World->Prop}
  (C: ∀s' l' w',(∀j,tr l' j=if j=i then x else tr l j)->l'.length=max l.length (i+1)->Sat (Row E.Ad 1 s' (BB l')::Z) w'->K s' w'):F.G6 E s i x K w:=by
 unfold F.G6;refine AI (λst w'=> ∃n:Nat,l.length+n<=max l.length (i+1)/\Sat (Row E.Ad 1 st.1 (BB (l++List.replicate n false))::Z) w') (λst _=>((i:Int)+1-st.1.len).toNat) ⟨0,by omega,by grind⟩ ?_;rintro⟨s1,u⟩ _ w2 ⟨n,hn,d⟩;dsimp only at d⊢;have J:=Jv d;rw[List.length_append,List.length_replicate]at J;refine AB (λh=> ?_) λh=> ?_
 .refine AO (vs:=[.bool false]) d λb4 w5 y _=> ?_;refine Er (news:=[.bool false]) y rfl rfl (by simp[Value.oneCell']) (by omega) (by omega) λs6 w7 Y O=>⟨⟨n+1,by omega,?_⟩,by omega⟩;have e:BB (l++List.replicate n false)++[.bool false]=BB (l++List.replicate (n+1) false):=by rw[List.replicate_succ'];simp[BB]
  grind
 .obtain⟨b,v⟩:=d.own.Ep (by omega);rw[v];simp only[AG];refine⟨⟨by omega,by omega⟩,?_⟩;rw[Int.toNat_natCast,Nat.mul_one];refine Gp d (j:=i) rfl (by rw[BB,List.length_map,List.length_append,List.length_replicate];omega) v λT H9=>C s1 ((l++List.replicate n false).set i x) T (λj=> ?_) ?_ ?_
  .rw[mU (by grind),mV]
  .grind
  .have e:(BB (l++List.replicate n false)).set i (.bool x)=BB ((l++List.replicate n false).set i x):=by unfold BB;simp
   grind
def z9(ul:List Bool){U:Nat->Bool}(h: ∀i,U i=tr ul i){n:Nat}(j:ul.length<=n):cN U ul.length=cN U n:=by
 obtain⟨k,rfl⟩:=Nat.exists_eq_add_of_le j;exact(SR (λi d=>by rw[h,RU d]) k).symm
def ID(H:Sat (A2 E q S U M::Z) w){K:Int->World->Prop}(T:K (cN U S.AK.toNat:Nat) w):F.BE E (some ⟨q,0,none⟩) K w:=by
 obtain⟨ul,ml,s1,s2,lk,hI,H⟩:=Sat.Gk.1 H;unfold F.BE;have Y:=Jv (H.front 1 rfl);have O:=hI.lu;have y:=hI.Ju;refine AI (λst w'=>w'=w/\ ∃i:Nat,st.2.1=(i:Int)/\i<=ul.length/\st.1=(cN U i:Nat)) (λst _=>((ul.length:Int)-st.2.1).toNat) ⟨rfl,0,rfl,Nat.zero_le _,rfl⟩ ?_;rintro⟨c,i',u⟩ _ w2 ⟨rfl,i,v,J,j⟩;dsimp only at v j⊢;subst v;subst j;have C:=PS U i;refine AH ⟨s1,H.cell rfl,AB (λh=>AH ⟨s1,H.cell rfl,?_⟩) λh=> ?_⟩
 .obtain⟨b,d⟩:=(H.front 1 rfl).own.Ep (by omega);rw[d];refine AH ⟨⟨by omega,h⟩,tr ul i,?_,?_⟩
  .rw[Int.toNat_natCast,Nat.mul_one];exact(H.front 1 rfl).own.cell d (Kl (dX (by omega)))
  .rw[<-hI.u i,AF (n:=(i:Int)+1),AF (n:=((cN U i:Nat):Int)+1)];have e:cN U (i+1)=cN U i+(U i).toNat:=rfl;refine AS (λg=>⟨⟨rfl,i+1,by omega,by omega,?_⟩,by omega⟩) λg=>⟨⟨rfl,i+1,by omega,by omega,?_⟩,by omega⟩
   .grind
   grind
 .obtain rfl:i=ul.length:=by omega
  rw[z9 ul hI.u (n:=S.AK.toNat) (by omega)];omega
def Ym(H:Sat (A2 E q S U M::Z) w)(h0:0<=S.base/\S.base<18446744073709551616/\S.base %8192=0)(p0:0<=S.AA/\S.AA<=137438953472){K:Int->Int->Int->Int->Bool->Int->Int->Int->Bool->Bool->World->Prop}
  (T: ∀w',Sat (A2 E q S U M::Z) w'->K S.base S.AA S.state S.cls S.Fv S.elem S.AK (cN U S.AK.toNat:Nat) false false w'):F.Ch E (some ⟨q,0,none⟩) K w:=by
 unfold F.Ch T0.Ch;refine AO (vs:=[.int .u64 0,.int .i64 0,.int .i64 0,.int .i64 0,.bool false,.int .i64 0,.int .i64 0,.int .i64 0,.bool false,.bool false]) H λb1 w2 C _=> ?_;have J:=C.drew.front 1 rfl;obtain⟨ul,ml,s1,s2,Y,hI,j⟩:=Sat.Gk.1 J;refine AH ⟨_,j.Af rfl,AH ⟨_,j.cell rfl,AH ⟨_,j.cell rfl,AH ⟨_,j.cell rfl,AH ⟨_,j.cell rfl,AH ⟨_,j.cell rfl,AH ⟨_,j.cell rfl,ID J ⟨j.cell rfl,j.cell rfl,j.cell rfl,j.cell rfl,j.cell rfl,j.cell rfl,j.Af rfl,?_⟩⟩⟩⟩⟩⟩⟩⟩;rw[AM (n:=S.base/8192*8192),show S.base/8192*8192=S.base by omega,AF (n:=S.AA)];refine Fp (news:=[.int .u64 S.base,.int .i64 S.AA,.int .i64 S.state,.int .i64 S.cls,.bool S.Fv,.int .i64 S.elem,.int .i64 S.AK,.int .i64 (cN U S.AK.toNat:Nat),.bool false,.bool false]) C.drew rfl (by intro v O;simp at O;rcases O with rfl|rfl|rfl|rfl|rfl|rfl|rfl|rfl|rfl|rfl<;>rfl) λy d=> ?_;exact⟨_,d.cell rfl,_,d.cell rfl,_,d.cell rfl,_,d.cell rfl,_,d.cell rfl,_,d.cell rfl,_,d.cell rfl,_,d.cell rfl,_,d.cell rfl,_,d.cell rfl,T y d.tail⟩
def RV(H:Sat (A2 E q S U M::Z) w)(aA:S.state≠0)(s0:0<=S.AK){K:Int->Int->World->Prop}
  (O:(∀i:Nat,(i:Int)<S.AK->U i=true)->K 0 30 w)
  (T: ∀n:Nat,(n:Int)<S.AK->U n=false->(∀i,i<n->U i=true)-> ∀w',Sat (A2 E q S (λi=>U i||i==n) M::Z) w'->K n 0 w'):F.CE E (some ⟨q,0,none⟩) K w:=by
 obtain⟨ul,ml,s1,s2,lk,hI,H⟩:=Sat.Gk.1 H;unfold F.CE T0.CE;have hl:=Jv (H.front 1 rfl);have aG:=hI.lu;have aD:=hI.Ju;obtain⟨l0,l1⟩:=hI.lk0;refine AH ⟨_,H.cell rfl,Bc (λe=>absurd e aA) λ_=>AH ⟨_,H.cell rfl,?_⟩⟩;refine AI (λst w'=>w'=w/\ ∃i:Nat,st.1=(i:Int)/\(i:Int)<=S.AK/\ ∀j,j<i->U j=true) (λst _=>(S.AK-st.1).toNat) ⟨rfl,lk.toNat,by omega,by omega,λj J=>hI.lk1 j (by omega)⟩ ?_;rintro⟨i',u⟩ _ w2 ⟨rfl,i,hi,aE,d⟩;dsimp only at hi⊢;subst hi;refine AH ⟨s1,H.cell rfl,Nc (H.front 1 rfl) ?_⟩;rw[<-hI.u i];have aF:U i=true->(i:Int)<S.AK:=λg=>by
  rw[hI.u]at g;by_cases h:i<ul.length
  .omega
  .rw[RU (by omega)]at g;cases g
 rw[AF (n:=(i:Int)+1)];refine AS (λg=>⟨⟨rfl,i+1,rfl,by grind,λj J=> ?_⟩,by grind⟩) λg=>AH ⟨_,H.cell rfl,AB (λh=>O λj J=>d j (by omega)) λh=>AH ⟨s1,H.cell rfl,?_⟩⟩
 .grind
 .refine QE (H.front 1 rfl) (by omega) λs' l' aI Y hlen v=> ?_;refine AH (Ab (v.front 1 rfl) (o:=0) (m:=7) rfl (by simp[GM]) λaJ y=>AH (Ab y (o:=0) (m:=9) rfl (by simp[GM]) λaB C=> ?_));refine T i (by omega) g d aB (Sat.Gk.2 ⟨l',ml,s',s2,(i:Int)+1,⟨λj=> ?_,hI.m,by omega,hI.lm,hI.Ju,⟨by omega,by omega⟩,λj J=> ?_⟩,C⟩)
  .rw[Y,hI.u]
   grind
  grind
def bC(H:Sat (A2 E q S U M::Z) w)(J:S.state≠0){K:Int->World->Prop}(y:0<cN U S.AK.toNat->K 33 w)
  (C:cN U S.AK.toNat=0-> ∀w',w'.cell? (Addr.mk q 0 none)=some (.int .u64 (S.base/8192))->w'.cell? ((Addr.mk q 0 none).add 1)=some (.int .u64 S.AA)->Sat Z w'->K 0 w'):F.Cu E (some ⟨q,0,none⟩) K w:=by
 obtain⟨ul,ml,s1,s2,lk,hI,H1⟩:=Sat.Gk.1 H;unfold F.Cu T0.Cu;refine AU (AH ⟨_,H1.cell rfl,Bc (λe=>absurd e J) λ_=>ID H λj=>AB (λg=>y (by omega)) λg=> ?_⟩);exact AH (Ab H1 (o:=0) (m:=2) rfl (by simp[GM]) λw9 T=>AH (Ab T (o:=0) (m:=7) rfl (by simp[GM]) λY v=>AH (Ab v (o:=0) (m:=8) rfl (by simp[GM]) λO d=>C (by omega) O (d.Af rfl) (d.cell rfl) d.tail.tail.tail)))
def We(H:Sat (A2 E q S U M::Z) w)(s0:0<=S.AK){K:AX->Int->World->Prop}(aL:S.state≠1->K ⟨none,0,0⟩ 33 w)(aM:S.state=1->(∃i,M i=true/\U i=false)->K ⟨none,0,0⟩ 40 w)
  (hk:S.state=1->(∀i,M i=true->U i=true)-> ∀s w',Sat (Row E.CO 1 s (ints .i64 (EN (λi=>U i&& !M i) S.AK.toNat))::A2 E q S (λi=>U i&&M i) (λ_=>false)::Z) w'->K s 0 w'):
  F.CQ E (some ⟨q,0,none⟩) K w:=by
 obtain⟨ul,ml,s1,s2,lk,hI,H⟩:=Sat.Gk.1 H;unfold F.CQ T0.CQ;have a3:=Jv (H.front 1 rfl);have a4:=Jv (H.front 2 rfl);have a6:=hI.lu;have a5:=hI.lm;have Y:=hI.Ju;refine AH ⟨_,H.cell rfl,Gq aL λaB=> ?_⟩;refine AI (λst w'=>w'=w/\ ∃i:Nat,st.1=(i:Int)/\i<=ml.length/\ ∀j,j<i->M j=true->U j=true) (λst _=>((ml.length:Int)-st.1).toNat) ⟨rfl,0,rfl,Nat.zero_le _,λj hj=>by omega⟩ ?_;rintro⟨i',u⟩ _ w4 ⟨rfl,i,hi,a1,aR⟩;dsimp only at hi⊢;subst hi;refine AH ⟨s2,H.cell rfl,AB (λv=> ?_) λaK=> ?_⟩
 .rw[AF (n:=(i:Int)+1)];obtain⟨b,y⟩:=(H.front 2 rfl).own.Ep (by omega);refine AU (AH ⟨s2,H.cell rfl,?_⟩)
  try dsimp only
  rw[y];refine AH ⟨⟨by omega,v⟩,tr ml i,?_,?_⟩
  .rw[Int.toNat_natCast,Nat.mul_one];exact(H.front 2 rfl).own.cell y (Kl (dX (by omega)))
  .rw[<-hI.m i];have nx:(M i=true->U i=true)->(w4=w4/\ ∃i2:Nat,(i:Int)+1=(i2:Int)/\i2<=ml.length/\ ∀j,j<i2->M j=true->U j=true)/\((ml.length:Int)-((i:Int)+1)).toNat<((ml.length:Int)-(i:Int)).toNat:=λg=>⟨⟨rfl,i+1,rfl,by omega,λj hj=>by grind⟩,by omega⟩;refine AS (λg=>AH ⟨s1,H.cell rfl,Nc (H.front 1 rfl) λj=> ?_⟩) λg j=>AP rfl (nx λh=>by grind);rw[<-hI.u i];exact JK (AS (λh=>nx λ_=>h) λh=>aM aB ⟨i,g,h⟩)
 .have aO: ∀i,M i=true->U i=true:=λj hj=>by
   by_cases h:j<i
   .grind
   .rw[hI.m,RU (by omega)]at hj;grind
  have H0:=(H.nil E.CO 1)
  let F:Nat->Bool:=λi=>U i&& !M i
  refine AI (λst w'=> ∃(k:Nat) (l:List Bool),st.2.1=(k:Int)/\k<=ul.length/\l.length=ul.length/\(∀j,tr l j=if j<k then U j&&M j else U j)/\Sat (Row E.CO 1 st.1 (ints .i64 (EN F k))::Cells q E.DO (GM S s1 s2 lk)::Row E.Ad 1 s1 (BB l)::Row E.Ad 1 s2 (BB ml)::Z) w') (λst _=>((ul.length:Int)-st.2.1).toNat)
   ⟨0,ul,rfl,Nat.zero_le _,rfl,λj=>by rw[if_neg (by omega),hI.u],H0⟩ ?_
  rintro⟨r,k',u⟩ _ aP ⟨k,l,T,a2,aN,aC,d⟩;dsimp only at T d⊢;subst T;have HC:=d.front 1 rfl;refine AH ⟨s1,HC.cell rfl,AB (λv=> ?_) λaK=> ?_⟩
  .rw[AF (n:=(k:Int)+1)];obtain⟨b,y⟩:=(d.front 2 rfl).own.Ep (by omega);have aJ:tr l k=U k:=by grind
   refine AV (λst w'=>st.1=F k/\w'=aP) (AH ⟨s1,HC.cell rfl,?_⟩) ?_
   .try dsimp only
    rw[y];refine AH ⟨⟨by omega,v⟩,tr l k,?_,?_⟩
    .rw[Int.toNat_natCast,Nat.mul_one];exact(d.front 2 rfl).own.cell y (Kl (dX (by omega)))
    .rw[aJ];refine AS (λg=>AH ⟨s2,HC.cell rfl,Nc (d.front 3 rfl) ⟨?_,rfl⟩⟩) λg=>⟨?_,rfl⟩
     .show(!tr ml k)=(U k&& !M k);rw[<-hI.m,g];rfl
     grind
   rintro⟨t,u⟩ _ aQ ⟨ht,rfl⟩;dsimp only at ht⊢;subst ht;have a0:(EN F k).length<=k:=by rw[K6];exact PS _ _
   have hr:=(d).C1;rw[ints,List.length_map,Nat.mul_one]at hr;refine AS (λg=> ?_) λg=>⟨⟨k+1,l,rfl,by omega,aN,λj=> ?_,?_⟩,by omega⟩
   .have g1:U k=true/\M k=false:=by grind
    refine AO (vs:=[.int .i64 (k:Int)]) d λaX bA aF _=> ?_;refine Er (news:=[.int .i64 (k:Int)]) aF rfl rfl (by simp[Value.oneCell']) (by omega) (by omega) λZH bB J _=>AH ⟨s1,(J.front 1 rfl).cell rfl,?_⟩
    try dsimp only
    rw[y];refine AH ⟨⟨by omega,v⟩,?_⟩;rw[Int.toNat_natCast,Nat.mul_one];refine Gp (J.front 2 rfl) (j:=k) rfl (by rw[BB,List.length_map];omega) y λbC O=>⟨⟨k+1,l.set k false,rfl,by omega,by grind,λj=> ?_,?_⟩,by omega⟩
    .rw[mU (by omega),aC]
     grind
    .have e1:ints .i64 (EN F k)++[.int .i64 (k:Int)]=ints .i64 (EN F (k+1)):=by
      rw[Tw (F:=F) (Nat.le_refl k) (λi a b=>by omega) g];simp[ints]
     have e2:(BB l).set k (.bool false)=BB (l.set k false):=by unfold BB;simp
     rw[e1,e2]at O;exact(O.front 1 rfl).perm (.cons _ (.swap _ _ _))
   .by_cases e:j=k
    .subst e
     grind
    grind
   .show Sat (Row E.CO 1 r (ints .i64 (EN F (k+1)))::_) aQ;rw[KL (F:=F) (m:=k) (n:=1) λi a b=>by grind];omega
  .obtain rfl:k=ul.length:=by omega
   refine AH (Ab HC (o:=0) (m:=8) rfl (by simp[GM]) λbD aG=>AH (Ab aG (o:=0) (m:=9) rfl (by simp[GM]) λC aH=> ?_));have aI:EN F S.AK.toNat=EN F ul.length:=by
    obtain⟨n,hn⟩:=Nat.exists_eq_add_of_le (show ul.length<=S.AK.toNat by omega);rw[hn];exact KL λi a b=>by show(U i&& !M i)=false;rw[hI.u,RU (by omega)];rfl
   refine hk aB aO r C ?_;have aA:Sat (Row E.Ad 1 ⟨none,0,0⟩ (BB [])::Cells q E.DO (GM S s1 ⟨none,0,0⟩ 0)::Row E.CO 1 r (ints .i64 (EN F ul.length))::Row E.Ad 1 s1 (BB l)::Z) C:=by
    have h1:=((aH.front 3 rfl).tail).nil E.Ad 1;exact h1
   have h2:Sat (A2 E q S (λi=>U i&&M i) (λ_=>false)::Row E.CO 1 r (ints .i64 (EN F ul.length))::Z) C:=Sat.Gk.2 ⟨l,[],s1,⟨none,0,0⟩,0,⟨λj=> ?_,λj=>(RU (Nat.zero_le _)).symm,by omega,by omega,Y,⟨Int.le_refl _,s0⟩,λj hj=>by omega⟩,?_⟩
   .rw[aI];exact h2.perm (.swap _ _ _)
   .show(U j&&M j)=tr l j;rw[aC];by_cases h:j<ul.length
    .grind
    .rw[if_neg h,hI.u,RU (by omega)];rfl
   .-- Row s2', Cells, Row r, Row s1
    exact((aA.front 1 rfl).perm (.cons _ ((List.Perm.swap _ _ _).trans (.cons _ (.refl _))))).perm (.cons _ (by
     exact(List.perm_append_comm (l₁:=[Row E.CO 1 r (ints .i64 (EN F ul.length)),Row E.Ad 1 ⟨none,0,0⟩ (BB [])]) (l₂:=[Row E.Ad 1 s1 (BB l)])).append_right Z|>.trans (.cons _ (.swap _ _ _))))
def QF(n:Nat):Io #[.bool false] n=⟨BB (List.replicate n false)⟩:=by
 rw[Vo];congr 1;apply List.ext_getElem?;intro i;by_cases hi:i<n
 .rw[I3 hi];simp[BB,hi]
 .rw[List.getElem?_eq_none (by rw[Ca];omega),List.getElem?_eq_none (by simp[BB];omega)]
instance wY(AA elem:Int):Decidable (lQ AA elem):=by unfold lQ;exact inferInstance
def vX:Nat->Bool:=λ_=>false
def gZ:(KH.all λc=>decide (0<=c.2.2.1)&&decide (c.2.2.1<=1024))=true:=by decide+kernel
def mW{c:Int}(h0:0<=c)(h1:c<68):0<=(Aj c).2.2.1/\(Aj c).2.2.1<=1024:=by
 have:=List.all_eq_true.1 gZ _ (List.mem_of_getElem? (Ky h0 h1))
 grind
def Wf{page AA:Int}(h0:0<=page)(j:0<=AA){K:Bool->World->Prop}(d:K (decide (0<AA/\AA<=134217728/\page<=34359738368/\AA<=34359738368-page)) w):F.HP E page AA K w:=by
 unfold F.HP;refine AB (λg1=>AB (λg2=>AB (λg3=> ?_) λg3=> ?_) λg2=> ?_) λg1=> ?_
 .rw[AM (n:=34359738368-page)]
  grind
 .grind
 .grind
 grind
def RW{q:Nat}{S:SI}(hs:0<=S.AK/\S.AK<=137438953472)(H:Sat (Cells q E.DO (GM S ⟨none,0,0⟩ ⟨none,0,0⟩ 0)::Z) w){K:World->Prop}(hK: ∀w',Sat (A2 E q S vX vX::Z) w'->K w'):
  ∃d:Int,w.cell? ((Addr.mk q 0 none).add 6)=some (.int .i64 d)/\
    ((0:Int)<=d/\(d:Int)<=d/\(d:Int)<9223372036854775808/\((1:Nat):Int)*d<=140737488355328)/\
    AL (.cells (Io #[.bool false] (Int.toNat d*1)) E.Ad) w λy T=>
    stCells ((Addr.mk q 0 none).add 7) 0 [.slice (some (Addr.mk y 0 none)) (Int.toNat d) (Int.toNat d)] T λJ=>
    ∃v:Int,J.cell? ((Addr.mk q 0 none).add 6)=some (.int .i64 v)/\
    ((0:Int)<=v/\(v:Int)<=v/\(v:Int)<9223372036854775808/\((1:Nat):Int)*v<=140737488355328)/\
    AL (.cells (Io #[.bool false] (Int.toNat v*1)) E.Ad) J λC Y=>
    stCells ((Addr.mk q 0 none).add 8) 0 [.slice (some (Addr.mk C 0 none)) (Int.toNat v) (Int.toNat v)] Y K:=by
 have hb:(0:Int)<=S.AK/\S.AK<=S.AK/\S.AK<9223372036854775808/\((1:Nat):Int)*S.AK<=140737488355328:=⟨hs.1,Int.le_refl _,by omega,by omega⟩;have hn:(BB (List.replicate (Int.toNat S.AK) false)).length=Int.toNat S.AK*1:=by simp[BB]
 refine⟨S.AK,H.cell rfl,hb,?_⟩;rw[Nat.mul_one,QF];refine Gs (n:=Int.toNat S.AK) (z:=1) H hn (by omega) λy T aA=> ?_;refine Ab (aA.front 1 rfl) (o:=0) (m:=7) rfl (by simp[GM]) λJ O=>⟨S.AK,O.cell rfl,hb,?_⟩;rw[Nat.mul_one,QF];refine Gs (n:=Int.toNat S.AK) (z:=1) O hn (by omega) λC Y aB=> ?_;refine Ab (aB.front 1 rfl) (o:=0) (m:=8) rfl (by simp[GM]) λaD aC=> ?_;have tz: ∀i,vX i=tr (List.replicate (Int.toNat S.AK) false) i:=λi=>by
  have:=mV (l:=[]) (j:=i) (n:=Int.toNat S.AK);rw[List.nil_append]at this;rw[this];rfl
 refine hK aD (Sat.Gk.2 ⟨List.replicate (Int.toNat S.AK) false,List.replicate (Int.toNat S.AK) false,⟨some ⟨y,0,none⟩,Int.toNat S.AK,Int.toNat S.AK⟩,⟨some ⟨C,0,none⟩,Int.toNat S.AK,Int.toNat S.AK⟩,0,⟨tz,tz,?_,?_,hs.2,⟨Int.le_refl _,hs.1⟩,λi hi=>by omega⟩,?_⟩)
 .grind
 .grind
 .exact aC.perm (.cons _ (.swap _ _ _))
def UF(H:Sat Z w){page AA c:Int}{np:Bool}(h0:0<=page)(p0:0<=AA)(p1:AA<18446744073709551616){K:Option Addr->Int->World->Prop}
  (O:F7 page AA c-> ∀w',Sat Z w'->K none 1 w')(T: ¬F7 page AA c-> ∀b w',Sat (A2 E b (Gw page AA c np) vX vX::Z) w'->K (some ⟨b,0,none⟩) 0 w'):F.Ec E page AA c np K w:=by
 unfold F.Ec T0.Ec;refine AV (λst w'=>st.1= !decide ((0<AA/\AA<=134217728/\page<=34359738368/\AA<=34359738368-page)/\0<=c/\c<68)/\w'=w) (Wf h0 p0 ?_) ?_
 .refine JK (AB (λg=>AB (λg2=>⟨?_,rfl⟩) λg2=>⟨?_,rfl⟩) λg=>⟨?_,rfl⟩)
  .grind
  .grind
  grind
 rintro⟨t,u⟩ _ w3 ⟨ht,rfl⟩;dsimp only at ht⊢;subst ht;refine JK (AB (λg=> ?_) λg=> ?_)
 rotate_left
 .refine O ?_ w3 H;unfold F7;by_cases e:c<=0∨68<=c
  .omega
  .have hb:=Ke (c:=c) (by omega) (by omega);omega
 obtain⟨⟨g1,g2,g3,g4⟩,c0,c1⟩:=g;rw[AF (n:=AA),AF (n:=AA*8192)];refine AO (vs:=[.int .u64 page,.int .u64 AA,.int .i64 1,.int .i64 c,.bool np,.int .i64 (AA*8192),.int .i64 1,.slice none 0 0,.slice none 0 0,.int .i64 0]) H λb6 w7 H7 _=> ?_;have aE:page*8192/8192=page:=Int.mul_ediv_cancel _ (by decide);by_cases hc:c=0
 .refine AU (AP (decide_eq_false (by omega)) λj=> ?_);refine RW (S:=Gw page AA c np) ?_ ?_ λw' H'=>T (by unfold F7;omega) b6 w' H'
  .show 0<=(if c=0 then(1:Int)else _)/\(if c=0 then(1:Int)else _)<=_;omega
  .show Sat (Cells b6 E.DO [.int .u64 (page*8192/8192),.int .u64 AA,.int .i64 1,.int .i64 c,.bool np,.int .i64 (if c=0 then AA*8192 else(Aj c).1),.int .i64 (if c=0 then 1 else(Aj c).2.2.1),.slice none 0 0,.slice none 0 0,.int .i64 0]::Z) w7
   grind
 .refine AU (AR (decide_eq_true (by omega)) (RT H7 λy aF d=> ?_));have hl:=d.F9 (by decide) Al;rw[Jb]at hl;obtain⟨x,hx⟩:=d.FZ (by decide) Al (i:=c.toNat) (by rw[Jb];omega);have C:=Ky c0 c1;have aK:=Ke c0 c1;have aM:=mW c0 c1;have v:(0:Int)<=c/\c<(y.len:Nat):=⟨c0,by omega⟩;have ct: ∀{w'} {Y:List Pr},Sat (Row E.Ar 4 y (Ao HW KH)::Y) w'->w'.cell? ((Addr.mk x 0 none).add (Int.toNat c*4))=some (.int .i64 (Aj c).1)/\w'.cell? (((Addr.mk x 0 none).add (Int.toNat c*4)).add 1)=some (.int .i64 (Aj c).2.1)/\
    w'.cell? (((Addr.mk x 0 none).add (Int.toNat c*4)).add 2)=some (.int .i64 (Aj c).2.2.1):=λh=>by
   refine⟨?_,?_,?_⟩
   .have:=h.Bu Al hx C (j:=0) rfl;omega
   .rw[add_add];exact h.Bu Al hx C (j:=1) rfl
   .rw[add_add];exact h.Bu Al hx C (j:=2) rfl
  rw[hx];refine AH ⟨v,_,(ct d).2.1,?_⟩;rw[AM (n:=(Aj c).2.1)];refine Gq (λe=>O (by unfold F7;omega) aF d.tail.tail) λe=>AH ⟨v,_,(ct d).1,?_⟩;refine Ab (d.front 1 rfl) (o:=0) (m:=5) rfl (by simp) λaO J=>AH ⟨v,_,(ct (J.front 1 rfl)).2.2,?_⟩;refine Ab J (o:=0) (m:=6) rfl (by simp) λaG aI j=> ?_;refine RW (S:=Gw page AA c np) (Z:=Row E.Ar 4 y (Ao HW KH)::Z) ?_ ?_ λw' H'=>T (by unfold F7;omega) b6 w' (H'.perm (.swap _ _ _)).tail
  .show 0<=(if c=0 then(1:Int)else(Aj c).2.2.1)/\(if c=0 then(1:Int)else(Aj c).2.2.1)<=_;omega
  .show Sat (Cells b6 E.DO [.int .u64 (page*8192/8192),.int .u64 AA,.int .i64 1,.int .i64 c,.bool np,.int .i64 (if c=0 then AA*8192 else(Aj c).1),.int .i64 (if c=0 then 1 else(Aj c).2.2.1),.slice none 0 0,.slice none 0 0,.int .i64 0]::Row E.Ar 4 y (Ao HW KH)::Z) aG
   grind
end
def HS.at(S:HS)(id:Int):Int:=match S.sp id with
 | some x=>x.2.base
 | none=>0
def HS.dZ{S:HS}{id:Int}{x:Nat×SI}(h:S.sp id=some x):S.at id=x.2.base:=by unfold HS.at;rw[h]
def Bv.KV{S:HS}{fl:Int->Bool}(hI:Bv S fl)(l:List Int)(j:l.Nodup)(d: ∀n∈l,S.sp n≠none):l.length<1099511627776:=by
 have h:=Tm S.fx.n l j λn v=>by
  obtain⟨a,e,h1,_⟩:=(hI.sf n).1 (d n v);omega
 have:=hI.fb;omega
def SV(k:IntKind)(l:List Int): ∀v∈ints k l,v.oneCell'=true:=by intro v d;simp[ints]at d;obtain⟨x,_,rfl⟩:=d;rfl
def mX(l:List Bool): ∀v∈BB l,v.oneCell'=true:=by intro v d;simp[BB]at d;rcases d with ⟨_,rfl⟩|⟨_,rfl⟩<;>rfl
section
variable{E:Env}(hE:EnvS E){w:World}
include hE
end
section
variable{E:Env}(hE:EnvS E){w:World}
include hE
end
section
variable{E:Env}(hE:EnvS E){w:World}{Rs:List Pr}{b:Nat}{V:VS}
include hE
end
section
variable{E:Env}(hE:EnvS E){w:World}
include hE
end
section
variable{E:Env}(hE:EnvS E){w:World}
include hE
end
def Ww(V:VS)(p:Int):Int:=if Ms V.laid p then if Ms V.ready p then 2 else if Ms V.rel p then 3 else 1 else 0
def N6{V:VS}(h:UY V)(p:Int):(Ww V p=0/\ ¬mem V.laid p/\ ¬mem V.ready p/\ ¬mem V.rel p)∨(Ww V p=1/\mem V.laid p/\ ¬mem V.ready p/\ ¬mem V.rel p)∨(Ww V p=2/\mem V.laid p/\mem V.ready p/\ ¬mem V.rel p)∨(Ww V p=3/\mem V.laid p/\ ¬mem V.ready p/\mem V.rel p):=by
 unfold Ww;by_cases h1:mem V.laid p
 .rw[if_pos (CJ.2 h1)];by_cases h2:mem V.ready p
  .rw[if_pos (CJ.2 h2)];exact .inr (.inr (.inl ⟨rfl,h1,h2,h.re p h2⟩))
  .rw[if_neg (λe=>h2 (CJ.1 e))];by_cases h3:mem V.rel p
   .rw[if_pos (CJ.2 h3)];grind
   .rw[if_neg (λe=>h3 (CJ.1 e))];grind
 .rw[if_neg (λe=>h1 (CJ.1 e))];exact .inl ⟨rfl,h1,λe=>h1 (h.rl p e),λe=>h1 (h.el p e)⟩
section
variable{E:Env}(hE:EnvS E){w:World}
include hE
end
abbrev nS:=List (Int×Int×Int)
abbrev qV:=List (Int×Int)
def iP(e:Int×Int×Int):List Value:=[.int .u64 e.1,.int .i64 e.2.1,.int .u64 e.2.2]
def wd2(e:Int×Int):List Value:=[.int .u64 e.1,.int .u64 e.2]
def kP(e:Int×Int×Int):Int:=e.1
def kW(e:Int×Int):Int:=e.1
def Il(e:Int×Int×Int):(iP e).length=3:=rfl
def SX(e:Int×Int×Int): ∀v∈iP e,v.oneCell'=true:=by intro v d;simp[iP]at d;rcases d with rfl|rfl|rfl<;>rfl
structure MG where
 s0:AX
 s1:AX
 s2:AX
 s3:AX
 s4:AX
def Qw(g:MG):List Value:=[FJ g.s0,FJ g.s1,FJ g.s2,FJ g.s3,FJ g.s4]
def G3(E:Env)(c:Nat)(V:VS)(g:MG)(P:nS)(W:qV):List Pr:=
 [Cells c E.Au (Qw g),Js g.s0 (ints .u64 V.pl),Js g.s1 (BB V.rf),Js g.s2 (ints .u64 V.fl),Row E.Ap 3 g.s3 (Ao iP P),Row E.HO 2 g.s4 (Ao wd2 W)]
structure JE(V:VS)(P:nS)(W:qV):Prop where
 ok:UY V
 Ho:IW kP P
 srw:IW kW W
 hp: ∀p,mem V.laid p↔ ∃e∈P,kP e=p
 hs: ∀e∈P,e.2.1=Ww V e.1
 hw: ∀e∈W,e.1 %8=0/\mem V.ready (e.1/8192)/\V.wd (e.1/8192) (e.1 %8192/8)=e.2
 hf: ∀e∈P,mem V.ready e.1-> ∀i,0<=i->i<1024->(∀x∈W,x.1≠e.1*8192+i*8)->V.wd e.1 i=e.2.2
 cX: ∀x∈V.pl,0<=x/\x<18446744073709551616
def GU(E:Env)(c:Nat)(V:VS):Pr:=Ex λx:MG×nS×qV=>Jj (JE V x.2.1 x.2.2) (Lo (G3 E c V x.1 x.2.1 x.2.2))
section
variable{E:Env}{c:Nat}{V:VS}{Z:List Pr}{w:World}{g:MG}{P:nS}{W:qV}
def Sat.UG:Sat (GU E c V::Z) w↔ ∃g P W,JE V P W/\Sat (G3 E c V g P W++Z) w:=by
 unfold GU;rw[Sat.ex];constructor
 .rintro⟨⟨g,P,W⟩,h⟩;rw[Sat.where,Sat.star]at h
  grind
 .rintro⟨g,P,W,h1,h2⟩;refine⟨⟨g,P,W⟩,?_⟩;rw[Sat.where,Sat.star]
  grind
def JE.wZ(h:JE V P W){e:Int×Int×Int}(he:e∈P):mem V.laid e.1:=(h.hp _).2 ⟨e,he,rfl⟩
def JE.dV(h:JE V P W){e:Int×Int×Int}(he:e∈P):512<=e.1/\e.1<34359738368:=h.ok.Ju _ (h.wZ he)
def JE.vY(h:JE V P W):P.length<=34359738368:=by
 have:=h.Ho.KV (a:=0) (b:=34359738368) (by decide) λe he=>by have:=h.dV he;unfold kP;omega
 omega
def UH(H:Sat (G3 E c V g P W++Z) w):P.length=g.s3.len/\g.s3.len<=g.s3.cap/\g.s3.cap<9223372036854775808:=(H.front 4 rfl).F9 (by decide) Il
def VR(H:Sat (G3 E c V g P W++Z) w){i:Nat}{e:Int×Int×Int}(v:P[i]? =some e): ∃b,g.s3.base=some ⟨b,0,none⟩/\
  w.cell? ((Addr.mk b 0 none).add (i*3))=some (.int .u64 e.1)/\w.cell? (((Addr.mk b 0 none).add (i*3)).add 0)=some (.int .u64 e.1)/\w.cell? (((Addr.mk b 0 none).add (i*3)).add 1)=some (.int .i64 e.2.1)/\w.cell? (((Addr.mk b 0 none).add (i*3)).add 2)=some (.int .u64 e.2.2):=by
 have h:=H.front 4 rfl;obtain⟨b,d⟩:=h.FZ (by decide) Il (List.getElem?_eq_some_iff.1 v).1;refine⟨b,d,?_,?_,?_,?_⟩
 .exact h.Bu Il d v (j:=0) rfl
 .rw[add_add];exact h.Bu Il d v (j:=0) rfl
 .rw[add_add];exact h.Bu Il d v (j:=1) rfl
 .rw[add_add];exact h.Bu Il d v (j:=2) rfl
def OR(H:Sat (G3 E c V g P W++Z) w){K:Bool->World->Prop}(h0:V.rf=[]->K false w)
  (h1: ∀x r,V.rf=x::r-> ∀s w',Sat (G3 E c {V with rf:=r} {g with s1:=s} P W++Z) w'->K x w'):F.EU E (some ⟨c,0,none⟩) K w:=by
 unfold F.EU;have O:=(H.front 2 rfl).MD;have d:=H.cell (o:=0) (m:=1) rfl;simp only[AG];refine⟨g.s1,d,Bc (λe=>h0 ?_) λe=> ?_⟩
 .have:(BB V.rf).length=0:=by omega
  simpa[BB]using this
 .cases hr:V.rf with
  | nil=>have:=O.1;rw[hr]at this;simp[BB]at this;omega
  | cons x r=>
   obtain⟨a,J,hd⟩:=(H.front 2 rfl).NH (j:=0) (v:=.bool x) (by rw[hr];rfl);refine⟨g.s1,d,?_⟩;rw[J];simp only[AG];refine⟨⟨by decide,by omega⟩,x,hd,g.s1,d,⟨by decide,by omega⟩,?_⟩;have y:=Sat.back 2 ((H.front 2 rfl).NI (n:=1) (by omega)) (by simp[G3]);rw[hr]at y;exact Ab y (o:=0) (m:=1) rfl (by simp[Qw]) λw' C=>h1 x r hr ⟨GN g.s1.base g.s1.cap (Int.toNat 1) 1,g.s1.len-Int.toNat 1,g.s1.cap-Int.toNat 1⟩ w' C
def RX{page AA:Int}(h0:0<=page)(j:0<=AA){K:Bool->World->Prop}(d: ∀b,(b=true↔Iu page AA)->K b w):F.Fj E page AA K w:=by
 unfold F.Fj Iu at *
 refine AB (λh1=>AB (λh2=> ?_) λh2=> ?_) λh1=> ?_
 .rw[AM (n:=34359738368-page)];exact d _ (by grind)
 .exact d _ (by simp;omega)
 .exact d _ (by simp;omega)
def Ma(hI:JE V P W)(H:Sat (G3 E c V g P W++Z) w){n:Int}{K:Int->Bool->World->Prop}
  (v: ∀b,(b=true↔ ∃e,P[pos kP P n]? =some e/\e.1=n)-> ∀w',Sat (G3 E c V g P W++Z) w'->K (pos kP P n:Nat) b w'):F.DG E (some ⟨c,0,none⟩) n K w:=by
 unfold F.DG;have d:=H.drew;have O:=UH H;have hf:=hI.vY;simp only[AG];refine⟨g.s3,d.cell rfl,?_⟩;refine bsearch (key:=kP) (by decide) Il (λ_=>rfl) hI.Ho (d.front 4 rfl) (d.cell rfl) (by omega) n λst j=> ?_;have d:=d.drew;have hp:=MP (key:=kP) P n;rw[j];refine⟨g.s3,d.cell rfl,AB (λJ=> ?_) λC=>v _ ⟨λh=>by(cases h),λ⟨e,he,_⟩=>by grind⟩ _ d⟩;obtain⟨e,he⟩: ∃e,P[pos kP P n]? =some e:=⟨_,List.getElem?_eq_getElem (by omega)⟩;obtain⟨b,y,h0,_⟩:=VR d he;refine⟨g.s3,d.cell rfl,?_⟩;rw[y];refine⟨⟨by omega,by omega⟩,e.1,h0,v _ ?_ _ d⟩
 grind
def hZ(hI:JE V P W){n:Int}:(∃e,P[pos kP P n]? =some e/\e.1=n)↔mem V.laid n:=by
 rw[hI.hp];exact⟨λ⟨e,he,h⟩=>⟨e,List.mem_of_getElem? he,h⟩,λ⟨e,he,h⟩=>⟨e,MQ hI.Ho he h,h⟩⟩
def RY(hI:JE V P W)(H:Sat (G3 E c V g P W++Z) w){page AA:Int}(h0:0<=page)(p0:0<=AA)(h1:page+AA<18446744073709551616){K:Int->Bool->World->Prop}
  (J:(∀m,page<=m->m<page+AA-> ¬mem V.laid m)-> ∀w',Sat (G3 E c V g P W++Z) w'->K 0 true w')
  (T: ∀m,mem V.laid m->page<=m->m<page+AA->m<34359738368-> ∀w',Sat (G3 E c V g P W++Z) w'->K (m+1) false w'):
  F.BL E (some ⟨c,0,none⟩) page AA K w:=by
 unfold F.BL T0.BL;refine Ma hI H λb _ w3 v=> ?_;have hl:=UH v;have hp:=MP (key:=kP) P page;simp only[AG];rw[AM (n:=page+AA) (by omega) h1];refine AU ⟨g.s3,v.cell rfl,AB (λaC=> ?_) λaB j=>AP rfl (J (λm h1 h2 O=> ?_) _ v)⟩
 .obtain⟨e,he⟩: ∃e,P[pos kP P page]? =some e:=⟨_,List.getElem?_eq_getElem (by omega)⟩;obtain⟨b,Y,aA,_⟩:=VR v he;have C:=pos_at he;have hr:=hI.dV (List.mem_of_getElem? he);unfold kP at C;refine⟨g.s3,v.cell rfl,?_⟩;rw[Y];refine⟨⟨by omega,by omega⟩,e.1,by grind,λj=>AB (λg1=> ?_) λg1=>J (λm h1 h2 O=> ?_) _ v⟩
  .refine⟨g.s3,v.cell rfl,?_⟩;rw[Y];refine⟨⟨by omega,by omega⟩,e.1,by grind,?_⟩;rw[AM (n:=e.1+1)];exact T e.1 (hI.wZ (List.mem_of_getElem? he)) C g1 hr.2 _ v
  .obtain⟨d,hd,hk⟩:=(hI.hp m).1 O;obtain⟨j,y⟩:=List.mem_iff_getElem?.1 hd;rcases Nat.lt_or_ge j (pos kP P page)with q|q
   .have:=Gv (key:=kP) y q;omega
   .rcases Nat.lt_or_eq_of_le q with q|q
    .have:=hI.Ho.lt he y q;unfold kP at this hk;omega
    .subst q;rw[he]at y;cases y;unfold kP at hk;omega
 .obtain⟨d,hd,hk⟩:=(hI.hp m).1 O;obtain⟨j,y⟩:=List.mem_iff_getElem?.1 hd;have:=(List.getElem?_eq_some_iff.1 y).1;have:=Gv (key:=kP) y (n:=page) (by omega);omega
def least(p:Nat->Prop): ∀n,p n-> ∃n,p n/\ ∀m,m<n-> ¬p m:=by
 intro n
 induction n using Nat.strongRecOn with
 | ind n ih=>grind
def iA{l:Iv}(K: ∀p,mem l p->p<34359738368)(d AA:Int)(hf:d<=34359738368): ∃a,Le l d AA a:=by
 have hex: ∃n:Nat,(512*(n:Int)) %512=0/\512<=512*(n:Int)/\d<=512*(n:Int)/\ ∀m,512*(n:Int)<=m->m<512*(n:Int)+AA-> ¬mem l m:=
  ⟨67108864,by decide,by decide,by omega,λm h1 _ y=>by grind⟩
 obtain⟨C,v⟩:=hex;obtain⟨n,hs,j⟩:=least (λn:Nat=>(512*(n:Int)) %512=0/\512<=512*(n:Int)/\d<=512*(n:Int)/\ ∀m,512*(n:Int)<=m->m<512*(n:Int)+AA-> ¬mem l m) C v;refine⟨512*(n:Int),hs.1,hs.2.1,hs.2.2.1,hs.2.2.2,λa J h1 h2 y=> ?_⟩;have:=j (a/512).toNat (by omega)
 grind
def RZ(hI:JE V P W)(H:Sat (G3 E c V g P W++Z) w){d AA:Int}(h0:0<=d)(h1:d<18446744073709551616)(p0:0<AA)(p1:AA<=134217728){K:Int->Bool->World->Prop}
  (aE:KT V.laid d AA-> ∀w',Sat (G3 E c V g P W++Z) w'->K 0 false w')
  (aO: ∀at_,V7 V.laid d AA at_-> ∀w',Sat (G3 E c V g P W++Z) w'->K at_ true w'):
  F.Bx E (some ⟨c,0,none⟩) d AA K w:=by
 unfold F.Bx T0.Bx;have main: ∀page:Int,0<page->page<18446744073709551616->d<=page->(∀a,a %512=0->512<=a->d<=a->a<page-> ∃m,a<=m/\m<a+AA/\mem V.laid m)->
   Az (Int×Unit) (page,()) w λs4 _ w5 aF=>
   CND (decide ((s4.1:Int)≥34359738368)) (
    K 0 false w5
   ) (
    Ai (Int×Unit) (λJ7=>
     512≠(0:Int)/\
     CND (((Int.tmod s4.1 512):Int) !=0) (
      512≠(0:Int)/\
      HX (u64 ((u64 (s4.1+512))-(Int.tmod s4.1 512)):Int) λaA=>
      J7 (aA,()) w5
     ) (
      J7 (s4.1,()) w5
     )
    ) λs8 _ w9=>
     Ai (Bool×Unit) (λT=>
      CND (decide ((s8.1:Int)≥34359738368)) (
       T (true,()) w9
      ) (
       T (decide ((AA:Int)>(u64 (34359738368-s8.1))),()) w9
      )
     ) λG4 _ aB=>
      CND (G4.1) (
       K 0 false aB
      ) (
       F.BL E (some ⟨c,0,none⟩) s8.1 AA (λC aG aC=>
       CND (aG) (
        K s8.1 true aC
       ) (
        aF (C,()) aC
       )
       ) aB
      )
   ):=by
  intro page J aD O y;refine AI (λst w'=>0<st.1/\st.1<18446744073709551616/\d<=st.1/\(∀a,a %512=0->512<=a->d<=a->a<st.1-> ∃m,a<=m/\m<a+AA/\mem V.laid m)/\Sat (G3 E c V g P W++Z) w') (λst _=>(34359738368+1-st.1).toNat) ⟨J,aD,O,y,H⟩ ?_;clear J aD O y H page;rintro⟨page,v⟩ _ w5 ⟨J,aD,O,y,H⟩;dsimp only at J aD O y⊢;have aJ: ∀p,mem V.laid p->p<34359738368:=λp hp=>(hI.ok.Ju p hp).2;have none: ∀page:Int,d<=page->(∀a,a %512=0->512<=a->d<=a->a<page-> ∃m,a<=m/\m<a+AA/\mem V.laid m)->34359738368<page+AA->KT V.laid d AA:=λpage O y aV=>by
   rcases Int.lt_or_le 34359738368 d with g|g
   .exact .inl g
   .obtain⟨a,ha⟩:=iA aJ d AA g;refine .inr ⟨a,ha,λh=> ?_⟩;rcases Int.lt_or_le a page with q|q
    .obtain⟨m,m1,m2,m3⟩:=y a ha.mul ha.low ha.fr q;exact ha.free m m1 m2 m3
    .omega
  refine AB (λaU=>aE (none page O y (by omega)) _ H) λaQ=> ?_;have cont: ∀q:Int,page<=q->q<page+512->q %512=0-> ∀j:Nat->Value,
    Ai (Bool×Unit) (λT=>
      CND (decide ((q:Int)≥34359738368)) (
       T (true,()) w5
      ) (
       T (decide ((AA:Int)>(u64 (34359738368-q))),()) w5
      )
     ) λG4 _ aB=>
      CND (G4.1) (
       K 0 false aB
      ) (
       F.BL E (some ⟨c,0,Option.none⟩) q AA (λC aG aC=>
       CND (aG) (
        K q true aC
       ) (
        ((0<C/\C<18446744073709551616/\d<=C/\(∀a,a %512=0->512<=a->d<=a->a<C-> ∃m,a<=m/\m<a+AA/\mem V.laid m)/\Sat (G3 E c V g P W++Z) aC)/\(34359738368+1-C).toNat<(34359738368+1-page).toNat)
       )
       ) aB
      ):=by
   intro q q0 q1 q8 j;have Y: ∀a,a %512=0->512<=a->d<=a->a<q-> ∃m,a<=m/\m<a+AA/\mem V.laid m:=λa a1 a2 a3 a4=>y a a1 a2 a3 (by omega);refine AU (AB (λg1 j=>AR rfl (aE (none q (by omega) Y (by omega)) _ H)) λg1=> ?_);rw[AM (n:=34359738368-q)];refine λj=>AB (λg2=>aE (none q (by omega) Y (by omega)) _ H) λg2=> ?_;refine RY hI H (by omega) (by omega) (by omega) (λaN w' H'=>AR rfl (aO q ⟨by omega,⟨q8,by omega,by omega,aN,Y⟩,by omega⟩ _ H')) λm m0 m1 m2 m3 w' H'=>AP rfl ⟨⟨by omega,by omega,by omega,λa a1 a2 a3 a4=> ?_,H'⟩,by omega⟩
   grind
  rw[Int.tmod_eq_emod_of_nonneg (by omega)];refine AU ⟨by decide,Gq (λhm=>⟨by decide,AY λq hq=> ?_⟩) λhm=>cont page (Int.le_refl _) (by omega) hm⟩;rw[AM (n:=page+512),AM]at hq;exact cont q (by omega) (by omega) (by omega)
 refine AU (Bc (λe j=>main 512 (by decide) (by decide) (by omega) λa _ a2 _ a4=>by omega) λe j=>main d (by omega) h1 (Int.le_refl _) λa _ _ a3 a4=>by omega)
def Yn(H:Sat (GU E c V::Z) w){n:Int}{K:Int->World->Prop}(v: ∀w',Sat (GU E c V::Z) w'->K (Ww V n) w'):F.Cw E (some ⟨c,0,none⟩) n K w:=by
 obtain⟨g,P,W,hI,H⟩:=Sat.UG.1 H;unfold F.Cw T0.Cw;refine Ma hI H λb j C d=> ?_;have fin:=v C (Sat.UG.2 ⟨g,P,W,hI,d⟩);have J:=UH d;cases b
 .refine AR rfl ?_;have: ¬mem V.laid n:=λh=>by have:=j.2 ((hZ hI).2 h);cases this
  have e:Ww V n=0:=by unfold Ww;rw[if_neg λh=>this (CJ.1 h)]
  grind
 .refine AP rfl ?_;obtain⟨e,he,hk⟩:=j.1 rfl;obtain⟨b,j,_,_,h1,_⟩:=VR d he;have y:=(List.getElem?_eq_some_iff.1 he).1;simp only[AG];refine⟨g.s3,d.cell rfl,?_⟩;rw[j];refine⟨⟨by omega,by omega⟩,e.2.1,by grind,?_⟩;rw[hI.hs e (List.mem_of_getElem? he),hk];exact fin
end
section
variable{V V':VS}{P:nS}{W W':qV}{p:Int}
def mY(h:UY V)(h2:mem V.ready p):Ww V p=2:=by
 rcases N6 h p with ⟨_,_,g,_⟩|⟨_,_,g,_⟩|⟨g,_⟩|⟨_,_,g,_⟩
 .grind
 .grind
 .exact g
 grind
def AA0(h:UY V)(h1:mem V.laid p)(h2: ¬mem V.ready p)(d: ¬mem V.rel p):Ww V p=1:=by
 rcases N6 h p with ⟨_,g,_⟩|⟨g,_⟩|⟨_,_,g,_⟩|⟨_,_,_,g⟩
 .grind
 .exact g
 .grind
 grind
def Qx(h1:mem V'.laid p↔mem V.laid p)(h2:mem V'.ready p↔mem V.ready p)(d:mem V'.rel p↔mem V.rel p):Ww V' p=Ww V p:=by
 have j:Ms V'.laid p=Ms V.laid p:=Bool.eq_iff_iff.2 (by rw[CJ,CJ];exact h1);have v:Ms V'.ready p=Ms V.ready p:=Bool.eq_iff_iff.2 (by rw[CJ,CJ];exact h2);have y:Ms V'.rel p=Ms V.rel p:=Bool.eq_iff_iff.2 (by rw[CJ,CJ];exact d);unfold Ww;grind
def JE.st(hI:JE V P W){e:Int×Int×Int}(he:e∈P):(e.2.1=1/\ ¬mem V.ready e.1/\ ¬mem V.rel e.1)∨(e.2.1=2/\mem V.ready e.1/\ ¬mem V.rel e.1)∨(e.2.1=3/\ ¬mem V.ready e.1/\mem V.rel e.1):=by
 have h:=hI.hs e he;have hm:=hI.wZ he;rcases N6 hI.ok e.1 with ⟨_,g,_⟩|⟨g1,_,g2,g3⟩|⟨g1,_,g2,g3⟩|⟨g1,_,g2,g3⟩
 .grind
 .grind
 .grind
 grind
def JE.is2(hI:JE V P W){e:Int×Int×Int}(he:e∈P):e.2.1=2↔mem V.ready e.1:=by
 rcases hI.st he with ⟨g,h,_⟩|⟨g,h,_⟩|⟨g,h,_⟩
 .grind
 .grind
 grind
def JE.is3(hI:JE V P W){e:Int×Int×Int}(he:e∈P):e.2.1=3↔mem V.rel e.1:=by
 rcases hI.st he with ⟨g,_,h⟩|⟨g,_,h⟩|⟨g,_,h⟩
 .grind
 .grind
 grind
def qX{F:Int×Int×Int->Int×Int×Int}(d: ∀e,kP (F e)=kP e)(hs:IW kP P):IW kP (P.map F):=by
 unfold IW;rw[List.pairwise_map];exact List.Pairwise.imp (λh=>by grind) hs
def map_set{F v:Int×Int×Int->Int×Int×Int}(hs:IW kP P){j:Nat}{e:Int×Int×Int}(y:P[j]? =some e)(h: ∀d∈P,d.1≠e.1->v d=F d):(P.map F).set j (v e)=P.map v:=by
 apply List.ext_getElem?;intro i;rw[List.getElem?_set,List.getElem?_map,List.getElem?_map,List.length_map];by_cases C:j=i
 .grind
 .rw[if_neg C];cases hd:P[i]? with
  | none=>rfl
  | some d=>
   have:d.1≠e.1:=by
    rcases Nat.lt_or_gt_of_ne C with q|q
    .have:=hs.lt y hd q;unfold kP at this;omega
    .have:=hs.lt hd y q;unfold kP at this;omega
   grind
def JE.full(hI:JE V P W){a:Int}{n:Nat}(hf: ∀m,a<=m->m<a+n->mem V.laid m){k:Nat}(hk:k<n): ∃e,P[pos kP P a+k]? =some e/\e.1=a+k:=by
 obtain⟨e,he,d⟩:=(hI.hp (a+k)).1 (hf _ (by omega) (by omega));have h1:=MQ hI.Ho he d;have h2:=dD hI.Ho hI.ok.LM hI.hp a k;rw[(El hI.ok.LM (by omega)).2 λm m1 j=>hf m m1 (by omega)]at h2;rw[show pos kP P (a+(k:Int))=pos kP P a+k by omega]at h1;exact⟨e,h1,d⟩
def JE.Wg(hI:JE V P W)(A6:UY V'){a:Int}{n:Nat}(O:V'.ready=V.ready)(hl:V'.rel=V.rel)(C:V'.wd=V.wd)(K: ∀x∈V'.pl,x∈V.pl)
  (hm: ∀p,mem V'.laid p↔mem V.laid p∨(a<=p/\p<a+n))(v: ∀p,a<=p->p<a+n-> ¬mem V.laid p):
  JE V' (P.take (pos kP P a)++((List.range n).map λi:Nat=>(a+(i:Int),(1:Int),(0:Int)))++P.drop (pos kP P a)) W:=by
 have d: ∀e,e∈P.take (pos kP P a)++((List.range n).map λi:Nat=>(a+(i:Int),(1:Int),(0:Int)))++P.drop (pos kP P a)↔e∈P∨ ∃i:Nat,i<n/\e=(a+(i:Int),1,0):=λe=>by
  rw[List.mem_append,List.mem_append,List.mem_map];constructor
  .grind
  .rintro(h|⟨i,h,rfl⟩)
   .rcases Int.lt_or_le (kP e) a with g|g
    .exact .inl (.inl (fY hI.Ho h g))
    .exact .inr (fZ h g)
   grind
 have T: ∀p,a<=p->p<a+n-> ¬mem V.ready p/\ ¬mem V.rel p:=λp h1 h2=>⟨λh=>v p h1 h2 (hI.ok.rl p h),λh=>v p h1 h2 (hI.ok.el p h)⟩;refine⟨A6,?_,hI.srw,λp=> ?_,λe he=> ?_,λe he=> ?_,λe he y i h0 h1 Y=> ?_,λx Y=>hI.cX x (K x Y)⟩
 .refine IW.gA (hI.Ho.take _) ?_ (hI.Ho.drop _) (a:=a) (b:=a+n) (by omega) (λe he=>(Kb he).2) (λe he=> ?_) λe he=> ?_
  .unfold IW;rw[List.pairwise_map];exact List.Pairwise.imp (λh=>by unfold kP;omega) List.pairwise_lt_range
  .obtain⟨i,J,rfl⟩:=List.mem_map.1 he;have:=List.mem_range.1 J;unfold kP;omega
  .have h1:=Kc hI.Ho he;rcases Int.lt_or_le (kP e) (a+n)with g|g
   .exact absurd (hI.wZ h1.1) (v _ h1.2 g)
   .exact g
 .rw[hm,hI.hp];constructor
  .rintro(⟨e,he,hk⟩|⟨h1,h2⟩)
   .grind
   .refine⟨(p,1,0),(d _).2 (.inr ⟨(p-a).toNat,by omega,?_⟩),rfl⟩
    grind
  .rintro⟨e,he,hk⟩;rcases(d e).1 he with h|⟨i,J,rfl⟩
   .grind
   .unfold kP at hk;omega
 .rcases(d e).1 he with h|⟨i,J,rfl⟩
  .rw[hI.hs e h];refine(Qx ⟨λg=> ?_,λg=>(hm _).2 (.inl g)⟩ (by rw[O]) (by rw[hl])).symm;exact hI.wZ h
  .have:=T (a+(i:Int)) (by omega) (by omega);exact(AA0 A6 ((hm _).2 (.inr ⟨by dsimp only;omega,by omega⟩)) (by grind) (by grind)).symm
 .rw[O,C];exact hI.hw e he
 .rw[O]at y;rcases(d e).1 he with h|⟨j,hj,rfl⟩
  .rw[C];exact hI.hf e h y i h0 h1 Y
  grind
def cF(V:VS)(page x:Int)(e:Int×Int×Int):Int×Int×Int:=if page<=e.1/\e.1<x/\e.2.1≠2 then(e.1,2,if e.2.1=3 then HL V page e.1 else 0)else e
def UI(V:VS)(page x:Int)(e:Int×Int×Int):kP (cF V page x e)=kP e:=by unfold cF;split<;>rfl
def JE.On(hI:JE V P W){page AA:Int}(A6:UY V')(h1:V'.laid=V.laid)(h2: ∀p,mem V'.ready p↔mem V.ready p∨(page<=p/\p<page+AA))(K: ∀p,mem V'.rel p↔mem V.rel p/\ ¬(page<=p/\p<page+AA))
  (C: ∀p i,V'.wd p i=if page<=p/\p<page+AA/\Ms V.rel p=true then HL V page p else V.wd p i)(J: ∀x∈V'.pl,x∈V.pl):JE V' (P.map (cF V page (page+AA))) W:=by
 refine⟨A6,qX (UI V page _) hI.Ho,hI.srw,λp=> ?_,λe' d=> ?_,λx y=> ?_,λe' d v i i0 i1 y=> ?_,λx y=>hI.cX x (J x y)⟩
 .rw[h1,hI.hp];constructor
  .rintro⟨e,he,hk⟩;exact⟨_,List.mem_map_of_mem he,(UI V page _ e).trans hk⟩
  .rintro⟨e',d,hk⟩;obtain⟨e,he,rfl⟩:=List.mem_map.1 d;exact⟨e,he,(UI V page _ e).symm.trans hk⟩
 .obtain⟨e,he,rfl⟩:=List.mem_map.1 d;have hk:(cF V page (page+AA) e).1=e.1:=UI V page _ e;rw[hk];unfold cF;by_cases c:page<=e.1/\e.1<page+AA/\e.2.1≠2
  .rw[if_pos c];exact(mY A6 ((h2 _).2 (.inr ⟨c.1,c.2.1⟩))).symm
  .rw[if_neg c];by_cases c2:mem V.ready e.1
   .rw[(hI.is2 he).2 c2];exact(mY A6 ((h2 _).2 (.inl c2))).symm
   .have c3: ¬(page<=e.1/\e.1<page+AA):=λg=>c ⟨g.1,g.2,λk=>c2 ((hI.is2 he).1 k)⟩;rw[hI.hs e he];refine(Qx (by rw[h1]) ?_ ?_).symm
    .grind
    grind
 .obtain⟨g1,g2,g3⟩:=hI.hw x y;refine⟨g1,(h2 _).2 (.inl g2),?_⟩;rw[C,if_neg λg=>hI.ok.re _ g2 (CJ.1 g.2.2)];exact g3
 .obtain⟨e,he,rfl⟩:=List.mem_map.1 d;have hk:(cF V page (page+AA) e).1=e.1:=UI V page _ e;rw[hk]at v y⊢;rw[C];rcases hI.st he with ⟨s,r1,r2⟩|⟨s,r1,r2⟩|⟨s,r1,r2⟩
  .have j:=((h2 _).1 v).resolve_left r1;rw[if_neg λg=>r2 (CJ.1 g.2.2)];unfold cF;rw[if_pos ⟨j.1,j.2,by omega⟩];dsimp only;rw[if_neg (by omega)];exact hI.ok.clean _ _ i0 i1 r1
  .rw[if_neg λg=>r2 (CJ.1 g.2.2)];unfold cF;rw[if_neg λg=>g.2.2 s];exact hI.hf e he r1 i i0 i1 y
  .have j:=((h2 _).1 v).resolve_left r1;rw[if_pos ⟨j.1,j.2,CJ.2 r2⟩];unfold cF
   grind
def UY.congr(h:UY V)(h1:V'.laid=V.laid)(h2:V'.ready=V.ready)(d:V'.rel=V.rel)(hw: ∀p i,0<=i->i<1024-> ¬mem V.ready p->V'.wd p i=0):UY V':=
 ⟨by rw[h1];exact h.LM,by rw[h2];exact h.Pj,by rw[d];exact h.U6,by rw[h1,h2];exact h.rl,by rw[h1,d];exact h.el,by rw[h2,d];exact h.re,by rw[h1];exact h.Ju,by grind,by rw[h1,h2,d];exact h.u6⟩
def JE.congr(hI:JE V P W)(h1:V'.laid=V.laid)(h2:V'.ready=V.ready)(J:V'.rel=V.rel)(v: ∀x∈V'.pl,x∈V.pl)(j: ∀p i,0<=i->i<1024->V'.wd p i=V.wd p i):JE V' P W:=by
 refine⟨hI.ok.congr h1 h2 J λp i i0 i1 h=>by rw[j p i i0 i1];exact hI.ok.clean p i i0 i1 h,hI.Ho,hI.srw,λp=>by rw[h1];exact hI.hp p,λe he=> ?_,λy C=> ?_,λe he d i i0 i1 K=> ?_,λy C=>hI.cX y (v y C)⟩
 .rw[hI.hs e he];exact(Qx (by rw[h1]) (by rw[h2]) (by rw[J])).symm
 .obtain⟨g1,g2,g3⟩:=hI.hw y C
  grind
 .rw[h2]at d;rw[j _ _ i0 i1];exact hI.hf e he d i i0 i1 K
end
def sE{F:List Pr}{w:World}{t:Nat}{x y z:Int}(H:Sat F w){K:Nat->World->Prop}(J: ∀b w',Sat (Cells b t [.int .u64 x,.int .i64 y,.int .u64 z]::F) w'->K b w'):
  AL (.cells #[.int .u64 0,.int .i64 0,.int .u64 0] t) w λb w1=>stCells (Addr.mk b 0 none) 0 [.int .u64 x,.int .i64 y,.int .u64 z] w1 λd=>K b d:=by
 refine AO (vs:=[.int .u64 0,.int .i64 0,.int .u64 0]) H λb w1 H1 _=> ?_;exact Fp (news:=[.int .u64 x,.int .i64 y,.int .u64 z]) H1 rfl (by intro v j;simp at j;rcases j with rfl|rfl|rfl<;>rfl) λd C=>J b d C
section
variable{E:Env}{c:Nat}{V:VS}{Z:List Pr}{w:World}{g:MG}{P:nS}{W:qV}
def AA1{s:AX}{P':nS}(H:Sat (Row E.Ap 3 s (Ao iP P')::(G3 E c V g P W++Z)) w){K:World->Prop}(j: ∀w',Sat (G3 E c V {g with s3:=s} P' W++Z) w'->K w'):
  stCells ((Addr.mk c 0 none).add 3) 0 [.slice s.base s.len s.cap] w K:=by
 refine Ab (H.front 1 rfl) (o:=0) (m:=3) rfl (by simp[Qw]) λw' d=>j w' ?_;have h1:=(d.front 5 rfl).tail;exact Sat.Ol [Cells c E.Au (Qw {g with s3:=s}),Js g.s0 (ints .u64 V.pl),Js g.s1 (BB V.rf),Js g.s2 (ints .u64 V.fl)] (T:=Row E.HO 2 g.s4 (Ao wd2 W)::Z) (h1.front 1 rfl)
def Wh(H:Sat (GU E c V::Z) w){page AA:Int}(h0:0<=page)(h1:page<18446744073709551616)(p0:0<=AA)(p1:AA<18446744073709551616){K:Int->World->Prop}
  (cD: ¬Iu page AA-> ∀w',Sat (GU E c V::Z) w'->K 1 w')
  (bP:Iu page AA->cnt V.laid page (page+AA)≠AA-> ∀w',Sat (GU E c V::Z) w'->K 33 w')
  (cE:Iu page AA->cnt V.laid page (page+AA)=AA->cnt V.ready page (page+AA)=AA-> ∀w',Sat (GU E c V::Z) w'->K 0 w')
  (cG:Iu page AA->cnt V.laid page (page+AA)=AA->cnt V.ready page (page+AA)≠AA-> ∀r,V.rf=true::r-> ∀w',Sat (GU E c {V with rf:=r}::Z) w'->K 13 w')
  (cH:Iu page AA->cnt V.laid page (page+AA)=AA->cnt V.ready page (page+AA)≠AA->(∀r,V.rf≠true::r)-> ∀w',(UY (IA V page AA)->Sat (GU E c (IA V page AA)::Z) w')->K 0 w'):
  F.Cd E (some ⟨c,0,none⟩) page AA K w:=by
 have H0:=H;obtain⟨g,P,W,hI,H⟩:=Sat.UG.1 H;have back: ∀w',Sat (G3 E c V g P W++Z) w'->Sat (GU E c V::Z) w':=λw' H'=>Sat.UG.2 ⟨g,P,W,hI,H'⟩;unfold F.Cd T0.Cd;refine RX h0 p0 λbr b9=> ?_;cases br
 .exact AR rfl (cD (λh=>by grind) _ H0)
 have y:=b9.1 rfl;have cJ:=y;unfold Iu at cJ;have hA:page<page+AA:=by omega
 have hB:page+AA<18446744073709551616:=by omega
 refine AP rfl (Ma hI H λb3 c7 w5 H5=> ?_);have hl:=UH H5;have c9:=hI.vY;have hp:=MP (key:=kP) P page;simp only[AG];refine⟨g.s3,H5.cell rfl,?_⟩;rw[AF (n:=((g.s3.len:Nat):Int)-(pos kP P page:Nat)),AM (n:=((g.s3.len:Nat):Int)-(pos kP P page:Nat))];have aI:cnt V.laid page (page+AA)=AA↔ ∀m,page<=m->m<page+AA->mem V.laid m:=by
  have:=El hI.ok.LM (a:=page) (b:=page+AA) (by omega)
  grind
 have aQ:cnt V.ready page (page+AA)=AA↔ ∀m,page<=m->m<page+AA->mem V.ready m:=by
  have:=El hI.ok.Pj (a:=page) (b:=page+AA) (by omega)
  grind
 have aU:cnt V.laid page (page+AA)=AA-> ∀k:Nat,(k:Int)<AA-> ∃e,P[pos kP P page+k]? =some e/\e.1=page+k:=λhc k hk=>by
  have:=hI.full (a:=page) (n:=AA.toNat) (λm m1 m2=>aI.1 hc m m1 (by omega)) (k:=k) (by omega);exact this
 refine AB (λdA=>bP y (λhc=> ?_) _ (back _ H5)) λhle=> ?_
 .obtain⟨e,he,_⟩:=aU hc (AA.toNat-1) (by omega)
  grind
 refine AI (λst w'=>Sat (G3 E c V g P W++Z) w'/\ ∃i:Nat,st.2.1=i/\(i:Int)<=AA/\(∀k:Nat,k<i-> ∃e,P[pos kP P page+k]? =some e/\e.1=page+k)/\(st.1=true↔ ∀m,page<=m->m<page+i->mem V.ready m)) (λst _=>(AA-st.2.1).toNat)
  ⟨H5,0,rfl,by show(0:Int)<=AA;omega,λk hk=>by omega,⟨λ_ m m1 m2=>by omega,λ_=>rfl⟩⟩ ?_
 rintro⟨rd,i',v⟩ _ w9 ⟨H9,i,hi,bN,bF,aZ⟩;dsimp only at hi aZ⊢;subst hi;refine AB (λbQ=> ?_) λcC=> ?_
 .obtain⟨e,he⟩: ∃e,P[pos kP P page+i]? =some e:=⟨_,List.getElem?_eq_getElem (by omega)⟩;obtain⟨b,hb,_,c0,c1,c2⟩:=VR H9 he;have Y:=List.mem_of_getElem? he;have cB:=hI.dV Y;rw[AF (n:=(i:Int)),AF (n:=(pos kP P page:Nat)+(i:Int)),AM (n:=page+(i:Int)),AM (n:=(i:Int)+1)];refine⟨g.s3,H9.cell rfl,?_⟩;rw[hb];have et:Int.toNat ((pos kP P page:Nat)+(i:Int))=pos kP P page+i:=by omega
  rw[et];refine⟨⟨by omega,by omega⟩,e.1,c0,e.2.1,c1,e.2.2,c2,sE H9 λcZ dF aG=>⟨e.1,aG.Af rfl,Gq (λdC=>bP y (λhc=> ?_) _ (back _ aG.tail)) λheq=> ?_⟩⟩
  .grind
  .have aH: ∀k:Nat,k<i+1-> ∃e,P[pos kP P page+k]? =some e/\e.1=page+k:=λk hk=>by
    rcases Nat.lt_or_eq_of_le (Nat.le_of_lt_succ hk)with q|q
    .grind
    grind
   refine AS (λht=>⟨e.2.1,aG.cell rfl,⟨aG.tail,i+1,by omega,by omega,aH,?_⟩,by omega⟩) λhf=>⟨⟨aG.tail,i+1,by omega,by omega,aH,?_⟩,by omega⟩
   .rw[beq_iff_eq,hI.is2 Y];have:=aZ.1 ht;constructor
    .intro h m m1 m2;rcases Int.lt_or_le m (page+i)with q|q
     .exact this m m1 q
     .rw[show m=e.1 by omega];exact h
    .intro h;exact h e.1 (by omega) (by omega)
   grind
 .have bO:(i:Int)=AA:=by omega
  have hc:cnt V.laid page (page+AA)=AA:=aI.2 λm m1 m2=>by
   obtain⟨e,he,hk⟩:=bF (m-page).toNat (by omega);have:=hI.wZ (List.mem_of_getElem? he)
   grind
  refine AS (λht=>cE y hc (aQ.2 λm m1 m2=>aZ.1 ht m m1 (by omega)) _ (back _ H9)) λhf=> ?_;have aF:cnt V.ready page (page+AA)≠AA:=λh=>by grind
  have main:(∀r,V.rf≠true::r)-> ∀(s1:AX) (a5:World),Sat (G3 E c {V with rf:=V.rf.tail} {g with s1:=s1} P W++Z) a5->
    Az (Int×Unit) (0,()) a5 λMr _ aA aD=>
     CND (decide ((Mr.1:Int)<(i64 (AA)))) (
      NC (some (Addr.mk c 0 none)) λcM=>
      ∃aL:AX,aA.cell? (cM.add 3)=some (.slice aL.base aL.len aL.cap)/\
      NC aL.base λa1=>
      ((0:Int)<=(i64 ((pos kP P page:Nat)+Mr.1))/\((i64 ((pos kP P page:Nat)+Mr.1)):Int)<(aL.len:Nat))/\
      ∃bC:Int,aA.cell? ((a1.add (Int.toNat (i64 ((pos kP P page:Nat)+Mr.1))*3)).add 0)=some (.int .u64 bC)/\
      ∃bD:Int,aA.cell? ((a1.add (Int.toNat (i64 ((pos kP P page:Nat)+Mr.1))*3)).add 1)=some (.int .i64 bD)/\
      ∃bE:Int,aA.cell? ((a1.add (Int.toNat (i64 ((pos kP P page:Nat)+Mr.1))*3)).add 2)=some (.int .u64 bE)/\
      AL (.cells #[.int .u64 0,.int .i64 0,.int .u64 0] E.Ap) aA λaC cT=>
      stCells (Addr.mk aC 0 none) 0 [.int .u64 bC,.int .i64 bD,.int .u64 bE] cT λO=>
      ∃bT:Int,O.cell? ((Addr.mk aC 0 none).add 1)=some (.int .i64 bT)/\
      CND ((bT:Int)==2) (
       aD (i64 (Mr.1+1),()) O
      ) (
       Ai (Int×Unit) (λbA=>
        Ai (Bool×Unit) (λbB=>
         ∃bU:Int,O.cell? ((Addr.mk aC 0 none).add 1)=some (.int .i64 bU)/\
         CND ((bU:Int)==3) (
          NC (some (Addr.mk c 0 none)) λcN=>
          ∃aS:AX,O.cell? (cN.add 2)=some (.slice aS.base aS.len aS.cap)/\
          bB (decide ((((aS.len:Nat):Int):Int)>0),()) O
         ) (
          bB (false,()) O
         )
        ) λuF _ aK=>
         CND (uF.1) (
          NC (some (Addr.mk c 0 none)) λcO=>
          ∃aM:AX,aK.cell? (cO.add 2)=some (.slice aM.base aM.len aM.cap)/\
          NC aM.base λcP=>
          ((0:Int)<=0/\(0:Int)<(aM.len:Nat))/\
          ∃bV:Int,aK.cell? (cP.add (Int.toNat 0*1))=some (.int .u64 bV)/\
          NC (some (Addr.mk c 0 none)) λcQ=>
          ∃aB:AX,aK.cell? (cQ.add 2)=some (.slice aB.base aB.len aB.cap)/\
          ((0:Int)<=1/\(1:Int)<=(aB.len:Nat))/\
          NC (some (Addr.mk c 0 none)) λcR=>
          stCells (cR.add 2) 0 [.slice (GN aB.base aB.cap (Int.toNat 1) 1) (aB.len-(Int.toNat 1)) (aB.cap-(Int.toNat 1))] aK λa6=>
          bA (bV,()) a6
         ) (
          bA (0,()) aK
         )
       ) λxU _ T=>
        NC (some (Addr.mk c 0 none)) λcS=>
        ∃C:AX,T.drew.cell? (cS.add 3)=some (.slice C.base C.len C.cap)/\
        ∃aN:Int,T.drew.cell? (Addr.mk aC 0 none)=some (.int .u64 aN)/\
        NC C.base λa2=>
        ((0:Int)<=(i64 ((pos kP P page:Nat)+Mr.1))/\((i64 ((pos kP P page:Nat)+Mr.1)):Int)<(C.len:Nat))/\
        stCells (a2.add (Int.toNat (i64 ((pos kP P page:Nat)+Mr.1))*3)) 0 [.int .u64 aN,.int .i64 2,.int .u64 xU.1] T.drew λaR=>
        aD (i64 (Mr.1+1),()) aR
      )
     ) (
      K 0 aA
     ):=by
   intro cK s1 a5 bZ;have bH:P.map (cF V page (page+((0:Nat):Int)))=P:=by
    rw[show P=P.map id by simp,List.map_map];exact List.map_congr_left λe _=>by show cF V page (page+((0:Nat):Int)) e=e;unfold cF;rw[if_neg (by omega)]
   have bI:cnt V.rel page (page+((0:Nat):Int))=0:=(Dn hI.ok.U6 (by omega)).2 λn n1 n2=>by omega
   rw[AF (n:=AA)];refine AI (λst w'=> ∃i:Nat,st.1=i/\(i:Int)<=AA/\ ∃s2,Sat (G3 E c {V with rf:=V.rf.tail,fl:=V.fl.drop (cnt V.rel page (page+i)).toNat} {g with s1:=s1,s2:=s2} (P.map (cF V page (page+i))) W++Z) w') (λst _=>(AA-st.1).toNat)
    ⟨0,rfl,by show(0:Int)<=AA;omega,g.s2,by rw[bH,bI];exact bZ⟩ ?_
   rintro⟨i',v⟩ _ aA ⟨i,hi,bN,s2,aE⟩;dsimp only at hi⊢;subst hi;refine AB (λbQ=> ?_) λcC=> ?_
   .obtain⟨e,he,aY⟩:=aU hc i bQ;have Y:=List.mem_of_getElem? he;have hlen:=(List.getElem?_eq_some_iff.1 he).1;have cB:=hI.dV Y;have c8:=DM V.rel page (page+i);have aP:=JI hI.ok.U6 (a:=page) (k:=page+i) (by omega);have b6:page+(i:Int)+1=page+((i+1:Nat):Int):=by omega
    rw[b6]at aP;have bK:(P.map (cF V page (page+i)))[pos kP P page+i]? =some e:=by
     rw[List.getElem?_map,he];show some (cF V page (page+i) e)=some e;unfold cF;grind
    have bR: ∀d∈P,d.1≠e.1->cF V page (page+((i+1:Nat):Int)) d=cF V page (page+i) d:=λd _ hd=>by
     unfold cF;by_cases q:page<=d.1/\d.1<page+i/\d.2.1≠2
     .grind
     .rw[if_neg q,if_neg λq2=>q ⟨q2.1,by omega,q2.2.2⟩]
    have cI:=UH aE;rw[List.length_map]at cI;simp only[AG];rw[AF (n:=(pos kP P page:Nat)+(i:Int)),AF (n:=(i:Int)+1)];have et:Int.toNat ((pos kP P page:Nat)+(i:Int))=pos kP P page+i:=by omega
    rw[et];obtain⟨b,hb,_,c0,c1,c2⟩:=VR aE bK;refine⟨_,aE.cell rfl,?_⟩;rw[hb];refine⟨⟨by omega,by omega⟩,e.1,c0,e.2.1,c1,e.2.2,c2,sE aE λaC O J=>⟨e.2.1,J.cell rfl,Bc (λa4=> ?_) λa4=> ?_⟩⟩
    .refine⟨⟨i+1,by omega,by omega,s2,?_⟩,by omega⟩;have aF: ¬mem V.rel (page+i):=by rw[<-aY];exact hI.ok.re _ ((hI.is2 Y).1 a4)
     have em:P.map (cF V page (page+((i+1:Nat):Int)))=P.map (cF V page (page+i)):=List.map_congr_left λd hd=>by
      by_cases q:d.1=e.1
      .have:d=e:=hI.Ho.inj hd Y q;subst this;unfold cF;grind
      grind
     rw[em,aP.2 aF];exact J.tail
    .-- the page's fill, and what is left of the fills
     have fin: ∀(fill:Int) (a3:AX) (T:World),cF V page (page+((i+1:Nat):Int)) e=(e.1,2,fill)->
       Sat (Cells aC E.Ap [.int .u64 e.1,.int .i64 e.2.1,.int .u64 e.2.2]::(G3 E c {V with rf:=V.rf.tail,fl:=V.fl.drop (cnt V.rel page (page+((i+1:Nat):Int))).toNat} {g with s1:=s1,s2:=a3} (P.map (cF V page (page+i))) W++Z)) T->
       ∃C:AX,T.drew.cell? ((Addr.mk c 0 none).add 3)=some (.slice C.base C.len C.cap)/\
        ∃aN:Int,T.drew.cell? (Addr.mk aC 0 none)=some (.int .u64 aN)/\
        NC C.base λa2=>
        ((0:Int)<=((pos kP P page:Nat)+(i:Int))/\((pos kP P page:Nat)+(i:Int))<(C.len:Nat))/\
        stCells (a2.add ((pos kP P page+i)*3)) 0 [.int .u64 aN,.int .i64 2,.int .u64 fill] T.drew λaR=>
        (∃k:Nat,(i:Int)+1=k/\(k:Int)<=AA/\ ∃s2,Sat (G3 E c {V with rf:=V.rf.tail,fl:=V.fl.drop (cnt V.rel page (page+k)).toNat} {g with s1:=s1,s2:=s2} (P.map (cF V page (page+k))) W++Z) aR)/\(AA-((i:Int)+1)).toNat<(AA-(i:Int)).toNat:=by
      intro fill a3 T aX b1;have Hd:=b1.drew;have dB:=UH Hd.tail;obtain⟨b',bG,_⟩:=VR Hd.tail bK;refine⟨_,(Hd.front 1 rfl).cell rfl,e.1,Hd.Af rfl,?_⟩;rw[bG];refine⟨⟨by omega,by grind⟩,?_⟩;refine vA Il SX (Hd.front 5 rfl) (i:=pos kP P page+i) (by grind) (e.1,2,fill) bG λaR b5=>⟨⟨i+1,by omega,by omega,a3,?_⟩,by omega⟩;have a8:=(Sat.back 5 b5 (by simp[G3])).tail;rw[<-aX,map_set hI.Ho he bR]at a8;exact a8
     have hF:cF V page (page+((i+1:Nat):Int)) e=(e.1,2,if e.2.1=3 then HL V page e.1 else 0):=by
      unfold cF;rw[if_pos ⟨by omega,by omega,a4⟩]
     refine AU (AU ⟨e.2.1,J.cell rfl,Bc (λaJ=> ?_) λaJ j=>AP rfl λj=> ?_⟩)
     .have bS:mem V.rel (page+i):=by rw[<-aY];exact(hI.is3 Y).1 aJ
      rw[if_pos aJ]at hF;have bJ:=aP.1 bS;have bL:=(J.front 4 rfl).MD;refine⟨s2,(J.front 1 rfl).cell rfl,λj=>AB (λcW=> ?_) λhz=> ?_⟩
      .cases hd:V.fl.drop (cnt V.rel page (page+i)).toNat with
       | nil=>have:=bL.1;dsimp only at this;rw[hd]at this;simp[ints]at this;omega
       | cons x r=>
        obtain⟨a,ha,Cr⟩:=(J.front 4 rfl).NH (j:=0) (v:=.int .u64 x) (by dsimp only;rw[hd];rfl);refine⟨s2,(J.front 1 rfl).cell rfl,?_⟩;rw[ha];refine⟨⟨by decide,by omega⟩,x,Cr,s2,(J.front 1 rfl).cell rfl,⟨by decide,by omega⟩,?_⟩;have b0:=Sat.back 4 ((J.front 4 rfl).NI (n:=1) (show 1<=s2.len by omega)) (by simp[G3]);have hx:HL V page e.1=x:=by
         unfold HL;rw[aY];have:V.fl[(cnt V.rel page (page+i)).toNat]? =some x:=by
          have:=congrArg (λl=>l[0]?) hd
          grind
         grind
        have cA:(V.fl.drop (cnt V.rel page (page+i)).toNat).drop 1=V.fl.drop (cnt V.rel page (page+((i+1:Nat):Int))).toNat:=by
         rw[List.drop_drop,bJ];congr 1;omega
        rw[hx]at hF;refine Ab (b0.front 1 rfl) (o:=0) (m:=2) rfl (by simp[Qw]) λa6 b4 j=>fin x ⟨GN s2.base s2.cap (Int.toNat 1) 1,s2.len-Int.toNat 1,s2.cap-Int.toNat 1⟩ a6 hF ?_;have aV:=Sat.back 1 b4 (by simp[G3]);have e1:(ints IntKind.u64 (V.fl.drop (cnt V.rel page (page+i)).toNat)).drop 1=ints .u64 (V.fl.drop (cnt V.rel page (page+((i+1:Nat):Int))).toNat):=by
         rw[<-cA];simp[ints]
        dsimp only at aV;rw[e1]at aV;exact aV
      .have aT:V.fl.drop (cnt V.rel page (page+i)).toNat=[]:=by
        have:=bL.1;dsimp only at this;have:(ints IntKind.u64 (V.fl.drop (cnt V.rel page (page+i)).toNat)).length=0:=by omega
        rw[ints,List.length_map]at this
        grind
       have cV:=List.drop_eq_nil_iff.1 aT;have hx:HL V page e.1=0:=by
        unfold HL
        grind
       rw[hx]at hF;refine λj=>fin 0 s2 O hF ?_;have:V.fl.drop (cnt V.rel page (page+((i+1:Nat):Int))).toNat=V.fl.drop (cnt V.rel page (page+i)).toNat:=by
        rw[aT,List.drop_eq_nil_iff];omega
       grind
     .have aF: ¬mem V.rel (page+i):=λh=>aJ ((hI.is3 Y).2 (by grind));rw[if_neg aJ]at hF;refine fin 0 s2 O hF ?_;rw[aP.2 aF];exact J
   .have bO:(i:Int)=AA:=by omega
    refine cH y hc aF cK aA λA6=> ?_;rw[bO]at aE;refine Sat.UG.2 ⟨{g with s1:=s1,s2:=s2},P.map (cF V page (page+AA)),W,hI.On A6 rfl (λp=> ?_) (λp=> ?_) (λp i=>rfl) (λx hx=>hx),aE⟩
    .exact ER hI.ok.Pj hA h0 hB p
    .exact Ek hA
  refine OR H9 (λe=>AP rfl (main (λr h=>by grind) g.s1 w9 ?_)) λx r e s w' H'=> ?_
  .have:V.rf.tail=V.rf:=by rw[e];rfl
   rw[this];exact H9
  .cases x
   .refine AP rfl (main (λr h=>by grind) s w' ?_);rw[e];exact H'
   .exact AR rfl (cG y hc aF r e w' (Sat.UG.2 ⟨_,P,W,hI.congr rfl rfl rfl (λx hx=>hx) λ_ _ _ _=>rfl,H'⟩))
end
section
variable{E:Env}{c:Nat}{V:VS}{Z:List Pr}{w:World}{g:MG}{P:nS}{W:qV}
end
section
variable{E:Env}{c:Nat}{V:VS}{Z:List Pr}{w:World}{g:MG}{P:nS}{W:qV}
def Uf(H:Sat (GU E c V::Z) w){hint AA:Int}(h0:0<=hint)(h1:hint<18446744073709551616)(p0:0<=AA)(p1:AA<18446744073709551616){K:Int->Int->World->Prop}
  (aS:(AA=0∨AA %512≠0∨134217728<AA)->K 0 1 w)
  (bV: ¬(AA=0∨AA %512≠0∨134217728<AA)-> ∀r,V.rf=true::r-> ∀w',Sat (GU E c {V with rf:=r}::Z) w'->K 0 13 w')
  (bW: ¬(AA=0∨AA %512≠0∨134217728<AA)->(∀r,V.rf≠true::r)->Lv V hint AA-> ∀w',Sat (GU E c {V with rf:=V.rf.tail,pl:=V.pl.tail}::Z) w'->K 0 13 w')
  (bX: ¬(AA=0∨AA %512≠0∨134217728<AA)->(∀r,V.rf≠true::r)-> ∀at_,512<=at_->at_+AA<=34359738368->Hf V hint AA at_-> ∀w',(UY {V with rf:=V.rf.tail,pl:=V.pl.tail,laid:=Dl V.laid at_ (at_+AA)}->Sat (GU E c {V with rf:=V.rf.tail,pl:=V.pl.tail,laid:=Dl V.laid at_ (at_+AA)}::Z) w')->K at_ 0 w'):
  F.CU E (some ⟨c,0,none⟩) hint AA K w:=by
 unfold F.CU T0.CU;rw[Int.tmod_eq_emod_of_nonneg p0];refine AU (Bc (λe j=>AR rfl (aS (.inl e))) λn1=>⟨by decide,Gq (λe j=>AR rfl (aS (.inr (.inl e)))) λn2 j=>AB (λe=>aS (.inr (.inr e))) λn3=> ?_⟩);have aE: ¬(AA=0∨AA %512≠0∨134217728<AA):=by omega
 have aA:0<AA:=by omega
 obtain⟨g,P,W,hI,H⟩:=Sat.UG.1 H;have aG:(∀r,V.rf≠true::r)-> ∀(s1:AX) (w5:World),Sat (G3 E c {V with rf:=V.rf.tail} {g with s1:=s1} P W++Z) w5->
    Ai (Int×Bool×Unit) (λJ6=>
     NC (some (Addr.mk c 0 none)) λp9=>
     ∃aN:AX,w5.cell? p9=some (.slice aN.base aN.len aN.cap)/\
     CND (decide ((((aN.len:Nat):Int):Int)>0)) (
      NC (some (Addr.mk c 0 none)) λb5=>
      ∃aI:AX,w5.cell? b5=some (.slice aI.base aI.len aI.cap)/\
      NC aI.base λb6=>
      ((0:Int)<=0/\(0:Int)<(aI.len:Nat))/\
      ∃T:Int,w5.cell? (b6.add (Int.toNat 0*1))=some (.int .u64 T)/\
      NC (some (Addr.mk c 0 none)) λb7=>
      ∃y:AX,w5.cell? b7=some (.slice y.base y.len y.cap)/\
      ((0:Int)<=1/\(1:Int)<=(y.len:Nat))/\
      NC (some (Addr.mk c 0 none)) λb8=>
      stCells b8 0 [.slice (GN y.base y.cap (Int.toNat 1) 1) (y.len-(Int.toNat 1)) (y.cap-(Int.toNat 1))] w5 λaB=>
      Ai (Bool×Unit) (λaQ=>
       CND (decide ((T:Int)>0)) (
        512≠(0:Int)/\
        CND (((Int.tmod T 512):Int)==0) (
         F.Fj E T AA (λcC cI=>
         aQ (cC,()) cI
         ) aB
        ) (
         aQ (false,()) aB
        )
       ) (
        aQ (false,()) aB
       )
      ) λUW _ bF=>
       CND (UW.1) (
        F.BL E (some (Addr.mk c 0 none)) T AA (λc8 cD cJ=>
        J6 (T,cD,()) cJ
        ) bF
       ) (
        J6 (T,UW.1,()) bF
       )
     ) (
      J6 (0,false,()) w5
     )
    ) λs7 _ w8=>
     Ai (Int×Bool×Unit) (λa3=>
      CND (!s7.2.1) (
       F.Bx E (some (Addr.mk c 0 none)) hint AA (λcE cF cK=>
       a3 (cE,cF,()) cK
       ) w8
      ) (
       a3 (s7.1,s7.2.1,()) w8
      )
     ) λOf _ aV=>
      Ai (Int×Bool×Unit) (λa4=>
       CND (!Of.2.1) (
        F.Bx E (some (Addr.mk c 0 none)) 0 AA (λcG cH cL=>
        a4 (cG,cH,()) cL
        ) aV
       ) (
        a4 (Of.1,Of.2.1,()) aV
       )
      ) λUw _ aW=>
       CND (!Uw.2.1) (
        K 0 13 aW
       ) (
        F.DG E (some (Addr.mk c 0 none)) Uw.1 (λd c9 bG=>
        AL (.cells ⟨[]⟩ E.Ap) bG λa5 aX=>
        NC (some (Addr.mk c 0 none)) λb9=>
        ∃Y:AX,aX.cell? (b9.add 3)=some (.slice Y.base Y.len Y.cap)/\
        ((0:Int)<=d/\(d:Int)<=(Y.cap:Nat))/\
        APP E.Ap 3 24 #[.int .u64 0,.int .i64 0,.int .u64 0] ⟨(some (Addr.mk a5 0 none)),0,0⟩ ⟨(GN Y.base Y.cap 0 3),(Int.toNat d),Y.cap⟩ aX λTI bH=>
        Az (AX×Int×Unit) (TI,0,()) bH λcO _ aL aK=>
         CND (decide ((cO.2.1:Int)<AA)) (
          AL (.cells ⟨[.int .u64 (u64 (Uw.1+cO.2.1)),.int .i64 1,.int .u64 0]⟩ E.Ap) aL λa6 bI=>
          APP E.Ap 3 24 #[.int .u64 0,.int .i64 0,.int .u64 0] cO.1 ⟨(some (Addr.mk a6 0 none)),1,1⟩ bI λwU bJ=>
          aK (wU,u64 (cO.2.1+1),()) bJ
         ) (
          NC (some (Addr.mk c 0 none)) λcA=>
          ∃C:AX,aL.cell? (cA.add 3)=some (.slice C.base C.len C.cap)/\
          ((0:Int)<=d/\(d:Int)<=(C.len:Nat))/\
          APP E.Ap 3 24 #[.int .u64 0,.int .i64 0,.int .u64 0] cO.1 ⟨(GN C.base C.cap (Int.toNat d) 3),(C.len-(Int.toNat d)),(C.cap-(Int.toNat d))⟩ aL λPX bK=>
          NC (some (Addr.mk c 0 none)) λcB=>
          stCells (cB.add 3) 0 [.slice PX.base PX.len PX.cap] bK λcM=>
          K Uw.1 0 cM
         )
        ) aW
       ):=by
  intro bD s1 w5 H5;simp only[AG];have aD:JE {V with rf:=V.rf.tail,pl:=V.pl.tail} P W:=hI.congr rfl rfl rfl (λx hx=>List.mem_of_mem_tail hx) λ_ _ _ _=>rfl;refine AV (λst w'=> ∃s0,Sat (G3 E c {V with rf:=V.rf.tail,pl:=V.pl.tail} {g with s0:=s0,s1:=s1} P W++Z) w'/\(st.2.1=true->Hf V hint AA st.1)/\(st.2.1=false->Oj V AA)) ?_ ?_
  .have hl:=(H5.front 1 rfl).MD;have hc:w5.cell? (Addr.mk c 0 none)=some (.slice g.s0.base g.s0.len g.s0.cap):=H5.Af rfl;refine⟨g.s0,hc,AB (λbZ=> ?_) λbT=> ?_⟩
   .have bS:V.pl=[]∨ ∃x r,V.pl=x::r:=by
     cases V.pl with
     | nil=>grind
     | cons x r=>grind
    rcases bS with hp|⟨x,r,hp⟩
    .have:=hl.1;dsimp only at this;rw[hp]at this;simp[ints]at this;omega
    .
     have b1:=hI.cX x (by rw[hp];simp);obtain⟨a,ha,hd⟩:=(H5.front 1 rfl).NH (j:=0) (v:=.int .u64 x) (by dsimp only;rw[hp];rfl);refine⟨g.s0,hc,?_⟩;rw[ha];refine⟨⟨by decide,by omega⟩,x,hd,g.s0,hc,⟨by decide,by omega⟩,?_⟩;have H6:=Sat.back 1 ((H5.front 1 rfl).NI (n:=1) (show 1<=g.s0.len by omega)) (by simp[G3]);dsimp only at H6;rw[hp]at H6;refine CN H6 (o:=0) rfl (by simp[Qw]) λaB bL=> ?_;have aY:Sat (G3 E c {V with rf:=V.rf.tail,pl:=V.pl.tail} {g with s0:=⟨GN g.s0.base g.s0.cap (Int.toNat 1) 1,g.s0.len-Int.toNat 1,g.s0.cap-Int.toNat 1⟩,s1:=s1} P W++Z) aB:=by
      unfold G3;dsimp only;rw[hp];exact bL
     have no: ∀{b:Bool},b=false-> ¬RJ V.laid x AA->(∃s0,Sat (G3 E c {V with rf:=V.rf.tail,pl:=V.pl.tail} {g with s0:=s0,s1:=s1} P W++Z) aB/\(b=true->Hf V hint AA x)/\(b=false->Oj V AA)):=λhb O=>
      ⟨_,aY,λh=>(by rw[hb]at h;cases h),λ_ p r' aU=>by grind⟩
     rw[Int.tmod_eq_emod_of_nonneg b1.1];refine AU (AB (λg0=>⟨by decide,Bc (λg1=>RX (by omega) p0 λbr a8 j=> ?_) λg1 j=>AP rfl (no rfl λh=>g1 h.1)⟩) λg0 j=>AP rfl (no rfl λh=>by have:=h.2.1;omega));cases br
     .exact AP rfl (no rfl λh=>by have:=a8.2 ⟨by omega,h.2.2.1⟩;cases this)
     .have hr:=a8.1 rfl;unfold Iu at hr;refine AR rfl (RY aD aY (by omega) p0 (by omega) (λaT w' J=>⟨_,J,λ_=>.inl ⟨x,r,hp,⟨g1,by omega,hr.2,(Dn hI.ok.LM (by omega)).2 aT⟩,rfl⟩,λh=>by cases h⟩) λm m0 m1 m2 _ w' J=>⟨_,J,λh=>(by cases h),λ_ p r' aU=> ?_⟩);rw[hp]at aU;cases aU;exact λh=>(Dn hI.ok.LM (by omega)).1 h.2.2.2 m m1 m2 m0
   .have aP:V.pl=[]:=by
     have:=hl.1;dsimp only at this;have:(ints IntKind.u64 V.pl).length=0:=by omega
     rw[ints,List.length_map]at this
     grind
    refine⟨g.s0,?_,λh=>(by cases h),λ_ p r h=>by grind⟩;unfold G3;dsimp only;rw[aP];unfold G3 at H5;dsimp only at H5;rw[aP]at H5;exact H5
  rintro⟨pl,ok,v⟩ _ w8 ⟨s0,H8,hy,O⟩;dsimp only at hy O⊢;refine AV (λst w'=>Sat (G3 E c {V with rf:=V.rf.tail,pl:=V.pl.tail} {g with s0:=s0,s1:=s1} P W++Z) w'/\(st.2.1=true->Hf V hint AA st.1)/\(st.2.1=false->Oj V AA/\KT V.laid hint AA)) ?_ ?_
  .cases ok
   .exact AR rfl (RZ aD H8 h0 h1 aA (by omega) (λhh w' J=>⟨J,λh=>(by cases h),λ_=>⟨O rfl,hh⟩⟩) λa ha w' J=>⟨J,λ_=>.inr ⟨O rfl,.inl ha⟩,λh=>by cases h⟩)
   .exact AP rfl ⟨H8,hy,λh=>by cases h⟩
  clear hy O;rintro⟨pl,ok,v⟩ _ aV ⟨aZ,hy,O⟩;dsimp only at hy O⊢;refine AV (λst w'=>Sat (G3 E c {V with rf:=V.rf.tail,pl:=V.pl.tail} {g with s0:=s0,s1:=s1} P W++Z) w'/\(st.2.1=true->Hf V hint AA st.1)/\(st.2.1=false->Lv V hint AA)) ?_ ?_
  .cases ok
   .exact AR rfl (RZ aD aZ (by decide) (by decide) aA (by omega) (λhh w' J=>⟨J,λh=>(by cases h),λ_=>⟨(O rfl).1,(O rfl).2,hh⟩⟩) λa ha w' J=>⟨J,λ_=>.inr ⟨(O rfl).1,.inr ⟨(O rfl).2,ha⟩⟩,λh=>by cases h⟩)
   .exact AP rfl ⟨aZ,hy,λh=>by cases h⟩
  clear hy O;rintro⟨pl,ok,v⟩ _ aW ⟨a0,hy,O⟩;dsimp only at hy O⊢;cases ok
  .exact AR rfl (bW aE bD (O rfl) _ (Sat.UG.2 ⟨_,_,_,aD,a0⟩))
  have aR:=hy rfl;have aF:=aR.fits hI.ok.LM aA;have b0:0<=pl:=by
   rcases aR with ⟨p,r,hp,_,he⟩|⟨_,⟨_,h3,_⟩|⟨_,_,h3,_⟩⟩
   .rw[he];exact(hI.cX p (by rw[hp];simp)).1
   .have:=h3.low;omega
   .have:=h3.low;omega
  have c0:=aF.1;have c1:=aF.2.1;have a9:=aF.2.2.1;have aT:=(Dn hI.ok.LM (show pl<=pl+AA by omega)).1 aF.2.2.2;clear hy O aF;refine AP rfl (Ma aD a0 λb3 cZ bG bM=> ?_);have bC:=MP (key:=kP) P pl;have c2:=hI.vY;refine Gs (n:=0) (z:=3) bM rfl (by decide) λa5 aX aJ=> ?_;have hl:=UH aJ.tail;refine⟨g.s3,(aJ.front 1 rfl).cell rfl,⟨by omega,by grind⟩,?_⟩;refine FU (x:=⟨GN g.s3.base g.s3.cap 0 3,pos kP P pl,g.s3.cap⟩) (news:=Ao iP (P.take (pos kP P pl))) aJ rfl ((aJ.front 5 rfl).Nx (by decide) Il bC) (by rw[De Il,List.length_take];grind) (HE SX _) (by grind) (by grind) λTI bH a1 cS=> ?_;rw[List.nil_append]at a1;refine AI (λst w'=> ∃i:Nat,st.2.1=(i:Int)/\(i:Int)<=AA/\st.1.len=pos kP P pl+i/\
    Sat (Row E.Ap 3 st.1 (Ao iP (P.take (pos kP P pl)++((List.range i).map λi:Nat=>(pl+(i:Int),(1:Int),(0:Int)))))::(G3 E c {V with rf:=V.rf.tail,pl:=V.pl.tail} {g with s0:=s0,s1:=s1} P W++Z)) w') (λst _=>(AA-st.2.1).toNat)
   ⟨0,rfl,by show(0:Int)<=AA;omega,by grind,by simpa using a1⟩ ?_
  rintro⟨cO,i',v⟩ _ aL ⟨i,hi,cR,bB,aC⟩;dsimp only at hi bB aC⊢;subst hi;refine AB (λbZ=> ?_) λbT=> ?_
  .rw[AM (n:=pl+(i:Int)),AM (n:=(i:Int)+1)];refine AO aC λa6 bI bN _=> ?_;refine Er (news:=iP (pl+(i:Int),1,0)) bN rfl rfl (SX _) (by omega) (by omega) λwU bJ cV cT=>⟨⟨i+1,by omega,by omega,by omega,?_⟩,by omega⟩;have e1:Ao iP (P.take (pos kP P pl)++((List.range i).map λi:Nat=>(pl+(i:Int),(1:Int),(0:Int))))++iP (pl+(i:Int),1,0)=Ao iP (P.take (pos kP P pl)++((List.range (i+1)).map λi:Nat=>(pl+(i:Int),(1:Int),(0:Int)))):=by
    rw[List.range_succ,List.map_append,<-List.append_assoc,FR (_++_)];simp[Ao]
   grind
  .have bA:(i:Int)=AA:=by omega
   refine⟨g.s3,(aC.front 1 rfl).cell rfl,⟨by omega,by grind⟩,?_⟩;refine FU (x:=⟨GN g.s3.base g.s3.cap (pos kP P pl) 3,g.s3.len-pos kP P pl,g.s3.cap-pos kP P pl⟩) (news:=Ao iP (P.drop (pos kP P pl))) aC rfl ((aC.front 5 rfl).Ny (by decide) Il bC) (by rw[De Il,List.length_drop];grind) (HE SX _) (by grind) (by grind) λPX bK a2 _=> ?_;rw[<-FR]at a2;refine AA1 a2 λw' J=>bX aE bD pl (by omega) a9 aR w' λA6=> ?_;refine Sat.UG.2 ⟨_,_,_,hI.Wg (n:=i) A6 rfl rfl rfl (λx hx=>List.mem_of_mem_tail hx) (λp=> ?_) (λp q1 q2=>aT p q1 (by rw[<-bA];exact q2)),J⟩;rw[bA];exact ER hI.ok.LM (Int.lt_add_of_pos_right _ aA) b0 (Int.lt_of_le_of_lt a9 (by decide)) p
 refine OR H (λe=>AP rfl (aG (λr h=>by grind) g.s1 w ?_)) λx r e s w' J=> ?_
 .have:V.rf.tail=V.rf:=by rw[e];rfl
  rw[this];exact H
 .cases x
  .refine AP rfl (aG (λr h=>by grind) s w' ?_);rw[e];exact J
  .exact AR rfl (bV aE r e w' (Sat.UG.2 ⟨_,P,W,hI.congr rfl rfl rfl (λx hx=>hx) λ_ _ _ _=>rfl,J⟩))
end
def Mb{α β:Type}{f g:α->List β}: ∀{l:List α},(∀x∈l,f x=g x)->l.flatMap f=l.flatMap g
 | [],_=>rfl
 | a::l,h=>by rw[List.flatMap_cons,List.flatMap_cons,h a (.head _),Mb λx d=>h x (.tail _ d)]
abbrev QV:=Int×(Int->Bool)×(Int->Bool)
def qc(v:Nat->QV)(i:Nat):List Value:=Hm (v i).1 (v i).2.1 (v i).2.2
def Yo(m t:Nat):List Value:=[.pointer (some ⟨m,0,none⟩),.pointer (some ⟨t,0,none⟩)]
def Yp(f:Nat)(sl:AX)(hint:Int):List Value:=[.pointer (some ⟨f,0,none⟩),FJ sl,.int .u64 hint]
def DL(m t f:Nat)(sl:AX)(hint:Int)(v:Nat->QV):List Value:=Yo m t++((List.range 64).flatMap (qc v)++Yp f sl hint)
def nT(m t:Nat)(v:Nat->QV)(p:Nat):List Value:=Yo m t++((List.range 64).take p).flatMap (qc v)
def sF(f:Nat)(sl:AX)(hint:Int)(v:Nat->QV)(p:Nat):List Value:=((List.range 64).drop (p+1)).flatMap (qc v)++Yp f sl hint
def Hn(v:Nat->QV): ∀l:List Nat,(l.flatMap (qc v)).length=129*l.length
 | []=>rfl
 | a::l=>by
  rw[List.flatMap_cons,List.length_append,Hn v l,List.length_cons];have:(qc v a).length=129:=qR;omega
def qY(m t:Nat)(v:Nat->QV){p:Nat}(hp:p<64):(nT m t v p).length=2+p*129:=by
 unfold nT;rw[List.length_append,Hn,List.length_take,List.length_range];have:(Yo m t).length=2:=rfl;omega
def qZ{p:Nat}(hp:p<64):List.range 64=(List.range 64).take p++p::(List.range 64).drop (p+1):=by
 have h:=(List.take_append_drop p (List.range 64)).symm;rw[List.drop_eq_getElem_cons (by rw[List.length_range];exact hp),List.getElem_range]at h;exact h
def eA(m t f:Nat)(sl:AX)(hint:Int)(v:Nat->QV){p:Nat}(hp:p<64):DL m t f sl hint v=qW (nT m t v p) (sF f sl hint v p) (v p).1 (v p).2.1 (v p).2.2:=by
 unfold DL qW nT sF;have h:(List.range 64).flatMap (qc v)=((List.range 64).take p).flatMap (qc v)++(qc v p++((List.range 64).drop (p+1)).flatMap (qc v)):=by
  conv=>lhs;rw[qZ hp]
  grind
 rw[h];simp only[List.append_assoc];rfl
def Qy(v:Nat->QV)(p:Nat)(x:QV):Nat->QV:=λj=>if j=p then x else v j
def mZ(m t f:Nat)(sl:AX)(hint:Int)(v:Nat->QV){p:Nat}(hp:p<64)(x:QV):qW (nT m t v p) (sF f sl hint v p) x.1 x.2.1 x.2.2=DL m t f sl hint (Qy v p x):=by
 rw[eA m t f sl hint (Qy v p x) hp];have j:nT m t (Qy v p x) p=nT m t v p:=by
  unfold nT;congr 1;refine Mb λi d=> ?_;obtain⟨k,hk,e⟩:=List.mem_take_iff_getElem.1 d;rw[List.getElem_range]at e;unfold qc Qy
  grind
 have y:sF f sl hint (Qy v p x) p=sF f sl hint v p:=by
  unfold sF;congr 1;refine Mb λi d=> ?_;obtain⟨k,hk,e⟩:=List.mem_drop_iff_getElem.1 d;rw[List.getElem_range]at e;unfold qc Qy
  grind
 have C:Qy v p x p=x:=if_pos rfl
 grind
def m6(m t f:Nat)(sl:AX)(hint:Int)(v:Nat->QV):(DL m t f sl hint v).length=8261:=by
 unfold DL;rw[List.length_append,List.length_append,Hn,List.length_range];rfl
def rh_0(m t f:Nat)(sl:AX)(hint:Int)(v:Nat->QV):(DL m t f sl hint v)[0]? =some (.pointer (some ⟨m,0,none⟩)):=rfl
def rh_1(m t f:Nat)(sl:AX)(hint:Int)(v:Nat->QV):(DL m t f sl hint v)[1]? =some (.pointer (some ⟨t,0,none⟩)):=rfl
def Wj(m t f:Nat)(sl:AX)(hint:Int)(v:Nat->QV)(i:Nat):(DL m t f sl hint v)[8258+i]? =(Yp f sl hint)[i]? :=by
 unfold DL;rw[List.getElem?_append_right (by show 2<=_;omega),List.getElem?_append_right (by rw[Hn,List.length_range];show 8256<=8258+i-2;omega),Hn,List.length_range];rw[show 8258+i-(Yo m t).length-129*64=i by show 8258+i-2-8256=i;omega]
def m8(m t f:Nat)(sl:AX)(hint:Int)(v:Nat->QV)(i:Nat)(x:Value){f':Nat}{sl':AX}{hint':Int}(h:(Yp f sl hint).set i x=Yp f' sl' hint'):(DL m t f sl hint v).set (8258+i) x=DL m t f' sl' hint' v:=by
 unfold DL;rw[List.set_append_right _ _ (by show 2<=_;omega),List.set_append_right _ _ (by rw[Hn,List.length_range];show 8256<=8258+i-2;omega),Hn,List.length_range];rw[show 8258+i-(Yo m t).length-129*64=i by show 8258+i-2-8256=i;omega,h]
structure RG where
 m:Nat
 t:Nat
 f:Nat
 sl:AX
 v:Nat->QV
 L:List (Int×Nat)
abbrev eB:=Int->(Nat->Bool)×(Nat->Bool)
def Jh(x:Int×Nat):List Value:=[.int .i64 x.1,.pointer (some ⟨x.2,0,none⟩)]
def Bs(x:Int×Nat):(Jh x).length=2:=rfl
def rsR(E:Env)(sp:Int->Option (Nat×SI))(um:eB)(x:Int×Nat):Pr:=match sp x.1 with
 | some y=>A2 E x.2 y.2 (um x.1).1 (um x.1).2
 | none=>cB
def Eg(E:Env)(h:Nat)(S:HS)(um:eB)(g:RG):List Pr:=
 [Cells h E.Ae (DL g.m g.t g.f g.sl S.hint g.v),GU E g.m S.V,Mp E g.t S.T,KN E g.f S.fx,Row E.AZ 2 g.sl (Ao Jh g.L),Aa (rsR E S.sp um) g.L]
structure ZL(S:HS)(g:RG):Prop where
 q: ∀i,i<64->mQ (S.ca i) (g.v i).1 (g.v i).2.1 (g.v i).2.2
 mem: ∀id,id∈g.L.map (·.1)↔S.sp id≠none
 so:(g.L.map λx=>S.at x.1).Pairwise (· < ·)
def LA(E:Env)(h:Nat)(S:HS)(um:eB):Pr:=Ex λg:RG=>Jj (ZL S g) (Lo (Eg E h S um g))
section
variable{E:Env}{h:Nat}{S:HS}{um:eB}{g:RG}{Z:List Pr}{w:World}
def Sat.HU:Sat (LA E h S um::Z) w↔ ∃g,ZL S g/\Sat (Eg E h S um g++Z) w:=by
 unfold LA;rw[Sat.ex];constructor
 .rintro⟨g,d⟩;rw[Sat.where,Sat.star]at d
  grind
 .rintro⟨g,h1,h2⟩;refine⟨g,?_⟩;rw[Sat.where,Sat.star]
  grind
def Sat.nA{R:List Pr}(H:Sat (Cells h E.Ae (DL g.m g.t g.f g.sl S.hint g.v)::R) w)(hI:ZL S g){p:Nat}(hp:p<64):
  Sat (dW h E.Ae (nT g.m g.t g.v p) (sF g.f g.sl S.hint g.v p) (S.ca p)::R) w/\
  ∀{C:CS} {R':List Pr} {w'},Sat (dW h E.Ae (nT g.m g.t g.v p) (sF g.f g.sl S.hint g.v p) C::R') w'->
   ∃x:QV,mQ C x.1 x.2.1 x.2.2/\Sat (Cells h E.Ae (DL g.m g.t g.f g.sl S.hint (Qy g.v p x))::R') w':=by
 refine⟨Sat.vV.2 ⟨_,_,_,hI.q p hp,?_⟩,λ{C R' w'} d=> ?_⟩
 .rw[<-eA g.m g.t g.f g.sl S.hint g.v hp];exact H
 .obtain⟨B,u,k,j,d⟩:=Sat.vV.1 d;refine⟨(B,u,k),j,?_⟩;have:=mZ g.m g.t g.f g.sl S.hint g.v hp (B,u,k)
  grind
end
def Wl{w:World}{ok:Bool->Prop}{s:AX}{z:Nat->Bool}(h:PQ w .bool ok s z):rowAt w s.base s.len (BB (ME s.len z)):=by
 cases hb:s.base with
 | none=>
  have:s.len=0:=by
   rcases Nat.eq_zero_or_pos s.len with e|e
   .exact e
   .obtain⟨x,C,_⟩:=h.rJ e
    grind
  show BB (ME s.len z)=[];rw[this];rfl
 | some a=>
  refine⟨by simp[BB,IP],λj v y=> ?_⟩;have d:j<s.len:=by
   have:=(List.getElem?_eq_some_iff.1 y).1;simpa[BB,IP]using this
  rw[Kl (XS z d)]at y;cases y;obtain⟨x,C,J⟩:=h.rJ d
  grind
def PQ.vZ{w w':World}{s:AX}{z:Nat->Bool}(h:N8 w .bool s z)(he:Ext AQ w w'):N8 w' .bool s z:=
 ⟨h.1,h.2.1,λj y=>by
  obtain⟨x,h1,h2,d⟩:=h.2.2 j y;exact⟨x,h1,λi v C=>he.cell (h2 i v C) λf=>f,d⟩⟩
def Bv.v7{S:HS}{fl:Int->Bool}(hI:Bv S fl){id:Int}{x:Nat×SI}(d:S.sp id=some x)(p:Int):S.own p=id↔x.2.base/8192<=p/\p<x.2.base/8192+x.2.AA:=by
 have h0:=hI.sp id x d;refine⟨λe=> ?_,λh=>h0.2.2.2.2 p h.1 h.2⟩;obtain⟨_,_,_,y,j,h1,h2⟩:=hI.ow p (by omega)
 grind
section
variable{E:Env}{h:Nat}{S:HS}{um:eB}{g:RG}{Z:List Pr}{w:World}
def bD{R:List Pr}(H:Sat (Cells h E.Ae (DL g.m g.t g.f g.sl S.hint g.v)::R) w):w.cell? ((Addr.mk h 0 none).add 8259)=some (.slice g.sl.base g.sl.len g.sl.cap):=
 H.cell (o:=0) (m:=8259) (by rw[Nat.zero_add];exact Wj g.m g.t g.f g.sl S.hint g.v 1)
def wA{R:List Pr}(H:Sat (Cells h E.Ae (DL g.m g.t g.f g.sl S.hint g.v)::R) w):w.cell? ((Addr.mk h 0 none).add 1)=some (.pointer (some ⟨g.t,0,none⟩)):=
 H.cell (o:=0) (m:=1) (by rw[Nat.zero_add];exact rh_1 g.m g.t g.f g.sl S.hint g.v)
def Mc{R:List Pr}{sl:AX}{L:List (Int×Nat)}(H:Sat (Row E.AZ 2 sl (Ao Jh L)::R) w):L.length=sl.len:=(H.F9 (by decide) Bs).1
def Ra(H:Sat (Eg E h S um g++Z) w)(hI:ZL S g)(T:g.L.length<1099511627776){id:Int}{K:Int->World->Prop}(d:S.sp id=none->K (-1) w)(v: ∀(i q:Nat),g.L[i]? =some (id,q)->K i w):
  F.Em E (some ⟨h,0,none⟩) id K w:=by
 unfold F.Em;have hl:=Mc (H.front 4 rfl);refine AI (λst w'=>w'=w/\ ∃i:Nat,st.1=(i:Int)/\i<=g.L.length/\ ∀(j q:Nat),j<i->g.L[j]? ≠some (id,q)) (λst _=>((g.L.length:Int)-st.1).toNat) ⟨rfl,0,rfl,Nat.zero_le _,λj q hj=>by omega⟩ ?_;rintro⟨i',u⟩ _ w2 ⟨rfl,i,Y,aC,aD⟩;dsimp only at Y⊢;subst Y;refine AH ⟨g.sl,bD H,AB (λC=>AH ⟨g.sl,bD H,?_⟩) λaB=> ?_⟩
 .obtain⟨x,J⟩: ∃x,g.L[i]? =some x:=⟨_,List.getElem?_eq_getElem (by omega)⟩;obtain⟨b,O⟩:=(H.front 4 rfl).FZ (by decide) Bs (i:=i) (by omega);rw[O];refine AH ⟨⟨by omega,C⟩,x.1,?_,Bc (λe=>v i x.2 (by grind)) λe=> ?_⟩
  .have:=(H.front 4 rfl).Bu Bs O J (j:=0) rfl
   grind
  .rw[AF (n:=(i:Int)+1)];refine⟨⟨rfl,i+1,by omega,by omega,λj q hj hq=> ?_⟩,by omega⟩
   grind
 .refine d ?_;cases hs:S.sp id with
  | none=>rfl
  | some y=>
   have:=(hI.mem id).2 (by grind);obtain⟨x,J,e⟩:=List.mem_map.1 this;obtain⟨j,hj⟩:=List.mem_iff_getElem?.1 J
   grind
def Rb(H:Sat (Eg E h S um g++Z) w)(hI:ZL S g)(d:g.L.length<1099511627776){id:Int}{K:Option Addr->World->Prop}(y:S.sp id=none->K none w)(C: ∀(i q:Nat),g.L[i]? =some (id,q)->K (some ⟨q,0,none⟩) w):
  F.Am E (some ⟨h,0,none⟩) id K w:=by
 unfold F.Am T0.Am;have T:=Mc (H.front 4 rfl);refine Ra H hI d (λhs=>AR rfl (y hs)) λi q v=> ?_;have O:=(List.getElem?_eq_some_iff.1 v).1;obtain⟨b,J⟩:=(H.front 4 rfl).FZ (by decide) Bs (i:=i) (by omega);refine AP (decide_eq_false (by omega)) (AH ⟨g.sl,bD H,?_⟩)
 try dsimp only
 rw[J];refine AH ⟨⟨by omega,by omega⟩,some ⟨q,0,none⟩,?_,C i q v⟩;have:=(H.front 4 rfl).Bu Bs J v (j:=1) rfl;rw[add_add];exact this
def nB{R:List Pr}(H:Sat (Aa (rsR E S.sp um) g.L::R) w)(hI:ZL S g){i:Nat}{x:Int×Nat}(d:g.L[i]? =some x): ∃y R',S.sp x.1=some y/\Sat (A2 E x.2 y.2 (um x.1).1 (um x.1).2::R') w:=by
 have hm:x.1∈g.L.map (·.1):=List.mem_map.2 ⟨x,List.mem_of_getElem? d,rfl⟩;obtain⟨y,j⟩:=Option.ne_none_iff_exists'.1 ((hI.mem x.1).1 hm);have h1:=H.F0 d;have e:rsR E S.sp um x=A2 E x.2 y.2 (um x.1).1 (um x.1).2:=by unfold rsR;rw[j]
 grind
def iB(H:Sat (LA E h S um::Z) w)(d:Bv S no)(hk:KQ S){a:Int}(a0:0<=a)(a1:a<18446744073709551616){K:Int->World->Prop}(hK: ∀w',Sat (LA E h S um::Z) w'->K (S.own (a/8192)) w'):F.GY E (some ⟨h,0,none⟩) a K w:=by
 obtain⟨g,hI,H⟩:=Sat.HU.1 H;unfold F.GY;have hl:=Mc (H.front 4 rfl);have aH:=(H.front 4 rfl).F9 (by decide) Bs;have aD:u64 (Int.tdiv a 8192)=a/8192:=by rw[Int.tdiv_eq_ediv_of_nonneg a0,AM]
 rw[aD];generalize hP:a/8192=P at *
 have aM:0<=P:=by omega
 have aN:P<18446744073709551616:=by omega
 refine AI (λst w'=>Sat (Eg E h S um g++Z) w'/\ ∃i:Nat,st.1=(i:Int)/\i<=g.L.length/\ ∀(j:Nat) (x:Int×Nat),j<i->g.L[j]? =some x->S.own P≠x.1) (λst _=>((g.L.length:Int)-st.1).toNat) ⟨H,0,rfl,Nat.zero_le _,λj q hj=>by omega⟩ ?_;rintro⟨i',u⟩ _ w2 ⟨C,i,hi,aP,aQ⟩;dsimp only at hi⊢;subst hi;refine AH ⟨g.sl,bD C,AB (λJ=>AH ⟨g.sl,bD C,?_⟩) λaC=> ?_⟩
 .obtain⟨x,Y⟩: ∃x,g.L[i]? =some x:=⟨_,List.getElem?_eq_getElem (by omega)⟩;obtain⟨b,hb⟩:=(C.front 4 rfl).FZ (by decide) Bs (i:=i) (by omega);rw[hb];have Hd:=C.drew;obtain⟨y,R',hy,h1⟩:=nB (Hd.front 5 rfl) hI Y;obtain⟨ul,ml,s1,s2,lk,aO,h2⟩:=Sat.Gk.1 h1;have T:=d.sp x.1 y hy;have O:=d.v7 hy P;have e1:=T.2.2.2.2 (y.2.base/8192) (Int.le_refl _) (by omega);have e2:=T.2.2.2.2 (y.2.base/8192+y.2.AA-1) (by omega) (by omega);have g1:=hk.tv.Ju _ (d.ow _ (by omega:0<S.own (y.2.base/8192))).1;have g2:=hk.tv.Ju _ (d.ow _ (by omega:0<S.own (y.2.base/8192+y.2.AA-1))).1;refine AH ⟨⟨by omega,J⟩,some ⟨x.2,0,none⟩,?_,?_⟩
  .have:=(C.front 4 rfl).Bu Bs hb Y (j:=1) rfl;rw[add_add];exact this
  refine AV (λst w'=>(st.1=true↔S.own P=x.1)/\Sat (Eg E h S um g++Z) w') ⟨by decide,AH ⟨_,h2.Af rfl,AB (λaC=>⟨by decide,AH ⟨_,h2.Af rfl,AH ⟨_,h2.cell rfl,?_,Hd⟩⟩⟩) λaK=>⟨?_,Hd⟩⟩⟩ ?_
  .show decide _=true↔_;rw[AM (n:=P-y.2.base/8192),decide_eq_true_iff,O];omega
  .grind
  rintro⟨t,u⟩ _ aF ⟨ht,v⟩;dsimp only at ht⊢;refine AS (λe=>AH ⟨g.sl,bD v,?_⟩) λe=> ?_
  .try dsimp only
   rw[hb];refine AH ⟨⟨by omega,J⟩,x.1,?_,?_⟩
   .have:=(v.front 4 rfl).Bu Bs hb Y (j:=0) rfl
    grind
   .rw[<-ht.1 e];exact hK aF (Sat.HU.2 ⟨g,hI,v⟩)
  .rw[AF (n:=(i:Int)+1)];refine⟨⟨v,i+1,by omega,by omega,λj z hj hz=> ?_⟩,by omega⟩
   grind
 .have h0:S.own P=0:=by
   have aR:=d.o0 P;by_cases hp:0<S.own P
   .obtain⟨_,_,_,y,hy,_⟩:=d.ow P hp;obtain⟨x,Y,e⟩:=List.mem_map.1 ((hI.mem (S.own P)).2 (by grind));obtain⟨j,hj⟩:=List.mem_iff_getElem?.1 Y
    grind
   .omega
  have:=hK w2 (Sat.HU.2 ⟨g,hI,C⟩)
  grind
end
def eC{a b m:Iv}(j:Ok a)(v:Ok b)(hm:Ok m)(h1: ∀p,mem a p->mem m p)(h2: ∀p,mem b p->mem m p)(hd: ∀p,mem a p-> ¬mem b p)(d: ∀p,mem m p->p<34359738368):Ig a+Ig b<=Ig m:=by
 rw[<-dI j (f:=Ms a) (λp=>CJ.symm) λp hp=>d p (h1 p (CJ.1 hp)),<-dI v (f:=Ms b) (λp=>CJ.symm) λp hp=>d p (h2 p (CJ.1 hp)),<-dI hm (f:=Ms m) (λp=>CJ.symm) λp hp=>d p (CJ.1 hp),
  <-X0 (h:=λp=>Ms a p||Ms b p) (λp=>rfl) λp x y=>hd p (CJ.1 x) (CJ.1 y)]
 refine dK λp hp=>CJ.2 ?_;rcases Bool.or_eq_true_iff.1 hp with h|h
 .exact h1 p (CJ.1 h)
 .exact h2 p (CJ.1 h)
def UY.Wg{V V':VS}(h:UY V){a n:Int}(O:0<n)(h0:512<=a)(K:a+n<=34359738368)(d:V'.laid=Dl V.laid a (a+n))(j:V'.ready=V.ready)(v:V'.rel=V.rel)(C:V'.wd=V.wd):UY V':=by
 have hm:=ER h.LM (a:=a) (b:=a+n) (by omega) (by omega) (by omega);have J:=(FG h.LM (a:=a) (b:=a+n) (by omega) (by omega) (by omega)).1;have y: ∀p,mem V'.laid p->512<=p/\p<34359738368:=λp hp=>by
  rw[d,hm]at hp;rcases hp with hp|hp
  .exact h.Ju p hp
  .omega
 refine⟨by grind,by rw[j];exact h.Pj,by rw[v];exact h.U6,λp hp=> ?_,λp hp=> ?_,λp hp=> ?_,y,λp i a b hp=> ?_,?_⟩
 .rw[d,hm];rw[j]at hp;exact .inl (h.rl p hp)
 .rw[d,hm];rw[v]at hp;exact .inl (h.el p hp)
 .rw[j]at hp;rw[v];exact h.re p hp
 .rw[j]at hp;rw[C];exact h.clean p i a b hp
 .rw[j,v,d];exact eC h.Pj h.U6 J (λp hp=>(hm p).2 (.inl (h.rl p hp))) (λp hp=>(hm p).2 (.inl (h.el p hp))) h.re λp hp=>(y p (by rw[d];exact hp)).2
def UY.On{V:VS}(h:UY V){a n:Int}(h0:0<=a)(O:0<n)(K:a+n<=34359738368)(d: ∀p,a<=p->p<a+n->mem V.laid p):UY (IA V a n):=by
 have hm:=ER h.Pj (a:=a) (b:=a+n) (by omega) (by omega) (by omega);have v:=(FG h.Pj (a:=a) (b:=a+n) (by omega) (by omega) (by omega)).1;have j:=λp=>Ek (l:=V.rel) (a:=a) (b:=a+n) (n:=p) (by omega);have r1: ∀p,mem (IA V a n).ready p->mem V.laid p:=λp hp=>by
  rcases(hm p).1 hp with g|g
  .exact h.rl p g
  .exact d p g.1 g.2
 have r2: ∀p,mem (IA V a n).rel p->mem V.laid p:=λp hp=>h.el p ((j p).1 hp).1;have C: ∀p,mem (IA V a n).ready p-> ¬mem (IA V a n).rel p:=λp hp J=>by
  have g2:=(j p).1 J;rcases(hm p).1 hp with g|g
  .exact h.re p g g2.1
  omega
 have y:Ok (IA V a n).rel:=GX h.U6 (by omega);refine⟨h.LM,v,y,r1,r2,C,h.Ju,λp i a1 b1 hp=> ?_,eC v y h.LM r1 r2 C λp hp=>(h.Ju p hp).2⟩;show(if a<=p/\p<a+n/\Ms V.rel p=true then HL V a p else V.wd p i)=0;have g:=λx=>hp ((hm p).2 x);rw[if_neg λx=>g (.inr ⟨x.1,x.2.1⟩)];exact h.clean p i a1 b1 λx=>g (.inl x)
def TS.take{V:TV}(h:TS V){x n:Int}(v:0<n):TS (V.take x n):=by
 obtain⟨d,f1,f2⟩:=h.cf;obtain⟨j,r1,r2⟩:=h.cr;refine⟨λp hp=>h.fi p (Pu.1 hp).1,λp hp=>Pu.2 ⟨h.rf p (Pv.1 hp).1,(Pv.1 hp).2⟩,h.Ju,h.ci,⟨Dk d x (x+n),GX f1 (by omega),λp=> ?_⟩,⟨Dk j x (x+n),GX r1 (by omega),λp=> ?_⟩⟩
 .rw[Ek (by omega),f2,Pu]
 .rw[Ek (by omega),r2,Pv]
def O3{f:Int->Bool}{x n p:Int}:(f p||inr x n p)=true↔f p=true∨(x<=p/\p<x+n):=by
 rw[Bool.or_eq_true_iff,As]
def TS.grow{V:TV}(h:TS V){c n:Int}(j:0<=c)(v:0<n)(d:c+n<=67108864):TS (V.grow c n):=by
 obtain⟨li,i1,i2⟩:=h.ci;obtain⟨y,f1,f2⟩:=h.cf;obtain⟨C,r1,r2⟩:=h.cr;have key: ∀{l:Iv} {f:Int->Bool},Ok l->(∀p,mem l p↔f p=true)-> ∃l',Ok l'/\ ∀p,mem l' p↔(f p||inr (c*512) (n*512) p)=true:=λ{l f} o g=>
  ⟨Dl l (c*512) (c*512+n*512),(FG o (by omega) (by omega) (by omega)).1,λp=>by rw[ER o (by omega) (by omega) (by omega),g,O3]⟩
 refine⟨λp hp=> ?_,λp hp=> ?_,λp hp=> ?_,key i1 i2,key f1 f2,key r1 r2⟩
 .exact O3.2 ((O3.1 hp).imp_left (h.fi p))
 .exact O3.2 ((O3.1 hp).imp_left (h.rf p))
 .rcases O3.1 hp with g|g
  .exact h.Ju p g
  .omega
section
variable{S:HS}
def bE(hk:TS S.T){q:Int}(h:IH S.T 1 q):Pf (filled S.T q):=by
 have h1:=h.1;have h2:=h.2.1;refine⟨by show 0<=q/64*64;omega,by show q/64*64<_;omega,by show q/64*64 %64=0;omega,λi d=> ?_,λi d=> ?_⟩
 .show(decide (i<64)&&_)=false
  grind
 .have d:(decide (i<64)&&S.T.rl (q/64*64+i))=true:=d;show(decide (i<64)&&S.T.fr (q/64*64+i))=true;rw[Bool.and_eq_true_iff]at d⊢;exact⟨d.1,hk.rf _ d.2⟩
def KQ.fill(h:KQ S){i:Nat}{q:Int}(v:IH S.T 1 q):KQ (S.fill i q):=by
 refine⟨h.tv.take (by decide),h.vv,λj d=> ?_,h.ok,h.fx⟩;show Pf (if j=i then filled S.T q else S.ca j);by_cases e:j=i
 .rw[if_pos e];exact bE h.tv v
 .rw[if_neg e];exact h.ci j d
def Jc.ok{S1:HS}{i:Nat}(h:Jc S i S1)(hk:KQ S):KQ S1:=by
 rcases h with ⟨_,q,d,rfl⟩|⟨_,rfl⟩
 .exact hk.fill d
 .exact hk
def IY.ok{S1:HS}{p n:Int}(h:IY S p n S1)(hk:KQ S):KQ S1:=by
 rcases h with ⟨_,rfl⟩|⟨i,_,_,_,hf,_⟩
 .exact hk
 .exact hf.ok hk
def bF{C:CS}(h:Pf C)(k n:Nat):Pf (C.alloc k n):=by
 refine⟨h.b0,h.b1,h.b64,λi d=> ?_,λi d=> ?_⟩
 .show(C.has i&&_)=false;rw[h.hz i d];rfl
 .have d:(C.rel i&& !(decide (k<=i)&&decide (i<k+n)))=true:=d;show(C.has i&& !(decide (k<=i)&&decide (i<k+n)))=true;rw[Bool.and_eq_true_iff]at d⊢;exact⟨h.rh i d.1,d.2⟩
def KQ.II(h:KQ S){i k n:Nat}(d:i<64):KQ (S.II i k n):=by
 refine⟨h.tv,h.vv,λj v=> ?_,h.ok,h.fx⟩;show Pf (if j=i then(S.ca i).alloc k n else S.ca j);by_cases e:j=i
 .rw[if_pos e];exact bF (h.ci i d) k n
 .rw[if_neg e];exact h.ci j v
def KQ.Ge(h:KQ S){page n:Int}(d:0<n):KQ (S.Ge page n):=⟨h.tv.take d,h.vv,h.ci,h.ok,h.fx⟩
def Yq{V:VS}(h:UY V){hint n a:Int}(j:0<n)(d:Hf V hint n a):RJ V.laid a n:=by
 rcases d with ⟨p,r,_,hf,rfl⟩|⟨_,d|⟨_,d⟩⟩
 .exact hf
 .exact d.2.1.fits h.LM j d.2.2
 .exact d.2.1.fits h.LM j d.2.2
end
section
variable{V:VS}
def Nd{l:Iv}{d n a v:Int}(h:Le l d n a)(j:Le l d n v):a=v:=by
 rcases Int.lt_trichotomy a v with g|g|g
 .obtain⟨m,m1,y,C⟩:=j.first a h.mul h.low h.fr g;exact absurd C (h.free m m1 y)
 .exact g
 .obtain⟨m,m1,y,C⟩:=h.first v j.mul j.low j.fr g;exact absurd C (j.free m m1 y)
def QG{l:Iv}{d n a:Int}(h:V7 l d n a)(j:KT l d n):False:=by
 rcases j with g|⟨v,g1,g2⟩
 .have:=h.1;omega
 .rw[Nd h.2.1 g1]at h;exact g2 h.2.2
def Yr{hint n a C:Int}(h:Hf V hint n a)(J:Hf V hint n C):a=C:=by
 rcases h with ⟨p,r,h1,h2,y⟩|⟨h1,h2⟩
 .rcases J with ⟨K,O,j,d,v⟩|⟨j,_⟩
  .rw[h1]at j;cases j;rw[y,v]
  .exact absurd h2 (j p r h1)
 .rcases J with ⟨K,O,j,d,v⟩|⟨_,d⟩
  .exact absurd d (h1 K O j)
  .rcases h2 with h2|⟨h2,y⟩
   .rcases d with d|⟨d,_⟩
    .exact Nd h2.2.1 d.2.1
    .exact(QG h2 d).elim
   .rcases d with d|⟨_,v⟩
    .exact(QG d h2).elim
    .exact Nd y.2.1 v.2.1
def bG{hint n a:Int}(h:Hf V hint n a)(d:Lv V hint n):False:=by
 rcases h with ⟨p,r,h1,h2,_⟩|⟨_,h|⟨_,h⟩⟩
 .exact d.1 p r h1 h2
 .exact QG h d.2.1
 .exact QG h d.2.2
end
def Md{V:TV}{n p d:Int}(h:IH V n p)(j:IH V n d):p=d:=Int.le_antisymm (h.2.2.2 d j.2.2.1) (j.2.2.2 p h.2.2.1)
section
variable{S S1 S2:HS}
def Jc.uniq{i:Nat}(h:Jc S i S1)(C:Jc S i S2):S1=S2:=by
 rcases h with ⟨he,q,J,rfl⟩|⟨v,rfl⟩
 .rcases C with ⟨_,y,j,rfl⟩|⟨d,rfl⟩
  .rw[Md J j]
  .rcases d with d|d
   .exact absurd he d
   .have:=d q;rw[J.2.2.1 q (Int.le_refl _) (by omega)]at this;cases this
 .rcases C with ⟨he,y,j,rfl⟩|⟨d,rfl⟩
  .rcases v with v|v
   .exact absurd he v
   .have:=v y;rw[j.2.2.1 y (Int.le_refl _) (by omega)]at this;cases this
  .rfl
def IY.uniq{p n:Int}(h:IY S p n S1)(C:IY S p n S2):S1=S2:=by
 rcases h with ⟨y,rfl⟩|⟨i,J,hp,y,hf,_⟩
 .rcases C with ⟨_,rfl⟩|⟨i,J,hp,d,hf,_⟩
  .rfl
  .exact absurd ⟨by omega,by omega,d⟩ y
 .rcases C with ⟨d,rfl⟩|⟨j,O,K,d,v,_⟩
  .exact absurd ⟨by omega,by omega,y⟩ d
  .obtain rfl:i=j:=by omega
   exact hf.uniq v
def dN.Me{p n page:Int}(h:dN S p n page S2)(C:IY S p n S1): ∃x,IH S1.T n x/\page=x/\S2=S1.Ge x n:=by
 rcases h with ⟨J,i,k,hi,hp,hn,hf,Y,_,_,rfl,rfl⟩|⟨J,ht,v,rfl⟩
 .rcases C with ⟨y,rfl⟩|⟨j,hj,O,y,d,K⟩
  .omega
  .obtain rfl:i=j:=by omega
   rw[hf.uniq d]at Y
   grind
 .rw[ht.uniq C]at v⊢
  grind
def dN.uniq{p n a b:Int}(h:dN S p n a S1)(K:dN S p n b S2):a=b/\S1=S2:=by
 rcases h with ⟨J,i,k,T,hp,hn,hf,hr,Y,_,rfl,rfl⟩|⟨J,y,d,rfl⟩
 .rcases K with ⟨O,j,k',hj,aD,aC,v,aF,aA,_,rfl,rfl⟩|⟨O,y,d,rfl⟩
  .obtain rfl:i=j:=by omega
   obtain rfl:=hf.uniq v
   grind
  .exact(dN.Me (.inl ⟨J,i,k,T,hp,hn,hf,hr,Y,‹_›,rfl,rfl⟩) y).elim λx C=>by
    rw[Md d C.1];grind
 .obtain⟨x,C,rfl,rfl⟩:=K.Me y;rw[Md d C];grind
def X2.uniq{n:Int}(h:X2 S n S1)(d:X2 S n S2):S1=S2:=by
 obtain⟨_,a,j,rfl⟩:=h;obtain⟨_,b,v,rfl⟩:=d;rw[Yr j v]
def X2.not{n:Int}(h:X2 S n S1)(d:Qh S n S2):False:=by
 obtain⟨v,a,j,rfl⟩:=h;rcases d with ⟨r,h1,_⟩|⟨_,h1,_⟩
 .grind
 .exact bG j h1
def Qh.uniq{n:Int}(h:Qh S n S1)(v:Qh S n S2):S1=S2:=by
 rcases h with ⟨r,h1,rfl⟩|⟨h0,h1,rfl⟩
 .rcases v with ⟨y,j,rfl⟩|⟨d,_,_⟩
  .grind
  .exact absurd h1 (d r)
 .rcases v with ⟨y,j,rfl⟩|⟨d,_,rfl⟩
  .grind
  .rfl
def Tk.uniq{p n a b:Int}(h:Tk S p n a S1)(v:Tk S p n b S2):a=b/\S1=S2:=by
 rcases h with h|⟨S0,Y,T,K,hg,hf,rfl⟩
 .rcases v with v|⟨T0,J,j,d,C,y,rfl⟩
  .exact h.uniq v
  .obtain⟨x,O,_⟩:=h.Me j;exact absurd O.2.2.1 (d x)
 .rcases v with v|⟨T0,J,j,d,C,y,rfl⟩
  .obtain⟨x,O,_⟩:=v.Me T;exact absurd O.2.2.1 (K x)
  .obtain rfl:=T.uniq j;obtain rfl:=hg.uniq C;rw[Md hf y];grind
def Made.uniq{T:HS}{page n:Int}(h:Made S page n S1)(j:Made S page n T):S1=T:=by
 rcases h with ⟨h1,rfl⟩|⟨h1,_,rfl⟩
 .rcases j with ⟨_,rfl⟩|⟨d,_,_⟩
  .rfl
  .exact absurd h1 d
 .rcases j with ⟨d,_⟩|⟨d,_,rfl⟩
  .exact absurd d h1
  .rfl
def Found.uniq{p n a b:Int}(h:Found S p n a S1)(v:Found S p n b S2):a=b/\S1=S2:=by
 obtain⟨T,y,hm⟩:=h;obtain⟨C,j,d⟩:=v;obtain⟨rfl,rfl⟩:=y.uniq j;exact⟨rfl,hm.uniq d⟩
def Found.not{p n a:Int}(h:Found S p n a S1)(O:Oo S p n S2):False:=by
 obtain⟨T,j,hm⟩:=h;rcases O with ⟨S0,hs,y,hg⟩|⟨T',page,r,d,aB,hr,_⟩
 .rcases j with j|⟨J,K,d,C,v,Y,rfl⟩
  .obtain⟨x,hx,_⟩:=j.Me hs;exact y x hx.2.2.1
  .obtain rfl:=d.uniq hs;exact v.not hg
 .obtain⟨rfl,rfl⟩:=j.uniq d;rcases hm with ⟨h1,_⟩|⟨_,h1,_⟩
  .grind
  grind
def Oo.uniq{p n:Int}(h:Oo S p n S1)(h':Oo S p n S2):S1=S2:=by
 rcases h with ⟨S0,hs,K,O⟩|⟨T,page,r,Y,aG,hr,rfl⟩
 .rcases h' with ⟨aA,y,v,j⟩|⟨T',C,r',d,J,aC,_⟩
  .obtain rfl:=hs.uniq y;exact O.uniq j
  .exfalso;rcases d with d|⟨T0,aB,d,v,j,_,_⟩
   .obtain⟨x,hx,_⟩:=d.Me hs;exact K x hx.2.2.1
   .obtain rfl:=d.uniq hs;exact j.not O
 .rcases h' with ⟨aA,y,v,j⟩|⟨T',C,r',d,J,aC,rfl⟩
  .exfalso;rcases Y with Y|⟨T0,aB,d,K,O,_,_⟩
   .obtain⟨x,hx,_⟩:=Y.Me y;exact v x hx.2.2.1
   .obtain rfl:=d.uniq y;exact O.not j
  .obtain⟨rfl,rfl⟩:=Y.uniq d
   grind
def Next.uniq{a b:Int}{X Y:FX}(h:Next S a X)(j:Next S b Y):a=b/\X=Y:=by
 rcases h with ⟨h1,rfl,rfl⟩|⟨x,r,h1,rfl,rfl⟩
 .rcases j with ⟨_,rfl,rfl⟩|⟨x,r,d,_⟩
  .grind
  grind
 .rcases j with ⟨d,_⟩|⟨y,v,d,rfl,rfl⟩
  .grind
  grind
def nC{n:Int}(d:1<=n)(j:n<=134217728):IZ n %512=0/\n<=IZ n/\IZ n<=134217728/\IZ n<n+512:=by unfold IZ;omega
def iC(hI:Bv S no)(hk:KQ S){n a:Int}(y:1<=n)(C:n<=134217728)(v:Hf S.V S.hint (IZ n) a)(a0:0<=a):
  Bv (S.grown {S.V with rf:=S.V.rf.tail,pl:=S.V.pl.tail,laid:=Dl S.V.laid a (a+IZ n)} a (IZ n)) no/\KQ (S.grown {S.V with rf:=S.V.rf.tail,pl:=S.V.pl.tail,laid:=Dl S.V.laid a (a+IZ n)} a (IZ n))/\
   Ld (S.grown {S.V with rf:=S.V.rf.tail,pl:=S.V.pl.tail,laid:=Dl S.V.laid a (a+IZ n)} a (IZ n)).T.fr a n/\a %512=0/\a+IZ n<=34359738368/\ ∀p,a<=p->p<a+IZ n->S.T.Li p=false:=by
 obtain⟨J,u2,Y,u4⟩:=nC y C;have hf:=Yq hk.vv (by omega) v;obtain⟨f1,f2,f3,f4⟩:=hf;have d: ∀p,a<=p->p<a+IZ n->S.T.Li p=false:=λp h1 h2=>Gx λhp=>(Dn hk.vv.LM (by omega)).1 f4 p h1 h2 ((hI.la p).2 hp);have j:512<=a:=by omega
 refine⟨hI.grown hk a0 (by omega) f3 f1 J d rfl rfl,⟨hk.tv.grow (by omega) (by omega) (by omega),hk.vv.Wg (by omega) j f3 rfl rfl rfl rfl,hk.ci,(FG hk.ok (a:=a/512) (b:=(a+IZ n)/512) (by omega) (by omega) (by omega)).1,hk.fx⟩,λm K O=> ?_,f1,f3,d⟩;show(S.T.fr m||inr (a/512*512) (IZ n/512*512) m)=true;exact O3.2 (.inr (by omega))
def dN.inv{p n page:Int}(h:dN S p n page S1)(hI:Bv S no)(hk:KQ S)(n0:1<=n):Bv S1 (inr page n)/\KQ S1/\0<=page/\page+n<=34359738368:=by
 rcases h with ⟨K,i,k,v,hp,Y,hf,O,T,C,rfl,rfl⟩|⟨K,J,d,rfl⟩
 .have h1:=hf.inv hI hk v;have j:=hf.ok hk;have h2:=h1.II j v O C;have e:((n.toNat:Nat):Int)=n:=by omega
  rw[e]at h2;have y:=j.ci i v;refine⟨h2,j.II v,?_,?_⟩
  .have:=y.b0;omega
  .have:=y.b1;have:=y.b64;omega
 .have h1:=J.inv hI hk;have j:=J.ok hk;exact⟨h1.Ge j d.2.2.1,j.Ge (by omega),d.1,d.2.1⟩
end
section
variable{E:Env}{r:Nat}{V:TV}{Z:List Pr}{w:World}
def Wm(H:Sat (Mp E r V::Z) w)(j: ∀p,V.rl p=true->V.fr p=true){p n:Int}(hp:0<=p)(hn:0<n)(hb:p+n<=34359738368)(v: ∀q,p<=q->q<p+n->V.Li q=true)(hf: ∀q,p<=q->q<p+n->V.fr q=false){K:Int->World->Prop}
  (Y: ∀w',Sat (Mp E r (V.Kx p n)::Z) w'->K 0 w'):F.Bf E (some ⟨r,0,none⟩) p n false K w:=by
 obtain⟨l,⟨d,A6⟩,H⟩:=Sat.mP.1 H;have hr:HD V p n:=⟨by omega,by omega,λm a b=>v m a b⟩;have h0:At l p n false 31=0:=(TT d A6 hp (by omega) false (e:=31) (by decide)).2.2.2.2 hr rfl λm a b=>hf m a b;have hg:=d.Mi A6 hp (n:=n) (by omega) (by omega);refine UC H (λq hq=>(d.f q).2 (j q ((d.r q).1 hq))) hp (by omega) (by omega) (by omega) (λh=>absurd h0 h) λ_ w' y=>Y w' ?_;have o1:=(FG (A6 1 (by decide)) (a:=p) (b:=p+n) (by omega) hp (by omega)).1;refine O2 (l:=Sh.Mi l 3 p n) hg.1 (λi v=> ?_) λl' C J O=>y l' C J O;have T:i=0∨i=1∨i=2:=by omega
 rcases T with rfl|rfl|rfl
 .exact A6 0 (by decide)
 .exact o1
 .exact A6 2 (by decide)
def QH(H:Sat (Mp E r V::Z) w)(y:TS V){n:Int}(n0:1<=n)(n1:n<18446744073709551616){K:Int->Int->Int->World->Prop}
  (J:(∀p,¬Ld V.fr p n)-> ∀w',Sat (Mp E r V::Z) w'->K 0 0 30 w')(O: ∀p x,IH V n p-> ∀w',Sat (Mp E r (V.take p n)::Z) w'->K p x 0 w'):F.CD E (some ⟨r,0,none⟩) n K w:=by
 obtain⟨l,⟨v,A6⟩,H⟩:=Sat.mP.1 H;have d: ∀p,findL (l 1) n=some p->IH V n p:=λp hp=>by
  obtain⟨h1,h2⟩:=Kw (A6 1 (by decide)) (by omega) hp;have j:=(Hx v).1 h1;have a0:=y.Ju p (y.fi p (j p (Int.le_refl _) (by omega)));have a1:=y.Ju (p+n-1) (y.fi _ (j (p+n-1) (by omega) (by omega)));exact⟨a0.1,by omega,j,λp' T=>h2 p' ((Hx v).2 T)⟩
 refine Yf H (by omega) n1 (λp _ hp=> ?_) (λh=>by omega) (λ_ hn w' C=>J (λp hp=>MN (A6 1 (by decide)) (by omega) hn p ((Hx v).2 hp)) w' (Sat.mP.2 ⟨l,⟨v,A6⟩,C⟩)) λ_ p hp w' C=>O p _ (d p hp) w' (O2 (l:=Sh.OL l p n) (v.OL (by omega)) (λi hi=> ?_) λl' Y e1 e2=>C l' Y e1 e2)
 .have hf:=d p hp;exact⟨(TT v A6 hf.1 (by omega) true (e:=32) (by decide)).2.2.1 ⟨by omega,hf.2.1,λm a b=>y.fi m (hf.2.2.1 m a b)⟩ rfl hf.2.2.1,hf.1,hf.2.1⟩
 .have h3:i=0∨i=1∨i=2:=by omega
  rcases h3 with rfl|rfl|rfl
  .exact A6 0 (by decide)
  .exact GX (A6 1 (by decide)) (by omega)
  .exact GX (A6 2 (by decide)) (by omega)
def Ys(H:Sat (Mp E r V::Z) w){c n:Int}(v:0<=c)(Y:0<n)(aA:n<=262144)(O:c+n<=67108864)(hf: ∀p,c*512<=p->p<(c+n)*512->V.Li p=false){K:Int->World->Prop}
  (J: ∀w',Sat (Mp E r (V.grow c n)::Z) w'->K 0 w'):F.CV E (some ⟨r,0,none⟩) c n K w:=by
 obtain⟨l,⟨y,A6⟩,H⟩:=Sat.mP.1 H;have h0:cnt (l 0) (c*512) ((c+n)*512)=0:=(Dn (A6 0 (by decide)) (by omega)).2 λp h1 h2 hm=>by
  have:=(y.i p).1 hm;grind
 have T:=y.Uz A6 v Y O;refine a7 H v (by omega) (by omega) (by omega) (λh=>by omega) (λ_ h=>absurd h0 h) λ_ _ w' C=>J w' (O2 (l:=Uz l c n) T (λi j=> ?_) λl' a0 a1 a2=>C l' λi j=> ?_)
 .have o: ∀i,i<4->Ok (Dl (l i) (c*512) ((c+n)*512)):=λi j=>(FG (A6 i j) (by omega) (by omega) (by omega)).1;have d:i=0∨i=1∨i=2:=by omega
  rcases d with rfl|rfl|rfl
  .exact o 0 (by decide)
  .exact o 1 (by decide)
  .exact o 2 (by decide)
 .have d:i=0∨i=1∨i=2:=by omega
  rcases d with rfl|rfl|rfl
  .rw[a0];rfl
  .rw[a1];rfl
  .rw[a2];rfl
end
def SI.rs(I:SI):Int×Int×Int×Int×Bool×Int×Int:=(I.base,I.AA,I.state,I.cls,I.Fv,I.elem,I.AK)
def A2.congr{E:Env}{q:Nat}{I J:SI}{U M:Nat->Bool}(h:I.rs=J.rs):A2 E q I U M=A2 E q J U M:=by
 unfold SI.rs at h;injection h with h1 h
 injection h with h2 h
 injection h with h3 h
 injection h with h4 h
 injection h with h5 h
 injection h with h6 h7
 have d:GM I=GM J:=by funext s1 s2 lk;unfold GM;grind
 have j:dY I U M=dY J U M:=by
  funext ul ml lk;refine propext ⟨λg=>⟨g.u,g.m,by rw[<-h7];exact g.lu,by rw[<-h7];exact g.lm,by rw[<-h7];exact g.Ju,by rw[<-h7];exact g.lk0,g.lk1⟩,λg=>⟨g.u,g.m,by rw[h7];exact g.lu,by rw[h7];exact g.lm,by rw[h7];exact g.Ju,by rw[h7];exact g.lk0,g.lk1⟩⟩
 have v:UE E q I=UE E q J:=by funext ul ml s1 s2 lk;unfold UE;rw[d]
 unfold A2;rw[j,v]
section
variable{E:Env}{h:Nat}{S S':HS}{um um':eB}{g:RG}{Z:List Pr}{w:World}
def rsR.congr{x:Int×Nat}(hs:(S'.sp x.1).map (λy=>y.2.rs)=(S.sp x.1).map (λy=>y.2.rs))(hu:um' x.1=um x.1):rsR E S'.sp um' x=rsR E S.sp um x:=by
 unfold rsR;rw[hu];cases h1:S.sp x.1<;>cases h2:S'.sp x.1<;>rw[h1,h2]at hs
 .cases hs
 .cases hs
 .exact A2.congr (by grind)
def Sat.nD(H:Sat (LA E h S um::Z) w)(O:S'.V=S.V)(Y:S'.T=S.T)(j:S'.ca=S.ca)(e4:S'.fx=S.fx)(e5:S'.hint=S.hint)(d: ∀id,(S'.sp id).map (λy=>y.2.rs)=(S.sp id).map λy=>y.2.rs)(v: ∀id,S.sp id≠none->um' id=um id):Sat (LA E h S' um'::Z) w:=by
 obtain⟨g,hI,H⟩:=Sat.HU.1 H;have C: ∀id,S'.at id=S.at id:=λid=>by
  have:=d id;unfold HS.at;cases h1:S.sp id<;>cases h2:S'.sp id<;>rw[h1,h2]at this
  .cases this
  .cases this
  .simp only[Option.map_some,SI.rs]at this
   grind
 have J: ∀id,S'.sp id≠none↔S.sp id≠none:=λid=>by
  have:=d id;cases h1:S.sp id<;>cases h2:S'.sp id<;>rw[h1,h2]at this
  .cases this
  .cases this
  grind
 refine Sat.HU.2 ⟨g,⟨by rw[j];exact hI.q,λid=>by rw[J];exact hI.mem id,?_⟩,?_⟩
 .have:(g.L.map λx=>S'.at x.1)=g.L.map λx=>S.at x.1:=List.map_congr_left λx _=>C x.1;rw[this];exact hI.so
 .have:Aa (rsR E S'.sp um') g.L=Aa (rsR E S.sp um) g.L:=Aa.congr λx K=>rsR.congr (d x.1) (v x.1 ((hI.mem x.1).1 (List.mem_map.2 ⟨x,K,rfl⟩)));unfold Eg at H⊢
  grind
def SY(H:Sat (Eg E h S um g++Z) w): ∃R,Sat (Mp E g.t S.T::R) w/\ ∀{d:TV} {w'},Sat (Mp E g.t d::R) w'->Sat (Eg E h {S with T:=d} um g++Z) w':=
 ⟨_,H.front 2 rfl,λ{d w'} H'=>Sat.back (Ps:=Eg E h S um g++Z) 2 H' (by simp[Eg])⟩
def bH(H:Sat (Eg E h S um g++Z) w): ∃R,Sat (GU E g.m S.V::R) w/\ ∀{V':VS} {w'},Sat (GU E g.m V'::R) w'->Sat (Eg E h {S with V:=V'} um g++Z) w':=
 ⟨_,H.front 1 rfl,λ{V' w'} H'=>Sat.back (Ps:=Eg E h S um g++Z) 1 H' (by simp[Eg])⟩
def rhM{R:List Pr}(H:Sat (Cells h E.Ae (DL g.m g.t g.f g.sl S.hint g.v)::R) w):w.cell? (Addr.mk h 0 none)=some (.pointer (some ⟨g.m,0,none⟩)):=
 H.Af (o:=0) (rh_0 g.m g.t g.f g.sl S.hint g.v)
def rhF{R:List Pr}(H:Sat (Cells h E.Ae (DL g.m g.t g.f g.sl S.hint g.v)::R) w):w.cell? ((Addr.mk h 0 none).add 8258)=some (.pointer (some ⟨g.f,0,none⟩)):=
 H.cell (o:=0) (m:=8258) (by rw[Nat.zero_add];exact Wj g.m g.t g.f g.sl S.hint g.v 0)
def wB{R:List Pr}(H:Sat (Cells h E.Ae (DL g.m g.t g.f g.sl S.hint g.v)::R) w):w.cell? ((Addr.mk h 0 none).add 8260)=some (.int .u64 S.hint):=
 H.cell (o:=0) (m:=8260) (by rw[Nat.zero_add];exact Wj g.m g.t g.f g.sl S.hint g.v 2)
def nE(H:Sat (Eg E h S um g++Z) w){x:Int}{K:World->Prop}(j: ∀w',Sat (Eg E h {S with hint:=x} um g++Z) w'->K w'):stCells ((Addr.mk h 0 none).add 8260) 0 [.int .u64 x] w K:=by
 refine Ab H (o:=0) (m:=8260) rfl (by rw[m6];decide) λw' d=>j w' ?_;rw[Nat.zero_add,m8 g.m g.t g.f g.sl S.hint g.v 2 (.int .u64 x) (f':=g.f) (sl':=g.sl) (hint':=x) rfl]at d;exact d
def sG{s:AX}{R:List Pr}{g:RG}(H:Sat (Cells h E.Ae (DL g.m g.t g.f g.sl S.hint g.v)::R) w){K:World->Prop}(j: ∀w',Sat (Cells h E.Ae (DL g.m g.t g.f s S.hint g.v)::R) w'->K w'):stCells ((Addr.mk h 0 none).add 8259) 0 [.slice s.base s.len s.cap] w K:=by
 refine Ab H (o:=0) (m:=8259) rfl (by rw[m6];decide) λw' d=>j w' ?_;rw[Nat.zero_add,m8 g.m g.t g.f g.sl S.hint g.v 1 (.slice s.base s.len s.cap) (f':=g.f) (sl':=s) (hint':=S.hint) rfl]at d;exact d
def Kg(hI:ZL S g)(H:Sat (Eg E h S' um g++Z) w)(j:S'.ca=S.ca)(d:S'.sp=S.sp):Sat (LA E h S' um::Z) w:=by
 refine Sat.HU.2 ⟨g,⟨by rw[j];exact hI.q,by rw[d];exact hI.mem,?_⟩,H⟩;have:S'.at=S.at:=by funext id;unfold HS.at;rw[d]
 rw[this];exact hI.so
def Rd(H:Sat (LA E h S um::Z) w){p:Nat}(hp:p<64): ∃(t:Nat) (A D:List Value) (R:List Pr),A.length=2+p*129/\w.cell? ((Addr.mk h 0 none).add 1)=some (.pointer (some ⟨t,0,none⟩))/\Sat (dW h E.Ae A D (S.ca p)::Mp E t S.T::R) w/\
  ∀{d:CS} {y:TV} {w'},Sat (dW h E.Ae A D d::Mp E t y::R) w'->Sat (LA E h {S with T:=y,ca:=λj=>if j=p then d else S.ca j} um::Z) w':=by
 obtain⟨g,hI,H1⟩:=Sat.HU.1 H;obtain⟨C,K⟩:=Sat.nA (R:=GU E g.m S.V::Mp E g.t S.T::KN E g.f S.fx::Row E.AZ 2 g.sl (Ao Jh g.L)::Aa (rsR E S.sp um) g.L::Z) H1 hI hp;refine⟨g.t,_,_,_,qY g.m g.t g.v hp,wA H1,C.EM 1 rfl,λ{d y w'} H3=> ?_⟩;obtain⟨x,Y,J⟩:=K (H3.perm (.cons _ (.swap _ _ _)));refine Sat.HU.2 ⟨{g with v:=Qy g.v p x},⟨λi O=> ?_,hI.mem,hI.so⟩,J⟩;show mQ (if i=p then d else S.ca i) (Qy g.v p x i).1 (Qy g.v p x i).2.1 (Qy g.v p x i).2.2;unfold Qy;by_cases e:i=p
 .grind
 .rw[if_neg e,if_neg e];exact hI.q i O
def Wn(H:Sat (LA E h S um::Z) w)(hI:Bv S no)(hk:KQ S){p n:Int}(n0:1<=n)(n1:n<=134217728){K:Int->Int->World->Prop}
  (aZ: ∀page S2,Found S p n page S2->Bv S2 (inr page n)->KQ S2->0<=page->page+n<=34359738368-> ∀w',Sat (LA E h S2 um::Z) w'->K page 0 w')(aP: ∀S2,Oo S p n S2-> ∀w',Sat (LA E h S2 um::Z) w'->K 0 13 w'):F.CW E (some ⟨h,0,none⟩) p n K w:=by
 unfold F.CW T0.CW;refine Jy (λst w'=>(st.2.1=30/\ ∃S0,IY S p n S0/\Sat (LA E h S0 um::Z) w')∨(st.2.1=0/\ ∃S1,dN S p n st.1 S1/\Sat (LA E h S1 um::Z) w')) ?_ ?_
 .refine Jy (λst w'=>st.1=decide (0<=p/\p<64/\n<16)/\w'=w) ?_ ?_
  .refine AB (λa1=>AB (λa2=>⟨?_,rfl⟩) λa2=>⟨?_,rfl⟩) λa1=>⟨?_,rfl⟩
   .grind
   .grind
   grind
  rintro⟨s,u⟩ _ w6 ⟨hs,rfl⟩;dsimp only at hs⊢;subst hs;refine AB (λhp=> ?_) λhp=>.inl ⟨rfl,S,.inl ⟨hp,rfl⟩,H⟩;obtain⟨p0,aQ,a7⟩:=hp;have hi:p.toNat<64:=by omega
  have a5:p=((p.toNat:Nat):Int):=by omega
  refine Jy (λ_ w'=> ∃S1,Jc S p.toNat S1/\Sat (LA E h S1 um::Z) w') ?_ ?_
  .obtain⟨t,A,D,R,hA,C,H1,y⟩:=Rd H hi;have ha:((Addr.mk h 0 none).add 2).add (Int.toNat p*129)=Addr.mk h A.length none:=by rw[add_add,add_eq,Nat.zero_add,hA]
   have same: ∀{w'},Sat (dW h E.Ae A D (S.ca p.toNat)::Mp E t S.T::R) w'->Sat (LA E h S um::Z) w':=λ{w'} h'=>by
    have:=y h';rw[dM]at this;exact this
   refine AH ⟨⟨p0,aQ⟩,?_⟩;rw[ha];refine QD H1 (λhe=>AR rfl (AH ⟨⟨p0,aQ⟩,AH ⟨some ⟨t,0,none⟩,C,?_⟩⟩)) λhe=>AP rfl ⟨S,.inr ⟨.inl he,rfl⟩,H⟩
   .rw[ha];refine Yi H1.drew hk.tv.fi hk.tv.rf hk.tv.Ju (λh'=>absurd he h') (λ_ j w' v=>⟨S,.inr ⟨.inr j,rfl⟩,same v⟩) λ_ q O w' v=>⟨_,.inl ⟨he,q,O,rfl⟩,y v⟩
  rintro _ _ w9 ⟨S1,hf,H9⟩;obtain⟨t,A,D,R,hA,C,bD,y⟩:=Rd H9 hi;have ha:((Addr.mk h 0 none).add 2).add (Int.toNat p*129)=Addr.mk h A.length none:=by rw[add_add,add_eq,Nat.zero_add,hA]
  refine AH ⟨⟨p0,aQ⟩,?_⟩;rw[ha,AF (n:=n)];refine Wc bD (by omega) (by omega) (λc=>by omega) (λ_ _ j=>.inl ⟨rfl,S1,.inr ⟨p.toNat,hi,a5,a7,hf,j⟩,H9⟩) λ_ _ k Y hl bT w' v=>.inr ⟨rfl,S1.II p.toNat k n.toNat,.inl ⟨S1,p.toNat,k,hi,a5,a7,hf,Y,hl,bT,rfl,rfl⟩,y v⟩
 rintro⟨pg,e,u⟩ _ w3 J;dsimp only at J⊢;refine Jy (λst w'=>(st.2.1=30/\ ∃S0,IY S p n S0/\(∀q,¬Ld S0.T.fr q n)/\Sat (LA E h S0 um::Z) w')∨(st.2.1=0/\ ∃S1,dN S p n st.1 S1/\Sat (LA E h S1 um::Z) w')) ?_ ?_
 .rcases J with ⟨rfl,S0,C,H3⟩|⟨rfl,S1,hg,H3⟩
  .refine AR rfl ?_;obtain⟨g,hR,H4⟩:=Sat.HU.1 H3;obtain⟨R,H5,y⟩:=SY H4;refine AH ⟨some ⟨g.t,0,none⟩,wA H4,?_⟩;refine QH H5 (C.ok hk).tv n0 (by omega) (λj w' v=>.inl ⟨rfl,S0,C,j,Kg hR (y v) rfl rfl⟩) λq x O w' v=>.inr ⟨rfl,S0.Ge q n,.inr ⟨S0,C,O,rfl⟩,Kg hR (y v) rfl rfl⟩
  .exact AP rfl (.inr ⟨rfl,S1,hg,H3⟩)
 clear J;rintro⟨pg,e,u⟩ _ cE J;dsimp only at J⊢;refine Jy (λst w'=>st.2.1=0/\ ∃S1,Tk S p n st.1 S1/\Bv S1 (inr st.1 n)/\KQ S1/\0<=st.1/\st.1+n<=34359738368/\Sat (LA E h S1 um::Z) w') ?_ ?_
 .rcases J with ⟨rfl,S0,C,j,H3⟩|⟨rfl,S1,hg,H3⟩
  .refine AR rfl ⟨by decide,AY λN hN=> ?_⟩;rw[AM (n:=n+511),Int.tdiv_eq_ediv_of_nonneg (by omega),AM (n:=(n+511)/512),AM]at hN;have hN:N=IZ n:=by unfold IZ;omega
   subst hN;obtain⟨u1,u2,u3,u4⟩:=nC n0 n1;have i0:=C.inv hI hk;have k0:=C.ok hk;obtain⟨g,hR,H4⟩:=Sat.HU.1 H3.drew;obtain⟨R,H5,y⟩:=bH H4;have hh:=i0.h0;have b8:=i0.h1;refine AH ⟨some ⟨g.m,0,none⟩,rhM H4,AH ⟨S0.hint,wB H4,?_⟩⟩;refine Uf H5 hh (by omega) (by omega) (by omega) (λc=>by omega) (λ_ r Y w' v=>AR rfl (aP _ (.inl ⟨S0,C,j,.inl ⟨r,Y,rfl⟩⟩) w' (Kg hR (y v) rfl rfl)))
    (λ_ Y hu w' v=>AR rfl (aP _ (.inl ⟨S0,C,j,.inr ⟨Y,hu,rfl⟩⟩) w' (Kg hR (y v) rfl rfl))) λ_ Y a a0 a1 hc cG bE=>AP rfl ?_
   obtain⟨g1,g2,g3,g4,g5,g6⟩:=iC i0 k0 n0 n1 hc (by omega);have bF:=y (bE g2.vv);rw[AM (n:=a+IZ n)];refine AH (nE bF λcH aT=>AH ⟨some ⟨g.t,0,none⟩,wA aT,by decide,by decide,?_⟩);rw[Int.tdiv_eq_ediv_of_nonneg (by omega),Int.tdiv_eq_ediv_of_nonneg (by omega),AM (n:=a/512),AM (n:=IZ n/512)];obtain⟨R2,bG,aN⟩:=SY aT;refine Ys bG (by omega) (by omega) (by omega) (by omega) (λq q1 q2=>g6 q (by omega) (by omega)) λcI bI=> ?_;have aU:=aN bI;refine AH ⟨some ⟨g.t,0,none⟩,wA aU,?_⟩;obtain⟨R3,bJ,bR⟩:=SY aU;refine QH bJ g2.tv n0 (by omega) (λj w' v=>absurd g3 (j a)) λq x O w' v=> ?_;have j1:=g1.Ge g2 O.2.2.1;exact⟨rfl,_,.inr ⟨S0,_,C,j,⟨Y,a,hc,rfl⟩,O,rfl⟩,j1,g2.Ge (by omega),O.1,O.2.1,Kg hR (bR v) rfl rfl⟩
  .obtain⟨j1,j2,j3,j4⟩:=hg.inv hI hk n0;exact AP rfl ⟨rfl,S1,.inl hg,j1,j2,j3,j4,H3⟩
 clear J;rintro⟨pg,e,u⟩ _ cF ⟨e0,S1,C,aE,d,aB,aC,aS⟩;dsimp only at e0 C aE aB aC⊢;subst e0;refine AP rfl ?_;obtain⟨g,hR,H4⟩:=Sat.HU.1 aS;obtain⟨R,H5,y⟩:=bH H4;refine AH ⟨some ⟨g.m,0,none⟩,rhM H4,?_⟩;have hl: ∀q,pg<=q->q<pg+n->mem S1.V.laid q:=λq q1 q2=>(aE.la q).2 (aE.li q (As.2 ⟨q1,q2⟩));have bS:cnt S1.V.laid pg (pg+n)=n:=by
  have:=(El d.vv.LM (a:=pg) (b:=pg+n) (by omega)).2 hl;omega
 have aO:cnt S1.V.ready pg (pg+n)=n↔Je S1 pg n:=by
  have:=El d.vv.Pj (a:=pg) (b:=pg+n) (by omega);rw[show pg+n-pg=n by omega]at this;exact this
 have bV:Iu pg n:=⟨by omega,aC⟩;refine Wh H5 aB (by omega) (by omega) (by omega) (λc=>absurd bV c) (λ_ c=>absurd bS c) (λ_ _ c w' v=>AP rfl (aZ pg S1 ⟨S1,C,.inl ⟨aO.1 c,rfl⟩⟩ aE d aB aC w' (Kg hR (y v) rfl rfl)))
  (λ_ _ c r Y aR aH=>AR rfl ?_) λ_ _ c Y aR aH=>AP rfl (aZ pg _ ⟨S1,C,.inr ⟨λx=>c (aO.2 x),Y,rfl⟩⟩ (aE.On d aB (by omega) aC λq q1 q2=>As.2 ⟨q1,q2⟩) ⟨d.tv,d.vv.On aB (by omega) aC hl,d.ci,d.ok,d.fx⟩ aB aC aR (Kg hR (y (aH (d.vv.On aB (by omega) aC hl))) rfl rfl))
 have bU: ¬Je S1 pg n:=λx=>c (aO.2 x);have bK:Sat (LA E h {S1 with V:={S1.V with rf:=r}} um::Z) aR:=Kg hR (y aH) rfl rfl;clear aH y H5 H4 hR aS R g;have aM:Bv {S1 with V:={S1.V with rf:=r}} (inr pg n):=aE.pZ rfl rfl;have aG:KQ {S1 with V:={S1.V with rf:=r}}:=⟨d.tv,⟨d.vv.LM,d.vv.Pj,d.vv.U6,d.vv.rl,d.vv.el,d.vv.re,d.vv.Ju,d.vv.clean,d.vv.u6⟩,d.ci,d.ok,d.fx⟩;have aJ:=λw' (v:Sat (LA E h (({S1 with V:={S1.V with rf:=r}}:HS).Eu pg n) um::Z) w')=>aP _ (.inr ⟨S1,pg,r,C,bU,Y,rfl⟩) w' v;generalize hS2:({S1 with V:={S1.V with rf:=r}}:HS)=S2 at bK aM aG aJ;refine AI (λst w'=> ∃i:Int,st.1=pg+i/\0<=i/\i<=n/\Sat (LA E h (S2.Eu pg i) um::Z) w') (λst _=>(pg+n-st.1).toNat) ⟨0,by omega,Int.le_refl _,by omega,?_⟩ ?_
 .have:S2.Eu pg 0=S2:=by
   have e: ∀q,inr pg 0 q=false:=λq=>by rw[IU];omega
   unfold HS.Eu;simp only[e,Bool.or_false,Bool.false_and]
  grind
 rintro⟨_,u⟩ _ bZ ⟨i,rfl,i0,i1,aV⟩;dsimp only;rw[AM (n:=pg+n)];refine AB (λb9=> ?_) λb6=> ?_
 .obtain⟨g,hR,H4⟩:=Sat.HU.1 aV.drew;obtain⟨R,H5,y⟩:=bH H4;refine AH ⟨some ⟨g.t,0,none⟩,wA H4,AH ⟨some ⟨g.m,0,none⟩,rhM H4,?_⟩⟩;refine Yn H5 λcJ bL=> ?_;have aW:=y bL;refine⟨wA aW,?_⟩;obtain⟨R2,bM,aN⟩:=SY aW;have a4:=aM.ON aG (p:=pg+i) (As.2 ⟨by omega,by omega⟩);have aY:=aM.li (pg+i) (As.2 ⟨by omega,by omega⟩);refine Wb bM (λq O=> ?_) (by omega) (by omega) aY ?_ λcK bN=> ?_
  .have O:(S2.T.rl q||(inr pg i q&& !Ms S2.V.ready q))=true:=O;show(S2.T.fr q||inr pg i q)=true;rw[Bool.or_eq_true_iff]at O⊢;rcases O with O|O
   .exact .inl (aG.tv.rf q O)
   grind
  .show(S2.T.fr (pg+i)||inr pg i (pg+i))=false;rw[a4.1,Bool.false_or,IU];omega
  .rw[AM (n:=pg+i+1)];refine⟨⟨i+1,by omega,by omega,by omega,?_⟩,by omega⟩;have aX:=Kg (S':={S2.Eu pg i with T:=_}) hR (aN bN) rfl rfl;have e:(if((Ww (S2.Eu pg i).V (pg+i)) !=2)=true then(S2.Eu pg i).T.back (pg+i) 1 else(S2.Eu pg i).T.Kx (pg+i) 1)=(S2.Eu pg (i+1)).T:=by
    have bW:((Ww (S2.Eu pg i).V (pg+i)) !=2)= !Ms S2.V.ready (pg+i):=by
     show(Ww S2.V (pg+i) !=2)=_;cases Y:Ms S2.V.ready (pg+i)with
     | true=>rw[mY aG.vv (CJ.1 Y)];rfl
     | false=>
      have:Ww S2.V (pg+i)≠2:=by
       rcases N6 aG.vv (pg+i)with c|c|c|c
       .omega
       .omega
       .rw[CJ.2 c.2.2.1]at Y;cases Y
       omega
      grind
    rw[bW];have aK: ∀q,inr pg (i+1) q=(inr pg i q||inr (pg+i) 1 q):=λq=>by
     rw[Bool.eq_iff_iff,Bool.or_eq_true_iff,As,As,As];omega
    cases Y:Ms S2.V.ready (pg+i)with
    | true=>
     rw[if_neg (by simp)];unfold TV.Kx HS.Eu;dsimp only;congr 1
     .grind
     .funext q;rw[aK];by_cases e:q=pg+i
      .grind
      .have:inr (pg+i) 1 q=false:=by rw[IU];omega
       grind
    | false=>
     rw[if_pos (by simp)];unfold TV.back HS.Eu;dsimp only;congr 1
     .grind
     .funext q;rw[aK];by_cases e:q=pg+i
      .grind
      .have:inr (pg+i) 1 q=false:=by rw[IU];omega
       grind
   rw[e]at aX;exact aX
 .obtain rfl:i=n:=by omega
  exact aJ bZ aV
end
def KO(um:eB)(id:Int)(U M:Nat->Bool):eB:=λi=>if i=id then(U,M)else um i
section
variable{E:Env}{h:Nat}{S S':HS}{um um':eB}{g:RG}{Z:List Pr}{w:World}
def atK(S:HS)(x:Int×Nat):Int:=S.at x.1
def ZL.Ho(hI:ZL S g):IW (atK S) g.L:=List.pairwise_map.1 hI.so
def ZL.nd(hI:ZL S g):(g.L.map (·.1)).Nodup:=List.pairwise_map.2 (List.Pairwise.imp (λ{a b} hab e=>by unfold atK at hab;grind) hI.Ho)
def ZL.KV{fl:Int->Bool}(hI:ZL S g)(d:Bv S fl):g.L.length<1099511627776:=by
 have:=d.KV _ hI.nd λn j=>(hI.mem n).1 j
 grind
def rhadd_spec{q:Nat}{I:SI}{page n:Int}{U M:Nat->Bool}(H:Sat (A2 E q I U M::LA E h S um::Z) w)(d:Bv S (inr page n))(hk:KQ S)(n0:0<n)(i1:I.base=page*8192){K:Int->World->Prop}
  (hK: ∀id X,Next S id X-> ∀w',(∀b,Sat (LA E h (S.C5 id (b,I) page n X) (KO um id U M)::Z) w')->K id w'):F.Cx E (some ⟨h,0,none⟩) (some ⟨q,0,none⟩) K w:=by
 obtain⟨g,hI,H1⟩:=Sat.HU.1 (H.perm (.swap _ _ _));unfold F.Cx T0.Cx;have bY:=hI.KV d;have cH:=d.fb;have key: ∀id X,Next S id X-> ∀w4,Sat (Eg E h {S with fx:=X} um g++A2 E q I U M::Z) w4->
   Ai (Int×Unit) (λJ5=>
  Az (Int×Unit) (0,()) w4 λs8 _ w9 aE=>
   NC (some (Addr.mk h 0 none)) λbK=>
   ∃aH:AX,w9.drew.cell? (bK.add 8259)=some (.slice aH.base aH.len aH.cap)/\
   CND (decide ((s8.1:Int)<((aH.len:Nat):Int))) (
    NC (some (Addr.mk h 0 none)) λbL=>
    ∃aC:AX,w9.drew.cell? (bL.add 8259)=some (.slice aC.base aC.len aC.cap)/\
    NC aC.base λbM=>
    ((0:Int)<=s8.1/\(s8.1:Int)<(aC.len:Nat))/\
    ∃a3:(Option Addr),w9.drew.cell? ((bM.add (Int.toNat s8.1*2)).add 1)=some (.pointer a3)/\
    NC a3 λbN=>
    ∃a4:Int,w9.drew.cell? bN=some (.int .u64 a4)/\
    NC (some (Addr.mk q 0 none)) λbO=>
    ∃a5:Int,w9.drew.cell? bO=some (.int .u64 a5)/\
    CND (decide ((a4:Int)<a5)) (
     aE (i64 (s8.1+1),()) w9.drew
    ) (
     J5 (s8.1,()) w9.drew
    )
   ) (
    J5 (s8.1,()) w9.drew
   )
 ) λs6 _ w7=>
  AL (.cells ⟨[]⟩ E.AZ) w7 λaU aO=>
  NC (some (Addr.mk h 0 none)) λbP=>
  ∃O:AX,aO.cell? (bP.add 8259)=some (.slice O.base O.len O.cap)/\
  ((0:Int)<=s6.1/\(s6.1:Int)<=(O.cap:Nat))/\
  APP E.AZ 2 16 #[.int .i64 0,.pointer none] ⟨(some (Addr.mk aU 0 none)),0,0⟩ ⟨(GN O.base O.cap 0 2),(Int.toNat s6.1),O.cap⟩ aO λOe a0=>
  AL (.cells ⟨[.int .i64 id,.pointer (some (Addr.mk q 0 none))]⟩ E.AZ) a0 λaV a1=>
  APP E.AZ 2 16 #[.int .i64 0,.pointer none] Oe ⟨(some (Addr.mk aV 0 none)),1,1⟩ a1 λIQ aP=>
  NC (some (Addr.mk h 0 none)) λbQ=>
  ∃J:AX,aP.cell? (bQ.add 8259)=some (.slice J.base J.len J.cap)/\
  ((0:Int)<=s6.1/\(s6.1:Int)<=(J.len:Nat))/\
  APP E.AZ 2 16 #[.int .i64 0,.pointer none] IQ ⟨(GN J.base J.cap (Int.toNat s6.1) 2),(J.len-(Int.toNat s6.1)),(J.cap-(Int.toNat s6.1))⟩ aP λPa a2=>
  NC (some (Addr.mk h 0 none)) λbR=>
  stCells (bR.add 8259) 0 [.slice Pa.base Pa.len Pa.cap] a2 λaF=>
  K id aF:=by
  intro id X hX w4 H4;obtain⟨Mf,bH,_⟩:=hX.live hk d;have aN: ∀x∈g.L,∃y,S.sp x.1=some y/\x.1≠id/\0<=y.2.base/\S.at x.1=y.2.base/\y.2.base %8192=0/\y.2.base/8192≠page:=λx C=>by
   obtain⟨y,hy⟩:=Option.ne_none_iff_exists'.1 ((hI.mem x.1).1 (List.mem_map.2 ⟨x,C,rfl⟩));have hs:=d.sp x.1 y hy;have h1:=hs.2.2.2.2 (y.2.base/8192) (Int.le_refl _) (by omega);have cJ:=hk.tv.Ju _ (d.ow _ (by omega:0<S.own (y.2.base/8192))).1;refine⟨y,hy,λe=>(by grind),by omega,HS.dZ hy,hs.2.1,λe=> ?_⟩;have:=(d.ON hk (p:=page) (As.2 ⟨Int.le_refl _,by omega⟩)).2.2.1
   grind
  refine Jy (λst w'=> ∃i:Nat,st.1=(i:Int)/\i<=g.L.length/\(∀(j:Nat) x,g.L[j]? =some x->j<i->S.at x.1<page*8192)/\(∀x,g.L[i]? =some x->page*8192<S.at x.1)/\Sat (Eg E h {S with fx:=X} um g++A2 E q I U M::Z) w') ?_ ?_
  .refine AI (λst w'=>Sat (Eg E h {S with fx:=X} um g++A2 E q I U M::Z) w'/\ ∃i:Nat,st.1=(i:Int)/\i<=g.L.length/\(∀(j:Nat) x,g.L[j]? =some x->j<i->S.at x.1<page*8192)) (λst _=>((g.L.length:Int)-st.1).toNat) ⟨H4,0,rfl,Nat.zero_le _,λj q _ hj=>by omega⟩ ?_;rintro⟨i',u⟩ _ w9 ⟨H9,i,hi,aA,Y⟩;dsimp only at hi⊢;subst hi;have Hd:=H9.drew;have hl:=Mc (Hd.front 4 rfl);refine AH ⟨g.sl,bD Hd,AB (λbI=>AH ⟨g.sl,bD Hd,?_⟩) λcI=>⟨i,rfl,aA,Y,λx C=> ?_,Hd⟩⟩
   .obtain⟨x,C⟩: ∃x,g.L[i]? =some x:=⟨_,List.getElem?_eq_getElem (by omega)⟩;obtain⟨b,hb⟩:=(Hd.front 4 rfl).FZ (by decide) Bs (i:=i) (by omega);rw[hb];obtain⟨y,hy,aM,yb,cG,hm,cM⟩:=aN x (List.mem_of_getElem? C);obtain⟨y',R',bJ,h1⟩:=nB (S:={S with fx:=X}) (Hd.front 5 rfl) ⟨hI.q,hI.mem,hI.so⟩ C;have e:y'=y:=by
     have:S.sp x.1=some y':=bJ
     grind
    subst e;obtain⟨ul,ml,s1,s2,lk,cF,h2⟩:=Sat.Gk.1 h1;obtain⟨cT,cQ,cR,cS,cP,_,h3⟩:=Sat.Gk.1 (Hd.front 6 rfl);refine AH ⟨⟨by omega,bI⟩,some ⟨x.2,0,none⟩,?_,AH ⟨_,h2.Af rfl,AH ⟨_,h3.Af rfl,?_⟩⟩⟩
    .have:=(Hd.front 4 rfl).Bu Bs hb C (j:=1) rfl;rw[add_add];exact this
    have eI:I.base/8192=page:=by omega
    rw[eI];refine AB (λb1=> ?_) λbZ=>⟨i,rfl,aA,Y,λz hz=> ?_,Hd⟩
    .rw[AF (n:=(i:Int)+1)];refine⟨⟨Hd,i+1,by omega,by omega,λj z hz hj=> ?_⟩,by omega⟩
     grind
    grind
   grind
  rintro⟨i',u⟩ _ w7 ⟨i,hi,aA,Y,aX,H7⟩;dsimp only at hi⊢;subst hi;have cL:=(H7.front 4 rfl).F9 (by decide) Bs;refine Gs (n:=0) (z:=2) H7 rfl (by decide) λaU aO H8=>AH ⟨g.sl,bD (H8.front 1 rfl),⟨by omega,by omega⟩,?_⟩;rw[Int.toNat_natCast];have aB: ∀(x:Int×Nat),∀v∈Jh x,v.oneCell'=true:=λx v hv=>by
   simp only[Jh,List.mem_cons,List.not_mem_nil,or_false]at hv;rcases hv with rfl|rfl<;>rfl
  refine FU (x:=⟨GN g.sl.base g.sl.cap 0 2,i,g.sl.cap⟩) (news:=Ao Jh (g.L.take i)) H8 rfl ((H8.front 5 rfl).Nx (by decide) Bs aA) (by rw[De Bs,List.length_take];grind) (HE aB _) (by grind) (by grind) λOe a0 aR aZ=> ?_;rw[List.nil_append]at aR;dsimp only at aZ;refine AO (vs:=[.int .i64 id,.pointer (some (Addr.mk q 0 none))]) aR λaV a1 a7 _=>Er (news:=[.int .i64 id,.pointer (some (Addr.mk q 0 none))]) a7 rfl rfl (aB (id,q)) (by omega) (by omega) λIQ aP aK b0=> ?_;refine AH ⟨g.sl,bD (aK.front 1 rfl),⟨by omega,by omega⟩,?_⟩;refine FU (x:=⟨GN g.sl.base g.sl.cap i 2,g.sl.len-i,g.sl.cap-i⟩) (news:=Ao Jh (g.L.drop i)) aK rfl ((aK.front 5 rfl).Ny (by decide) Bs aA) (by rw[De Bs,List.length_drop];grind) (HE aB _) (by grind) (by grind) λPa a2 aS _=> ?_;have e3:Ao Jh (g.L.take i)++[Value.int .i64 id,.pointer (some (Addr.mk q 0 none))]++Ao Jh (g.L.drop i)=Ao Jh (g.L.take i++[(id,q)]++g.L.drop i):=by
   rw[FR,FR];rfl
  rw[e3]at aS;refine AH (sG (s:=Pa) (aS.front 1 rfl) λaF a8=>hK id X hX aF λb=> ?_);have aW:(g.L.take i++[(id,q)]++g.L.drop i).Perm ((id,q)::g.L):=by
   have h1:(g.L.take i++[(id,q)]++g.L.drop i).Perm ([(id,q)]++(g.L.take i++g.L.drop i)):=by grind
   rw[List.take_append_drop]at h1;exact h1
  have a9:=(a8.front 5 rfl).tail;have bA:=(a9.front 5 rfl).EM 5 rfl;have bB:=bA.perm (.swap _ _ _);have e4:Aa (rsR E S.sp um) g.L=Aa (rsR E (S.C5 id (b,I) page n X).sp (KO um id U M)) g.L:=Aa.congr λx C=>by
   obtain⟨y,hy,aM,_⟩:=aN x C;refine(rsR.congr (S:=S) (S':=S.C5 id (b,I) page n X) (um:=um) (um':=KO um id U M) ?_ ?_).symm
   .show Option.map _ (if x.1=id then some (b,I)else S.sp x.1)=_
    grind
   .unfold KO;rw[if_neg aM]
  have e5:A2 E q I U M=rsR E (S.C5 id (b,I) page n X).sp (KO um id U M) (id,q):=by
   unfold rsR KO;have:(S.C5 id (b,I) page n X).sp id=some (b,I):=if_pos rfl
   grind
  have aT:Sat (A2 E q I U M::Aa (rsR E S.sp um) g.L::Cells h E.Ae (DL g.m g.t g.f Pa S.hint g.v)::Row E.AZ 2 Pa (Ao Jh (g.L.take i++[(id,q)]++g.L.drop i))::GU E g.m S.V::Mp E g.t S.T::KN E g.f X::Z) aF:=bB;rw[e4,e5]at aT;have bC:=(Sat.JN.2 aT).JM aW.symm;have bE:=((((bC.front 2 rfl).front 5 rfl).front 5 rfl).front 5 rfl).front 5 rfl;refine Sat.HU.2 ⟨{g with sl:=Pa,L:=g.L.take i++[(id,q)]++g.L.drop i},⟨hI.q,λj=> ?_,?_⟩,bE⟩
  .show j∈(g.L.take i++[(id,q)]++g.L.drop i).map (·.1)↔(if j=id then some (b,I)else S.sp j)≠none;rw[(aW.map (·.1)).mem_iff,List.map_cons,List.mem_cons,hI.mem]
   grind
  .have aI: ∀x∈g.L,(S.C5 id (b,I) page n X).at x.1=S.at x.1:=λx C=>by
    obtain⟨y,hy,aM,_⟩:=aN x C;unfold HS.at;show(match(if x.1=id then some (b,I)else S.sp x.1)with|some x=>x.2.base|none=>0)=_
    grind
   have bX:(S.C5 id (b,I) page n X).at id=page*8192:=by
    have:(S.C5 id (b,I) page n X).sp id=some (b,I):=if_pos rfl;rw[HS.dZ this];exact i1
   have ht: ∀x∈g.L.take i,x∈g.L/\S.at x.1<page*8192:=λx C=>by
    obtain⟨j,hj⟩:=List.mem_iff_getElem?.1 C
    grind
   have hd: ∀x∈g.L.drop i,x∈g.L/\page*8192<S.at x.1:=λx C=>by
    obtain⟨j,hj⟩:=List.mem_iff_getElem?.1 C;rw[List.getElem?_drop]at hj;refine⟨List.mem_of_getElem? hj,?_⟩;have cK:=(List.getElem?_eq_some_iff.1 hj).1;obtain⟨z,hz⟩: ∃z,g.L[i]? =some z:=⟨_,List.getElem?_eq_getElem (by omega)⟩;have:=aX z hz;by_cases e:j=0
    .grind
    .have:=hI.Ho.lt hz hj (by omega);unfold atK at this;omega
   show((g.L.take i++[(id,q)]++g.L.drop i).map λx=>(S.C5 id (b,I) page n X).at x.1).Pairwise (· < ·);have e6:((g.L.take i++[(id,q)]++g.L.drop i).map λx=>(S.C5 id (b,I) page n X).at x.1)=(g.L.take i).map (λx=>S.at x.1)++[page*8192]++(g.L.drop i).map λx=>S.at x.1:=by
    rw[List.map_append,List.map_append,List.map_congr_left (l:=g.L.take i) (g:=λx=>S.at x.1) λx C=>aI x (ht x C).1,List.map_congr_left (l:=g.L.drop i) (g:=λx=>S.at x.1) λx C=>aI x (hd x C).1]
    grind
   rw[e6,List.pairwise_append,List.pairwise_append];refine⟨⟨?_,List.pairwise_singleton _ _,λa ha c hc=> ?_⟩,?_,λa ha c hc=> ?_⟩
   .exact List.pairwise_map.2 (hI.Ho.take i)
   .obtain⟨x,C,rfl⟩:=List.mem_map.1 ha;rw[List.mem_singleton.1 hc];grind
   .exact List.pairwise_map.2 (hI.Ho.drop i)
   .obtain⟨y,hy,rfl⟩:=List.mem_map.1 hc;have h2:=(hd y hy).2
    grind
 refine AH ⟨some ⟨g.f,0,none⟩,rhF H1,?_⟩;have bk: ∀{X:FX} {w'},Sat (KN E g.f X::(Eg E h S um g++A2 E q I U M::Z).eraseIdx 3) w'->Sat (Eg E h {S with fx:=X} um g++A2 E q I U M::Z) w':=λ{X w'} h'=>Sat.back (Ps:=Eg E h S um g++A2 E q I U M::Z) 3 h' (by simp[Eg]);exact Yj (H1.front 3 rfl) (by omega) (λhb w' H'=>key _ _ (.inl ⟨hb,rfl,rfl⟩) w' (bk H')) λa r hb w' H'=>key _ _ (.inr ⟨a,r,hb,rfl,rfl⟩) w' (bk H')
def QI(H:Sat (LA E h S um::Z) w)(hI:Bv S no)(hk:KQ S){p n c:Int}{np:Bool}(n0:0<=n)(n1:n<18446744073709551616){K:Int->Int->World->Prop}
  (Y:F7 0 n c-> ∀w',Sat (LA E h S um::Z) w'->K 0 1 w')
  (aA: ¬F7 0 n c-> ∀S2,Oo S p n S2-> ∀w',Sat (LA E h S2 um::Z) w'->K 0 13 w')
  (aB: ¬F7 0 n c-> ∀page S2 id X,Found S p n page S2->Next S2 id X-> ∀w',(∀b,Sat (LA E h (S2.C5 id (b,Gw page n c np) page n X) (KO um id vX vX)::Z) w')->K id 0 w'):
  F.CX E (some ⟨h,0,none⟩) p n c np K w:=by
 unfold F.CX T0.CX;refine UF H (by decide) n0 n1 (λd w3 C=>AR rfl (Y d w3 C)) λd b w3 C=>AP rfl ?_;have T:=d;unfold F7 at T;have hn:n<=134217728:=by
  by_cases c0:c=0
  .omega
  .have:=(Ke (c:=c) (by omega) (by omega)).2;omega
 refine Wn C.tail hI hk (by omega) hn (λpage S2 hF O v p0 p1 w6 J=>AP rfl ?_) λS2 hL w6 J=>AR rfl (aA d S2 hL w6 J);refine UF J p0 n0 n1 (λj=> ?_) λ_ b2 w9 H9=> ?_
 .unfold F7 at j;omega
 .exact rhadd_spec H9 O v (by omega) rfl λid X hX aC y=>aB d page S2 id X hF hX aC y
end
section
variable{E:Env}{h:Nat}{S S':HS}{um um':eB}{g:RG}{Z:List Pr}{w:World}
def Xs.len{X:FX}(h:Xs X):X.bk.length<=X.n:=by
 have:=Tm X.n (X.bk.map λa:Nat=>(a:Int)+1) (List.pairwise_map.2 (List.Pairwise.imp (λ{a b} hab e=>hab (by omega)) h.nd)) λn j=>by
  obtain⟨a,d,rfl⟩:=List.mem_map.1 j;have:=h.lt a d;omega
 grind
def Yt(H:Sat (LA E h S um::Z) w)(d:Bv S no)(hk:KQ S){id:Int}{K:Int->World->Prop}(aT:S.sp id=none-> ∀w',Sat (LA E h S um::Z) w'->K 35 w')
  (aU: ∀x,S.sp id=some x->0<cN (um id).1 x.2.AK.toNat-> ∀w',Sat (LA E h S um::Z) w'->K 33 w')
  (aV: ∀x,∀a:Nat,S.sp id=some x->cN (um id).1 x.2.AK.toNat=0->id=(a:Int)+1-> ∀w',Sat (LA E h (S.free a (x.2.base/8192) x.2.AA) um::Z) w'->K 0 w'):F.CB E (some ⟨h,0,none⟩) id K w:=by
 have H0:=H;obtain⟨g,hI,H⟩:=Sat.HU.1 H;have aE:=hI.KV d;unfold F.CB T0.CB;refine Ra H hI aE (λhs=>AR rfl (aT hs w H0)) λi q hi=> ?_;have hl:=Mc (H.front 4 rfl);have a9:=(H.front 4 rfl).F9 (by decide) Bs;have aA:=(List.getElem?_eq_some_iff.1 hi).1;obtain⟨b,hb⟩:=(H.front 4 rfl).FZ (by decide) Bs (i:=i) aA;refine AP (decide_eq_false (by omega)) (AH ⟨g.sl,bD H,?_⟩)
 try dsimp only
 rw[hb];have hc:w.cell? ((((Addr.mk b 0 none).add (Int.toNat (i:Int)*2))).add 1)=some (.pointer (some ⟨q,0,none⟩)):=by
  have:=(H.front 4 rfl).Bu Bs hb hi (j:=1) rfl;rw[add_add];exact this
 refine AH ⟨⟨by omega,by omega⟩,some ⟨q,0,none⟩,hc,?_⟩;have hm:id∈g.L.map (·.1):=List.mem_map.2 ⟨(id,q),List.mem_of_getElem? hi,rfl⟩;obtain⟨x,hx⟩:=Option.ne_none_iff_exists'.1 ((hI.mem id).1 hm);have aG:=d.sp id x hx;have h1:=(H.front 5 rfl).F0 hi;have e:rsR E S.sp um (id,q)=A2 E q x.2 (um id).1 (um id).2:=by unfold rsR;grind
 rw[e]at h1;refine bC h1 aG.2.2.2.1 (λhu=>AR rfl (aU x hx hu w H0)) λhu w8 c0 c1 H8=>AP rfl ?_;obtain⟨a,ha,aR,aS⟩:=(d.sf id).1 (by grind);generalize hP:x.2.base/8192=P at *
 generalize hN:x.2.AA=N at *
 have C: ∀r,P<=r->r<P+N->S.T.Li r=true/\S.T.fr r=false:=λr r1 r2=>by
  have:=d.ow r (by grind)
  grind
 have aW:=hk.tv.Ju P (C P (Int.le_refl _) (by omega)).1;have bB:=hk.tv.Ju (P+N-1) (C (P+N-1) (by omega) (by omega)).1;have bA: ∀y∈g.L.eraseIdx i,y.1≠id:=λy hy e=>by
  have h2:=(C0 hi).map (·.1);have h3:=h2.nodup_iff.1 hI.nd
  grind
 generalize hS1:S.free a P N=S1;have s1:S1.T=S.T.Kx P N:=by rw[<-hS1];rfl
 have s2:S1.fx=⟨S.fx.n,a::S.fx.bk⟩:=by rw[<-hS1];rfl
 have s3: ∀j,S1.sp j=if j=id then none else S.sp j:=λj=>by rw[<-hS1,ha];rfl
 have s4:S1.V=S.V/\S1.ca=S.ca/\S1.hint=S.hint:=by rw[<-hS1];exact⟨rfl,rfl,rfl⟩
 have e2:Aa (rsR E S.sp um) (g.L.eraseIdx i)=Aa (rsR E S1.sp um) (g.L.eraseIdx i):=Aa.congr λy hy=>by
  refine(rsR.congr ?_ rfl).symm
  grind
 have H9:=Sat.back (Ps:=[Cells h E.Ae (DL g.m g.t g.f g.sl S.hint g.v),GU E g.m S.V,Mp E g.t S.T,KN E g.f S.fx,Row E.AZ 2 g.sl (Ao Jh g.L),cB]++Z) 5 (P':=Aa (rsR E S1.sp um) (g.L.eraseIdx i)) (by rw[<-e2];exact H8) (by simp);have H9:Sat (Cells h E.Ae (DL g.m g.t g.f g.sl S.hint g.v)::GU E g.m S.V::Mp E g.t S.T::KN E g.f S.fx::Row E.AZ 2 g.sl (Ao Jh g.L)::Aa (rsR E S1.sp um) (g.L.eraseIdx i)::Z) w8.drew:=H9.drew;refine AH ⟨some ⟨g.t,0,none⟩,wA H9,AH ⟨_,c0,AH ⟨_,c1,?_⟩⟩⟩;refine Wm (H9.front 2 rfl) hk.tv.rf aW.1 aG.2.2.1 (by omega) (λr r1 r2=>(C r r1 r2).1) (λr r1 r2=>(C r r1 r2).2) λbE aJ=> ?_;have aC:=aJ.front 1 rfl;refine AH ⟨some ⟨g.f,0,none⟩,rhF aC,?_⟩;rw[ha];have a8:=d.fb;have a6:=hk.fx.len;refine Yk (aC.front 3 rfl) aR aS (by omega) λbF aK=> ?_;have aL:=aK.front 1 rfl;refine Gs (n:=0) (z:=2) aL rfl (by decide) λa4 bG Y=>AH ⟨g.sl,bD (Y.front 1 rfl),⟨by omega,by omega⟩,?_⟩;rw[Int.toNat_natCast];have O: ∀(x:Int×Nat),∀v∈Jh x,v.oneCell'=true:=λx v hv=>by
  simp only[Jh,List.mem_cons,List.not_mem_nil,or_false]at hv;rcases hv with rfl|rfl<;>rfl
 refine FU (x:=⟨GN g.sl.base g.sl.cap 0 2,i,g.sl.cap⟩) (news:=Ao Jh (g.L.take i)) Y rfl ((Y.front 5 rfl).Nx (by decide) Bs (Nat.le_of_lt aA)) (by rw[De Bs,List.length_take];grind) (HE O _) (by grind) (by grind) λOe bH J aF=> ?_;rw[List.nil_append]at J;dsimp only at aF;rw[AF (n:=(i:Int)+1)];refine AH ⟨g.sl,bD (J.front 1 rfl),⟨by omega,by omega⟩,?_⟩;rw[show Int.toNat ((i:Int)+1)=i+1 by omega];refine FU (x:=⟨GN g.sl.base g.sl.cap (i+1) 2,g.sl.len-(i+1),g.sl.cap-(i+1)⟩) (news:=Ao Jh (g.L.drop (i+1))) J rfl ((J.front 5 rfl).Ny (by decide) Bs aA) (by rw[De Bs,List.length_drop];grind) (HE O _) (by grind) (by grind) λIQ bI aD _=> ?_;rw[<-FR,<-List.eraseIdx_eq_take_drop_succ]at aD;refine AH (sG (s:=IQ) (aD.front 1 rfl) λaH aM=> ?_);have aN:=(aM.front 5 rfl).tail;have aO:Sat (Cells h E.Ae (DL g.m g.t g.f IQ S.hint g.v)::Row E.AZ 2 IQ (Ao Jh (g.L.eraseIdx i))::KN E g.f ⟨S.fx.n,a::S.fx.bk⟩::Mp E g.t (S.T.Kx P N)::GU E g.m S.V::Aa (rsR E S1.sp um) (g.L.eraseIdx i)::Z) aH:=aN;have aP:=((((aO.front 1 rfl).front 2 rfl).front 3 rfl).front 4 rfl).front 4 rfl;refine aV x a hx hu ha aH ?_;rw[hP,hN,hS1];refine Sat.HU.2 ⟨{g with sl:=IQ,L:=g.L.eraseIdx i},⟨by rw[s4.2.1];exact hI.q,λj=> ?_,?_⟩,?_⟩
 .rw[s3];by_cases e:j=id
  .rw[if_pos e];exact⟨λc=>by obtain⟨y,hy,e2⟩:=List.mem_map.1 c;grind,λc=>absurd rfl c⟩
  .rw[if_neg e,<-hI.mem j,((C0 hi).map (·.1)).mem_iff,List.map_cons,List.mem_cons]
   grind
 .have e6:((g.L.eraseIdx i).map λx=>S1.at x.1)=(g.L.eraseIdx i).map λx=>S.at x.1:=List.map_congr_left λy hy=>by
   unfold HS.at;grind
  show((g.L.eraseIdx i).map λx=>S1.at x.1).Pairwise (· < ·);rw[e6];exact List.Pairwise.sublist ((List.eraseIdx_sublist g.L i).map _) hI.so
 .unfold Eg;dsimp only;rw[s4.1,s4.2.2,s1,s2];exact aP
def iD:(List.range 64).flatMap (qc λ_=>(0,(λ_=>false),λ_=>false))=Qb:=by
 unfold Qb;refine Mb λi _=> ?_;unfold qc Hm;rw[<-R9];rfl
def bI{m:Nat}{V:VS}(H:Sat (GU E m V::Z) w){K:Option Addr->World->Prop}(Y: ∀b w',Sat (LA E b (HS.new V) um::Z) w'->K (some ⟨b,0,none⟩) w'):F.Eb E (some ⟨m,0,none⟩) K w:=by
 unfold F.Eb T0.Eb;refine bB H λf w3 v=>AO (vs:=[.slice none 0 0]) v λd w5 y _=> ?_;have C:Sat (Mp E d TV.nil::KN E f ⟨0,[]⟩::GU E m V::Z) w5:=O2 (l:=λ_=>[]) ⟨λp=>⟨λc=>absurd c (CM p),λc=>by cases c⟩,λp=>⟨λc=>absurd c (CM p),λc=>by cases c⟩,λp=>⟨λc=>absurd c (CM p),λc=>by cases c⟩⟩ (λ_ _=>trivial) λl' a0 a1 a2=>(Sat.mO (l:=λ_=>[]) y λ_=>rfl).vU a0 a1 a2;rw[<-iD];refine AO (vs:=DL m d f ⟨none,0,0⟩ 0 λ_=>(0,(λ_=>false),λ_=>false)) C λb j J _=>Y b j (Sat.HU.2 ⟨⟨m,d,f,⟨none,0,0⟩,λ_=>(0,(λ_=>false),λ_=>false),[]⟩,⟨λi hi=>⟨Int.le_refl _,by grind,λc=>absurd (λ_=>rfl) c,λ_ _=>rfl,λ_ _=>rfl,λ_ _=>rfl⟩,λid=>⟨λc=>(by cases c),λc=>absurd rfl c⟩,List.Pairwise.nil⟩,?_⟩);have O:=((Sat.LH (J.nil E.AZ 2) (rsR E (HS.new V).sp um)));have T:Sat (Aa (rsR E (HS.new V).sp um) []::Row E.AZ 2 ⟨none,0,0⟩ []::Cells b E.Ae (DL m d f ⟨none,0,0⟩ 0 λ_=>(0,(λ_=>false),λ_=>false))::Mp E d TV.nil::KN E f ⟨0,[]⟩::GU E m V::Z) j:=O;exact((((T.front 1 rfl).front 4 rfl).front 4 rfl).front 5 rfl).front 5 rfl
end
section
variable{E:Env}{h r:Nat}{S S':HS}{um um':eB}{g:RG}{Z:List Pr}{w:World}
def VU(H:Sat (Eg E h S um g++Z) w)(hI:ZL S g){i q:Nat}{id:Int}{x:Nat×SI}(d:g.L[i]? =some (id,q))(T:S.sp id=some x):
  ∃R,Sat (A2 E q x.2 (um id).1 (um id).2::(R++Z)) w/\ ∀{Y:List Pr} {U M:Nat->Bool} {w'},Sat (A2 E q x.2 U M::(R++Y)) w'->Sat (LA E h S (KO um id U M)::Y) w':=by
 have h1:=(H.front 5 rfl).F0 d;have e:rsR E S.sp um (id,q)=A2 E q x.2 (um id).1 (um id).2:=by unfold rsR;grind
 rw[e]at h1;refine⟨Aa (rsR E S.sp um) (g.L.eraseIdx i)::(Eg E h S um g).eraseIdx 5,h1,λ{Y U M w'} H'=> ?_⟩;have v:A2 E q x.2 U M=rsR E S.sp (KO um id U M) (id,q):=by unfold rsR KO;grind
 have J: ∀y∈g.L.eraseIdx i,y.1≠id:=λy K e=>by
  have O:=((C0 d).map (·.1)).nodup_iff.1 hI.nd
  grind
 have C:Aa (rsR E S.sp um) (g.L.eraseIdx i)=Aa (rsR E S.sp (KO um id U M)) (g.L.eraseIdx i):=Aa.congr λy K=>by
  unfold rsR KO;grind
 rw[v,C]at H';have j:=Sat.G5 (F:=(Eg E h S um g).eraseIdx 5++Y) H' d;exact Sat.HU.2 ⟨g,⟨hI.q,hI.mem,hI.so⟩,Sat.back (Ps:=Eg E h S (KO um id U M) g++Y) 5 j (by simp[Eg])⟩
end
end Go.Sh

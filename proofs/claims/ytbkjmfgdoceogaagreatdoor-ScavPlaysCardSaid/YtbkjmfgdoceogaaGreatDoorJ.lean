/- What the law's functions do. No further condition. -/
import Derived.Test.YtbkjmfgdoceogaaGreatDoorK
import Derived.Test.YtbkjmfgdoceogaaGreatDoorH
import Derived.Test.YtbkjmfgdoceogaaGreatDoorA
import Derived.Test.YtbkjmfgdoceogaaGreatDoorL
import Derived.Test.YtbkjmfgdoceogaaGreatDoorY
set_option linter.all false
set_option maxRecDepth 4000
set_option maxHeartbeats 2000000
namespace Go.Sh
section
variable{E:Env}{c:Nat}{V:VS}{Z:List Pr}{w:World}{g:MG}{P:Wh}{W:YT}
theorem PI(aI:CK V.laid<=1000000)(H:Sat (Db E c V::Z) w){page AA:Int}(h0:0<=page)(h1:page<18446744073709551616)(p0:0<=AA)(p1:AA<18446744073709551616){K:Int->World->Prop}
  (a5: ¬EI page AA-> ∀w',Sat (Db E c V::Z) w'->K 1 w')
  (aE:EI page AA->cnt V.ready page (page+AA)≠AA-> ∀w',Sat (Db E c V::Z) w'->K 33 w')
  (a3:EI page AA->cnt V.ready page (page+AA)=AA-> ∀w',(MX (E0 V page AA)->Sat (Db E c (E0 V page AA)::Z) w')->K 0 w'):
  F.Bc E (some ⟨c,0,none⟩) page AA K w:=by
 have H0:=H;obtain⟨g,P,W,N,H⟩:=Sat.LD.1 H;have back: ∀w',Sat (Dr E c V g P W++Z) w'->Sat (Db E c V::Z) w':=fun w' H'=>Sat.LD.2 ⟨g,P,W,N,H'⟩;unfold F.Bc T0.Bc;refine KE h0 p0 fun br aM=> ?_;cases br
 ·exact Ao rfl (a5 (fun h=>by cases aM.2 h) _ H0)
 have C:=aM.1 rfl;have aW:=C;unfold EI at aW;have hA:page<page+AA:=by omega
 have hB:page+AA<18446744073709551616:=by omega
 refine Ab rfl (Hs N H fun b3 bG w5 H5=> ?_);have hl:=Kk H5;have bL:=N.YU;have hp:=Hk (key:=kP) P page;simp only[AI];refine⟨g.s3,H5.cell rfl,?_⟩;rw[AN (n:=((g.s3.len:Nat):Int)-(pos kP P page:Nat)),AG (n:=((g.s3.len:Nat):Int)-(pos kP P page:Nat))];have J:cnt V.ready page (page+AA)=AA↔ ∀m,page<=m->m<page+AA->mem V.ready m:=by
  have:=Ci N.ok.IT (a:=page) (b:=page+AA) (by omega);rw[show page+AA-page=AA by omega]at this;exact this
 have T:cnt V.ready page (page+AA)=AA-> ∀k:Nat,(k:Int)<AA-> ∃e,P[pos kP P page+k]? =some e/\e.1=page+k:=fun hc k hk=>by
  have:=N.full (a:=page) (n:=AA.toNat) (fun m m1 m2=>N.ok.rl m (J.1 hc m m1 (by omega))) (k:=k) (by omega);exact this
 refine AE (fun bC=>aE C (fun hc=> ?_) _ (back _ H5)) fun hle=> ?_
 ·obtain⟨e,he,_⟩:=T hc (AA.toNat-1) (by omega);have:=(List.getElem?_eq_some_iff.1 he).1;omega
 refine AM (fun st w'=>Sat (Dr E c V g P W++Z) w'/\ ∃i:Nat,st.1=i/\(i:Int)<=AA/\(∀m,page<=m->m<page+i->mem V.ready m)) (fun st _=>(AA-st.1).toNat)
  ⟨H5,0,rfl,by show(0:Int)<=AA;omega,fun m m1 m2=>by omega⟩ ?_
 rintro⟨i',v⟩ _ w9 ⟨H9,i,hi,aD,aA⟩;dsimp only at hi⊢;subst hi;refine AE (fun aH=> ?_) fun aL=> ?_
 ·obtain⟨e,he⟩: ∃e,P[pos kP P page+i]? =some e:=⟨_,List.getElem?_eq_getElem (by omega)⟩;obtain⟨b,hb,_,c0,c1,c2⟩:=MB H9 he;have Y:=List.mem_of_getElem? he;have aX:=N.Oo Y;rw[AN (n:=(i:Int)),AN (n:=(pos kP P page:Nat)+(i:Int)),AG (n:=page+(i:Int)),AG (n:=(i:Int)+1)];refine⟨g.s3,H9.cell rfl,?_⟩;rw[hb];have et:Int.toNat ((pos kP P page:Nat)+(i:Int))=pos kP P page+i:=by omega
  rw[et];have bad:(e.1≠page+i∨e.2.1≠2)->cnt V.ready page (page+AA)≠AA:=fun h hc=>by
   obtain⟨d,hd,aY⟩:=T hc i aH;rw[he]at hd;cases hd;rcases h with h|h
   ·exact h aY
   ·exact h ((N.iY Y).2 (J.1 hc _ (by omega) (by omega)))
  refine⟨⟨by omega,by omega⟩,e.1,c0,e.2.1,c1,e.2.2,c2,YZ H9 fun bF bN aB=>Ax ⟨e.1,aB.BI rfl,DE (fun aG j=>Ao rfl (aE C (bad (.inl aG)) _ (back _ aB.tail))) fun heq=>⟨e.2.1,aB.cell rfl,fun j=>DE (fun aG=>aE C (bad (.inr aG)) _ (back _ aB.tail)) fun h2=> ?_⟩⟩⟩;refine⟨⟨aB.tail,i+1,by omega,by omega,fun m m1 m2=> ?_⟩,by omega⟩;rcases Int.lt_or_le m (page+i)with q|q
  ·exact aA m m1 q
  ·rw[show m=e.1 by omega];exact(N.iY Y).1 h2
 ·have aF:(i:Int)=AA:=by omega
  have hc:cnt V.ready page (page+AA)=AA:=J.2 fun m m1 m2=>aA m m1 (by omega);have aJ:P.map (rF page (page+((0:Nat):Int)))=P:=by
   rw[show P=P.map id by simp,List.map_map];exact List.map_congr_left fun e _=>by show rF page (page+((0:Nat):Int)) e=e;unfold rF;rw[if_neg (by omega)]
  clear aF aL aD aA;rw[AN (n:=AA)];refine AM (fun st w'=> ∃i:Nat,st.1=i/\(i:Int)<=AA/\Sat (Dr E c V g (P.map (rF page (page+i))) W++Z) w') (fun st _=>(AA-st.1).toNat)
   ⟨0,rfl,by show(0:Int)<=AA;omega,by rw[aJ];exact H9⟩ ?_
  rintro⟨i',v⟩ _ bD ⟨i,hi,aD,O⟩;dsimp only at hi⊢;subst hi;refine AE (fun aH=> ?_) fun aL=> ?_
  ·obtain⟨e,he,a1⟩:=T hc i aH;have Y:=List.mem_of_getElem? he;have hlen:=(List.getElem?_eq_some_iff.1 he).1;have aX:=N.Oo Y;have bO:page+(i:Int)+1=page+((i+1:Nat):Int):=by omega
   have aU:(P.map (rF page (page+i)))[pos kP P page+i]? =some e:=by
    rw[List.getElem?_map,he];show some (rF page (page+i) e)=some e;unfold rF;rw[if_neg (by omega)]
   have aO: ∀d∈P,d.1≠e.1->rF page (page+((i+1:Nat):Int)) d=rF page (page+i) d:=fun d _ hd=>by
    unfold rF;by_cases q:page<=d.1/\d.1<page+i
    ·rw[if_pos q,if_pos ⟨q.1,by omega⟩]
    ·rw[if_neg q,if_neg fun q2=>q ⟨q2.1,by omega⟩]
   have aV:=Kk O;rw[List.length_map]at aV;rw[AN (n:=(pos kP P page:Nat)+(i:Int)),AN (n:=(i:Int)+1),AG (n:=(i:Int)),AG (n:=page+(i:Int))];have et:Int.toNat ((pos kP P page:Nat)+(i:Int))=pos kP P page+i:=by omega
   rw[et];obtain⟨b,hb,_⟩:=MB O aU;refine⟨_,O.cell rfl,?_⟩;rw[hb];refine⟨⟨by omega,by omega⟩,?_⟩;refine X5 Fa MA (O.front 4 rfl) (i:=pos kP P page+i) (by rw[List.length_map];exact hlen) (page+i,3,0) hb fun bI aZ=>⟨⟨i+1,by omega,by omega,?_⟩,by omega⟩;have aN:=Sat.back 4 aZ (by simp[Dr]);have hF:rF page (page+((i+1:Nat):Int)) e=(page+i,3,0):=by
    unfold rF;rw[if_pos ⟨by omega,by omega⟩,a1]
   rw[<-hF,map_set N.F6 he aO]at aN;exact aN
  ·have aF:(i:Int)=AA:=by omega
   rw[aF]at O;rw[AG (n:=page*8192),AG (n:=AA*8192)];have a9:=N.mN aI;refine Q5 N.iD (by omega) O (by omega) (by omega) (by omega) fun s w' H'=>a3 C hc w' fun BH=> ?_;have aK:page*8192<=page*8192+AA*8192:=by omega
   exact Sat.LD.2 ⟨_,_,_,N.release BH rfl (fun p=>B7 hA) (fun p=>Bo N.ok.JM hA h0 hB p) (fun p i=>rfl) (fun x hx=>hx) (YY N.iD aK) (YX N.iD aK),H'⟩
end
end Go.Sh
set_option linter.all false
set_option maxRecDepth 4000
set_option maxHeartbeats 2000000
namespace Go.Sh
section
variable{E:Env}{c:Nat}{V:VS}{Z:List Pr}{w:World}{g:MG}{P:Wh}{W:YT}
theorem PJ(H:Sat (Db E c V::Z) w){hint AA:Int}(h0:0<=hint)(h1:hint<18446744073709551616)(p0:0<=AA)(p1:AA<18446744073709551616){K:Int->Int->World->Prop}
  (a1:(AA=0∨AA %512≠0∨134217728<AA)->K 0 1 w)
  (bX: ¬(AA=0∨AA %512≠0∨134217728<AA)-> ∀r,V.rf=true::r-> ∀w',Sat (Db E c {V with rf:=r}::Z) w'->K 0 13 w')
  (cU: ¬(AA=0∨AA %512≠0∨134217728<AA)->(∀r,V.rf≠true::r)->Ij V hint AA-> ∀w',Sat (Db E c {V with rf:=V.rf.tail,pl:=V.pl.tail}::Z) w'->K 0 13 w')
  (cR: ¬(AA=0∨AA %512≠0∨134217728<AA)->(∀r,V.rf≠true::r)-> ∀at_,512<=at_->at_+AA<=34359738368->FL V hint AA at_-> ∀w',(MX {V with rf:=V.rf.tail,pl:=V.pl.tail,laid:=Bk V.laid at_ (at_+AA)}->Sat (Db E c {V with rf:=V.rf.tail,pl:=V.pl.tail,laid:=Bk V.laid at_ (at_+AA)}::Z) w')->K at_ 0 w'):
  F.BY E (some ⟨c,0,none⟩) hint AA K w:=by
 unfold F.BY T0.BY;rw[Int.tmod_eq_emod_of_nonneg p0];refine Ax (CO (fun e j=>Ao rfl (a1 (.inl e))) fun n1=>⟨by decide,DE (fun e j=>Ao rfl (a1 (.inr (.inl e)))) fun n2 j=>AE (fun e=>a1 (.inr (.inr e))) fun n3=> ?_⟩);have aI: ¬(AA=0∨AA %512≠0∨134217728<AA):=by omega
 have aA:0<AA:=by omega
 obtain⟨g,P,W,hI,H⟩:=Sat.LD.1 H;have aF:(∀r,V.rf≠true::r)-> ∀(s1:AZ) (w5:World),Sat (Dr E c {V with rf:=V.rf.tail} {g with s1:=s1} P W++Z) w5->
    Av (Int×Bool×Unit) (fun J6=>
     NC (some (Addr.mk c 0 none)) fun p9=>
     ∃aP:AZ,w5.cell? p9=some (.slice aP.base aP.len aP.cap)/\
     CND (decide ((((aP.len:Nat):Int):Int)>0)) (
      NC (some (Addr.mk c 0 none)) fun bY=>
      ∃aL:AZ,w5.cell? bY=some (.slice aL.base aL.len aL.cap)/\
      NC aL.base fun cW=>
      ((0:Int)<=0/\(0:Int)<(aL.len:Nat))/\
      ∃Y:Int,w5.cell? (cW.add (Int.toNat 0*1))=some (.int .u64 Y)/\
      NC (some (Addr.mk c 0 none)) fun cC=>
      ∃J:AZ,w5.cell? cC=some (.slice J.base J.len J.cap)/\
      ((0:Int)<=1/\(1:Int)<=(J.len:Nat))/\
      NC (some (Addr.mk c 0 none)) fun cQ=>
      stCells cQ 0 [.slice (Fe J.base J.cap (Int.toNat 1) 1) (J.len-(Int.toNat 1)) (J.cap-(Int.toNat 1))] w5 fun aB=>
      Av (Bool×Unit) (fun a3=>
       CND (decide ((Y:Int)>0)) (
        512≠(0:Int)/\
        CND (((Int.tmod Y 512):Int)==0) (
         F.C5 E Y AA (fun cE b7=>
         a3 (cE,()) b7
         ) aB
        ) (
         a3 (false,()) aB
        )
       ) (
        a3 (false,()) aB
       )
      ) fun bJ _ bO=>
       CND (bJ.1) (
        F.Ay E (some (Addr.mk c 0 none)) Y AA (fun dH cV b1=>
        J6 (Y,cV,()) b1
        ) bO
       ) (
        J6 (Y,bJ.1,()) bO
       )
     ) (
      J6 (0,false,()) w5
     )
    ) fun s7 _ w8=>
     Av (Int×Bool×Unit) (fun bH=>
      CND (!s7.2.1) (
       F.BF E (some (Addr.mk c 0 none)) hint AA (fun cB bW b9=>
       bH (cB,bW,()) b9
       ) w8
      ) (
       bH (s7.1,s7.2.1,()) w8
      )
     ) fun a2 _ aZ=>
      Av (Int×Bool×Unit) (fun bN=>
       CND (!a2.2.1) (
        F.BF E (some (Addr.mk c 0 none)) 0 AA (fun cK cF cA=>
        bN (cK,cF,()) cA
        ) aZ
       ) (
        bN (a2.1,a2.2.1,()) aZ
       )
      ) fun aU _ aX=>
       CND (!aU.2.1) (
        K 0 13 aX
       ) (
        F.BP E (some (Addr.mk c 0 none)) aU.1 (fun N c7 bV=>
        AL (.cells ⟨[]⟩ E.AX) bV fun bU aW=>
        NC (some (Addr.mk c 0 none)) fun cN=>
        ∃T:AZ,aW.cell? (cN.add 3)=some (.slice T.base T.len T.cap)/\
        ((0:Int)<=N/\(N:Int)<=(T.cap:Nat))/\
        APP E.AX 3 24 #[.int .u64 0,.int .i64 0,.int .u64 0] ⟨(some (Addr.mk bU 0 none)),0,0⟩ ⟨(Fe T.base T.cap 0 3),(Int.toNat N),T.cap⟩ aW fun bI a5=>
        Be (AZ×Int×Unit) (bI,0,()) a5 fun aC _ aO aQ=>
         CND (decide ((aC.2.1:Int)<AA)) (
          AL (.cells ⟨[.int .u64 (u64 (aU.1+aC.2.1)),.int .i64 1,.int .u64 0]⟩ E.AX) aO fun bC bD=>
          APP E.AX 3 24 #[.int .u64 0,.int .i64 0,.int .u64 0] aC.1 ⟨(some (Addr.mk bC 0 none)),1,1⟩ bD fun bF bE=>
          aQ (bF,u64 (aC.2.1+1),()) bE
         ) (
          NC (some (Addr.mk c 0 none)) fun cL=>
          ∃d:AZ,aO.cell? (cL.add 3)=some (.slice d.base d.len d.cap)/\
          ((0:Int)<=N/\(N:Int)<=(d.len:Nat))/\
          APP E.AX 3 24 #[.int .u64 0,.int .i64 0,.int .u64 0] aC.1 ⟨(Fe d.base d.cap (Int.toNat N) 3),(d.len-(Int.toNat N)),(d.cap-(Int.toNat N))⟩ aO fun aR bQ=>
          NC (some (Addr.mk c 0 none)) fun cI=>
          stCells (cI.add 3) 0 [.slice aR.base aR.len aR.cap] bQ fun cM=>
          K aU.1 0 cM
         )
        ) aX
       ):=by
  intro a7 s1 w5 H5;simp only[AI];have aE:Em {V with rf:=V.rf.tail,pl:=V.pl.tail} P W:=hI.congr rfl rfl rfl (fun x hx=>List.mem_of_mem_tail hx) fun _ _ _ _=>rfl;refine Ak (fun st w'=> ∃s0,Sat (Dr E c {V with rf:=V.rf.tail,pl:=V.pl.tail} {g with s0:=s0,s1:=s1} P W++Z) w'/\(st.2.1=true->FL V hint AA st.1)/\(st.2.1=false->K4 V AA)) ?_ ?_
  ·have hl:=(H5.front 1 rfl).Iy;have hc:w5.cell? (Addr.mk c 0 none)=some (.slice g.s0.base g.s0.len g.s0.cap):=H5.BI rfl;refine⟨g.s0,hc,AE (fun cD=> ?_) fun cO=> ?_⟩
   ·have cG:V.pl=[]∨ ∃x r,V.pl=x::r:=by
     cases V.pl with
     | nil=>exact .inl rfl
     | cons x r=>exact .inr ⟨x,r,rfl⟩
    rcases cG with hp|⟨x,r,hp⟩
    ·have:=hl.1;dsimp only at this;rw[hp]at this;simp[ints]at this;omega
    ·
     have b4:=hI.R7 x (by rw[hp];simp);obtain⟨a,ha,hd⟩:=(H5.front 1 rfl).Ji (j:=0) (v:=.int .u64 x) (by dsimp only;rw[hp];rfl);refine⟨g.s0,hc,?_⟩;rw[ha];refine⟨⟨by decide,by omega⟩,x,hd,g.s0,hc,⟨by decide,by omega⟩,?_⟩;have H6:=Sat.back 1 ((H5.front 1 rfl).Jj (n:=1) (show 1<=g.s0.len by omega)) (by simp[Dr]);dsimp only at H6;rw[hp]at H6;refine Gs H6 (o:=0) rfl (by simp[KD]) fun aB b0=> ?_;have bB:Sat (Dr E c {V with rf:=V.rf.tail,pl:=V.pl.tail} {g with s0:=⟨Fe g.s0.base g.s0.cap (Int.toNat 1) 1,g.s0.len-Int.toNat 1,g.s0.cap-Int.toNat 1⟩,s1:=s1} P W++Z) aB:=by
      unfold Dr;dsimp only;rw[hp];exact b0
     have no: ∀{b:Bool},b=false-> ¬Mv V.laid x AA->(∃s0,Sat (Dr E c {V with rf:=V.rf.tail,pl:=V.pl.tail} {g with s0:=s0,s1:=s1} P W++Z) aB/\(b=true->FL V hint AA x)/\(b=false->K4 V AA)):=fun hb C=>
      ⟨_,bB,fun h=>(by rw[hb]at h;cases h),fun _ p r' aG=>by rw[hp]at aG;cases aG;exact C⟩
     rw[Int.tmod_eq_emod_of_nonneg b4.1];refine Ax (AE (fun g0=>⟨by decide,CO (fun g1=>KE (by omega) p0 fun br bM j=> ?_) fun g1 j=>Ab rfl (no rfl fun h=>g1 h.1)⟩) fun g0 j=>Ab rfl (no rfl fun h=>by have:=h.2.1;omega));cases br
     ·exact Ab rfl (no rfl fun h=>by have:=bM.2 ⟨by omega,h.2.2.1⟩;cases this)
     ·have hr:=bM.1 rfl;unfold EI at hr;refine Ao rfl (M9 aE bB (by omega) p0 (by omega) (fun a4 w' O=>⟨_,O,fun _=>.inl ⟨x,r,hp,⟨g1,by omega,hr.2,(CU hI.ok.Gz (by omega)).2 a4⟩,rfl⟩,fun h=>by cases h⟩) fun m m0 m1 m2 _ w' O=>⟨_,O,fun h=>(by cases h),fun _ p r' aG=> ?_⟩);rw[hp]at aG;cases aG;exact fun h=>(CU hI.ok.Gz (by omega)).1 h.2.2.2 m m1 m2 m0
   ·have aM:V.pl=[]:=by
     have:=hl.1;dsimp only at this;have:(ints IntKind.u64 V.pl).length=0:=by omega
     rw[ints,List.length_map]at this;exact List.eq_nil_of_length_eq_zero this
    refine⟨g.s0,?_,fun h=>(by cases h),fun _ p r h=>by rw[aM]at h;cases h⟩;unfold Dr;dsimp only;rw[aM];unfold Dr at H5;dsimp only at H5;rw[aM]at H5;exact H5
  rintro⟨pl,ok,v⟩ _ w8 ⟨s0,H8,hy,C⟩;dsimp only at hy C⊢;refine Ak (fun st w'=>Sat (Dr E c {V with rf:=V.rf.tail,pl:=V.pl.tail} {g with s0:=s0,s1:=s1} P W++Z) w'/\(st.2.1=true->FL V hint AA st.1)/\(st.2.1=false->K4 V AA/\HI V.laid hint AA)) ?_ ?_
  ·cases ok
   ·exact Ao rfl (NA aE H8 h0 h1 aA (by omega) (fun hh w' O=>⟨O,fun h=>(by cases h),fun _=>⟨C rfl,hh⟩⟩) fun a ha w' O=>⟨O,fun _=>.inr ⟨C rfl,.inl ha⟩,fun h=>by cases h⟩)
   ·exact Ab rfl ⟨H8,hy,fun h=>by cases h⟩
  clear hy C;rintro⟨pl,ok,v⟩ _ aZ ⟨a6,hy,C⟩;dsimp only at hy C⊢;refine Ak (fun st w'=>Sat (Dr E c {V with rf:=V.rf.tail,pl:=V.pl.tail} {g with s0:=s0,s1:=s1} P W++Z) w'/\(st.2.1=true->FL V hint AA st.1)/\(st.2.1=false->Ij V hint AA)) ?_ ?_
  ·cases ok
   ·exact Ao rfl (NA aE a6 (by decide) (by decide) aA (by omega) (fun hh w' O=>⟨O,fun h=>(by cases h),fun _=>⟨(C rfl).1,(C rfl).2,hh⟩⟩) fun a ha w' O=>⟨O,fun _=>.inr ⟨(C rfl).1,.inr ⟨(C rfl).2,ha⟩⟩,fun h=>by cases h⟩)
   ·exact Ab rfl ⟨a6,hy,fun h=>by cases h⟩
  clear hy C;rintro⟨pl,ok,v⟩ _ aX ⟨a8,hy,C⟩;dsimp only at hy C⊢;cases ok
  ·exact Ao rfl (cU aI a7 (C rfl) _ (Sat.LD.2 ⟨_,_,_,aE,a8⟩))
  have a0:=hy rfl;have aJ:=a0.fits hI.ok.Gz aA;have b6:0<=pl:=by
   rcases a0 with ⟨p,r,hp,_,he⟩|⟨_,⟨_,h3,_⟩|⟨_,_,h3,_⟩⟩
   ·rw[he];exact(hI.R7 p (by rw[hp];simp)).1
   ·have:=h3.low;omega
   ·have:=h3.low;omega
  have dE:=aJ.1;have dF:=aJ.2.1;have bP:=aJ.2.2.1;have a4:=(CU hI.ok.Gz (show pl<=pl+AA by omega)).1 aJ.2.2.2;clear hy C aJ;refine Ab rfl (Hs aE a8 fun b3 c8 bV b5=> ?_);have aY:=Hk (key:=kP) P pl;have c9:=hI.YU;refine GB (n:=0) (z:=3) b5 rfl (by decide) fun bU aW aT=> ?_;have hl:=Kk aT.tail;refine⟨g.s3,(aT.front 1 rfl).cell rfl,⟨by omega,by dsimp only at hl;omega⟩,?_⟩;refine FD (x:=⟨Fe g.s3.base g.s3.cap 0 3,pos kP P pl,g.s3.cap⟩) (news:=BV Wi (P.take (pos kP P pl))) aT rfl ((aT.front 5 rfl).Ng (by decide) Fa aY) (by rw[DJ Fa,List.length_take];dsimp only;rw[Nat.min_eq_left aY]) (HC MA _) (by dsimp only at hl⊢;omega) (by dsimp only at hl⊢;omega) fun bI a5 bG bK=> ?_;rw[List.nil_append]at bG;refine AM (fun st w'=> ∃i:Nat,st.2.1=(i:Int)/\(i:Int)<=AA/\st.1.len=pos kP P pl+i/\
    Sat (Row E.AX 3 st.1 (BV Wi (P.take (pos kP P pl)++((List.range i).map fun i:Nat=>(pl+(i:Int),(1:Int),(0:Int)))))::(Dr E c {V with rf:=V.rf.tail,pl:=V.pl.tail} {g with s0:=s0,s1:=s1} P W++Z)) w') (fun st _=>(AA-st.2.1).toNat)
   ⟨0,rfl,by show(0:Int)<=AA;omega,by dsimp only at bK⊢;omega,by simpa using bG⟩ ?_
  rintro⟨aC,i',v⟩ _ aO ⟨i,hi,c0,bT,aK⟩;dsimp only at hi bT aK⊢;subst hi;refine AE (fun cD=> ?_) fun cO=> ?_
  ·rw[AG (n:=pl+(i:Int)),AG (n:=(i:Int)+1)];refine Am aK fun bC bD b2 _=> ?_;refine IE (news:=Wi (pl+(i:Int),1,0)) b2 rfl rfl (MA _) (by omega) (by omega) fun bF bE bA cZ=>⟨⟨i+1,by omega,by omega,by omega,?_⟩,by omega⟩;have e1:BV Wi (P.take (pos kP P pl)++((List.range i).map fun i:Nat=>(pl+(i:Int),(1:Int),(0:Int))))++Wi (pl+(i:Int),1,0)=BV Wi (P.take (pos kP P pl)++((List.range (i+1)).map fun i:Nat=>(pl+(i:Int),(1:Int),(0:Int)))):=by
    rw[List.range_succ,List.map_append,<-List.append_assoc,HB (_++_)];simp[BV]
   rw[e1]at bA;exact bA
  ·have bL:(i:Int)=AA:=by omega
   refine⟨g.s3,(aK.front 1 rfl).cell rfl,⟨by omega,by dsimp only at hl;omega⟩,?_⟩;refine FD (x:=⟨Fe g.s3.base g.s3.cap (pos kP P pl) 3,g.s3.len-pos kP P pl,g.s3.cap-pos kP P pl⟩) (news:=BV Wi (P.drop (pos kP P pl))) aK rfl ((aK.front 5 rfl).Nh (by decide) Fa aY) (by rw[DJ Fa,List.length_drop];dsimp only;rw[hl.1]) (HC MA _) (by dsimp only at hl⊢;omega) (by dsimp only at hl⊢;omega) fun aR bQ a9 _=> ?_;rw[<-HB]at a9;refine mL a9 fun w' O=>cR aI a7 pl (by omega) bP a0 w' fun BH=> ?_;refine Sat.LD.2 ⟨_,_,_,hI.Q4 (n:=i) BH rfl rfl rfl (fun x hx=>List.mem_of_mem_tail hx) (fun p=> ?_) (fun p q1 q2=>a4 p q1 (by rw[<-bL];exact q2)),O⟩;rw[bL];exact Bo hI.ok.Gz (Int.lt_add_of_pos_right _ aA) b6 (Int.lt_of_le_of_lt bP (by decide)) p
 refine Kl H (fun e=>Ab rfl (aF (fun r h=>by rw[e]at h;cases h) g.s1 w ?_)) fun x r e s w' O=> ?_
 ·have:V.rf.tail=V.rf:=by rw[e];rfl
  rw[this];exact H
 ·cases x
  ·refine Ab rfl (aF (fun r h=>by rw[e]at h;cases h) s w' ?_);rw[e];exact O
  ·exact Ao rfl (bX aI r e w' (Sat.LD.2 ⟨_,P,W,hI.congr rfl rfl rfl (fun x hx=>hx) fun _ _ _ _=>rfl,O⟩))
end
end Go.Sh
set_option linter.all false
set_option maxRecDepth 8000
set_option maxHeartbeats 2000000
namespace Go.Sh
theorem I8{α β:Type}{f g:α->List β}: ∀{l:List α},(∀x∈l,f x=g x)->l.flatMap f=l.flatMap g
 | [],_=>rfl
 | a::l,h=>by rw[List.flatMap_cons,List.flatMap_cons,h a (.head _),I8 fun x d=>h x (.tail _ d)]
abbrev QV:=Int×(Int->Bool)×(Int->Bool)
def qc(v:Nat->QV)(i:Nat):List Value:=FQ (v i).1 (v i).2.1 (v i).2.2
def Sw(m t:Nat):List Value:=[.pointer (some ⟨m,0,none⟩),.pointer (some ⟨t,0,none⟩)]
def Sx(f:Nat)(sl:AZ)(hint:Int):List Value:=[.pointer (some ⟨f,0,none⟩),HU sl,.int .u64 hint]
def CT(m t f:Nat)(sl:AZ)(hint:Int)(v:Nat->QV):List Value:=Sw m t++((List.range 64).flatMap (qc v)++Sx f sl hint)
def Wt(m t:Nat)(v:Nat->QV)(p:Nat):List Value:=Sw m t++((List.range 64).take p).flatMap (qc v)
def aS(f:Nat)(sl:AZ)(hint:Int)(v:Nat->QV)(p:Nat):List Value:=((List.range 64).drop (p+1)).flatMap (qc v)++Sx f sl hint
theorem FR(v:Nat->QV): ∀l:List Nat,(l.flatMap (qc v)).length=129*l.length
 | []=>rfl
 | a::l=>by
  rw[List.flatMap_cons,List.length_append,FR v l,List.length_cons];have:(qc v a).length=129:=aO;omega
theorem VY(m t:Nat)(v:Nat->QV){p:Nat}(hp:p<64):(Wt m t v p).length=2+p*129:=by
 unfold Wt;rw[List.length_append,FR,List.length_take,List.length_range];have:(Sw m t).length=2:=rfl;omega
theorem aT{p:Nat}(hp:p<64):List.range 64=(List.range 64).take p++p::(List.range 64).drop (p+1):=by
 have h:=(List.take_append_drop p (List.range 64)).symm;rw[List.drop_eq_getElem_cons (by rw[List.length_range];exact hp),List.getElem_range]at h;exact h
theorem Q7(m t f:Nat)(sl:AZ)(hint:Int)(v:Nat->QV){p:Nat}(hp:p<64):CT m t f sl hint v=qW (Wt m t v p) (aS f sl hint v p) (v p).1 (v p).2.1 (v p).2.2:=by
 unfold CT qW Wt aS;have h:(List.range 64).flatMap (qc v)=((List.range 64).take p).flatMap (qc v)++(qc v p++((List.range 64).drop (p+1)).flatMap (qc v)):=by
  conv=>lhs;rw[aT hp]
  rw[List.flatMap_append,List.flatMap_cons]
 rw[h];simp only[List.append_assoc];rfl
def Mf(v:Nat->QV)(p:Nat)(x:QV):Nat->QV:=fun j=>if j=p then x else v j
theorem Ya(m t f:Nat)(sl:AZ)(hint:Int)(v:Nat->QV){p:Nat}(hp:p<64)(x:QV):qW (Wt m t v p) (aS f sl hint v p) x.1 x.2.1 x.2.2=CT m t f sl hint (Mf v p x):=by
 rw[Q7 m t f sl hint (Mf v p x) hp];have j:Wt m t (Mf v p x) p=Wt m t v p:=by
  unfold Wt;congr 1;refine I8 fun i d=> ?_;obtain⟨k,J,e⟩:=List.mem_take_iff_getElem.1 d;rw[List.getElem_range]at e;unfold qc Mf;rw[if_neg (by omega)]
 have K:aS f sl hint (Mf v p x) p=aS f sl hint v p:=by
  unfold aS;congr 1;refine I8 fun i d=> ?_;obtain⟨k,J,e⟩:=List.mem_drop_iff_getElem.1 d;rw[List.getElem_range]at e;unfold qc Mf;rw[if_neg (by omega)]
 have C:Mf v p x p=x:=if_pos rfl;rw[j,K,C]
theorem Yb(m t f:Nat)(sl:AZ)(hint:Int)(v:Nat->QV):(CT m t f sl hint v).length=8261:=by
 unfold CT;rw[List.length_append,List.length_append,FR,List.length_range];rfl
theorem sD(m t f:Nat)(sl:AZ)(hint:Int)(v:Nat->QV):(CT m t f sl hint v)[0]? =some (.pointer (some ⟨m,0,none⟩)):=rfl
theorem sE(m t f:Nat)(sl:AZ)(hint:Int)(v:Nat->QV):(CT m t f sl hint v)[1]? =some (.pointer (some ⟨t,0,none⟩)):=rfl
theorem Q8(m t f:Nat)(sl:AZ)(hint:Int)(v:Nat->QV)(i:Nat):(CT m t f sl hint v)[8258+i]? =(Sx f sl hint)[i]? :=by
 unfold CT;rw[List.getElem?_append_right (by show 2<=_;omega),List.getElem?_append_right (by rw[FR,List.length_range];show 8256<=8258+i-2;omega),FR,List.length_range];rw[show 8258+i-(Sw m t).length-129*64=i by show 8258+i-2-8256=i;omega]
theorem Yc(m t f:Nat)(sl:AZ)(hint:Int)(v:Nat->QV)(i:Nat)(x:Value){f':Nat}{sl':AZ}{hint':Int}(h:(Sx f sl hint).set i x=Sx f' sl' hint'):(CT m t f sl hint v).set (8258+i) x=CT m t f' sl' hint' v:=by
 unfold CT;rw[List.set_append_right _ _ (by show 2<=_;omega),List.set_append_right _ _ (by rw[FR,List.length_range];show 8256<=8258+i-2;omega),FR,List.length_range];rw[show 8258+i-(Sw m t).length-129*64=i by show 8258+i-2-8256=i;omega,h]
structure RG where
 m:Nat
 t:Nat
 f:Nat
 sl:AZ
 v:Nat->QV
 L:List (Int×Nat)
abbrev Q9:=Int->(Nat->Bool)×(Nat->Bool)
def F3(x:Int×Nat):List Value:=[.int .i64 x.1,.pointer (some ⟨x.2,0,none⟩)]
theorem CH(x:Int×Nat):(F3 x).length=2:=rfl
def ND(E:Env)(sp:Int->Option (Nat×SI))(um:Q9)(x:Int×Nat):Pr:=match sp x.1 with
 | some y=>Dy E x.2 y.2 (um x.1).1 (um x.1).2
 | none=>Uo
def EN(E:Env)(h:Nat)(S:HS)(um:Q9)(g:RG):List Pr:=
 [Cells h E.AV (CT g.m g.t g.f g.sl S.hint g.v),Db E g.m S.V,IV E g.t S.T,GR E g.f S.fx,Row E.AS 2 g.sl (BV F3 g.L),Ap (ND E S.sp um) g.L]
structure Wu(S:HS)(g:RG):Prop where
 q: ∀i,i<64->YL (S.ca i) (g.v i).1 (g.v i).2.1 (g.v i).2.2
 mem: ∀id,id∈g.L.map (·.1)↔S.sp id≠none
 so:(g.L.map fun x=>S.at x.1).Pairwise (· < ·)
def Hu(E:Env)(h:Nat)(S:HS)(um:Q9):Pr:=Ex fun g:RG=>ID (Wu S g) (N9 (EN E h S um g))
section
variable{E:Env}{h:Nat}{S:HS}{um:Q9}{g:RG}{Z:List Pr}{w:World}
theorem Sat.GS:Sat (Hu E h S um::Z) w↔ ∃g,Wu S g/\Sat (EN E h S um g++Z) w:=by
 unfold Hu;rw[Sat.ex];constructor
 ·rintro⟨g,d⟩;rw[Sat.where,Sat.star]at d;exact⟨g,d.1,d.2⟩
 ·rintro⟨g,h1,j⟩;refine⟨g,?_⟩;rw[Sat.where,Sat.star];exact⟨h1,j⟩
theorem Sat.Yd{R:List Pr}(H:Sat (Cells h E.AV (CT g.m g.t g.f g.sl S.hint g.v)::R) w)(j:Wu S g){p:Nat}(hp:p<64):
  Sat (VR h E.AV (Wt g.m g.t g.v p) (aS g.f g.sl S.hint g.v p) (S.ca p)::R) w/\
  ∀{C:CS} {R':List Pr} {w'},Sat (VR h E.AV (Wt g.m g.t g.v p) (aS g.f g.sl S.hint g.v p) C::R') w'->
   ∃x:QV,YL C x.1 x.2.1 x.2.2/\Sat (Cells h E.AV (CT g.m g.t g.f g.sl S.hint (Mf g.v p x))::R') w':=by
 refine⟨Sat.hZ.2 ⟨_,_,_,j.q p hp,?_⟩,fun{C R' w'} d=> ?_⟩
 ·rw[<-Q7 g.m g.t g.f g.sl S.hint g.v hp];exact H
 ·obtain⟨B,u,k,J,d⟩:=Sat.hZ.1 d;refine⟨(B,u,k),J,?_⟩;have:=Ya g.m g.t g.f g.sl S.hint g.v hp (B,u,k);rw[<-this];exact d
end
end Go.Sh
set_option linter.all false
set_option maxRecDepth 8000
set_option maxHeartbeats 4000000
namespace Go.Sh
theorem RA{w:World}{ok:Bool->Prop}{s:AZ}{z:Nat->Bool}(h:LZ w .bool ok s z):rowAt w s.base s.len (BS (I0 s.len z)):=by
 cases hb:s.base with
 | none=>
  have:s.len=0:=by
   rcases Nat.eq_zero_or_pos s.len with e|e
   ·exact e
   ·obtain⟨x,C,_⟩:=h.aZ e;rw[hb]at C;cases C
  show BS (I0 s.len z)=[];rw[this];rfl
 | some a=>
  refine⟨by simp[BS,Fi],fun j v J=> ?_⟩;have d:j<s.len:=by
   have:=(List.getElem?_eq_some_iff.1 J).1;simpa[BS,Fi]using this
  rw[MR (Rr z d)]at J;cases J;obtain⟨x,C,K⟩:=h.aZ d;rw[hb]at C;cases C;exact K
theorem LZ.iF{w w':World}{s:AZ}{z:Nat->Bool}(h:KY w .bool s z)(he:Ext AK w w'):KY w' .bool s z:=
 ⟨h.1,h.2.1,fun j J=>by
  obtain⟨x,h1,C,d⟩:=h.2.2 j J;exact⟨x,h1,fun i v K=>he.cell (C i v K) fun f=>f,d⟩⟩
def O2(S:HS)(l:List Int):Int:=cP fun p=>decide (0<S.own p/\S.own p∈l)
theorem Ag.Ye{S:HS}{fl:Int->Bool}(d:Ag S fl){id:Int}{x:Nat×SI}(j:S.sp id=some x)(p:Int):S.own p=id↔x.2.base/8192<=p/\p<x.2.base/8192+x.2.AA:=by
 have h0:=d.sp id x j;refine⟨fun e=> ?_,fun h=>h0.2.2.2.2 p h.1 h.2⟩;obtain⟨_,_,_,y,v,h1,C⟩:=d.ow p (by omega);rw[e,j]at v;cases v;exact⟨h1,C⟩
theorem Wl{S:HS}{fl:Int->Bool}(j:Ag S fl)(C:E9 S){id:Int}{x:Nat×SI}(v:S.sp id=some x){l:List Int}(J:id∉l):O2 S (l++[id])=O2 S l+x.2.AA/\0<=x.2.base/8192/\x.2.base/8192+x.2.AA<=34359738368:=by
 have h0:=j.sp id x v;have b0:0<=x.2.base/8192/\x.2.base/8192+x.2.AA<=34359738368:=by
  have K:=h0.2.2.2.2 (x.2.base/8192) (Int.le_refl _) (by omega);have O:=h0.2.2.2.2 (x.2.base/8192+x.2.AA-1) (by omega) (by omega);have T:=C.tv.Gc _ (j.ow _ (by omega:0<S.own (x.2.base/8192))).1;have N:=C.tv.Gc _ (j.ow _ (by omega:0<S.own (x.2.base/8192+x.2.AA-1))).1;omega
 refine⟨?_,b0⟩;unfold O2;rw[KB (f:=fun p=>decide (0<S.own p/\S.own p∈l)) (g:=inr (x.2.base/8192) x.2.AA),MY b0.1 (by omega) b0.2]
 ·intro p;rw[Bool.eq_iff_iff,Bool.or_eq_true,decide_eq_true_iff,decide_eq_true_iff,AU,<-j.Ye v p,List.mem_append,List.mem_singleton];constructor
  ·rintro⟨h1,d|d⟩
   ·exact .inl ⟨h1,d⟩
   ·exact .inr d
  ·rintro(⟨h1,d⟩|d)
   ·exact⟨h1,.inl d⟩
   ·exact⟨by omega,.inr d⟩
 ·intro p a b;have a:=of_decide_eq_true a;rw[AU,<-j.Ye v p]at b;rw[b]at a;exact J a.2
theorem Yf{S:HS}(d:Ag S no){l:List Int}(h: ∀n,n∈l↔S.sp n≠none):O2 S l=S.AA:=by
 rw[d.pg];refine OZ fun p _ _=> ?_;rw[decide_eq_decide];refine⟨fun h=>h.1,fun h0=>⟨h0,(h _).2 ?_⟩⟩;obtain⟨_,_,_,x,j,_⟩:=d.ow p h0;rw[j];exact fun e=>by cases e
end Go.Sh
set_option linter.all false
set_option maxRecDepth 8000
set_option maxHeartbeats 2000000
namespace Go.Sh
section
variable{E:Env}{h:Nat}{S:HS}{um:Q9}{g:RG}{Z:List Pr}{w:World}
theorem VZ{R:List Pr}(H:Sat (Cells h E.AV (CT g.m g.t g.f g.sl S.hint g.v)::R) w):w.cell? ((Addr.mk h 0 none).add 8259)=some (.slice g.sl.base g.sl.len g.sl.cap):=
 H.cell (o:=0) (m:=8259) (by rw[Nat.zero_add];exact Q8 g.m g.t g.f g.sl S.hint g.v 1)
theorem Yw{R:List Pr}(H:Sat (Cells h E.AV (CT g.m g.t g.f g.sl S.hint g.v)::R) w):w.cell? ((Addr.mk h 0 none).add 1)=some (.pointer (some ⟨g.t,0,none⟩)):=
 H.cell (o:=0) (m:=1) (by rw[Nat.zero_add];exact sE g.m g.t g.f g.sl S.hint g.v)
theorem MC{R:List Pr}{sl:AZ}{L:List (Int×Nat)}(H:Sat (Row E.AS 2 sl (BV F3 L)::R) w):L.length=sl.len:=(H.Gd (by decide) CH).1
theorem Sy(H:Sat (EN E h S um g++Z) w)(hI:Wu S g)(Y:g.L.length<1099511627776){id:Int}{K:Int->World->Prop}(T:S.sp id=none->K (-1) w)(N: ∀(i q:Nat),g.L[i]? =some (id,q)->K i w):
  F.DW E (some ⟨h,0,none⟩) id K w:=by
 unfold F.DW;have hl:=MC (H.front 4 rfl);refine AM (fun st w'=>w'=w/\ ∃i:Nat,st.1=(i:Int)/\i<=g.L.length/\ ∀(j q:Nat),j<i->g.L[j]? ≠some (id,q)) (fun st _=>((g.L.length:Int)-st.1).toNat) ⟨rfl,0,rfl,Nat.zero_le _,fun j q C=>by omega⟩ ?_;rintro⟨i',u⟩ _ w2 ⟨rfl,i,hi,aC,d⟩;dsimp only at hi⊢;subst hi;refine BD ⟨g.sl,VZ H,AE (fun O=>BD ⟨g.sl,VZ H,?_⟩) fun aD=> ?_⟩
 ·obtain⟨x,v⟩: ∃x,g.L[i]? =some x:=⟨_,List.getElem?_eq_getElem (by omega)⟩;obtain⟨b,hb⟩:=(H.front 4 rfl).FF (by decide) CH (i:=i) (by omega);rw[hb];refine BD ⟨⟨by omega,O⟩,x.1,?_,CO (fun e=>N i x.2 (by rw[v,<-e])) fun e=> ?_⟩
  ·have:=(H.front 4 rfl).B5 CH hb v (j:=0) rfl;rwa[Nat.add_zero]at this
  ·rw[AN (n:=(i:Int)+1)];refine⟨⟨rfl,i+1,by omega,by omega,fun j q C J=> ?_⟩,by omega⟩;by_cases ej:j=i
   ·rw[ej,v]at J;cases J;exact e rfl
   ·exact d j q (by omega) J
 ·refine T ?_;cases hs:S.sp id with
  | none=>rfl
  | some y=>
   have:=(hI.mem id).2 (by rw[hs];exact fun e=>by cases e);obtain⟨x,v,e⟩:=List.mem_map.1 this;obtain⟨j,C⟩:=List.mem_iff_getElem?.1 v;have aF:=(List.getElem?_eq_some_iff.1 C).1;exact absurd (by rw[C,<-e]) (d j x.2 (by omega))
theorem bQ{R:List Pr}(H:Sat (Ap (ND E S.sp um) g.L::R) w)(v:Wu S g){i:Nat}{x:Int×Nat}(d:g.L[i]? =some x): ∃y R',S.sp x.1=some y/\Sat (Dy E x.2 y.2 (um x.1).1 (um x.1).2::R') w:=by
 have hm:x.1∈g.L.map (·.1):=List.mem_map.2 ⟨x,List.mem_of_getElem? d,rfl⟩;obtain⟨y,j⟩:=Option.ne_none_iff_exists'.1 ((v.mem x.1).1 hm);have h1:=H.IF d;have e:ND E S.sp um x=Dy E x.2 y.2 (um x.1).1 (um x.1).2:=by unfold ND;rw[j]
 rw[e]at h1;exact⟨y,_,j,h1⟩
end
end Go.Sh
set_option linter.all false
set_option maxRecDepth 8000
set_option maxHeartbeats 2000000
namespace Go.Sh
theorem RB{a b m:Iv}(v:Ok a)(C:Ok b)(hm:Ok m)(h1: ∀p,mem a p->mem m p)(j: ∀p,mem b p->mem m p)(J: ∀p,mem a p-> ¬mem b p)(d: ∀p,mem m p->p<34359738368):CK a+CK b<=CK m:=by
 rw[<-Oa v (f:=Ik a) (fun p=>A9.symm) fun p hp=>d p (h1 p (A9.1 hp)),<-Oa C (f:=Ik b) (fun p=>A9.symm) fun p hp=>d p (j p (A9.1 hp)),<-Oa hm (f:=Ik m) (fun p=>A9.symm) fun p hp=>d p (A9.1 hp),
  <-KB (h:=fun p=>Ik a p||Ik b p) (fun p=>rfl) fun p x y=>J p (A9.1 x) (A9.1 y)]
 refine Ql fun p hp=>A9.2 ?_;rcases Bool.or_eq_true_iff.1 hp with h|h
 ·exact h1 p (A9.1 h)
 ·exact j p (A9.1 h)
theorem MX.Q4{V V':VS}(h:MX V){a n:Int}(O:0<n)(h0:512<=a)(N:a+n<=34359738368)(d:V'.laid=Bk V.laid a (a+n))(j:V'.ready=V.ready)(v:V'.rel=V.rel)(K:V'.wd=V.wd):MX V':=by
 have hm:=Bo h.Gz (a:=a) (b:=a+n) (by omega) (by omega) (by omega);have J:=(CQ h.Gz (a:=a) (b:=a+n) (by omega) (by omega) (by omega)).1;have C: ∀p,mem V'.laid p->512<=p/\p<34359738368:=fun p hp=>by
  rw[d,hm]at hp;rcases hp with hp|hp
  ·exact h.Gc p hp
  ·omega
 refine⟨by rw[d];exact J,by rw[j];exact h.IT,by rw[v];exact h.JM,fun p hp=> ?_,fun p hp=> ?_,fun p hp=> ?_,C,fun p i a b hp=> ?_,?_⟩
 ·rw[d,hm];rw[j]at hp;exact .inl (h.rl p hp)
 ·rw[d,hm];rw[v]at hp;exact .inl (h.el p hp)
 ·rw[j]at hp;rw[v];exact h.re p hp
 ·rw[j]at hp;rw[K];exact h.clean p i a b hp
 ·rw[j,v,d];exact RB h.IT h.JM J (fun p hp=>(hm p).2 (.inl (h.rl p hp))) (fun p hp=>(hm p).2 (.inl (h.el p hp))) h.re fun p hp=>(C p (by rw[d];exact hp)).2
theorem MX.LB{V:VS}(h:MX V){a n:Int}(h0:0<=a)(hn:0<n)(Y:a+n<=34359738368)(d: ∀p,a<=p->p<a+n->mem V.laid p):MX (FY V a n):=by
 have hm:=Bo h.IT (a:=a) (b:=a+n) (by omega) (by omega) (by omega);have j:=(CQ h.IT (a:=a) (b:=a+n) (by omega) (by omega) (by omega)).1;have v:=fun p=>B7 (l:=V.rel) (a:=a) (b:=a+n) (n:=p) (by omega);have K: ∀p,mem (FY V a n).ready p->mem V.laid p:=fun p hp=>by
  rcases(hm p).1 hp with g|g
  ·exact h.rl p g
  ·exact d p g.1 g.2
 have O: ∀p,mem (FY V a n).rel p->mem V.laid p:=fun p hp=>h.el p ((v p).1 hp).1;have N: ∀p,mem (FY V a n).ready p-> ¬mem (FY V a n).rel p:=fun p hp T=>by
  have C:=(v p).1 T;rcases(hm p).1 hp with g|g
  ·exact h.re p g C.1
  ·exact C.2 g
 have J:Ok (FY V a n).rel:=EK h.JM (by omega);refine⟨h.Gz,j,J,K,O,N,h.Gc,fun p i a1 b1 hp=> ?_,RB j J h.Gz K O N fun p hp=>(h.Gc p hp).2⟩;show(if a<=p/\p<a+n/\Ik V.rel p=true then Ei V a p else V.wd p i)=0;have g:=fun x=>hp ((hm p).2 x);rw[if_neg fun x=>g (.inr ⟨x.1,x.2.1⟩)];exact h.clean p i a1 b1 fun x=>g (.inl x)
theorem MX.release{V:VS}(h:MX V){a n:Int}(h0:0<=a)(hn:0<n)(Y:a+n<=34359738368)(j: ∀p,a<=p->p<a+n->mem V.ready p):MX (E0 V a n):=by
 have hm:=Bo h.JM (a:=a) (b:=a+n) (by omega) (by omega) (by omega);have v:=(CQ h.JM (a:=a) (b:=a+n) (by omega) (by omega) (by omega)).1;have d:=fun p=>B7 (l:=V.ready) (a:=a) (b:=a+n) (n:=p) (by omega);have J: ∀p,mem (E0 V a n).ready p->mem V.laid p:=fun p hp=>h.rl p ((d p).1 hp).1;have O: ∀p,mem (E0 V a n).rel p->mem V.laid p:=fun p hp=>by
  rcases(hm p).1 hp with g|g
  ·exact h.el p g
  ·exact h.rl p (j p g.1 g.2)
 have N: ∀p,mem (E0 V a n).ready p-> ¬mem (E0 V a n).rel p:=fun p hp T=>by
  have C:=(d p).1 hp;rcases(hm p).1 T with g|g
  ·exact h.re p C.1 g
  ·exact C.2 g
 have K:Ok (E0 V a n).ready:=EK h.IT (by omega);refine⟨h.Gz,K,v,J,O,N,h.Gc,fun p i a1 b1 hp=> ?_,RB K v h.Gz J O N fun p hp=>(h.Gc p hp).2⟩;show(if a<=p/\p<a+n then 0 else V.wd p i)=0;by_cases g:a<=p/\p<a+n
 ·rw[if_pos g]
 ·rw[if_neg g];exact h.clean p i a1 b1 fun x=>hp ((d p).2 ⟨x,g⟩)
theorem K1.take{V:TV}(h:K1 V){x n:Int}(J:0<n):K1 (V.take x n):=by
 obtain⟨d,f1,f2⟩:=h.cf;obtain⟨C,v,j⟩:=h.cr;refine⟨fun p hp=>h.fi p (KR.1 hp).1,fun p hp=>KR.2 ⟨h.rf p (L1.1 hp).1,(L1.1 hp).2⟩,h.Gc,h.ci,⟨B6 d x (x+n),EK f1 (by omega),fun p=> ?_⟩,⟨B6 C x (x+n),EK v (by omega),fun p=> ?_⟩⟩
 ·rw[B7 (by omega),f2,KR]
 ·rw[B7 (by omega),j,L1]
theorem I9{f:Int->Bool}{x n p:Int}:(f p||inr x n p)=true↔f p=true∨(x<=p/\p<x+n):=by
 rw[Bool.or_eq_true_iff,AU]
theorem K1.grow{V:TV}(h:K1 V){c n:Int}(v:0<=c)(K:0<n)(C:c+n<=67108864):K1 (V.grow c n):=by
 obtain⟨li,i1,i2⟩:=h.ci;obtain⟨N,f1,f2⟩:=h.cf;obtain⟨J,d,j⟩:=h.cr;have key: ∀{l:Iv} {f:Int->Bool},Ok l->(∀p,mem l p↔f p=true)-> ∃l',Ok l'/\ ∀p,mem l' p↔(f p||inr (c*512) (n*512) p)=true:=fun{l f} o g=>
  ⟨Bk l (c*512) (c*512+n*512),(CQ o (by omega) (by omega) (by omega)).1,fun p=>by rw[Bo o (by omega) (by omega) (by omega),g,I9]⟩
 refine⟨fun p hp=> ?_,fun p hp=> ?_,fun p hp=> ?_,key i1 i2,key f1 f2,key d j⟩
 ·exact I9.2 ((I9.1 hp).imp_left (h.fi p))
 ·exact I9.2 ((I9.1 hp).imp_left (h.rf p))
 ·rcases I9.1 hp with g|g
  ·exact h.Gc p g
  ·omega
theorem K1.F5{V:TV}(h:K1 V){x n:Int}(h0:0<=x)(J:0<n)(K:x+n<=34359738368)(j:Gb V.idle x n):K1 (V.F5 x n):=by
 obtain⟨C,d,v⟩:=h.cr;refine⟨h.fi,fun p hp=> ?_,h.Gc,h.ci,h.cf,⟨Bk C x (x+n),(CQ d (by omega) (by omega) (by omega)).1,fun p=>by rw[Bo d (by omega) (by omega) (by omega),v];exact I9.symm⟩⟩;rcases I9.1 hp with g|g
 ·exact h.rf p g
 ·have:=j p g.1 g.2;exact(Bool.and_eq_true_iff.1 this).1
section
variable{S:HS}
theorem UZ(j:K1 S.T){q:Int}(h:Eh S.T 1 q):Lk (filled S.T q):=by
 have h1:=h.1;have v:=h.2.1;refine⟨by show 0<=q/64*64;omega,by show q/64*64<_;omega,by show q/64*64 %64=0;omega,fun i d=> ?_,fun i d=> ?_⟩
 ·show(decide (i<64)&&_)=false;rw[decide_eq_false (by omega)];rfl
 ·have d:(decide (i<64)&&S.T.rl (q/64*64+i))=true:=d;show(decide (i<64)&&S.T.fr (q/64*64+i))=true;rw[Bool.and_eq_true_iff]at d⊢;exact⟨d.1,j.rf _ d.2⟩
theorem E9.fill(h:E9 S){i:Nat}{q:Int}(d:Eh S.T 1 q):E9 (S.fill i q):=by
 refine⟨h.tv.take (by decide),h.vv,fun j v=> ?_,h.ok,h.fx⟩;show Lk (if j=i then filled S.T q else S.ca j);by_cases e:j=i
 ·rw[if_pos e];exact UZ h.tv d
 ·rw[if_neg e];exact h.ci j v
theorem FB.ok{S1:HS}{i:Nat}(h:FB S i S1)(d:E9 S):E9 S1:=by
 rcases h with ⟨_,q,j,rfl⟩|⟨_,rfl⟩
 ·exact d.fill j
 ·exact d
theorem Er.ok{S1:HS}{p n:Int}(h:Er S p n S1)(d:E9 S):E9 S1:=by
 rcases h with ⟨_,rfl⟩|⟨i,_,_,_,hf,_⟩
 ·exact d
 ·exact hf.ok d
theorem Ua{C:CS}(h:Lk C)(k n:Nat):Lk (C.alloc k n):=by
 refine⟨h.b0,h.b1,h.lR,fun i d=> ?_,fun i d=> ?_⟩
 ·show(C.has i&&_)=false;rw[h.hz i d];rfl
 ·have d:(C.rel i&& !(decide (k<=i)&&decide (i<k+n)))=true:=d;show(C.has i&& !(decide (k<=i)&&decide (i<k+n)))=true;rw[Bool.and_eq_true_iff]at d⊢;exact⟨h.rh i d.1,d.2⟩
theorem E9.FA(h:E9 S){i k n:Nat}(d:i<64):E9 (S.FA i k n):=by
 refine⟨h.tv,h.vv,fun j v=> ?_,h.ok,h.fx⟩;show Lk (if j=i then(S.ca i).alloc k n else S.ca j);by_cases e:j=i
 ·rw[if_pos e];exact Ua (h.ci i d) k n
 ·rw[if_neg e];exact h.ci j v
theorem E9.DA(h:E9 S){page n:Int}(d:0<n):E9 (S.DA page n):=⟨h.tv.take d,h.vv,h.ci,h.ok,h.fx⟩
theorem NF{V:VS}(h:MX V){hint n a:Int}(j:0<n)(d:FL V hint n a):Mv V.laid a n:=by
 rcases d with ⟨p,r,_,hf,rfl⟩|⟨_,d|⟨_,d⟩⟩
 ·exact hf
 ·exact d.2.1.fits h.Gz j d.2.2
 ·exact d.2.1.fits h.Gz j d.2.2
end
end Go.Sh
set_option linter.all false
set_option maxRecDepth 4000
set_option maxHeartbeats 4000000
namespace Go.Sh
section
variable{V:VS}
theorem KF{l:Iv}{j n a v:Int}(h:IS l j n a)(d:IS l j n v):a=v:=by
 rcases Int.lt_trichotomy a v with g|g|g
 ·obtain⟨m,m1,C,J⟩:=d.first a h.mul h.low h.fr g;exact absurd J (h.free m m1 C)
 ·exact g
 ·obtain⟨m,m1,C,J⟩:=h.first v d.mul d.low d.fr g;exact absurd J (d.free m m1 C)
theorem MD{l:Iv}{d n a:Int}(h:Qg l d n a)(j:HI l d n):False:=by
 rcases j with g|⟨J,C,v⟩
 ·have:=h.1;omega
 ·rw[KF h.2.1 C]at h;exact v h.2.2
theorem Sz{hint n a O:Int}(h:FL V hint n a)(T:FL V hint n O):a=O:=by
 rcases h with ⟨p,r,h1,C,J⟩|⟨h1,C⟩
 ·rcases T with ⟨K,N,j,d,v⟩|⟨j,_⟩
  ·rw[h1]at j;cases j;rw[J,v]
  ·exact absurd C (j p r h1)
 ·rcases T with ⟨K,N,j,d,v⟩|⟨_,d⟩
  ·exact absurd d (h1 K N j)
  ·rcases C with C|⟨C,J⟩
   ·rcases d with d|⟨d,_⟩
    ·exact KF C.2.1 d.2.1
    ·exact(MD C d).elim
   ·rcases d with d|⟨_,v⟩
    ·exact(MD d C).elim
    ·exact KF J.2.1 v.2.1
theorem Ub{hint n a:Int}(h:FL V hint n a)(d:Ij V hint n):False:=by
 rcases h with ⟨p,r,h1,j,_⟩|⟨_,h|⟨_,h⟩⟩
 ·exact d.1 p r h1 j
 ·exact MD h d.2.1
 ·exact MD h d.2.2
end
end Go.Sh
set_option linter.all false
set_option maxRecDepth 8000
set_option maxHeartbeats 2000000
namespace Go.Sh
theorem JA{V:TV}{n p d:Int}(h:Eh V n p)(j:Eh V n d):p=d:=Int.le_antisymm (h.2.2.2 d j.2.2.1) (j.2.2.2 p h.2.2.1)
section
variable{S S1 S2:HS}
theorem FB.uniq{i:Nat}(h:FB S i S1)(K:FB S i S2):S1=S2:=by
 rcases h with ⟨he,q,J,rfl⟩|⟨v,rfl⟩
 ·rcases K with ⟨_,C,j,rfl⟩|⟨d,rfl⟩
  ·rw[JA J j]
  ·rcases d with d|d
   ·exact absurd he d
   ·have:=d q;rw[J.2.2.1 q (Int.le_refl _) (by omega)]at this;cases this
 ·rcases K with ⟨he,C,j,rfl⟩|⟨d,rfl⟩
  ·rcases v with v|v
   ·exact absurd he v
   ·have:=v C;rw[j.2.2.1 C (Int.le_refl _) (by omega)]at this;cases this
  ·rfl
theorem Er.uniq{p n:Int}(h:Er S p n S1)(J:Er S p n S2):S1=S2:=by
 rcases h with ⟨C,rfl⟩|⟨i,K,hp,C,hf,_⟩
 ·rcases J with ⟨_,rfl⟩|⟨i,K,hp,d,hf,_⟩
  ·rfl
  ·exact absurd ⟨by omega,by omega,d⟩ C
 ·rcases J with ⟨d,rfl⟩|⟨j,O,N,d,v,_⟩
  ·exact absurd ⟨by omega,by omega,C⟩ d
  ·obtain rfl:i=j:=by omega
   exact hf.uniq v
theorem SY.JB{p n page:Int}(h:SY S p n page S2)(N:Er S p n S1): ∃x,Eh S1.T n x/\page=x/\S2=S1.DA x n:=by
 rcases h with ⟨Y,i,k,hi,hp,hn,hf,K,_,_,rfl,rfl⟩|⟨Y,O,d,rfl⟩
 ·rcases N with ⟨v,rfl⟩|⟨j,hj,aB,v,J,C⟩
  ·exact absurd ⟨by omega,by omega,hn⟩ v
  ·obtain rfl:i=j:=by omega
   rw[hf.uniq J]at K;exact absurd K (C k)
 ·rw[O.uniq N]at d⊢;exact⟨page,d,rfl,rfl⟩
theorem SY.uniq{p n a b:Int}(h:SY S p n a S1)(T:SY S p n b S2):a=b/\S1=S2:=by
 rcases h with ⟨T1,i,k,hi,hp,hn,hf,hr,O,_,rfl,rfl⟩|⟨T1,K,d,rfl⟩
 ·rcases T with ⟨T2,j,Y,hj,aE,aF,J,C,N,_,rfl,rfl⟩|⟨T2,K,d,rfl⟩
  ·obtain rfl:i=j:=by omega
   obtain rfl:=hf.uniq J;obtain rfl:k=Y:=Nat.le_antisymm (O Y C) (N k hr);exact⟨rfl,rfl⟩
  ·exact(SY.JB (.inl ⟨T1,i,k,hi,hp,hn,hf,hr,O,‹_›,rfl,rfl⟩) K).elim fun x v=>by
    rw[JA d v.1];exact⟨v.2.1,v.2.2⟩
 ·obtain⟨x,v,rfl,rfl⟩:=T.JB K;rw[JA d v];exact⟨rfl,rfl⟩
theorem PF.uniq{n:Int}(h:PF S n S1)(v:PF S n S2):S1=S2:=by
 obtain⟨_,a,d,rfl⟩:=h;obtain⟨_,b,j,rfl⟩:=v;rw[Sz d j]
theorem PF.not{n:Int}(h:PF S n S1)(v:MZ S n S2):False:=by
 obtain⟨j,a,d,rfl⟩:=h;rcases v with ⟨r,h1,_⟩|⟨_,h1,_⟩
 ·exact j r h1
 ·exact Ub d h1
theorem MZ.uniq{n:Int}(h:MZ S n S1)(C:MZ S n S2):S1=S2:=by
 rcases h with ⟨r,h1,rfl⟩|⟨h0,h1,rfl⟩
 ·rcases C with ⟨v,d,rfl⟩|⟨j,_,_⟩
  ·rw[h1]at d;cases d;rfl
  ·exact absurd h1 (j r)
 ·rcases C with ⟨v,d,rfl⟩|⟨j,_,rfl⟩
  ·exact absurd d (h0 v)
  ·rfl
theorem JG.uniq{p n a b:Int}(h:JG S p n a S1)(v:JG S p n b S2):a=b/\S1=S2:=by
 rcases h with h|⟨S0,Y,T,K,hg,hf,rfl⟩
 ·rcases v with v|⟨T0,O,j,d,J,C,rfl⟩
  ·exact h.uniq v
  ·obtain⟨x,N,_⟩:=h.JB j;exact absurd N.2.2.1 (d x)
 ·rcases v with v|⟨T0,O,j,d,J,C,rfl⟩
  ·obtain⟨x,N,_⟩:=v.JB T;exact absurd N.2.2.1 (K x)
  ·obtain rfl:=T.uniq j;obtain rfl:=hg.uniq J;rw[JA hf C];exact⟨rfl,rfl⟩
theorem Made.uniq{T:HS}{page n:Int}(h:Made S page n S1)(j:Made S page n T):S1=T:=by
 rcases h with ⟨h1,rfl⟩|⟨h1,_,rfl⟩
 ·rcases j with ⟨_,rfl⟩|⟨d,_,_⟩
  ·rfl
  ·exact absurd h1 d
 ·rcases j with ⟨d,_⟩|⟨d,_,rfl⟩
  ·exact absurd d h1
  ·rfl
theorem Found.uniq{p n a b:Int}(h:Found S p n a S1)(v:Found S p n b S2):a=b/\S1=S2:=by
 obtain⟨T,C,hm⟩:=h;obtain⟨J,j,d⟩:=v;obtain⟨rfl,rfl⟩:=C.uniq j;exact⟨rfl,hm.uniq d⟩
theorem Found.not{p n a:Int}(h:Found S p n a S1)(h':Ma S p n S2):False:=by
 obtain⟨T,j,hm⟩:=h;rcases h' with ⟨S0,hs,v,hg⟩|⟨T',page,r,d,C,Y,_⟩
 ·rcases j with j|⟨aA,aB,d,K,J,N,rfl⟩
  ·obtain⟨x,O,_⟩:=j.JB hs;exact v x O.2.2.1
  ·obtain rfl:=d.uniq hs;exact J.not hg
 ·obtain⟨rfl,rfl⟩:=j.uniq d;rcases hm with ⟨h1,_⟩|⟨_,h1,_⟩
  ·exact C h1
  ·exact h1 r Y
theorem Ma.uniq{p n:Int}(h:Ma S p n S1)(h':Ma S p n S2):S1=S2:=by
 rcases h with ⟨S0,hs,N,hg⟩|⟨T,page,r,Y,aF,hr,rfl⟩
 ·rcases h' with ⟨aC,C,v,j⟩|⟨T',J,r',d,O,K,_⟩
  ·obtain rfl:=hs.uniq C;exact hg.uniq j
  ·exfalso;rcases d with d|⟨T0,aD,d,v,j,_,_⟩
   ·obtain⟨x,hx,_⟩:=d.JB hs;exact N x hx.2.2.1
   ·obtain rfl:=d.uniq hs;exact j.not hg
 ·rcases h' with ⟨aC,C,v,j⟩|⟨T',J,r',d,O,K,rfl⟩
  ·exfalso;rcases Y with Y|⟨T0,aD,d,N,hg,_,_⟩
   ·obtain⟨x,hx,_⟩:=Y.JB C;exact v x hx.2.2.1
   ·obtain rfl:=d.uniq C;exact hg.not j
  ·obtain⟨rfl,rfl⟩:=Y.uniq d;rw[hr]at K;cases K;rfl
theorem Next.uniq{a b:Int}{X Y:FX}(h:Next S a X)(j:Next S b Y):a=b/\X=Y:=by
 rcases h with ⟨h1,rfl,rfl⟩|⟨x,r,h1,rfl,rfl⟩
 ·rcases j with ⟨_,rfl,rfl⟩|⟨x,r,d,_⟩
  ·exact⟨rfl,rfl⟩
  ·rw[h1]at d;cases d
 ·rcases j with ⟨d,_⟩|⟨v,C,d,rfl,rfl⟩
  ·rw[h1]at d;cases d
  ·rw[h1]at d;cases d;exact⟨rfl,rfl⟩
theorem O3{n:Int}(d:1<=n)(j:n<=134217728):Ek n %512=0/\n<=Ek n/\Ek n<=134217728/\Ek n<n+512:=by unfold Ek;omega
theorem Wm(C:Ag S no)(j:E9 S){n a:Int}(K:1<=n)(J:n<=134217728)(Y:FL S.V S.hint (Ek n) a)(a0:0<=a):
  Ag (S.grown {S.V with rf:=S.V.rf.tail,pl:=S.V.pl.tail,laid:=Bk S.V.laid a (a+Ek n)} a (Ek n)) no/\E9 (S.grown {S.V with rf:=S.V.rf.tail,pl:=S.V.pl.tail,laid:=Bk S.V.laid a (a+Ek n)} a (Ek n))/\
   Gb (S.grown {S.V with rf:=S.V.rf.tail,pl:=S.V.pl.tail,laid:=Bk S.V.laid a (a+Ek n)} a (Ek n)).T.fr a n/\a %512=0/\a+Ek n<=34359738368/\ ∀p,a<=p->p<a+Ek n->S.T.Fb p=false:=by
 obtain⟨O,u2,u3,u4⟩:=O3 K J;have hf:=NF j.vv (by omega) Y;obtain⟨f1,f2,f3,f4⟩:=hf;have d: ∀p,a<=p->p<a+Ek n->S.T.Fb p=false:=fun p h1 N=>DK fun hp=>(CU j.vv.Gz (by omega)).1 f4 p h1 N ((C.la p).2 hp);have v:512<=a:=by omega
 refine⟨C.grown j a0 (by omega) f3 f1 O d rfl rfl,⟨j.tv.grow (by omega) (by omega) (by omega),j.vv.Q4 (by omega) v f3 rfl rfl rfl rfl,j.ci,(CQ j.ok (a:=a/512) (b:=(a+Ek n)/512) (by omega) (by omega) (by omega)).1,j.fx⟩,fun m q1 q2=> ?_,f1,f3,d⟩;show(S.T.fr m||inr (a/512*512) (Ek n/512*512) m)=true;exact I9.2 (.inr (by omega))
theorem SY.inv{p n page:Int}(h:SY S p n page S1)(T:Ag S no)(C:E9 S)(n0:1<=n):Ag S1 (inr page n)/\E9 S1/\0<=page/\page+n<=34359738368:=by
 rcases h with ⟨Y,i,k,v,hp,hn,hf,hr,hl,J,rfl,rfl⟩|⟨Y,N,d,rfl⟩
 ·have h1:=hf.inv T C v;have j:=hf.ok C;have O:=h1.FA j v hr J;have e:((n.toNat:Nat):Int)=n:=by omega
  rw[e]at O;have K:=j.ci i v;refine⟨O,j.FA v,?_,?_⟩
  ·have:=K.b0;omega
  ·have:=K.b1;have:=K.lR;omega
 ·have h1:=N.inv T C;have j:=N.ok C;exact⟨h1.DA j d.2.2.1,j.DA (by omega),d.1,d.2.1⟩
end
end Go.Sh
set_option linter.all false
set_option maxRecDepth 8000
set_option maxHeartbeats 2000000
namespace Go.Sh
section
variable{E:Env}{r:Nat}{V:TV}{Z:List Pr}{w:World}
theorem RC(H:Sat (IV E r V::Z) w)(j: ∀p,V.rl p=true->V.fr p=true){p n:Int}(hp:0<=p)(hn:0<n)(hb:p+n<=34359738368)(v: ∀q,p<=q->q<p+n->V.Fb q=true)(hf: ∀q,p<=q->q<p+n->V.fr q=false){K:Int->World->Prop}
  (O: ∀w',Sat (IV E r (V.Ka p n)::Z) w'->K 0 w'):F.A8 E (some ⟨r,0,none⟩) p n false K w:=by
 obtain⟨l,⟨d,BH⟩,H⟩:=Sat.UQ.1 H;have T:Ez V p n:=⟨by omega,by omega,fun m a b=>v m a b⟩;have h0:Ae l p n false 31=0:=(OO d BH hp (by omega) false (e:=31) (by decide)).2.2.2.2 T rfl fun m a b=>hf m a b;have N:=d.JF BH hp (n:=n) (by omega) (by omega);refine Ov H (fun q hq=>(d.f q).2 (j q ((d.r q).1 hq))) hp (by omega) (by omega) (by omega) (fun h=>absurd h0 h) fun _ w' H'=>O w' ?_;have Y:=(CQ (BH 1 (by decide)) (a:=p) (b:=p+n) (by omega) hp (by omega)).1;refine KC (l:=Sh.JF l 3 p n) N.1 (fun i v=> ?_) fun l' e0 C e2=>H' l' e0 C e2;have J:i=0∨i=1∨i=2:=by omega
 rcases J with rfl|rfl|rfl
 ·exact BH 0 (by decide)
 ·exact Y
 ·exact BH 2 (by decide)
theorem ME(H:Sat (IV E r V::Z) w)(C:K1 V){n:Int}(n0:1<=n)(Y:n<18446744073709551616){K:Int->Int->Int->World->Prop}
  (T:(∀p,¬Gb V.fr p n)-> ∀w',Sat (IV E r V::Z) w'->K 0 0 30 w')(J: ∀p x,Eh V n p-> ∀w',Sat (IV E r (V.take p n)::Z) w'->K p x 0 w'):F.BN E (some ⟨r,0,none⟩) n K w:=by
 obtain⟨l,⟨v,BH⟩,H⟩:=Sat.UQ.1 H;have d: ∀p,findL (l 1) n=some p->Eh V n p:=fun p hp=>by
  obtain⟨h1,h2⟩:=Hj (BH 1 (by decide)) (by omega) hp;have j:=(FW v).1 h1;have a0:=C.Gc p (C.fi p (j p (Int.le_refl _) (by omega)));have a1:=C.Gc (p+n-1) (C.fi _ (j (p+n-1) (by omega) (by omega)));exact⟨a0.1,by omega,j,fun p' N=>h2 p' ((FW v).2 N)⟩
 refine Sg H (by omega) Y (fun p _ hp=> ?_) (fun h=>by omega) (fun _ hn w' O=>T (fun p hp=>I2 (BH 1 (by decide)) (by omega) hn p ((FW v).2 hp)) w' (Sat.UQ.2 ⟨l,⟨v,BH⟩,O⟩)) fun _ p hp w' O=>J p _ (d p hp) w' (KC (l:=Sh.Kh l p n) (v.Kh (by omega)) (fun i hi=> ?_) fun l' e0 e1 e2=>O l' e0 e1 e2)
 ·have hf:=d p hp;exact⟨(OO v BH hf.1 (by omega) true (e:=32) (by decide)).2.2.1 ⟨by omega,hf.2.1,fun m a b=>C.fi m (hf.2.2.1 m a b)⟩ rfl hf.2.2.1,hf.1,hf.2.1⟩
 ·have h3:i=0∨i=1∨i=2:=by omega
  rcases h3 with rfl|rfl|rfl
  ·exact BH 0 (by decide)
  ·exact EK (BH 1 (by decide)) (by omega)
  ·exact EK (BH 2 (by decide)) (by omega)
theorem S4(H:Sat (IV E r V::Z) w){c n:Int}(C:0<=c)(J:0<n)(O:n<=262144)(Y:c+n<=67108864)(hf: ∀p,c*512<=p->p<(c+n)*512->V.Fb p=false){K:Int->World->Prop}
  (T: ∀w',Sat (IV E r (V.grow c n)::Z) w'->K 0 w'):F.BZ E (some ⟨r,0,none⟩) c n K w:=by
 obtain⟨l,⟨v,BH⟩,H⟩:=Sat.UQ.1 H;have h0:cnt (l 0) (c*512) ((c+n)*512)=0:=(CU (BH 0 (by decide)) (by omega)).2 fun p h1 h2 hm=>by
  have:=(v.i p).1 hm;rw[hf p h1 h2]at this;cases this
 have N:=v.Pb BH C J Y;refine UN H C (by omega) (by omega) (by omega) (fun h=>by omega) (fun _ h=>absurd h0 h) fun _ _ w' H'=>T w' (KC (l:=Pb l c n) N (fun i j=> ?_) fun l' a0 a1 a2=>H' l' fun i j=> ?_)
 ·have o: ∀i,i<4->Ok (Bk (l i) (c*512) ((c+n)*512)):=fun i j=>(CQ (BH i j) (by omega) (by omega) (by omega)).1;have d:i=0∨i=1∨i=2:=by omega
  rcases d with rfl|rfl|rfl
  ·exact o 0 (by decide)
  ·exact o 1 (by decide)
  ·exact o 2 (by decide)
 ·have d:i=0∨i=1∨i=2:=by omega
  rcases d with rfl|rfl|rfl
  ·rw[a0];rfl
  ·rw[a1];rfl
  ·rw[a2];rfl
theorem Va{l:Iv}(j:Ok l): ∀m:Iv,Ok m-> ∃d,Ok d/\ ∀p,mem d p↔mem l p/\ ¬mem m p
 | [],_=>⟨l,j,fun p=>⟨fun h=>⟨h,Ar p⟩,fun h=>h.1⟩⟩
 | q::m,hm=>by
  obtain⟨d,d1,d2⟩:=Va j m hm.tail;have v:=hm.mem (List.mem_cons_self);refine⟨B6 d q.1 q.2,EK d1 v.2.1,fun p=> ?_⟩;rw[B7 v.2.1,d2,mem_cons];constructor
  ·rintro⟨⟨a,b⟩,c⟩;exact⟨a,fun h=>h.elim c b⟩
  ·rintro⟨a,b⟩;exact⟨⟨a,fun h=>b (.inr h)⟩,fun h=>b (.inl h)⟩
theorem S5(H:Sat (IV E r V::Z) w)(hV:K1 V){n:Int}(n0:0<=n)(n1:n<18446744073709551616){K:Int->Int->World->Prop}
  (aG:n=0∨(∀p,V.idle p=false)-> ∀w',Sat (IV E r V::Z) w'->K 0 0 w')(aK: ∀p k,MW V n p k->0<=p->p+k<=34359738368-> ∀w',Sat (IV E r (V.F5 p k)::Z) w'->K p k w'):F.A6 E (some ⟨r,0,none⟩) n K w:=by
 obtain⟨l0,⟨Y,j⟩,H⟩:=Sat.UQ.1 H;obtain⟨d,d1,d2⟩:=Va (j 1 (by decide)) (l0 2) (j 2 (by decide));obtain⟨l,rfl⟩: ∃l,l=fun i:Nat=>if i=3 then d else l0 i:=⟨_,rfl⟩
 generalize hl':(fun i:Nat=>if i=3 then d else l0 i)=l;have a0:l 0=l0 0:=by rw[<-hl'];rfl
 have a1:l 1=l0 1:=by rw[<-hl'];rfl
 have a2:l 2=l0 2:=by rw[<-hl'];rfl
 have a3:l 3=d:=by rw[<-hl'];rfl
 have h:=Y.congr a0 a1 a2;have BH: ∀i,i<4->Ok (l i):=fun i N=>by
  have h3:i=0∨i=1∨i=2∨i=3:=by omega
  rcases h3 with rfl|rfl|rfl|rfl
  ·rw[a0];exact j 0 N
  ·rw[a1];exact j 1 N
  ·rw[a2];exact j 2 N
  ·rw[a3];exact d1
 have N:Vr l:=⟨fun p hp=>(hV.Gc p ((h.i p).1 hp)).2,fun p hp=>(h.i p).2 (hV.fi p ((h.f p).1 hp)),fun p hp=>(h.f p).2 (hV.rf p ((h.r p).1 hp)),fun p=>by rw[a3,a1,a2,d2]⟩;have H:=H.YJ a0 a1 a2;clear hl' a0 a1 a2 a3 d1 d2 Y j;have v: ∀p,mem (l 3) p↔V.idle p=true:=fun p=>by
  rw[N.idle,h.f,h.r];unfold TV.idle;cases V.fr p<;>cases V.rl p<;>simp
 refine UP H N (BH 3 (by decide)) n0 n1 (fun hz w' H'=>aG ?_ w' (Sat.UQ.2 ⟨l,⟨h,BH⟩,H'⟩)) fun aQ q m e1 p k e2 e3 w' H'=> ?_
 ·rcases hz with hz|hz
  ·refine .inr fun p=> ?_;have:=v p;rw[hz]at this;cases g:V.idle p with
   | false=>rfl
   | true=>exact absurd (this.2 g) (Ar p)
  ·exact .inl hz
 ·have JM:=BH 3 (by decide);rw[e1]at JM;obtain⟨_,aI,aA⟩:=DL.1 JM;have hq:=aI.mem (List.mem_singleton.2 rfl);have O: ∀x,mem (l 3) x->x<q.2:=fun x C=>by
   rw[e1,mem_append]at C;rcases C with ⟨y,hy,h1,h2⟩|C
   ·have:=aA y hy q (List.mem_singleton.2 rfl);omega
   ·rcases mem_cons.1 C with h1|h1
    ·exact h1.2
    ·exact absurd h1 (Ar x)
  have T: ∀x,q.1<=x->x<q.2->mem (l 3) x:=fun x h1 h2=>by rw[e1,mem_append];exact .inr (mem_cons.2 (.inl ⟨h1,h2⟩))
  have J:q.1=0∨ ¬mem (l 3) (q.1-1):=by
   right;intro C;rw[e1,mem_append]at C;rcases C with ⟨y,hy,h1,h2⟩|C
   ·have:=aA y hy q (List.mem_singleton.2 rfl);omega
   ·rcases mem_cons.1 C with h1|h1
    ·omega
    ·exact absurd h1 (Ar _)
  have aM:q.2<=34359738368:=by
   have h1:=T (q.2-1) (by omega) (by omega);have:=N.top _ (N.free _ ((N.idle _).1 h1).1);omega
  refine aK p k ⟨by omega,by omega,fun m h1 h2=>(v m).1 (T m (by omega) (by omega)),fun x C=>by have:=O x ((v x).2 C);omega,by omega,?_⟩ (by omega) (by omega) w' (KC (l:=Sh.bG l p k) ?_ (fun i aN=> ?_) fun l' b0 b1 b2=>H' l' b0 b1 b2)
  ·by_cases g:k=n
   ·exact .inl g
   ·by_cases g2:p %512=0
    ·exact .inr (.inl g2)
    ·right;right;have e:p=q.1:=by omega
     cases g3:V.idle (p-1)with
     | false=>rfl
     | true=>
      have hm:=(v _).2 g3;rw[e]at hm;rcases J with h1|h1
      ·omega
      ·exact absurd hm h1
  ·have b2:=Bo (BH 2 (by decide)) (a:=p) (b:=p+k) (by omega) (by omega) (by omega);refine⟨h.i,h.f,fun x=> ?_⟩;show mem (Bk (l 2) p (p+k)) x↔(V.rl x||inr p k x)=true;rw[b2,h.r,<-AU,Bool.or_eq_true]
  ·have h3:i=0∨i=1∨i=2:=by omega
   rcases h3 with rfl|rfl|rfl
   ·exact BH 0 (by decide)
   ·exact BH 1 (by decide)
   ·exact(CQ (BH 2 (by decide)) (a:=p) (b:=p+k) (by omega) (by omega) (by omega)).1
theorem MW.uniq{n p k j v:Int}(h:MW V n p k)(d:MW V n j v):p=j/\k=v:=by
 have k0:=h.k0;have J:=d.k0;have kn:=h.kn;have C:=d.kn;have K:=h.last _ (d.row (j+v-1) (by omega) (by omega));have N:=d.last _ (h.row (p+k-1) (by omega) (by omega));have c1:=h.chunk;have c2:=d.chunk;rcases Int.lt_trichotomy p j with g|g|g
 ·exfalso;rcases d.Ii with m|m|m
  ·omega
  ·omega
  ·have:=h.row (j-1) (by omega) (by omega);rw[m]at this;cases this
 ·exact⟨g,by omega⟩
 ·exfalso;rcases h.Ii with m|m|m
  ·omega
  ·omega
  ·have:=d.row (p-1) (by omega) (by omega);rw[m]at this;cases this
end
end Go.Sh
set_option linter.all false
set_option maxRecDepth 8000
set_option maxHeartbeats 4000000
namespace Go.Sh
def SI.rs(I:SI):Int×Int×Int×Int×Bool×Int×Int:=(I.base,I.AA,I.state,I.cls,I.Hl,I.elem,I.Bs)
theorem Dy.congr{E:Env}{q:Nat}{I J:SI}{U M:Nat->Bool}(h:I.rs=J.rs):Dy E q I U M=Dy E q J U M:=by
 unfold SI.rs at h;injection h with h1 h
 injection h with h2 h
 injection h with h3 h
 injection h with h4 h
 injection h with h5 h
 injection h with h6 h7
 have j:Gk I=Gk J:=by funext s1 s2 lk;unfold Gk;rw[h1,h2,h3,h4,h5,h6,h7]
 have v:VU I U M=VU J U M:=by
  funext ul ml lk;refine propext ⟨fun g=>⟨g.u,g.m,by rw[<-h7];exact g.lu,by rw[<-h7];exact g.lm,by rw[<-h7];exact g.Gc,by rw[<-h7];exact g.sZ,g.tA⟩,fun g=>⟨g.u,g.m,by rw[h7];exact g.lu,by rw[h7];exact g.lm,by rw[h7];exact g.Gc,by rw[h7];exact g.sZ,g.tA⟩⟩
 have d:Oy E q I=Oy E q J:=by funext ul ml s1 s2 lk;unfold Oy;rw[j]
 unfold Dy;rw[v,d]
section
variable{E:Env}{h:Nat}{S S':HS}{um um':Q9}{g:RG}{Z:List Pr}{w:World}
theorem ND.congr{x:Int×Nat}(hs:(S'.sp x.1).map (fun y=>y.2.rs)=(S.sp x.1).map (fun y=>y.2.rs))(hu:um' x.1=um x.1):ND E S'.sp um' x=ND E S.sp um x:=by
 unfold ND;rw[hu];cases h1:S.sp x.1<;>cases h2:S'.sp x.1<;>rw[h1,h2]at hs
 ·cases hs
 ·cases hs
 ·exact Dy.congr (by simpa using hs)
theorem MF(H:Sat (EN E h S um g++Z) w): ∃R,Sat (IV E g.t S.T::R) w/\ ∀{d:TV} {w'},Sat (IV E g.t d::R) w'->Sat (EN E h {S with T:=d} um g++Z) w':=
 ⟨_,H.front 2 rfl,fun{d w'} H'=>Sat.back (Ps:=EN E h S um g++Z) 2 H' (by simp[EN])⟩
theorem O4(H:Sat (EN E h S um g++Z) w): ∃R,Sat (Db E g.m S.V::R) w/\ ∀{V':VS} {w'},Sat (Db E g.m V'::R) w'->Sat (EN E h {S with V:=V'} um g++Z) w':=
 ⟨_,H.front 1 rfl,fun{V' w'} H'=>Sat.back (Ps:=EN E h S um g++Z) 1 H' (by simp[EN])⟩
theorem iG{R:List Pr}(H:Sat (Cells h E.AV (CT g.m g.t g.f g.sl S.hint g.v)::R) w):w.cell? (Addr.mk h 0 none)=some (.pointer (some ⟨g.m,0,none⟩)):=
 H.BI (o:=0) (sD g.m g.t g.f g.sl S.hint g.v)
theorem tC{R:List Pr}(H:Sat (Cells h E.AV (CT g.m g.t g.f g.sl S.hint g.v)::R) w):w.cell? ((Addr.mk h 0 none).add 8258)=some (.pointer (some ⟨g.f,0,none⟩)):=
 H.cell (o:=0) (m:=8258) (by rw[Nat.zero_add];exact Q8 g.m g.t g.f g.sl S.hint g.v 0)
theorem iH{R:List Pr}(H:Sat (Cells h E.AV (CT g.m g.t g.f g.sl S.hint g.v)::R) w):w.cell? ((Addr.mk h 0 none).add 8260)=some (.int .u64 S.hint):=
 H.cell (o:=0) (m:=8260) (by rw[Nat.zero_add];exact Q8 g.m g.t g.f g.sl S.hint g.v 2)
theorem Yg(H:Sat (EN E h S um g++Z) w){x:Int}{K:World->Prop}(j: ∀w',Sat (EN E h {S with hint:=x} um g++Z) w'->K w'):stCells ((Addr.mk h 0 none).add 8260) 0 [.int .u64 x] w K:=by
 refine Aj H (o:=0) (m:=8260) rfl (by rw[Yb];decide) fun w' d=>j w' ?_;rw[Nat.zero_add,Yc g.m g.t g.f g.sl S.hint g.v 2 (.int .u64 x) (f':=g.f) (sl':=g.sl) (hint':=x) rfl]at d;exact d
theorem bR{s:AZ}{R:List Pr}{g:RG}(H:Sat (Cells h E.AV (CT g.m g.t g.f g.sl S.hint g.v)::R) w){K:World->Prop}(j: ∀w',Sat (Cells h E.AV (CT g.m g.t g.f s S.hint g.v)::R) w'->K w'):stCells ((Addr.mk h 0 none).add 8259) 0 [.slice s.base s.len s.cap] w K:=by
 refine Aj H (o:=0) (m:=8259) rfl (by rw[Yb];decide) fun w' d=>j w' ?_;rw[Nat.zero_add,Yc g.m g.t g.f g.sl S.hint g.v 1 (.slice s.base s.len s.cap) (f':=g.f) (sl':=s) (hint':=S.hint) rfl]at d;exact d
theorem GP(d:Wu S g)(H:Sat (EN E h S' um g++Z) w)(v:S'.ca=S.ca)(j:S'.sp=S.sp):Sat (Hu E h S' um::Z) w:=by
 refine Sat.GS.2 ⟨g,⟨by rw[v];exact d.q,by rw[j];exact d.mem,?_⟩,H⟩;have:S'.at=S.at:=by funext id;unfold HS.at;rw[j]
 rw[this];exact d.so
theorem NG(H:Sat (Hu E h S um::Z) w){p:Nat}(hp:p<64): ∃(t:Nat) (A D:List Value) (R:List Pr),A.length=2+p*129/\w.cell? ((Addr.mk h 0 none).add 1)=some (.pointer (some ⟨t,0,none⟩))/\Sat (VR h E.AV A D (S.ca p)::IV E t S.T::R) w/\
  ∀{C:CS} {J:TV} {w'},Sat (VR h E.AV A D C::IV E t J::R) w'->Sat (Hu E h {S with T:=J,ca:=fun j=>if j=p then C else S.ca j} um::Z) w':=by
 obtain⟨g,d,H1⟩:=Sat.GS.1 H;obtain⟨K,N⟩:=Sat.Yd (R:=Db E g.m S.V::IV E g.t S.T::GR E g.f S.fx::Row E.AS 2 g.sl (BV F3 g.L)::Ap (ND E S.sp um) g.L::Z) H1 d hp;refine⟨g.t,_,_,_,VY g.m g.t g.v hp,Yw H1,K.DF 1 rfl,fun{C J w'} H3=> ?_⟩;obtain⟨x,O,H8⟩:=N (H3.perm (.cons _ (.swap _ _ _)));refine Sat.GS.2 ⟨{g with v:=Mf g.v p x},⟨fun i Y=> ?_,d.mem,d.so⟩,H8⟩;show YL (if i=p then C else S.ca i) (Mf g.v p x i).1 (Mf g.v p x i).2.1 (Mf g.v p x i).2.2;unfold Mf;by_cases e:i=p
 ·rw[if_pos e,if_pos e];exact O
 ·rw[if_neg e,if_neg e];exact d.q i Y
theorem Er.Fb{p n:Int}{S1:HS}(h:Er S p n S1):S1.V=S.V/\S1.hint=S.hint:=by
 rcases h with ⟨_,rfl⟩|⟨i,_,_,_,⟨_,q,_,rfl⟩|⟨_,rfl⟩,_⟩<;>exact⟨rfl,rfl⟩
theorem RD(H:Sat (Hu E h S um::Z) w)(hI:Ag S no)(hk:E9 S){p n:Int}(n0:1<=n)(n1:n<=134217728){K:Int->Int->World->Prop}
  (aV: ∀page S2,Found S p n page S2->Ag S2 (inr page n)->E9 S2->0<=page->page+n<=34359738368-> ∀w',Sat (Hu E h S2 um::Z) w'->K page 0 w')(aR: ∀S2,Ma S p n S2-> ∀w',Sat (Hu E h S2 um::Z) w'->K 0 13 w'):F.Ba E (some ⟨h,0,none⟩) p n K w:=by
 unfold F.Ba T0.Ba;refine Et (fun st w'=>(st.2.1=30/\ ∃S0,Er S p n S0/\Sat (Hu E h S0 um::Z) w')∨(st.2.1=0/\ ∃S1,SY S p n st.1 S1/\Sat (Hu E h S1 um::Z) w')) ?_ ?_
 ·refine Et (fun st w'=>st.1=decide (0<=p/\p<64/\n<16)/\w'=w) ?_ ?_
  ·refine AE (fun a1=>AE (fun a2=>⟨?_,rfl⟩) fun a2=>⟨?_,rfl⟩) fun a1=>⟨?_,rfl⟩
   ·show decide (n<16)=_;by_cases a3:n<16
    ·rw[decide_eq_true a3,decide_eq_true ⟨by omega,by omega,a3⟩]
    ·rw[decide_eq_false a3,decide_eq_false fun c=>a3 c.2.2]
   ·show false=_;rw[decide_eq_false fun c=>by omega]
   ·show false=_;rw[decide_eq_false fun c=>by omega]
  rintro⟨s,u⟩ _ w6 ⟨hs,rfl⟩;dsimp only at hs⊢;subst hs;refine AE (fun hp=> ?_) fun hp=>.inl ⟨rfl,S,.inl ⟨hp,rfl⟩,H⟩;obtain⟨p0,aT,a4⟩:=hp;have hi:p.toNat<64:=by omega
  have bA:p=((p.toNat:Nat):Int):=by omega
  refine Et (fun _ w'=> ∃S1,FB S p.toNat S1/\Sat (Hu E h S1 um::Z) w') ?_ ?_
  ·obtain⟨t,A,D,R,hA,Y,H1,C⟩:=NG H hi;have ha:((Addr.mk h 0 none).add 2).add (Int.toNat p*129)=Addr.mk h A.length none:=by rw[add_add,add_eq,Nat.zero_add,hA]
   have same: ∀{w'},Sat (VR h E.AV A D (S.ca p.toNat)::IV E t S.T::R) w'->Sat (Hu E h S um::Z) w':=fun{w'} h'=>by
    have:=C h';rw[VO]at this;exact this
   refine BD ⟨⟨p0,aT⟩,?_⟩;rw[ha];refine L8 H1 (fun he=>Ao rfl (BD ⟨⟨p0,aT⟩,BD ⟨some ⟨t,0,none⟩,Y,?_⟩⟩)) fun he=>Ab rfl ⟨S,.inr ⟨.inl he,rfl⟩,H⟩
   ·rw[ha];refine Sl H1.drew hk.tv.fi hk.tv.rf hk.tv.Gc (fun h'=>absurd he h') (fun _ j w' v=>⟨S,.inr ⟨.inr j,rfl⟩,same v⟩) fun _ q hq w' v=>⟨_,.inl ⟨he,q,hq,rfl⟩,C v⟩
  rintro _ _ w9 ⟨S1,hf,H9⟩;obtain⟨t,A,D,R,hA,Y,bT,C⟩:=NG H9 hi;have ha:((Addr.mk h 0 none).add 2).add (Int.toNat p*129)=Addr.mk h A.length none:=by rw[add_add,add_eq,Nat.zero_add,hA]
  refine BD ⟨⟨p0,aT⟩,?_⟩;rw[ha,AN (n:=n)];refine Qx bT (by omega) (by omega) (fun c=>by omega) (fun _ _ j=>.inl ⟨rfl,S1,.inr ⟨p.toNat,hi,bA,a4,hf,j⟩,H9⟩) fun _ _ k O hl bQ w' v=>.inr ⟨rfl,S1.FA p.toNat k n.toNat,.inl ⟨S1,p.toNat,k,hi,bA,a4,hf,O,hl,bQ,rfl,rfl⟩,C v⟩
 rintro⟨pg,e,u⟩ _ w3 J;dsimp only at J⊢;refine Et (fun st w'=>(st.2.1=30/\ ∃S0,Er S p n S0/\(∀q,¬Gb S0.T.fr q n)/\Sat (Hu E h S0 um::Z) w')∨(st.2.1=0/\ ∃S1,SY S p n st.1 S1/\Sat (Hu E h S1 um::Z) w')) ?_ ?_
 ·rcases J with ⟨rfl,S0,Y,H3⟩|⟨rfl,S1,hg,H3⟩
  ·refine Ao rfl ?_;obtain⟨g,hR,H4⟩:=Sat.GS.1 H3;obtain⟨R,H5,C⟩:=MF H4;refine BD ⟨some ⟨g.t,0,none⟩,Yw H4,?_⟩;refine ME H5 (Y.ok hk).tv n0 (by omega) (fun j w' v=>.inl ⟨rfl,S0,Y,j,GP hR (C v) rfl rfl⟩) fun q x hq w' v=>.inr ⟨rfl,S0.DA q n,.inr ⟨S0,Y,hq,rfl⟩,GP hR (C v) rfl rfl⟩
  ·exact Ab rfl (.inr ⟨rfl,S1,hg,H3⟩)
 clear J;rintro⟨pg,e,u⟩ _ cL J;dsimp only at J⊢;refine Et (fun st w'=>st.2.1=0/\ ∃S1,JG S p n st.1 S1/\Ag S1 (inr st.1 n)/\E9 S1/\0<=st.1/\st.1+n<=34359738368/\Sat (Hu E h S1 um::Z) w') ?_ ?_
 ·rcases J with ⟨rfl,S0,Y,j,H3⟩|⟨rfl,S1,hg,H3⟩
  ·refine Ao rfl ⟨by decide,AY fun N hN=> ?_⟩;rw[AG (n:=n+511),Int.tdiv_eq_ediv_of_nonneg (by omega),AG (n:=(n+511)/512),AG]at hN;have hN:N=Ek n:=by unfold Ek;omega
   subst hN;obtain⟨u1,u2,u3,u4⟩:=O3 n0 n1;have i0:=Y.inv hI hk;have k0:=Y.ok hk;obtain⟨g,hR,H4⟩:=Sat.GS.1 H3.drew;obtain⟨R,H5,C⟩:=O4 H4;have hh:=i0.h0;have cK:=i0.h1;refine BD ⟨some ⟨g.m,0,none⟩,iG H4,BD ⟨S0.hint,iH H4,?_⟩⟩;refine PJ H5 hh (by omega) (by omega) (by omega) (fun c=>by omega) (fun _ r O w' v=>Ao rfl (aR _ (.inl ⟨S0,Y,j,.inl ⟨r,O,rfl⟩⟩) w' (GP hR (C v) rfl rfl)))
    (fun _ O hu w' v=>Ao rfl (aR _ (.inl ⟨S0,Y,j,.inr ⟨O,hu,rfl⟩⟩) w' (GP hR (C v) rfl rfl))) fun _ O a a0 a1 hc cP b0=>Ab rfl ?_
   obtain⟨g1,g2,g3,g4,g5,g6⟩:=Wm i0 k0 n0 n1 hc (by omega);have b2:=C (b0 g2.vv);rw[AG (n:=a+Ek n)];refine BD (Yg b2 fun cB a5=>BD ⟨some ⟨g.t,0,none⟩,Yw a5,by decide,by decide,?_⟩);rw[Int.tdiv_eq_ediv_of_nonneg (by omega),Int.tdiv_eq_ediv_of_nonneg (by omega),AG (n:=a/512),AG (n:=Ek n/512)];obtain⟨R2,bV,aP⟩:=MF a5;refine S4 bV (by omega) (by omega) (by omega) (by omega) (fun q q1 q2=>g6 q (by omega) (by omega)) fun cD bM=> ?_;have a7:=aP bM;refine BD ⟨some ⟨g.t,0,none⟩,Yw a7,?_⟩;obtain⟨R3,bY,bN⟩:=MF a7;refine ME bY g2.tv n0 (by omega) (fun j w' v=>absurd g3 (j a)) fun q x hq w' v=> ?_;have j1:=g1.DA g2 hq.2.2.1;exact⟨rfl,_,.inr ⟨S0,_,Y,j,⟨O,a,hc,rfl⟩,hq,rfl⟩,j1,g2.DA (by omega),hq.1,hq.2.1,GP hR (bN v) rfl rfl⟩
  ·obtain⟨j1,j2,j3,j4⟩:=hg.inv hI hk n0;exact Ab rfl ⟨rfl,S1,.inl hg,j1,j2,j3,j4,H3⟩
 clear J;rintro⟨pg,e,u⟩ _ cE ⟨e0,S1,Y,aH,d,aD,aC,aX⟩;dsimp only at e0 Y aH aD aC⊢;subst e0;refine Ab rfl ?_;obtain⟨g,hR,H4⟩:=Sat.GS.1 aX;obtain⟨R,H5,C⟩:=O4 H4;refine BD ⟨some ⟨g.m,0,none⟩,iG H4,?_⟩;have hl: ∀q,pg<=q->q<pg+n->mem S1.V.laid q:=fun q q1 q2=>(aH.la q).2 (aH.li q (AU.2 ⟨q1,q2⟩));have bR:cnt S1.V.laid pg (pg+n)=n:=by
  have:=(Ci d.vv.Gz (a:=pg) (b:=pg+n) (by omega)).2 hl;omega
 have aU:cnt S1.V.ready pg (pg+n)=n↔Fm S1 pg n:=by
  have:=Ci d.vv.IT (a:=pg) (b:=pg+n) (by omega);rw[show pg+n-pg=n by omega]at this;exact this
 have b1:EI pg n:=⟨by omega,aC⟩;refine Q6 H5 aD (by omega) (by omega) (by omega) (fun c=>absurd b1 c) (fun _ c=>absurd bR c) (fun _ _ c w' v=>Ab rfl (aV pg S1 ⟨S1,Y,.inl ⟨aU.1 c,rfl⟩⟩ aH d aD aC w' (GP hR (C v) rfl rfl)))
  (fun _ _ c r O aS aK=>Ao rfl ?_) fun _ _ c O aS aK=>Ab rfl (aV pg _ ⟨S1,Y,.inr ⟨fun x=>c (aU.2 x),O,rfl⟩⟩ (aH.LB d aD (by omega) aC fun q q1 q2=>AU.2 ⟨q1,q2⟩) ⟨d.tv,d.vv.LB aD (by omega) aC hl,d.ci,d.ok,d.fx⟩ aD aC aS (GP hR (C (aK (d.vv.LB aD (by omega) aC hl))) rfl rfl))
 have bO: ¬Fm S1 pg n:=fun x=>c (aU.2 x);have a6:Sat (Hu E h {S1 with V:={S1.V with rf:=r}} um::Z) aS:=GP hR (C aK) rfl rfl;clear aK C H5 H4 hR aX R g;have aO:Ag {S1 with V:={S1.V with rf:=r}} (inr pg n):=aH.aJ rfl rfl;have aI:E9 {S1 with V:={S1.V with rf:=r}}:=⟨d.tv,⟨d.vv.Gz,d.vv.IT,d.vv.JM,d.vv.rl,d.vv.el,d.vv.re,d.vv.Gc,d.vv.clean,d.vv.Xz⟩,d.ci,d.ok,d.fx⟩;have aM:=fun w' (v:Sat (Hu E h (({S1 with V:={S1.V with rf:=r}}:HS).DU pg n) um::Z) w')=>aR _ (.inr ⟨S1,pg,r,Y,bO,O,rfl⟩) w' v;generalize hS2:({S1 with V:={S1.V with rf:=r}}:HS)=S2 at a6 aO aI aM;refine AM (fun st w'=> ∃i:Int,st.1=pg+i/\0<=i/\i<=n/\Sat (Hu E h (S2.DU pg i) um::Z) w') (fun st _=>(pg+n-st.1).toNat) ⟨0,by show pg=pg+0;omega,Int.le_refl _,by omega,?_⟩ ?_
 ·have:S2.DU pg 0=S2:=by
   have e: ∀q,inr pg 0 q=false:=fun q=>by rw[Ey];omega
   unfold HS.DU;simp only[e,Bool.or_false,Bool.false_and]
  rw[this];exact a6
 rintro⟨_,u⟩ _ bX ⟨i,rfl,i0,i1,a9⟩;dsimp only;rw[AG (n:=pg+n)];refine AE (fun cI=> ?_) fun cM=> ?_
 ·obtain⟨g,hR,H4⟩:=Sat.GS.1 a9.drew;obtain⟨R,H5,C⟩:=O4 H4;refine BD ⟨some ⟨g.t,0,none⟩,Yw H4,BD ⟨some ⟨g.m,0,none⟩,iG H4,?_⟩⟩;refine Sr H5 fun cA bJ=> ?_;have aY:=C bJ;refine⟨Yw aY,?_⟩;obtain⟨R2,bU,aP⟩:=MF aY;have bB:=aO.Kj aI (p:=pg+i) (AU.2 ⟨by omega,by omega⟩);have aW:=aO.li (pg+i) (AU.2 ⟨by omega,by omega⟩);refine Qw bU (fun q hq=> ?_) (by omega) (by omega) aW ?_ fun cG bL=> ?_
  ·have hq:(S2.T.rl q||(inr pg i q&& !Ik S2.V.ready q))=true:=hq;show(S2.T.fr q||inr pg i q)=true;rw[Bool.or_eq_true_iff]at hq⊢;rcases hq with hq|hq
   ·exact .inl (aI.tv.rf q hq)
   ·exact .inr (Bool.and_eq_true_iff.1 hq).1
  ·show(S2.T.fr (pg+i)||inr pg i (pg+i))=false;rw[bB.1,Bool.false_or,Ey];omega
  ·rw[AG (n:=pg+i+1)];refine⟨⟨i+1,by omega,by omega,by omega,?_⟩,by omega⟩;have bC:=GP (S':={S2.DU pg i with T:=_}) hR (aP bL) rfl rfl;have e:(if((Q3 (S2.DU pg i).V (pg+i)) !=2)=true then(S2.DU pg i).T.back (pg+i) 1 else(S2.DU pg i).T.Ka (pg+i) 1)=(S2.DU pg (i+1)).T:=by
    have bS:((Q3 (S2.DU pg i).V (pg+i)) !=2)= !Ik S2.V.ready (pg+i):=by
     show(Q3 S2.V (pg+i) !=2)=_;cases O:Ik S2.V.ready (pg+i)with
     | true=>rw[YW aI.vv (A9.1 O)];rfl
     | false=>
      have:Q3 S2.V (pg+i)≠2:=by
       rcases HW aI.vv (pg+i)with c|c|c|c
       ·rw[c.1];decide
       ·rw[c.1];decide
       ·rw[A9.2 c.2.2.1]at O;cases O
       ·rw[c.1];decide
      simpa using this
    rw[bS];have aE: ∀q,inr pg (i+1) q=(inr pg i q||inr (pg+i) 1 q):=fun q=>by
     rw[Bool.eq_iff_iff,Bool.or_eq_true_iff,AU,AU,AU];omega
    cases O:Ik S2.V.ready (pg+i)with
    | true=>
     rw[if_neg (by simp)];unfold TV.Ka HS.DU;dsimp only;congr 1
     ·funext q;rw[aE,Bool.or_assoc]
     ·funext q;rw[aE];by_cases e:q=pg+i
      ·rw[e,O];simp
      ·have:inr (pg+i) 1 q=false:=by rw[Ey];omega
       rw[this,Bool.or_false]
    | false=>
     rw[if_pos (by simp)];unfold TV.back HS.DU;dsimp only;congr 1
     ·funext q;rw[aE,Bool.or_assoc]
     ·funext q;rw[aE];by_cases e:q=pg+i
      ·rw[e,O];have:inr (pg+i) 1 (pg+i)=true:=AU.2 (by omega);rw[this];simp
      ·have:inr (pg+i) 1 q=false:=by rw[Ey];omega
       rw[this,Bool.or_false,Bool.or_false]
   rw[e]at bC;exact bC
 ·obtain rfl:i=n:=by omega
  exact aM bX a9
end
end Go.Sh
set_option linter.all false
set_option maxRecDepth 8000
set_option maxHeartbeats 4000000
namespace Go.Sh
def MH(um:Q9)(id:Int)(U M:Nat->Bool):Q9:=fun i=>if i=id then(U,M)else um i
section
variable{E:Env}{h:Nat}{S S':HS}{um um':Q9}{g:RG}{Z:List Pr}{w:World}
def sF(S:HS)(x:Int×Nat):Int:=S.at x.1
theorem Wu.F6(d:Wu S g):HJ (sF S) g.L:=List.pairwise_map.1 d.so
theorem Wu.nd(d:Wu S g):(g.L.map (·.1)).Nodup:=List.pairwise_map.2 (List.Pairwise.imp (fun{a b} hab e=>by unfold sF at hab;rw[e]at hab;omega) d.F6)
theorem Wu.TH{fl:Int->Bool}(j:Wu S g)(d:Ag S fl):g.L.length<1099511627776:=by
 have:=d.TH _ j.nd fun n v=>(j.mem n).1 v;rwa[List.length_map]at this
theorem Uc{q:Nat}{I:SI}{page n:Int}{U M:Nat->Bool}(H:Sat (Dy E q I U M::Hu E h S um::Z) w)(C:Ag S (inr page n))(hk:E9 S)(n0:0<n)(i1:I.base=page*8192){K:Int->World->Prop}
  (hK: ∀id X,Next S id X-> ∀w',(∀b,Sat (Hu E h (S.Dd id (b,I) page n X) (MH um id U M)::Z) w')->K id w'):F.Bw E (some ⟨h,0,none⟩) (some ⟨q,0,none⟩) K w:=by
 obtain⟨g,hI,H1⟩:=Sat.GS.1 (H.perm (.swap _ _ _));unfold F.Bw T0.Bw;have b6:=hI.TH C;have cT:=C.fb;have key: ∀id X,Next S id X-> ∀w4,Sat (EN E h {S with fx:=X} um g++Dy E q I U M::Z) w4->
   Av (Int×Unit) (fun J5=>
  Be (Int×Unit) (0,()) w4 fun s8 _ w9 aI=>
   NC (some (Addr.mk h 0 none)) fun bF=>
   ∃aL:AZ,w9.drew.cell? (bF.add 8259)=some (.slice aL.base aL.len aL.cap)/\
   CND (decide ((s8.1:Int)<((aL.len:Nat):Int))) (
    NC (some (Addr.mk h 0 none)) fun b4=>
    ∃aD:AZ,w9.drew.cell? (b4.add 8259)=some (.slice aD.base aD.len aD.cap)/\
    NC aD.base fun bU=>
    ((0:Int)<=s8.1/\(s8.1:Int)<(aD.len:Nat))/\
    ∃a3:(Option Addr),w9.drew.cell? ((bU.add (Int.toNat s8.1*2)).add 1)=some (.pointer a3)/\
    NC a3 fun b1=>
    ∃bD:Int,w9.drew.cell? b1=some (.int .u64 bD)/\
    NC (some (Addr.mk q 0 none)) fun bK=>
    ∃a7:Int,w9.drew.cell? bK=some (.int .u64 a7)/\
    CND (decide ((bD:Int)<a7)) (
     aI (i64 (s8.1+1),()) w9.drew
    ) (
     J5 (s8.1,()) w9.drew
    )
   ) (
    J5 (s8.1,()) w9.drew
   )
 ) fun s6 _ w7=>
  AL (.cells ⟨[]⟩ E.AS) w7 fun bB aO=>
  NC (some (Addr.mk h 0 none)) fun bI=>
  ∃Y:AZ,aO.cell? (bI.add 8259)=some (.slice Y.base Y.len Y.cap)/\
  ((0:Int)<=s6.1/\(s6.1:Int)<=(Y.cap:Nat))/\
  APP E.AS 2 16 #[.int .i64 0,.pointer none] ⟨(some (Addr.mk bB 0 none)),0,0⟩ ⟨(Fe Y.base Y.cap 0 2),(Int.toNat s6.1),Y.cap⟩ aO fun aW aY=>
  AL (.cells ⟨[.int .i64 id,.pointer (some (Addr.mk q 0 none))]⟩ E.AS) aY fun bA a1=>
  APP E.AS 2 16 #[.int .i64 0,.pointer none] aW ⟨(some (Addr.mk bA 0 none)),1,1⟩ a1 fun a5 aT=>
  NC (some (Addr.mk h 0 none)) fun b5=>
  ∃O:AZ,aT.cell? (b5.add 8259)=some (.slice O.base O.len O.cap)/\
  ((0:Int)<=s6.1/\(s6.1:Int)<=(O.len:Nat))/\
  APP E.AS 2 16 #[.int .i64 0,.pointer none] a5 ⟨(Fe O.base O.cap (Int.toNat s6.1) 2),(O.len-(Int.toNat s6.1)),(O.cap-(Int.toNat s6.1))⟩ aT fun J a2=>
  NC (some (Addr.mk h 0 none)) fun bH=>
  stCells (bH.add 8259) 0 [.slice J.base J.len J.cap] a2 fun aK=>
  K id aK:=by
  intro id X hX w4 H4;obtain⟨RP,aS,_⟩:=hX.live hk C;have aR: ∀x∈g.L,∃y,S.sp x.1=some y/\x.1≠id/\0<=y.2.base/\S.at x.1=y.2.base/\y.2.base %8192=0/\y.2.base/8192≠page:=fun x d=>by
   obtain⟨y,hy⟩:=Option.ne_none_iff_exists'.1 ((hI.mem x.1).1 (List.mem_map.2 ⟨x,d,rfl⟩));have hs:=C.sp x.1 y hy;have h1:=hs.2.2.2.2 (y.2.base/8192) (Int.le_refl _) (by omega);have cK:=hk.tv.Gc _ (C.ow _ (by omega:0<S.own (y.2.base/8192))).1;refine⟨y,hy,fun e=>(by rw[e,aS]at hy;cases hy),by omega,HS.VV hy,hs.2.1,fun e=> ?_⟩;have:=(C.Kj hk (p:=page) (AU.2 ⟨Int.le_refl _,by omega⟩)).2.2.1;rw[e]at h1;omega
  refine Et (fun st w'=> ∃i:Nat,st.1=(i:Int)/\i<=g.L.length/\(∀(j:Nat) x,g.L[j]? =some x->j<i->S.at x.1<page*8192)/\(∀x,g.L[i]? =some x->page*8192<S.at x.1)/\Sat (EN E h {S with fx:=X} um g++Dy E q I U M::Z) w') ?_ ?_
  ·refine AM (fun st w'=>Sat (EN E h {S with fx:=X} um g++Dy E q I U M::Z) w'/\ ∃i:Nat,st.1=(i:Int)/\i<=g.L.length/\(∀(j:Nat) x,g.L[j]? =some x->j<i->S.at x.1<page*8192)) (fun st _=>((g.L.length:Int)-st.1).toNat) ⟨H4,0,rfl,Nat.zero_le _,fun j q _ hj=>by omega⟩ ?_;rintro⟨i',u⟩ _ w9 ⟨H9,i,hi,aB,N⟩;dsimp only at hi⊢;subst hi;have Hd:=H9.drew;have hl:=MC (Hd.front 4 rfl);refine BD ⟨g.sl,VZ Hd,AE (fun bT=>BD ⟨g.sl,VZ Hd,?_⟩) fun cR=>⟨i,rfl,aB,N,fun x d=> ?_,Hd⟩⟩
   ·obtain⟨x,d⟩: ∃x,g.L[i]? =some x:=⟨_,List.getElem?_eq_getElem (by omega)⟩;obtain⟨b,hb⟩:=(Hd.front 4 rfl).FF (by decide) CH (i:=i) (by omega);rw[hb];obtain⟨y,hy,aF,yb,a6,hm,cW⟩:=aR x (List.mem_of_getElem? d);obtain⟨y',R',b3,h1⟩:=bQ (S:={S with fx:=X}) (Hd.front 5 rfl) ⟨hI.q,hI.mem,hI.so⟩ d;have e:y'=y:=by
     have:S.sp x.1=some y':=b3;rw[hy]at this;exact(Option.some.inj this).symm
    subst e;obtain⟨ul,ml,s1,s2,lk,cQ,h2⟩:=Sat.P8.1 h1;obtain⟨cI,cH,cS,cL,cO,_,h3⟩:=Sat.P8.1 (Hd.front 6 rfl);refine BD ⟨⟨by omega,bT⟩,some ⟨x.2,0,none⟩,?_,BD ⟨_,h2.BI rfl,BD ⟨_,h3.BI rfl,?_⟩⟩⟩
    ·have:=(Hd.front 4 rfl).B5 CH hb d (j:=1) rfl;rw[add_add];exact this
    have eI:I.base/8192=page:=by omega
    rw[eI];refine AE (fun cA=> ?_) fun cC=>⟨i,rfl,aB,N,fun z hz=> ?_,Hd⟩
    ·rw[AN (n:=(i:Int)+1)];refine⟨⟨Hd,i+1,by omega,by omega,fun j z hz hj=> ?_⟩,by omega⟩;by_cases ej:j=i
     ·rw[ej,d]at hz;cases hz;rw[a6];omega
     ·exact N j z hz (by omega)
    ·rw[d]at hz;cases hz;rw[a6];omega
   ·have:=(List.getElem?_eq_some_iff.1 d).1;omega
  rintro⟨i',u⟩ _ w7 ⟨i,hi,aB,N,bC,H7⟩;dsimp only at hi⊢;subst hi;have bZ:=(H7.front 4 rfl).Gd (by decide) CH;refine GB (n:=0) (z:=2) H7 rfl (by decide) fun bB aO H8=>BD ⟨g.sl,VZ (H8.front 1 rfl),⟨by omega,by omega⟩,?_⟩;rw[Int.toNat_natCast];have aE: ∀(x:Int×Nat),∀v∈F3 x,v.oneCell'=true:=fun x v hv=>by
   simp only[F3,List.mem_cons,List.not_mem_nil,or_false]at hv;rcases hv with rfl|rfl<;>rfl
  refine FD (x:=⟨Fe g.sl.base g.sl.cap 0 2,i,g.sl.cap⟩) (news:=BV F3 (g.L.take i)) H8 rfl ((H8.front 5 rfl).Ng (by decide) CH aB) (by rw[DJ CH,List.length_take];dsimp only;rw[Nat.min_eq_left aB]) (HC aE _) (by dsimp only;omega) (by dsimp only;omega) fun aW aY a4 a8=> ?_;rw[List.nil_append]at a4;dsimp only at a8;refine Am (vs:=[.int .i64 id,.pointer (some (Addr.mk q 0 none))]) a4 fun bA a1 bL _=>IE (news:=[.int .i64 id,.pointer (some (Addr.mk q 0 none))]) bL rfl rfl (aE (id,q)) (by omega) (by omega) fun a5 aT aQ b9=> ?_;refine BD ⟨g.sl,VZ (aQ.front 1 rfl),⟨by omega,by omega⟩,?_⟩;refine FD (x:=⟨Fe g.sl.base g.sl.cap i 2,g.sl.len-i,g.sl.cap-i⟩) (news:=BV F3 (g.L.drop i)) aQ rfl ((aQ.front 5 rfl).Nh (by decide) CH aB) (by rw[DJ CH,List.length_drop];dsimp only;rw[bZ.1]) (HC aE _) (by dsimp only;omega) (by dsimp only;omega) fun J a2 aZ _=> ?_;have e3:BV F3 (g.L.take i)++[Value.int .i64 id,.pointer (some (Addr.mk q 0 none))]++BV F3 (g.L.drop i)=BV F3 (g.L.take i++[(id,q)]++g.L.drop i):=by
   rw[HB,HB];rfl
  rw[e3]at aZ;refine BD (bR (s:=J) (aZ.front 1 rfl) fun aK bX=>hK id X hX aK fun b=> ?_);have aX:(g.L.take i++[(id,q)]++g.L.drop i).Perm ((id,q)::g.L):=by
   have h1:(g.L.take i++[(id,q)]++g.L.drop i).Perm ([(id,q)]++(g.L.take i++g.L.drop i)):=by
    rw[List.append_assoc];exact List.perm_append_comm_assoc _ _ _
   rw[List.take_append_drop]at h1;exact h1
  have bO:=(bX.front 5 rfl).tail;have bG:=(bO.front 5 rfl).DF 5 rfl;have bS:=bG.perm (.swap _ _ _);have e4:Ap (ND E S.sp um) g.L=Ap (ND E (S.Dd id (b,I) page n X).sp (MH um id U M)) g.L:=Ap.congr fun x d=>by
   obtain⟨y,hy,aF,_⟩:=aR x d;refine(ND.congr (S:=S) (S':=S.Dd id (b,I) page n X) (um:=um) (um':=MH um id U M) ?_ ?_).symm
   ·show Option.map _ (if x.1=id then some (b,I)else S.sp x.1)=_;rw[if_neg aF]
   ·unfold MH;rw[if_neg aF]
  have e5:Dy E q I U M=ND E (S.Dd id (b,I) page n X).sp (MH um id U M) (id,q):=by
   unfold ND MH;have:(S.Dd id (b,I) page n X).sp id=some (b,I):=if_pos rfl;dsimp only;rw[this,if_pos rfl]
  have a0:Sat (Dy E q I U M::Ap (ND E S.sp um) g.L::Cells h E.AV (CT g.m g.t g.f J S.hint g.v)::Row E.AS 2 J (BV F3 (g.L.take i++[(id,q)]++g.L.drop i))::Db E g.m S.V::IV E g.t S.T::GR E g.f X::Z) aK:=bS;rw[e4,e5]at a0;have bN:=(Sat.Jl.2 a0).Jk aX.symm;have b2:=((((bN.front 2 rfl).front 5 rfl).front 5 rfl).front 5 rfl).front 5 rfl;refine Sat.GS.2 ⟨{g with sl:=J,L:=g.L.take i++[(id,q)]++g.L.drop i},⟨hI.q,fun j=> ?_,?_⟩,b2⟩
  ·show j∈(g.L.take i++[(id,q)]++g.L.drop i).map (·.1)↔(if j=id then some (b,I)else S.sp j)≠none;rw[(aX.map (·.1)).mem_iff,List.map_cons,List.mem_cons,hI.mem];by_cases e:j=id
   ·rw[if_pos e];exact⟨fun _=>Option.some_ne_none _,fun _=>.inl e⟩
   ·rw[if_neg e];exact⟨fun c=>c.resolve_left e,.inr⟩
  ·have aM: ∀x∈g.L,(S.Dd id (b,I) page n X).at x.1=S.at x.1:=fun x d=>by
    obtain⟨y,hy,aF,_⟩:=aR x d;unfold HS.at;show(match(if x.1=id then some (b,I)else S.sp x.1)with|some x=>x.2.base|none=>0)=_;rw[if_neg aF]
    try rfl
   have a9:(S.Dd id (b,I) page n X).at id=page*8192:=by
    have:(S.Dd id (b,I) page n X).sp id=some (b,I):=if_pos rfl;rw[HS.VV this];exact i1
   have ht: ∀x∈g.L.take i,x∈g.L/\S.at x.1<page*8192:=fun x d=>by
    obtain⟨j,hj⟩:=List.mem_iff_getElem?.1 d;rw[List.getElem?_take]at hj;split at hj
    ·rename_i hji;exact⟨List.mem_of_getElem? hj,N j x hj hji⟩
    ·cases hj
   have hd: ∀x∈g.L.drop i,x∈g.L/\page*8192<S.at x.1:=fun x d=>by
    obtain⟨j,hj⟩:=List.mem_iff_getElem?.1 d;rw[List.getElem?_drop]at hj;refine⟨List.mem_of_getElem? hj,?_⟩;have cU:=(List.getElem?_eq_some_iff.1 hj).1;obtain⟨z,hz⟩: ∃z,g.L[i]? =some z:=⟨_,List.getElem?_eq_getElem (by omega)⟩;have:=bC z hz;by_cases e:j=0
    ·subst e;rw[Nat.add_zero,hz]at hj;cases hj;exact this
    ·have:=hI.F6.lt hz hj (by omega);unfold sF at this;omega
   show((g.L.take i++[(id,q)]++g.L.drop i).map fun x=>(S.Dd id (b,I) page n X).at x.1).Pairwise (· < ·);have e6:((g.L.take i++[(id,q)]++g.L.drop i).map fun x=>(S.Dd id (b,I) page n X).at x.1)=(g.L.take i).map (fun x=>S.at x.1)++[page*8192]++(g.L.drop i).map fun x=>S.at x.1:=by
    rw[List.map_append,List.map_append,List.map_congr_left (l:=g.L.take i) (g:=fun x=>S.at x.1) fun x d=>aM x (ht x d).1,List.map_congr_left (l:=g.L.drop i) (g:=fun x=>S.at x.1) fun x d=>aM x (hd x d).1];show _++[(S.Dd id (b,I) page n X).at id]++_=_;rw[a9]
   rw[e6,List.pairwise_append,List.pairwise_append];refine⟨⟨?_,List.pairwise_singleton _ _,fun a ha c hc=> ?_⟩,?_,fun a ha c hc=> ?_⟩
   ·exact List.pairwise_map.2 (hI.F6.take i)
   ·obtain⟨x,d,rfl⟩:=List.mem_map.1 ha;rw[List.mem_singleton.1 hc];exact(ht x d).2
   ·exact List.pairwise_map.2 (hI.F6.drop i)
   ·obtain⟨y,hy,rfl⟩:=List.mem_map.1 hc;have h2:=(hd y hy).2;rcases List.mem_append.1 ha with ha|ha
    ·obtain⟨x,d,rfl⟩:=List.mem_map.1 ha;have:=(ht x d).2;omega
    ·rw[List.mem_singleton.1 ha];exact h2
 refine BD ⟨some ⟨g.f,0,none⟩,tC H1,?_⟩;have bk: ∀{X:FX} {w'},Sat (GR E g.f X::(EN E h S um g++Dy E q I U M::Z).eraseIdx 3) w'->Sat (EN E h {S with fx:=X} um g++Dy E q I U M::Z) w':=fun{X w'} h'=>Sat.back (Ps:=EN E h S um g++Dy E q I U M::Z) 3 h' (by simp[EN]);exact Sm (H1.front 3 rfl) (by omega) (fun hb w' H'=>key _ _ (.inl ⟨hb,rfl,rfl⟩) w' (bk H')) fun a r hb w' H'=>key _ _ (.inr ⟨a,r,hb,rfl,rfl⟩) w' (bk H')
theorem MI(H:Sat (Hu E h S um::Z) w)(hI:Ag S no)(hk:E9 S){p n c:Int}{np:Bool}(n0:0<=n)(n1:n<18446744073709551616){K:Int->Int->World->Prop}
  (aC:D5 0 n c-> ∀w',Sat (Hu E h S um::Z) w'->K 0 1 w')
  (aA: ¬D5 0 n c-> ∀S2,Ma S p n S2-> ∀w',Sat (Hu E h S2 um::Z) w'->K 0 13 w')
  (aB: ¬D5 0 n c-> ∀page S2 id X,Found S p n page S2->Next S2 id X-> ∀w',(∀b,Sat (Hu E h (S2.Dd id (b,K8 page n c np) page n X) (MH um id PH PH)::Z) w')->K id 0 w'):
  F.Bb E (some ⟨h,0,none⟩) p n c np K w:=by
 unfold F.Bb T0.Bb;refine Oz H (by decide) n0 n1 (fun v w3 C=>Ao rfl (aC v w3 C)) fun v b w3 C=>Ab rfl ?_;have Y:=v;unfold D5 at Y;have hn:n<=134217728:=by
  by_cases c0:c=0
  ·omega
  ·have:=(I4 (c:=c) (by omega) (by omega)).2;omega
 refine RD C.tail hI hk (by omega) hn (fun page S2 hF J j p0 p1 w6 T=>Ab rfl ?_) fun S2 hL w6 T=>Ao rfl (aA v S2 hL w6 T);refine Oz T p0 n0 n1 (fun d=> ?_) fun _ b2 w9 H9=> ?_
 ·unfold D5 at d;omega
 ·exact Uc H9 J j (by omega) rfl fun id X hX O N=>aB v page S2 id X hF hX O N
end
end Go.Sh
set_option linter.all false
set_option maxRecDepth 8000
set_option maxHeartbeats 4000000
namespace Go.Sh
section
variable{E:Env}{h:Nat}{S S':HS}{um um':Q9}{g:RG}{Z:List Pr}{w:World}
theorem SQ.len{X:FX}(h:SQ X):X.bk.length<=X.n:=by
 have:=Qn X.n (X.bk.map fun a:Nat=>(a:Int)+1) (List.pairwise_map.2 (List.Pairwise.imp (fun{a b} hab e=>hab (by omega)) h.nd)) fun n d=>by
  obtain⟨a,j,rfl⟩:=List.mem_map.1 d;have:=h.lt a j;omega
 rwa[List.length_map]at this
theorem KG(H:Sat (Hu E h S um::Z) w)(d:Ag S no)(hk:E9 S){id:Int}{K:Int->World->Prop}(a6:S.sp id=none-> ∀w',Sat (Hu E h S um::Z) w'->K 35 w')
  (aT: ∀x,S.sp id=some x->0<cN (um id).1 x.2.Bs.toNat-> ∀w',Sat (Hu E h S um::Z) w'->K 33 w')
  (a2: ∀x,∀a:Nat,S.sp id=some x->cN (um id).1 x.2.Bs.toNat=0->id=(a:Int)+1-> ∀w',Sat (Hu E h (S.free a (x.2.base/8192) x.2.AA) um::Z) w'->K 0 w'):F.Bi E (some ⟨h,0,none⟩) id K w:=by
 have H0:=H;obtain⟨g,hI,H⟩:=Sat.GS.1 H;have aH:=hI.TH d;unfold F.Bi T0.Bi;refine Sy H hI aH (fun hs=>Ao rfl (a6 hs w H0)) fun i q hi=> ?_;have hl:=MC (H.front 4 rfl);have aW:=(H.front 4 rfl).Gd (by decide) CH;have Y:=(List.getElem?_eq_some_iff.1 hi).1;obtain⟨b,hb⟩:=(H.front 4 rfl).FF (by decide) CH (i:=i) Y;refine Ab (decide_eq_false (by omega)) (BD ⟨g.sl,VZ H,?_⟩);rw[hb];have hc:w.cell? ((((Addr.mk b 0 none).add (Int.toNat (i:Int)*2))).add 1)=some (.pointer (some ⟨q,0,none⟩)):=by
  have:=(H.front 4 rfl).B5 CH hb hi (j:=1) rfl;rw[add_add];exact this
 refine BD ⟨⟨by omega,by omega⟩,some ⟨q,0,none⟩,hc,?_⟩;have hm:id∈g.L.map (·.1):=List.mem_map.2 ⟨(id,q),List.mem_of_getElem? hi,rfl⟩;obtain⟨x,hx⟩:=Option.ne_none_iff_exists'.1 ((hI.mem id).1 hm);have O:=d.sp id x hx;have h1:=(H.front 5 rfl).IF hi;have e:ND E S.sp um (id,q)=Dy E q x.2 (um id).1 (um id).2:=by unfold ND;dsimp only;rw[hx]
 rw[e]at h1;refine UX h1 O.2.2.2.1 (fun hu=>Ao rfl (aT x hx hu w H0)) fun hu w8 c0 c1 H8=>Ab rfl ?_;obtain⟨a,ha,aY,aS⟩:=(d.sf id).1 (by rw[hx];exact Option.some_ne_none _);generalize hP:x.2.base/8192=P at *
 generalize hN:x.2.AA=N at *
 have C: ∀r,P<=r->r<P+N->S.T.Fb r=true/\S.T.fr r=false:=fun r r1 r2=>by
  have:=d.ow r (by rw[O.2.2.2.2 r r1 r2];exact O.1);exact⟨this.1,this.2.1⟩
 have a1:=hk.tv.Gc P (C P (Int.le_refl _) (by omega)).1;have bB:=hk.tv.Gc (P+N-1) (C (P+N-1) (by omega) (by omega)).1;have aF: ∀y∈g.L.eraseIdx i,y.1≠id:=fun y hy e=>by
  have h2:=(DD hi).map (·.1);have h3:=h2.nodup_iff.1 hI.nd;rw[List.map_cons]at h3;exact(List.nodup_cons.1 h3).1 (List.mem_map.2 ⟨y,hy,e⟩)
 generalize hS1:S.free a P N=S1;have s1:S1.T=S.T.Ka P N:=by rw[<-hS1];rfl
 have s2:S1.fx=⟨S.fx.n,a::S.fx.bk⟩:=by rw[<-hS1];rfl
 have s3: ∀j,S1.sp j=if j=id then none else S.sp j:=fun j=>by rw[<-hS1,ha];rfl
 have s4:S1.V=S.V/\S1.ca=S.ca/\S1.hint=S.hint:=by rw[<-hS1];exact⟨rfl,rfl,rfl⟩
 have e2:Ap (ND E S.sp um) (g.L.eraseIdx i)=Ap (ND E S1.sp um) (g.L.eraseIdx i):=Ap.congr fun y hy=>by
  refine(ND.congr ?_ rfl).symm;rw[s3,if_neg (aF y hy)]
 have H9:=Sat.back (Ps:=[Cells h E.AV (CT g.m g.t g.f g.sl S.hint g.v),Db E g.m S.V,IV E g.t S.T,GR E g.f S.fx,Row E.AS 2 g.sl (BV F3 g.L),Uo]++Z) 5 (P':=Ap (ND E S1.sp um) (g.L.eraseIdx i)) (by rw[<-e2];exact H8) (by simp);have H9:Sat (Cells h E.AV (CT g.m g.t g.f g.sl S.hint g.v)::Db E g.m S.V::IV E g.t S.T::GR E g.f S.fx::Row E.AS 2 g.sl (BV F3 g.L)::Ap (ND E S1.sp um) (g.L.eraseIdx i)::Z) w8.drew:=H9.drew;refine BD ⟨some ⟨g.t,0,none⟩,Yw H9,BD ⟨_,c0,BD ⟨_,c1,?_⟩⟩⟩;refine RC (H9.front 2 rfl) hk.tv.rf a1.1 O.2.2.1 (by omega) (fun r r1 r2=>(C r r1 r2).1) (fun r r1 r2=>(C r r1 r2).2) fun bK aV=> ?_;have aI:=aV.front 1 rfl;refine BD ⟨some ⟨g.f,0,none⟩,tC aI,?_⟩;rw[ha];have bF:=d.fb;have bD:=hk.fx.len;refine Sn (aI.front 3 rfl) aY aS (by omega) fun bP aZ=> ?_;have a4:=aZ.front 1 rfl;refine GB (n:=0) (z:=2) a4 rfl (by decide) fun bL bE aD=>BD ⟨g.sl,VZ (aD.front 1 rfl),⟨by omega,by omega⟩,?_⟩;rw[Int.toNat_natCast];have aB: ∀(x:Int×Nat),∀v∈F3 x,v.oneCell'=true:=fun x v hv=>by
  simp only[F3,List.mem_cons,List.not_mem_nil,or_false]at hv;rcases hv with rfl|rfl<;>rfl
 refine FD (x:=⟨Fe g.sl.base g.sl.cap 0 2,i,g.sl.cap⟩) (news:=BV F3 (g.L.take i)) aD rfl ((aD.front 5 rfl).Ng (by decide) CH (Nat.le_of_lt Y)) (by rw[DJ CH,List.length_take];dsimp only;rw[Nat.min_eq_left (Nat.le_of_lt Y)]) (HC aB _) (by dsimp only;omega) (by dsimp only;omega) fun bC bG aA aK=> ?_;rw[List.nil_append]at aA;dsimp only at aK;rw[AN (n:=(i:Int)+1)];refine BD ⟨g.sl,VZ (aA.front 1 rfl),⟨by omega,by omega⟩,?_⟩;rw[show Int.toNat ((i:Int)+1)=i+1 by omega];refine FD (x:=⟨Fe g.sl.base g.sl.cap (i+1) 2,g.sl.len-(i+1),g.sl.cap-(i+1)⟩) (news:=BV F3 (g.L.drop (i+1))) aA rfl ((aA.front 5 rfl).Nh (by decide) CH Y) (by rw[DJ CH,List.length_drop];dsimp only;rw[aW.1]) (HC aB _) (by dsimp only;omega) (by dsimp only;omega) fun J bH aO _=> ?_;rw[<-HB,<-List.eraseIdx_eq_take_drop_succ]at aO;refine BD (bR (s:=J) (aO.front 1 rfl) fun aM aR=> ?_);have a0:=(aR.front 5 rfl).tail;have a3:Sat (Cells h E.AV (CT g.m g.t g.f J S.hint g.v)::Row E.AS 2 J (BV F3 (g.L.eraseIdx i))::GR E g.f ⟨S.fx.n,a::S.fx.bk⟩::IV E g.t (S.T.Ka P N)::Db E g.m S.V::Ap (ND E S1.sp um) (g.L.eraseIdx i)::Z) aM:=a0;have aU:=((((a3.front 1 rfl).front 2 rfl).front 3 rfl).front 4 rfl).front 4 rfl;refine a2 x a hx hu ha aM ?_;rw[hP,hN,hS1];refine Sat.GS.2 ⟨{g with sl:=J,L:=g.L.eraseIdx i},⟨by rw[s4.2.1];exact hI.q,fun j=> ?_,?_⟩,?_⟩
 ·rw[s3];by_cases e:j=id
  ·rw[if_pos e];exact⟨fun c=>by obtain⟨y,hy,e2⟩:=List.mem_map.1 c;exact absurd (e2.trans e) (aF y hy),fun c=>absurd rfl c⟩
  ·rw[if_neg e,<-hI.mem j,((DD hi).map (·.1)).mem_iff,List.map_cons,List.mem_cons];exact⟨.inr,fun c=>c.resolve_left e⟩
 ·have e6:((g.L.eraseIdx i).map fun x=>S1.at x.1)=(g.L.eraseIdx i).map fun x=>S.at x.1:=List.map_congr_left fun y hy=>by
   unfold HS.at;rw[s3,if_neg (aF y hy)]
  show((g.L.eraseIdx i).map fun x=>S1.at x.1).Pairwise (· < ·);rw[e6];exact List.Pairwise.sublist ((List.eraseIdx_sublist g.L i).map _) hI.so
 ·unfold EN;dsimp only;rw[s4.1,s4.2.2,s1,s2];exact aU
theorem FO.uniq{n m m':Int}{S1 S2:HS}(h:FO S n S1 m):FO S n S2 m'->S1=S2/\m=m':=by
 induction h generalizing S2 m' with
 | stop hs=>
  intro d;cases d with
  | stop hs'=>exact⟨rfl,rfl⟩
  | step ha r=>
   exfalso;rcases hs with hs|hs
   ·have:=ha.k0;have:=ha.kn;omega
   ·have:=ha.row _ (Int.le_refl _) (by have:=ha.k0;omega);rw[hs]at this;cases this
 | step ha r ih=>
  intro d;cases d with
  | stop hs=>
   exfalso;rcases hs with hs|hs
   ·have:=ha.k0;have:=ha.kn;omega
   ·have:=ha.row _ (Int.le_refl _) (by have:=ha.k0;omega);rw[hs]at this;cases this
  | step ha' r'=>
   obtain⟨rfl,rfl⟩:=ha.uniq ha';obtain⟨j,v⟩:=ih r';exact⟨j,by rw[v]⟩
theorem E9.F5(d:E9 S)(J:Ag S no){x k:Int}(h0:0<=x)(j:0<k)(v:x+k<=34359738368)(C:Gb S.T.idle x k):E9 (S.F5 x k):=
 ⟨d.tv.F5 h0 j v C,d.vv.release h0 j v fun p K N=>(J.idle d (C p K N)).2.2.1,d.ci,d.ok,d.fx⟩
theorem NH(H:Sat (Hu E h S um::Z) w)(hI:Ag S no)(hk:E9 S)(O:CK S.V.laid<=1000000){n:Int}(n0:0<=n)(n1:n<18446744073709551616){K:Int->World->Prop}
  (hK: ∀S' m,FO S n S' m-> ∀w',Sat (Hu E h S' um::Z) w'->K m w'):F.Az E (some ⟨h,0,none⟩) n K w:=by
 unfold F.Az T0.Az;refine AM (fun st w'=> ∃S1,0<=st.1/\st.1<=n/\Ag S1 no/\E9 S1/\S1.V.laid=S.V.laid/\(∀S' m,FO S1 (n-st.1) S' m->FO S n S' (st.1+m))/\Sat (Hu E h S1 um::Z) w') (fun st _=>(n-st.1).toNat)
  ⟨S,Int.le_refl _,n0,hI,hk,rfl,fun S' m hs=>by show FO S n S' (0+m);rw[Int.zero_add];rwa[show n-0=n by omega]at hs,H⟩ ?_
 rintro⟨d,v⟩ _ w2 ⟨S1,l0,l1,N,j,aA,J,H2⟩;dsimp only at l0 l1 J⊢;have C:(n-d=0∨ ∀p,S1.T.idle p=false)-> ∀w',Sat (Hu E h S1 um::Z) w'->K d w':=fun hz w' H'=>by
  have:=J S1 0 (.stop hz);rw[Int.add_zero]at this;exact hK S1 _ this w' H'
 refine AE (fun aJ=> ?_) fun hz=>C (.inl (by omega)) w2 H2;obtain⟨g,hR,H3⟩:=Sat.GS.1 H2;obtain⟨R,H4,hb⟩:=MF H3;refine BD ⟨some ⟨g.t,0,none⟩,Yw H3,?_⟩;rw[AG (n:=n-d)];refine S5 H4 j.tv (by omega) (by omega) (fun hz w8 H8=>Ao rfl (C hz w8 (GP hR (hb H8) rfl rfl))) fun p k hs p0 pb w8 H8=>Ab (by have:=hs.k0;simpa using(by omega: ¬k=0)) ?_;have k0:=hs.k0;have kn:=hs.kn;have H9:=hb H8;obtain⟨R2,aC,aB⟩:=O4 H9;refine BD ⟨some ⟨g.m,0,none⟩,iG H9,?_⟩;have Y: ∀q,p<=q->q<p+k->mem S1.V.ready q:=fun q a b=>(N.idle j (hs.row q a b)).2.2.1;have aG:cnt S1.V.ready p (p+k)=k:=by
  have:=(Ci j.vv.IT (a:=p) (b:=p+k) (by omega)).2 Y;omega
 have aD:EI p k:=⟨by omega,pb⟩;refine PI (by rw[aA];exact O) aC p0 (by omega) (by omega) (by omega) (fun c=>absurd aD c) (fun _ c=>absurd aG c) fun _ _ aV aF=> ?_;rw[AG (n:=d+k)];have BH:=j.F5 N p0 k0 pb hs.row;refine⟨⟨S1.F5 p k,by show 0<=d+k;omega,by show d+k<=n;omega,N.F5 j k0 hs.row,BH,aA,fun S' m' aH=> ?_,GP hR (aB (aF BH.vv)) rfl rfl⟩,by show(n-(d+k)).toNat<(n-d).toNat;omega⟩;have:=J S' (k+m') (.step hs (by rw[show n-d-k=n-(d+k) by omega];exact aH));show FO S n S' (d+k+m');rw[show d+k+m'=d+(k+m') by omega];exact this
theorem Ud{l:Nat->Iv}{L:CL}{U G:Int->Bool}(d:On l L U G)(C:LV l S.T)(j:Ag S no)(v:E9 S):((512*L.length:Nat):Int)=cP S.T.Fb:=by
 have h1: ∀q,mem S.ks q↔ ∃c∈L,c.1=q:=fun q=>by
  have a1:=j.ks (q*512);have a2:=d.l0 (q*512);rw[Int.mul_ediv_cancel q (by decide)]at a1 a2;rw[a1,<-C.i,a2]
 have hlen:=Nf (key:=fun c:Int×Nat=>c.1) (L:=L) d.F6 v.ok h1 (a:=0) (n:=67108864) fun q J=>by
  obtain⟨c,K,rfl⟩:=(h1 q).1 J;have:=d.Oo c K;omega
 have:=(j.counts v).1;omega
theorem IW(H:Sat (Hu E h S um::Z) w)(d:Ag S no)(hk:E9 S){K:Int->Int->Int->World->Prop}(hK: ∀w',Sat (Hu E h S um::Z) w'->K (cP S.T.Fb) S.AA (cP S.gone) w'):F.A5 E (some ⟨h,0,none⟩) K w:=by
 obtain⟨g,hI,H⟩:=Sat.GS.1 H;unfold F.A5 T0.A5;have bA:=MC (H.front 4 rfl);have a3:=hI.TH d;have bL:=d.rY;have aD:=d.IU hk;have aX:=GM S.gone;have aR:=GM S.T.Fb;generalize hci:cP S.T.Fb=CI at hK aR;generalize hcg:cP S.gone=CG at hK aX aD;refine BD ⟨some ⟨g.t,0,none⟩,Yw H,NP (H.front 2 rfl) ?_⟩;have aJ: ∀n,n∈g.L.map (·.1)↔S.sp n≠none:=hI.mem;refine AM (fun st w'=>Sat (EN E h S um g++Z) w'/\ ∃i:Nat,st.2.1=(i:Int)/\i<=g.L.length/\st.1=O2 S ((g.L.take i).map (·.1))) (fun st _=>((g.L.length:Int)-st.2.1).toNat) ⟨H,0,rfl,Nat.zero_le _,?_⟩ ?_
 ·show(0:Int)=O2 S [];unfold O2;rw[Lx];intro p;simp
 clear H;rintro⟨us,i',u⟩ _ w6 ⟨H,i,hi,bJ,N⟩;dsimp only at hi N⊢;subst hi;refine BD ⟨g.sl,VZ H,AE (fun aA=>BD ⟨g.sl,VZ H,?_⟩) fun aT=> ?_⟩
 ·obtain⟨x,hx⟩: ∃x,g.L[i]? =some x:=⟨_,List.getElem?_eq_getElem (by omega)⟩;obtain⟨b,hb⟩:=(H.front 4 rfl).FF (by decide) CH (i:=i) (by omega);rw[hb];obtain⟨y,R',hy,h1⟩:=bQ (H.front 5 rfl) hI hx;obtain⟨ul,ml,s1,s2,lk,bH,h2⟩:=Sat.P8.1 h1;refine BD ⟨⟨by omega,aA⟩,some ⟨x.2,0,none⟩,?_,BD ⟨_,h2.cell rfl,?_⟩⟩
  ·have:=(H.front 4 rfl).B5 CH hb hx (j:=1) rfl;rw[add_add];exact this
  have aY:x.1∉(g.L.take i).map (·.1):=fun c=>by
   have h3:=hI.nd;have e:g.L=g.L.take i++x::g.L.drop (i+1):=by
    have aU:=(List.getElem?_eq_some_iff.1 hx);rw[<-aU.2,List.getElem_cons_drop,List.take_append_drop]
   rw[e,List.map_append,List.nodup_append]at h3;exact h3.2.2 x.1 c x.1 (by simp) rfl
  have J:=Wl d hk hy aY;have e2:(g.L.take i).map (·.1)++[x.1]=(g.L.take (i+1)).map (·.1):=by rw[List.take_succ,hx];simp
  rw[e2]at J;have aK: ∀l,0<=O2 S l/\O2 S l<=34359738368:=fun l=>GM _;have b1:=aK ((g.L.take (i+1)).map (·.1));have b2:=aK ((g.L.take i).map (·.1));have bP:=(d.sp x.1 y hy).2.2.1;have O:=J.1;clear J;generalize hA:O2 S ((g.L.take i).map (·.1))=A at N b2 O;generalize hB:O2 S ((g.L.take (i+1)).map (·.1))=B at b1 O;rw[N,AG (n:=A+y.2.AA),AN (n:=(i:Int)+1)];exact⟨⟨H,i+1,by omega,by omega,by rw[hB];exact O.symm⟩,by omega⟩
 ·obtain rfl:i=g.L.length:=by omega
  rw[List.take_length,Yf d aJ]at N;subst N;have bM:0<=NT S.T.rl:=by
   obtain⟨l,o,hl⟩:=hk.tv.cr;rw[R4 o hl];exact GY o
  refine AM (fun st w'=>Sat (EN E h S um g++Z) w'/\ ∃i:Nat,st.2.1=(i:Int)/\i<=64/\st.1=NT S.T.rl+Go.Sh.IU S.ca i) (fun st _=>(64-st.2.1).toNat) ⟨H,0,rfl,by decide,by show NT S.T.rl=NT S.T.rl+0;omega⟩ ?_;clear H;rintro⟨gn,p',u⟩ _ aQ ⟨H,p,hp,a8,Y⟩;dsimp only at hp Y⊢;subst hp;have a1:=KS S.ca p (64-p);rw[show p+(64-p)=64 by omega]at a1;refine AE (fun aA=> ?_) fun aT=> ?_
  ·have aV:=KS S.ca (p+1) (64-(p+1));rw[show p+1+(64-(p+1))=64 by omega]at aV;have a0:Go.Sh.IU S.ca (p+1)=Go.Sh.IU S.ca p+cN (S.ca p).rel 64:=rfl;have aP:=KS S.ca 0 p;rw[Nat.zero_add]at aP;have bF:Go.Sh.IU S.ca 0=0:=rfl;have hq:=hI.q p (by omega);refine AM (fun st w'=>Sat (EN E h S um g++Z) w'/\ ∃k:Nat,st.2.1=(k:Int)/\k<=64/\st.1=NT S.T.rl+Go.Sh.IU S.ca p+cN (S.ca p).rel k) (fun st _=>(64-st.2.1).toNat) ⟨H,0,rfl,by decide,by rw[Y];show _=_+((0:Nat):Int);omega⟩ ?_;clear H;rintro⟨aW,k',u⟩ _ a2 ⟨H,k,aL,a6,C⟩;dsimp only at aL C⊢;subst aL;refine AE (fun aI=> ?_) fun bR=> ?_
   ·have Hq:Sat (Cells h E.AV (qW (Wt g.m g.t g.v p) (aS g.f g.sl S.hint g.v p) (g.v p).1 (g.v p).2.1 (g.v p).2.2)::(Db E g.m S.V::IV E g.t S.T::GR E g.f S.fx::Row E.AS 2 g.sl (BV F3 g.L)::Ap (ND E S.sp um) g.L::Z)) a2:=by
     rw[<-Q7 g.m g.t g.f g.sl S.hint g.v (by omega:p<64)];exact H
    have ha:((Addr.mk h 0 none).add 2).add (Int.toNat (p:Int)*129)=Addr.mk h (Wt g.m g.t g.v p).length none:=by
     rw[add_add,add_eq,Nat.zero_add,VY _ _ _ (by omega),Int.toNat_natCast]
    have c1:=YN Hq (i:=(k:Int)) (by omega) (by omega);have c2:=YO Hq (i:=(k:Int)) (by omega) (by omega);rw[<-ha]at c1 c2;have aB:=hq.rl k (by omega);have aC:=hq.hs k (by omega);have J:cN (S.ca p).rel (k+1)=cN (S.ca p).rel k+((S.ca p).rel k).toNat:=rfl;have hle:cN (S.ca p).rel (k+1)<=k+1:=Us _ _;have a7:cN (S.ca p).rel k<=k:=Us _ _;refine Et (fun st w'=>st.1=(S.ca p).rel k/\Sat (EN E h S um g++Z) w') ?_ ?_
    ·refine BD ⟨⟨by omega,aA⟩,⟨by omega,aI⟩,_,c1,AR (fun e=>BD ⟨⟨by omega,aA⟩,⟨by omega,aI⟩,_,c2,?_,H⟩) fun e=>⟨?_,H⟩⟩
     ·show(g.v p).2.2 k=_;rw[aB,<-aC,e];rfl
     ·show false=_;rw[aB,<-aC,e];rfl
    rintro⟨b,u⟩ _ bN ⟨hb,aG⟩;dsimp only at hb⊢;rw[AN (n:=(k:Int)+1)];refine AR (fun e=>⟨⟨aG,k+1,by omega,by omega,?_⟩,by omega⟩) fun e=>⟨⟨aG,k+1,by omega,by omega,?_⟩,by omega⟩
    ·rw[hb]at e;rw[AG (n:=aW+1),J,e,C];show _=_+((_+1:Nat):Int);omega
    ·rw[hb]at e;rw[J,e,C];show _=_+((_+0:Nat):Int);omega
   ·obtain rfl:k=64:=by omega
    rw[AN (n:=(p:Int)+1)];exact⟨⟨H,p+1,by omega,by omega,by rw[C,a0];omega⟩,by omega⟩
  ·obtain rfl:p=64:=by omega
   rw[aD]at Y;subst Y;obtain⟨l,⟨hl,BH⟩,Ht⟩:=Sat.UQ.1 (H.front 2 rfl);obtain⟨s,L,U,G,hR,Hr⟩:=Sat.Fo.1 Ht;have hlen:=HF Hr;have aH:=Ud hR hl d hk;rw[hci]at aH;refine BD ⟨some ⟨g.t,0,none⟩,Yw H,BD ⟨s,C9 Hr,AY fun t ht=> ?_⟩⟩;rw[hlen,AN (n:=512*((L.length:Nat):Int)),AG (n:=512*((L.length:Nat):Int)),show 512*((L.length:Nat):Int)=((512*L.length:Nat):Int) by omega,aH]at ht;rw[ht];exact hK aQ (Sat.GS.2 ⟨g,hI,H⟩)
theorem Wn:(List.range 64).flatMap (qc fun _=>(0,(fun _=>false),fun _=>false))=MS:=by
 unfold MS;refine I8 fun i _=> ?_;unfold qc FQ;rw[<-JH];rfl
theorem Ue{m:Nat}{V:VS}(H:Sat (Db E m V::Z) w){K:Option Addr->World->Prop}(J: ∀b w',Sat (Hu E b (HS.new V) um::Z) w'->K (some ⟨b,0,none⟩) w'):F.DM E (some ⟨m,0,none⟩) K w:=by
 unfold F.DM T0.DM;refine UU H fun f w3 C=>Am (vs:=[.slice none 0 0]) C fun d Y v _=> ?_;have T:Sat (IV E d TV.nil::GR E f ⟨0,[]⟩::Db E m V::Z) Y:=KC (l:=fun _=>[]) ⟨fun p=>⟨fun c=>absurd c (Ar p),fun c=>by cases c⟩,fun p=>⟨fun c=>absurd c (Ar p),fun c=>by cases c⟩,fun p=>⟨fun c=>absurd c (Ar p),fun c=>by cases c⟩⟩ (fun _ _=>trivial) fun l' a0 a1 a2=>(Sat.YK (l:=fun _=>[]) v fun _=>rfl).YJ a0 a1 a2;rw[<-Wn];refine Am (vs:=CT m d f ⟨none,0,0⟩ 0 fun _=>(0,(fun _=>false),fun _=>false)) T fun b j N _=>J b j (Sat.GS.2 ⟨⟨m,d,f,⟨none,0,0⟩,fun _=>(0,(fun _=>false),fun _=>false),[]⟩,⟨fun i hi=>⟨Int.le_refl _,by show(0:Int)+64<=34359738368;decide,fun c=>absurd (fun _=>rfl) c,fun _ _=>rfl,fun _ _=>rfl,fun _ _=>rfl⟩,fun id=>⟨fun c=>(by cases c),fun c=>absurd rfl c⟩,List.Pairwise.nil⟩,?_⟩);have H8:=((Sat.KN (N.nil E.AS 2) (ND E (HS.new V).sp um)));have O:Sat (Ap (ND E (HS.new V).sp um) []::Row E.AS 2 ⟨none,0,0⟩ []::Cells b E.AV (CT m d f ⟨none,0,0⟩ 0 fun _=>(0,(fun _=>false),fun _=>false))::IV E d TV.nil::GR E f ⟨0,[]⟩::Db E m V::Z) j:=H8;exact((((O.front 1 rfl).front 4 rfl).front 4 rfl).front 5 rfl).front 5 rfl
end
end Go.Sh
set_option linter.all false
set_option maxRecDepth 4000
set_option maxHeartbeats 2000000
namespace Go.Sh
section
variable{E:Env}{c:Nat}{V:VS}{Z:List Pr}{w:World}{g:MG}{P:Wh}{W:YT}
end
end Go.Sh
set_option linter.all false
set_option maxRecDepth 4000
set_option maxHeartbeats 4000000
namespace Go.Sh
theorem RE(i:Nat){t:Nat}{Ps:List Pr}{w:World}{K:Nat->World->Prop}(H:Sat Ps w)(d:Ps[i]? =some Uo)(j: ∀b w',Sat (Ps.set i (Row t 1 ⟨some ⟨b,0,none⟩,0,0⟩ [])) w'->K b w'):AL (.cells ⟨[]⟩ t) w K:=
 GB (n:=0) (z:=1) (H.front i d).tail rfl (by decide) fun b w' v=>j b w' (Sat.back i v (List.getElem?_eq_some_iff.1 d).1)
theorem KH(i:Nat){t bytes b:Nat}{zs:Array Value}{a:AZ}{vs:List Value}{Ps:List Pr}{w:World}{K:AZ->World->Prop}(H:Sat Ps w)(j:Ps[i]? =some (Row t 1 ⟨some ⟨b,0,none⟩,0,0⟩ []))(hz:zs.size=1)
  (d: ∀w',Sat (Ps.eraseIdx i) w'->rowAt w' a.base a.len vs)(J:vs.length=a.len)(hlen:a.len<=1099511627776)(C:bytes<=8)(N: ∀v∈vs,v.oneCell'=true)(O: ∀s' w',Sat (Ps.set i (Row t 1 s' vs)) w'->K s' w'):
  APP t 1 bytes zs ⟨some ⟨b,0,none⟩,0,0⟩ a w K:=by
 have hm:(0+a.len)*bytes<=1099511627776*8:=Nat.mul_le_mul (by omega) C;exact FD (H.front i j) hz (by simpa using d w (H.front i j).tail) (by simpa using J) N (by simp only;omega) (by simp only;omega) fun s' w' T _=>O s' w' (Sat.back i T (List.getElem?_eq_some_iff.1 j).1)
section
variable{E:Env}{b c:Nat}{V:VS}{Z Rs:List Pr}{w:World}
theorem aU(pl:List Int)(rf:List Bool)(fl:List Int):MX (JJ pl rf fl):=
 ⟨trivial,trivial,trivial,fun p h=>absurd h (Ar p),fun p h=>absurd h (Ar p),fun p h=>absurd h (Ar p),fun p h=>absurd h (Ar p),fun _ _ _ _ _=>rfl,by show CK []+CK []<=CK [];decide⟩
theorem S6{b1 t1:Nat}{vs:List Value}{s0 s1 s2:AZ}{pl:List Int}{rf:List Bool}{fl:List Int}(d: ∀x∈pl,0<=x/\x<18446744073709551616)
  (H:Sat (Cells c E.Ac [HU s0,HU s1,HU s2,.slice none 0 0,.slice none 0 0]::Cells b1 t1 vs::Row E.AH 1 s0 (ints .u64 pl)::Row E.Ai 1 s1 (BS rf)::Row E.AH 1 s2 (ints .u64 fl)::Rs) w):Sat (Db E c (JJ pl rf fl)::Rs) w:=by
 refine Sat.LD.2 ⟨⟨s0,s1,s2,⟨none,0,0⟩,⟨none,0,0⟩⟩,[],[],⟨aU pl rf fl,.nil,.nil,fun p=>⟨fun h=>absurd h (Ar p),fun⟨e,he,_⟩=>(by cases he)⟩,fun e he=>(by cases he),fun e he=>(by cases he),fun e he=>(by cases he),d⟩,?_⟩;have h1:=(H.front 1 rfl).tail;have C:=(h1.front 1 rfl).ZA;have v:=(C.front 2 rfl).ZA;have K:=(v.front 3 rfl).ZA;have j:=(K.nil E.AX 3);have J:=(j.nil E.Cm 2);exact J.perm ((List.reverse_perm [_,_,_,_,_,_]).symm.append_right Rs)
theorem Wo(H:Sat Rs w){a0 a1 a2:AZ}{pl:List Int}{rf:List Bool}{fl:List Int}(v: ∀x∈pl,0<=x/\x<18446744073709551616)
  (h0: ∀w',Sat Rs w'->rowAt w' a0.base a0.len (ints .u64 pl))(l0:pl.length=a0.len)(k0:a0.len<=1099511627776)
  (h1: ∀w',Sat Rs w'->rowAt w' a1.base a1.len (BS rf))(l1:rf.length=a1.len)(k1:a1.len<=1099511627776)
  (h2: ∀w',Sat Rs w'->rowAt w' a2.base a2.len (ints .u64 fl))(l2:fl.length=a2.len)(k2:a2.len<=1099511627776)
  {K:Option Addr->World->Prop}(T: ∀b w',Sat (Db E b (JJ pl rf fl)::Rs) w'->K (some ⟨b,0,none⟩) w'):F.FG E a0 a1 a2 K w:=by
 unfold F.FG;have C:(ints IntKind.u64 pl).length=a0.len:=by rw[ints,List.length_map];exact l0
 have O:(BS rf).length=a1.len:=by rw[BS,List.length_map];exact l1
 have j:(ints IntKind.u64 fl).length=a2.len:=by rw[ints,List.length_map];exact l2
 refine Am (vs:=[HU a0,HU a1,HU a2]) H.emp.emp.emp fun b1 w2 Y _=> ?_;have N:=Y.drew;clear Y;have t4: ∀{P0 P1 P2:Pr} {w'},Sat (P0::P1::P2::Rs) w'->Sat Rs w':=fun h=>h.tail.tail.tail;refine⟨a0,N.BI rfl,a1,N.cell rfl,a2,N.cell rfl,?_⟩
 repeat' first
  | (exact Sat.cell (by assumption) (by rfl))
  | (exact Sat.BI (by assumption) (by rfl))
  | (refine KH 1 (a:=a0) (vs:=ints .u64 pl) (by assumption) (by rfl) rfl (by intro w' h;exact h0 w' (t4 h)) C k0 (by decide) (Nl _ _) fun s' w' d=> ?_)
  | (refine KH 1 (a:=a2) (vs:=ints .u64 fl) (by assumption) (by rfl) rfl (by intro w' h;exact h2 w' (t4 h)) j k2 (by decide) (Nl _ _) fun s' w' d=> ?_)
  | (refine KH 2 (a:=a1) (vs:=BS rf) (by assumption) (by rfl) rfl (by intro w' h;exact h1 w' (t4 h)) O k1 (by decide) (YS _) fun s' w' d=> ?_)
  | (refine KH 3 (a:=a0) (vs:=ints .u64 pl) (by assumption) (by rfl) rfl (by intro w' h;exact h0 w' (t4 h)) C k0 (by decide) (Nl _ _) fun s' w' d=> ?_)
  | (refine KH 3 (a:=a2) (vs:=ints .u64 fl) (by assumption) (by rfl) rfl (by intro w' h;exact h2 w' (t4 h)) j k2 (by decide) (Nl _ _) fun s' w' d=> ?_)
  | (refine RE 2 (t:=E.Ai) (by assumption) (by rfl) fun J w' d=> ?_)
  | (refine RE 1 (t:=E.AH) (by assumption) (by rfl) fun J w' d=> ?_)
  | (refine RE 3 (t:=E.AH) (by assumption) (by rfl) fun J w' d=> ?_)
  | (refine Am (vs:=[HU _,HU _,HU _,.slice none 0 0,.slice none 0 0]) (by assumption) fun J w' d _=>T _ _ (S6 v d))
  | (refine Am (vs:=[HU _,HU _,HU _,.slice none 0 0,.slice none 0 0]) (by assumption) fun J w' d _=>T _ _ (S6 v (d.perm (.cons _ (.cons _ (((List.Perm.swap _ _ _).trans (.cons _ (.swap _ _ _))).trans (.swap _ _ _)))))))
  | (refine And.intro ?_ ?_)
end
end Go.Sh
set_option linter.all false
set_option maxRecDepth 8000
set_option maxHeartbeats 4000000
namespace Go.Sh
section
variable{E:Env}{w:World}{Rs Z:List Pr}
theorem O5(H:Sat Z w){n r:Int}{K:Int->World->Prop}(T: ∀w',Sat Z w'->K (timesV n r) w'):F.Ep E n r K w:=by
 unfold F.Ep T0.Ep F.Di;have main: ∀(x:Nat) w',Sat Z w'->(bif (Cd x 4895412794951729152==some .gt||Cd x 4895412794951729152==some .eq)then(18446744073709551615:Int)else bif (Cd x 4607182418800017408==some .gt||Cd x 4607182418800017408==some .eq)then(LG x).getD 0 else 0)=timesV n r->
   CND ((Cd x 4895412794951729152==some .gt||Cd x 4895412794951729152==some .eq)) (K 18446744073709551615 w')
    (CND ((Cd x 4607182418800017408==some .gt||Cd x 4607182418800017408==some .eq)) (∃d:Int,LG x=some d/\(IntKind.min .u64<=d/\d<=IntKind.max .u64)/\K d w') (K 0 w')):=by
  intro x w' Y e;have j:=T w' Y;refine AR (fun v=> ?_) fun v=>AR (fun h1=> ?_) fun h1=> ?_
  ·rw[v]at e;rw[<-e]at j;exact j
  ·obtain⟨k,J,O⟩:=Qo h1 (by rw[v];decide);refine⟨k,J,⟨by show(0:Int)<=k;omega,by show(k:Int)<=18446744073709551615;omega⟩,?_⟩;rw[v,h1,cond_false,cond_true,J]at e;rw[<-e]at j;exact j
  ·rw[v,h1,cond_false,cond_false]at e;rw[<-e]at j;exact j
 have key:FRES (GX .mul (JC n) r.toNat) w fun C N=>
   CND ((Cd C 4895412794951729152==some .gt||Cd C 4895412794951729152==some .eq)) (K 18446744073709551615 N)
    (CND ((Cd C 4607182418800017408==some .gt||Cd C 4607182418800017408==some .eq)) (∃d:Int,LG C=some d/\(IntKind.min .u64<=d/\d<=IntKind.max .u64)/\K d N) (K 0 N)):=by
  cases hx:GX .mul (JC n) r.toNat with
  | some x=>
   refine main x w H ?_;unfold timesV;rw[hx]
  | none=>
   intro t;refine main (Vd t) w.drew H.drew ?_;rw[Nj,Nj,M4 hx];rfl
 exact key
theorem S7{b1 t1:Nat}{us:List Value}{s0 s1 s2:AZ}{pl:List Int}{rf:List Bool}{fl:List Int}(d: ∀x∈pl,0<=x/\x<18446744073709551616)
  (k0:pl.length<=1099511627776)(T:rf.length<=1099511627776)(Y:fl.length<=1099511627776)
  {K:Option Addr->World->Prop}(C: ∀b w',Sat (Bf E b (JJ pl rf fl)::Rs) w'->K (some ⟨b,0,none⟩) w')
  (H:Sat (Cells b1 t1 us::Row E.AH 1 s0 (ints .u64 pl)::Row E.Ai 1 s1 (BS rf)::Row E.AH 1 s2 (ints .u64 fl)::Rs) w):F.GG E s0 s1 s2 K w:=by
 have N:pl.length=s0.len:=by have:=(H.front 1 rfl).GA;rw[ints,List.length_map]at this;omega
 have J:rf.length=s1.len:=by have:=(H.front 2 rfl).GA;rw[BS,List.length_map]at this;omega
 have O:fl.length=s2.len:=by have:=(H.front 3 rfl).GA;rw[ints,List.length_map]at this;omega
 refine WB H d (fun w' h=>by simpa using(h.front 1 rfl).Ky) N (by omega) (fun w' h=>by simpa using(h.front 2 rfl).Ky) J (by omega) (fun w' h=>by simpa using(h.front 3 rfl).Ky) O (by omega) fun b v j=>C b v ?_;exact((((j.front 1 rfl).tail.front 1 rfl).tail.front 1 rfl).tail.front 1 rfl).tail
theorem MJ(H:Sat Rs w){a0 a1 a2:AZ}{pl:List Int}{rf:List Bool}{fl:List Int}(v: ∀x∈pl,0<=x/\x<18446744073709551616)
  (h0: ∀w',Sat Rs w'->rowAt w' a0.base a0.len (ints .u64 pl))(l0:pl.length=a0.len)(k0:a0.len<=1099511627776)
  (h1: ∀w',Sat Rs w'->rowAt w' a1.base a1.len (BS rf))(l1:rf.length=a1.len)(k1:a1.len<=1099511627776)
  (h2: ∀w',Sat Rs w'->rowAt w' a2.base a2.len (ints .u64 fl))(l2:fl.length=a2.len)(k2:a2.len<=1099511627776)
  {K:Option Addr->World->Prop}(hK: ∀h w',Sat (Au E h (HS.new (JJ pl rf fl))::Rs) w'->K (some ⟨h,0,none⟩) w'):F.Br E a0 a1 a2 K w:=by
 unfold F.Br T0.Br;have C:(ints IntKind.u64 pl).length=a0.len:=by rw[ints,List.length_map];exact l0
 have T:(BS rf).length=a1.len:=by rw[BS,List.length_map];exact l1
 have j:(ints IntKind.u64 fl).length=a2.len:=by rw[ints,List.length_map];exact l2
 refine Am (vs:=[HU a0,HU a1,HU a2]) H fun b1 w2 H2 _=> ?_;refine Ak (fun st w'=> ∃b,st.1=some ⟨b,0,none⟩/\Sat (Bf E b (JJ pl rf fl)::Rs) w') ?_ ?_
 ·have N:Sat (Cells b1 E.E5 [HU a0,HU a1,HU a2]::Uo::Uo::Uo::Rs) w2.drew:=(H2.drew.emp.emp.emp).front 3 rfl;clear H2;have t4: ∀{P0 P1 P2:Pr} {w'},Sat (P0::P1::P2::Rs) w'->Sat Rs w':=fun h=>h.tail.tail.tail;refine⟨a0,N.BI rfl,a1,N.cell rfl,a2,N.cell rfl,?_⟩
  repeat' first
   | (exact Sat.cell (by assumption) (by rfl))
   | (exact Sat.BI (by assumption) (by rfl))
   | (refine Il 1 (a:=a0) (vs:=ints .u64 pl) (by assumption) (by rfl) rfl (by intro w' h;exact h0 w' (t4 h)) C k0 (by decide) (L3 _ _) fun s' w' d=> ?_)
   | (refine Il 1 (a:=a2) (vs:=ints .u64 fl) (by assumption) (by rfl) rfl (by intro w' h;exact h2 w' (t4 h)) j k2 (by decide) (L3 _ _) fun s' w' d=> ?_)
   | (refine Il 2 (a:=a1) (vs:=BS rf) (by assumption) (by rfl) rfl (by intro w' h;exact h1 w' (t4 h)) T k1 (by decide) (WW _) fun s' w' d=> ?_)
   | (refine Il 3 (a:=a0) (vs:=ints .u64 pl) (by assumption) (by rfl) rfl (by intro w' h;exact h0 w' (t4 h)) C k0 (by decide) (L3 _ _) fun s' w' d=> ?_)
   | (refine Il 3 (a:=a2) (vs:=ints .u64 fl) (by assumption) (by rfl) rfl (by intro w' h;exact h2 w' (t4 h)) j k2 (by decide) (L3 _ _) fun s' w' d=> ?_)
   | (refine Oi 2 (t:=E.Ai) (by assumption) (by rfl) fun Y w' d=> ?_)
   | (refine Oi 1 (t:=E.AH) (by assumption) (by rfl) fun Y w' d=> ?_)
   | (refine Oi 3 (t:=E.AH) (by assumption) (by rfl) fun Y w' d=> ?_)
   | (exact S7 v (by omega) (by omega) (by omega) (fun b w' h=>⟨b,rfl,h⟩) (by assumption))
   | (exact S7 v (by omega) (by omega) (by omega) (fun b w' h=>⟨b,rfl,h⟩) (Sat.perm (by assumption) (.cons _ (((List.Perm.swap _ _ _).trans (.cons _ (.swap _ _ _))).trans (.swap _ _ _)))))
   | (refine And.intro ?_ ?_)
 ·rintro⟨r,u⟩ _ w5 ⟨b,rfl,H5⟩;exact Ab rfl (WS H5 fun h O J=>hK h O J)
theorem S8(H:Sat Rs w){K:Option Addr->World->Prop}(d: ∀h w',Sat (Au E h (HS.new (JJ [] [] []))::Rs) w'->K (some ⟨h,0,none⟩) w'):F.Br E ⟨none,0,0⟩ ⟨none,0,0⟩ ⟨none,0,0⟩ K w:=
 MJ (a0:=⟨none,0,0⟩) (a1:=⟨none,0,0⟩) (a2:=⟨none,0,0⟩) H (pl:=[]) (rf:=[]) (fl:=[]) (by simp) (fun _ _=>show([]:List Value)=[]from rfl) rfl (by decide) (fun _ _=>show([]:List Value)=[]from rfl) rfl (by decide) (fun _ _=>show([]:List Value)=[]from rfl) rfl (by decide) d
end
structure Sc(S:HS)(x y b:Int):Prop where
 inv:Ag S no
 la:Dw S b
 id: ∀q,S.T.idle q=true↔x<=q/\q<y
 x0:512<=x
 xy:x<=y
 yb:y<=1048576
 ce: ∀j,(S.ca j).empty
structure Yh(S:HS)(i:Nat)(next b:Int):Prop where
 st:Mb S i next b []
 ce: ∀j,(S.ca j).empty
section
variable{S S2 S':HS}{n page x y b next:Int}{i:Nat}
theorem Yh.new:Yh (HS.new (JJ [] [] [])) 0 512 512:=⟨Mb.new [],fun j k=>rfl⟩
theorem Yh.Dd(h:Yh S i next b)(C:E9 S)(K:1<=n)(J:b+Ek n<=34359738368)(hf:Found S (-1) n page S2){id:Int}{X:FX}(T:Next S2 id X){z:Nat×SI}(hI:Ag (S2.Dd id z page n X) no):
  page=next/\id=(i:Int)+1/\X=⟨i+1,[]⟩/\Yh (S2.Dd id z page n X) (i+1) (next+n) (L4 next b n):=by
 obtain⟨rfl,h1,Y,_,N,_⟩:=h.st.Dd C C.PG K J hf T hI;rw[List.drop_nil]at N;obtain⟨_,_,_,_,_,_,v,_,_⟩:=hf.PG.row (a:=page) h.st.la C.PG h.st.fr h.st.le K J (fun O d=>L2 (by omega) d) fun O pg d=>UK (by omega) d;have v:S2.ca=S.ca:=v;refine⟨rfl,h1,Y,N,fun j=> ?_⟩;show(S2.ca j).empty;rw[v];exact h.ce j
theorem Io{T:TV}{q:Int}:T.idle q=true↔T.fr q=true/\ ¬T.rl q=true:=by
 unfold TV.idle;cases T.fr q<;>cases T.rl q<;>simp
theorem Yh.free(h:Yh S i next b){a:Nat}(j:Ag (S.free a page n) no)(h0:512<=page)(C:0<=n)(h1:page+n<=next)(J:next<=1048576):Sc (S.free a page n) page (page+n) b:=by
 refine⟨j,h.st.laid.Sa rfl rfl,fun q=> ?_,h0,by omega,by omega,h.ce⟩;rw[Io];show(S.T.fr q||inr page n q)=true/\ ¬S.T.rl q=true↔_;rw[h.st.gn.rl,Bool.or_eq_true,AU];have:=h.st.fr q;constructor
 ·rintro⟨h1|h1,d⟩
  ·exact absurd h1 d
  ·exact h1
 ·intro d;exact⟨.inr d,fun v=>by have:=this.1 v;omega⟩
theorem Sc.count(h:Sc S x y b)(j:E9 S):cP S.T.Fb-cP S.gone=S.AA+(y-x):=by
 have d:=h.inv;have x0:=h.x0;have xy:=h.xy;have yb:=h.yb;have v: ∀p,S.gone p=true↔S.T.rl p=true:=fun p=>by
  rw[DX];refine⟨fun g=>g.elim (fun g=>g) fun⟨i,C,g⟩=> ?_,.inl⟩;have:=HD (j.ci i C) g;rw[L0 (h.ce i)]at this;cases this
 have J: ∀p,¬S.I5 p=true:=fun p g=>by
  obtain⟨i,C,g⟩:=Dq.1 g;rw[L0 (h.ce i)]at g;cases g
 have K:cP S.T.Fb=cP S.gone+cP fun p=>decide (0<S.own p)||S.T.idle p:=by
  refine KB (fun p=> ?_) fun p a b=> ?_
  ·rw[Bool.eq_iff_iff,Bool.or_eq_true,Bool.or_eq_true,decide_eq_true_eq,v,Io];constructor
   ·intro g;rcases d.cv p g with g|g|g|g
    ·by_cases e:S.T.rl p=true
     ·exact .inl e
     ·exact .inr (.inr ⟨g,e⟩)
    ·exact absurd g (J p)
    ·exact .inr (.inl g)
    ·cases g
   ·rintro(g|g|g)
    ·exact j.tv.fi p (j.tv.rf p g)
    ·exact(d.ow p g).1
    ·exact j.tv.fi p g.1
  ·have Y:=j.tv.rf p ((v p).1 a);have:=(d.fn p Y).1;rw[Bool.or_eq_true,decide_eq_true_eq,Io]at b;rcases b with b|b
   ·omega
   ·exact b.2 ((v p).1 a)
 have N:(cP fun p=>decide (0<S.own p)||S.T.idle p)=(cP fun p=>decide (0<S.own p))+cP fun p=>S.T.idle p:=by
  refine KB (fun p=>rfl) fun p a b=> ?_;have a:=of_decide_eq_true a;have:=(d.fn p (Io.1 b).1).1;omega
 have O:(cP fun p=>S.T.idle p)=y-x:=by
  rw[<-MY (x:=x) (n:=y-x) (by omega) (by omega) (by omega)];refine OZ fun p _ _=> ?_;rw[Bool.eq_iff_iff,h.id,AU];omega
 rw[K,N,O,d.pg];omega
theorem Sc.F5(h:Sc S x y b)(K:E9 S){m:Int}(J:0<=n)(hs:FO S n S' m)(d:Ag S' no):m=min n (y-x)/\Sc S' x (y-m) b/\VP S S' (y-m) y:=by
 have x0:=h.x0;have xy:=h.xy;have yb:=h.yb;obtain⟨d1,d2⟩:=hs.row h.id h.xy (by omega) (by omega) J K.vv.JM;refine⟨d1,⟨d,⟨fun q=>by rw[d2.laid];exact h.la.la q,h.la.b0,h.la.b1,by rw[d2.hint];exact h.la.h0,by rw[d2.hint];exact h.la.h1,by rw[d2.pl];exact h.la.pl,by rw[d2.rf];exact h.la.rf⟩,fun q=> ?_,x0,by omega,by omega,fun j=>by rw[d2.ca];exact h.ce j⟩,d2⟩;have h0:=h.id q;rw[Io]at h0;rw[Io,d2.fr,d2.rl];constructor
 ·rintro⟨C,v⟩;have:=h0.1 ⟨C,fun h=>v (.inl h)⟩;have: ¬(y-m<=q/\q<y):=fun h=>v (.inr h);omega
 ·intro C;have:=h0.2 (by omega);exact⟨this.1,fun h=>h.elim this.2 fun h=>by omega⟩
end
noncomputable def Hv(u d r:Int):Int:=if u+d<=HL u (timesV u r)then 0 else u+d-HL u (timesV u r)
theorem Nm(a b:Int):a<=HL a b/\b<=HL a b/\(HL a b=a∨HL a b=b):=by unfold HL;split<;>omega
theorem QA{u d:Int}(r:Int)(j:0<=d):0<=Hv u d r/\Hv u d r<=d:=by
 unfold Hv;have:=Nm u (timesV u r);split<;>omega
section
variable{E:Env}{w:World}{Z:List Pr}{h pb tp:Nat}{S:HS}{x y b r:Int}
theorem LF(H:Sat (Au E h S::Cells pb tp [.pointer (some ⟨h,0,none⟩),.int .u64 r]::Z) w)(d:Sc S x y b){K:Int->World->Prop}
  (O: ∀w',Sat (Au E h S::Cells pb tp [.pointer (some ⟨h,0,none⟩),.int .u64 r]::Z) w'->K (Hv S.AA (y-x) r) w'):F.BT E (some ⟨pb,0,none⟩) K w:=by
 unfold F.BT T0.BT;simp only[AI];refine⟨_,(H.front 1 rfl).BI rfl,HE H d.inv fun T J=>⟨_,(J.front 1 rfl).cell rfl,?_⟩⟩;have N:=d.count J.BH;have hp:0<=S.AA/\S.AA<=34359738368:=by rw[d.inv.pg];exact GM _
 have xy:=d.xy;have yb:=d.yb;have x0:=d.x0;have Y:=WZ S.AA r;rw[N];clear N;have hm:=Nm S.AA (timesV S.AA r);refine O5 J fun v C=> ?_;have j:=O v C;unfold Hv at j;rw[AG (n:=S.AA+(y-x))];refine AE (fun g=> ?_) fun g=> ?_
 ·rw[if_pos g]at j;exact j
 ·rw[if_neg g]at j;show K (u64 (S.AA+(y-x)-HL S.AA (timesV S.AA r))) v;rw[AG];exact j
variable(hE:K7 E)
include hE
theorem Uf(H:Sat (Au E h S::Cells pb tp [.pointer (some ⟨h,0,none⟩),.int .u64 r]::Z) w)(j:Sc S x y b){Ii:Int}(m0:0<=Ii){K:Int->World->Prop}
  (N: ∀S' m w',m=min (min (Hv S.AA (y-x) r) Ii) (y-x)->Sc S' x (y-m) b->VP S S' (y-m) y->Sat (Au E h S'::Cells pb tp [.pointer (some ⟨h,0,none⟩),.int .u64 r]::Z) w'->K m w'):F.Bn E (some ⟨pb,0,none⟩) Ii K w:=by
 unfold F.Bn T0.Bn;simp only[AI];refine⟨_,(H.drew.front 1 rfl).BI rfl,LF H.drew j fun T v=>⟨(v.front 1 rfl).BI rfl,?_⟩⟩;have xy:=j.xy;have yb:=j.yb;have x0:=j.x0;have hw:=QA (u:=S.AA) (d:=y-x) r (by omega);have e:KX (Hv S.AA (y-x) r) Ii=min (Hv S.AA (y-x) r) Ii:=by unfold KX;split<;>omega
 rw[e];refine I6 hE v j.inv (by omega) (by omega) fun S' m hs _ _ C J O=> ?_;obtain⟨d1,d2,d3⟩:=j.F5 v.BH (by omega) hs C;exact N S' m J d1 d2 d3 O
theorem S9(H:Sat (Au E h S::Cells pb tp [.pointer (some ⟨h,0,none⟩),.int .u64 r]::Z) w)(d:Sc S x y b){bytes:Int}(m0:0<=bytes)(m1:bytes<18446744073709551616){K:Int->World->Prop}
  (v:(S.AA+(y-x))*8192<=bytes-> ∀w',Sat (Au E h S::Cells pb tp [.pointer (some ⟨h,0,none⟩),.int .u64 r]::Z) w'->K 0 w')
  (hK:bytes<(S.AA+(y-x))*8192-> ∀S' m w',m=min (((S.AA+(y-x))*8192-bytes+8191)/8192) (y-x)->Sc S' x (y-m) b->VP S S' (y-m) y->Sat (Au E h S'::Cells pb tp [.pointer (some ⟨h,0,none⟩),.int .u64 r]::Z) w'->K m w'):F.BU E (some ⟨pb,0,none⟩) bytes K w:=by
 unfold F.BU T0.BU;simp only[AI];refine⟨_,(H.front 1 rfl).BI rfl,HE H d.inv fun Y j=> ?_⟩;have T:=d.count j.BH;have hp:0<=S.AA/\S.AA<=34359738368:=by rw[d.inv.pg];exact GM _
 have xy:=d.xy;have yb:=d.yb;have x0:=d.x0;rw[T];clear T;refine AY fun t O=> ?_;rw[AG (n:=S.AA+(y-x)),AG (n:=(S.AA+(y-x))*8192)]at O;subst O;refine AE (fun g=>v g Y j) fun g=>⟨_,(j.front 1 rfl).BI rfl,by decide,?_⟩;rw[AG (n:=(S.AA+(y-x))*8192-bytes),AG (n:=(S.AA+(y-x))*8192-bytes+8192),AG (n:=(S.AA+(y-x))*8192-bytes+8192-1),Int.tdiv_eq_ediv_of_nonneg (by omega),AG];refine I6 hE j d.inv (by omega) (by omega) fun S' m hs _ _ N J C=> ?_;obtain⟨d1,d2,d3⟩:=d.F5 j.BH (by omega) hs N;exact hK (by omega) S' m J (by rw[d1];congr 2;omega) d2 d3 C
end
end Go.Sh
set_option linter.all false
set_option maxRecDepth 8000
set_option maxHeartbeats 4000000
namespace Go.Sh
section
variable{E:Env}{w:World}{Rs Z:List Pr}(hE:K7 E)
include hE
theorem QB{h:Nat}{S:HS}{i:Nat}{next b:Int}(hT: ∀w',Sat Z w'->GC E.AQ w')(H:Sat (Au E h S::Z) w)(v:Yh S i next b){n:Int}(J:1<=n)(aA:n<=1000)(hb:b<=100000){K:Int->Int->World->Prop}
  (hK: ∀T d,Yh T (i+1) (next+n) (L4 next b n)->T.sp ((i:Int)+1)=some (d,K8 next n 0 false)->(∀id,id≠(i:Int)+1->T.sp id=S.sp id)-> ∀w',Sat (Au E h T::Z) w'->K ((i:Int)+1) 0 w'):
  F.Bp E (some ⟨h,0,none⟩) (-1) n 0 false K w:=by
 have hu:=Oh n;refine WX hE hT H v.st.inv v.st.laid (lX J (by omega)) (by omega) (by omega) fun _ page S2 d id X hf hk N q0 q1 hX C O Y=> ?_;have es:=hf.same;obtain⟨rfl,rfl,rfl,j⟩:=v.Dd hk J (by omega) hf hX C;exact hK _ d j (if_pos rfl) (fun id RP=>by show(if id=(i:Int)+1 then _ else S2.sp id)=_;rw[if_neg RP,es.sp]) O Y
theorem Yi{h:Nat}{S:HS}{i:Nat}{next b:Int}(H:Sat (Au E h S::Z) w)(C:Yh S i next b)(O:next<=1048576){id page n:Int}{bl:Nat}(h0:512<=page)(hn:0<=n)(h1:page+n<=next)(hs:S.sp id=some (bl,K8 page n 0 false)){K:Int->World->Prop}
  (hK: ∀T,Sc T page (page+n) b->T.AA=next-512-n->(∀p,512<=p->p<next-> ¬(page<=p/\p<page+n)->0<T.own p)-> ∀w',Sat (Au E h T::Z) w'->K 0 w'):F.Cc E (some ⟨h,0,none⟩) id K w:=by
 refine Og hE H C.st.inv (fun e=>by rw[hs]at e;cases e) (fun y j hu=> ?_) fun y a j hu ha v N d=> ?_
 ·rw[hs]at j;cases j;exact absurd hu (by show ¬(0:Int)<0;decide)
 rw[hs]at j;cases j;have J:(K8 page n 0 false).base/8192=page:=by show page*8192/8192=page;omega
 have Y:(K8 page n 0 false).AA=n:=rfl;rw[J,Y]at v d;refine hK _ (C.free v h0 hn h1 O) ?_ (fun p p1 p2 p3=> ?_) N d
 ·show S.AA-n=_;rw[C.st.pg]
 ·show 0<(if page<=p/\p<page+n then 0 else S.own p);rw[if_neg p3];exact C.st.ow p p1 p2
theorem RF(hT: ∀w',Sat Z w'->GC E.AQ w')(H:Sat Z w){K:Bool->World->Prop}(hK: ∀w',Sat Z w'->K true w'):F.Cq E K w:=by
 unfold F.Cq T0.Cq;refine S8 H fun h w2 H2=>Ab rfl ?_;refine QB hE hT H2 Yh.new (by decide) (by decide) (by decide) fun T1 aB C aI _ w5 H5=> ?_;have aF:L4 512 512 100=1024:=by decide
 rw[aF]at C;refine QB hE hT H5 C (by decide) (by decide) (by decide) fun T2 aN aC aO aG w8 H8=> ?_;have aH:T2.sp ((0:Nat)+1)=some (aB,K8 512 100 0 false):=by rw[aG _ (by decide)];exact aI
 refine Ax (Ab rfl (Ab rfl (Yi hE H8 aC (by decide) (by decide) (by decide) (by decide) aH fun T hS hp _ aS O j=>Ab rfl ?_)));have hp:T.AA=1:=hp;unfold F.Ic;refine Am (vs:=[.pointer (some ⟨h,0,none⟩),.int .u64 4607632778762754458]) O fun pb aT aJ _=>Ao rfl ?_;refine LF (aJ.front 1 rfl) hS fun aQ aD=> ?_;have e1:Hv 1 (512+100-512) 4607632778762754458=100:=by unfold Hv;rw[Sd];decide
 rw[hp,e1];refine Ao rfl (Uf hE aD hS (by decide) fun S' m aY hm J hR N=> ?_);rw[hp,e1]at hm;have hm:m=16:=hm;subst hm;have v:S'.AA=1:=by rw[hR.AA];exact hp
 refine Ao rfl (LF N J fun aP aA=> ?_);have e2:Hv 1 (512+100-16-512) 4607632778762754458=84:=by unfold Hv;rw[Sd];decide
 rw[v,e2];refine Ao rfl (S9 hE aA J (by decide) (by decide) (fun g=> ?_) fun g S3 m3 Y d _ _ aE=> ?_)
 ·rw[v]at g;exact absurd g (by decide)
 ·rw[v]at d;have d:m3=84:=d;subst d;exact hK Y aE.tail.tail
end
end Go.Sh
set_option linter.all false
namespace Go.Sh
open Ieee
theorem aV{x:Nat}(h:((Cd x 4895412794951729152==some .gt)||(Cd x 4895412794951729152==some .eq))=true):((Cd x 4607182418800017408==some .gt)||(Cd x 4607182418800017408==some .eq))=true:=by
 rw[L5,lY]at h;rw[L5,sY];generalize rd x=d at *
 cases d with
 | nan s t=>simp[Datum.order]at h
 | infinity s=>
  cases s
  ·simp[Datum.order]
  ·simp[Datum.order]at h
 | number s m i=>
  simp only[Datum.order]at h⊢;have q:=YH h;rw[Im]at q;have key:signed false 4503599627370496 (-52-min i (-52)).toNat<=signed s m (i-min i (-52)).toNat:=by
   rw[Im];cases s with
   | true=>
    rw[Sb]at q;have:0<4503599627370496*2^(12-min i 12).toNat:=Nat.mul_pos (by decide) (Nat.pow_pos (by decide));omega
   | false=>
    rw[Im]at q⊢;have q:4503599627370496*2^(12-min i 12).toNat<=m*2^(i-min i 12).toNat:=by exact_mod_cast q
    suffices 4503599627370496*2^(-52-min i (-52)).toNat<=m*2^(i-min i (-52)).toNat by exact_mod_cast this
    by_cases h1:i<= -52
    ·rw[Int.min_eq_left h1,show(i-i).toNat=0 by omega,Nat.pow_zero,Nat.mul_one];rw[Int.min_eq_left (by omega),show(i-i).toNat=0 by omega,Nat.pow_zero,Nat.mul_one]at q;exact Nat.le_trans (Nat.mul_le_mul_left _ (Nat.pow_le_pow_right (by decide) (by omega))) q
    ·rw[Int.min_eq_right (by omega),show(-52- -52:Int).toNat=0 by decide,Nat.pow_zero,Nat.mul_one];by_cases h2:i<=12
     ·rw[Int.min_eq_left h2,show(i-i).toNat=0 by omega,Nat.pow_zero,Nat.mul_one]at q;have a1:4503599627370496*1<=4503599627370496*2^(12-i).toNat:=Nat.mul_le_mul_left _ (Nat.pow_pos (by decide));have a2:m*1<=m*2^(i- -52).toNat:=Nat.mul_le_mul_left _ (Nat.pow_pos (by decide));omega
     ·rw[Int.min_eq_right (by omega),show(12-12:Int).toNat=0 by decide,Nat.pow_zero,Nat.mul_one]at q;exact Nat.le_trans q (Nat.mul_le_mul_left _ (Nat.pow_le_pow_right (by decide) (by omega)))
  rcases Int.lt_or_eq_of_le key with g|g
  ·have:compare (signed s m (i-min i (-52)).toNat) (signed false 4503599627370496 (-52-min i (-52)).toNat)= .gt:=by
    rw[Int.compare_eq_gt];exact g
   rw[this];rfl
  ·have:compare (signed s m (i-min i (-52)).toNat) (signed false 4503599627370496 (-52-min i (-52)).toNat)= .eq:=by
    rw[Int.compare_eq_eq];exact g.symm
   rw[this];rfl
end Go.Sh

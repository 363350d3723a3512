/- What the law's functions do. No further condition. -/
import Derived.Test.YtnhmgaodhjgdaaaGreatDoorJ
import Derived.Test.YtnhmgaodhjgdaaaGreatDoorA
import Derived.Test.YtnhmgaodhjgdaaaGreatDoorL
set_option linter.all false
set_option maxRecDepth 50000
set_option maxHeartbeats 16000000
namespace Go.Sh
def lL:((OK.drop 1).all λc=>decide (c.1 %16=0∨c.1=8∨c.1=24))=true:=by decide+kernel
def cls16{c:Int}(h0:0<c)(h1:c<68):(Au c).1 %16=0∨(Au c).1=8∨(Au c).1=24:=by
 have h:=Lb (c:=c) (by omega) h1;have a:(OK.drop 1)[c.toNat-1]? =some (Au c):=by rw[List.getElem?_drop,show 1+(c.toNat-1)=c.toNat by omega];exact h
 exact of_decide_eq_true (List.all_eq_true.1 lL _ (List.mem_of_getElem? a))
def clsAt1:(Au 1).1=8:=by decide+kernel
def sC:(Au 2).1=16:=by decide+kernel
def bit24: ∀n:Nat,n<25->16<n->DQ .u64 0 (n:Int) (u64 ((n:Int)-1))≠0:=by decide+kernel
def size_le{n cls pg:Int}(h:Fz n cls pg):n<=Ii n cls:=by
 unfold Ii;rcases h with ⟨_,a,_⟩|⟨_,rfl,_⟩
 .have:=a.k0;rw[if_neg (by omega)];exact a.le
 .rw[if_pos rfl];omega
def size16{n cls pg:Int}(h:Fz n cls pg)(h0:16<=n)(m:n<=32768)(d:DQ .u64 0 n (u64 (n-1))=0):Ii n cls %16=0:=by
 rcases h with ⟨_,a,_⟩|⟨g,_⟩
 .have k0:=a.k0;have hle:=a.le;unfold Ii;rw[if_neg (by omega)];rcases cls16 k0 a.k1 with e|e|e
  .exact e
  .omega
  .have VL:16<n:=by
    by_cases c2:2<cls
    .have:=a.lt 2 (by omega) c2;rw[sC]at this;exact this
    .rcases(by omega:cls=1∨cls=2)with rfl|rfl
     .rw[clsAt1]at e;omega
     .rw[sC]at e;omega
   have:=bit24 n.toNat (by omega) (by omega);rw[show((n.toNat:Nat):Int)=n by omega]at this;exact absurd d this
 .omega
section
variable{E:Env}{rb wb:Nat}{g:NW}{S:Cr}{G:WdG}{seen:Int}{zs:List Int}{BL:List (Bk×Int)}{Z:List Pr}{w:World}{U M:BA}{n:Nat}{B Bw:List Bk}
def Xv(H:Sat (AA E rb g S++(Be E wb rb G seen zs BL++Z)) w){a z:Int}(ha:0<=a/\0<=z/\a+z<=281474976710656)(Y: ∀p∈BL,(0<=p.1.a/\0<=p.1.z/\p.1.a+p.1.z<=281474976710656)/\(p.1.a+p.1.z<=a∨a+z<=p.1.a)){K:Bool->World->Prop}
  (T: ∀w',Sat (AA E rb g S++(Be E wb rb G seen zs BL++Z)) w'->K false w'):F.DS E (some ⟨wb,0,none⟩) a z K w:=by
 unfold F.DS;have hl:=(sB H).JJ (by decide) Ju;refine AM (λst w'=> ∃k:Nat,st.1=(k:Int)/\k<=BL.length/\Sat (AA E rb g S++(Be E wb rb G seen zs BL++Z)) w') (λst _=>((BL.length:Int)-st.1).toNat) ⟨0,rfl,Nat.zero_le _,H⟩ ?_;rintro⟨k',u⟩ _ w2 ⟨k,O,aB,v⟩;dsimp only at O⊢;subst O;refine AH ⟨_,Rf v (k:=1) rfl,AG (λaC=> ?_) λaA=>T w2 v⟩;have e:k<BL.length:=by omega
 obtain⟨p,hp⟩: ∃p,BL[k]? =some p:=⟨_,List.getElem?_eq_getElem e⟩;obtain⟨h1,h2⟩:=Y p (List.mem_of_getElem? hp);have d:=v.drew;obtain⟨c,m⟩:=(sB d).L9 (by decide) Ju e;have J:=(sB d).Gk Ju m hp (j:=0) rfl;have q1:=(sB d).Gk Ju m hp (j:=1) rfl;rw[Nat.add_zero]at J;have ex:i64 ((k:Int)+1)=((k+1:Nat):Int):=by rw[AI];rfl
 refine AZ (AH ⟨_,Rf d (k:=1) rfl,E5 m ⟨⟨by omega,by omega⟩,_,by rw[Int.toNat_natCast];exact J,AH ⟨_,Rf d (k:=1) rfl,E5 m ⟨⟨by omega,by omega⟩,_,by rw[Int.toNat_natCast,add_add];exact q1,?_⟩⟩⟩⟩);rw[AR (n:=p.1.a+p.1.z)];refine AG (λg1=>AH ⟨_,Rf d (k:=1) rfl,E5 m ⟨⟨by omega,by omega⟩,_,by rw[Int.toNat_natCast];exact J,λjj=> ?_⟩⟩) λg1 jj=> ?_
 .rw[AR (n:=a+z)];refine AO (decide_eq_false (by omega)) ?_;rw[ex];exact⟨⟨k+1,rfl,by omega,d⟩,by omega⟩
 .refine AO rfl ?_;rw[ex];exact⟨⟨k+1,rfl,by omega,d⟩,by omega⟩
def RX(hE:FN E)(H:Sat (AA E rb g S++(Be E wb rb G seen zs BL++Z)) w)(Y:ID S.W S.C U M n B Bw)(aD: ∀p∈BL,p.1∈Bw)(VL: ∀p∈Bw,16<=p.z){K:Bool->World->Prop}
  (hK: ∀w',Sat (AA E rb g S++(Be E wb rb G seen zs BL++Z)) w'->K true w'):F.B4 E (some ⟨wb,0,none⟩) K w:=by
 unfold F.B4 T0.B4;have hl:=(sB H).JJ (by decide) Ju;refine AM (λst w'=> ∃k:Nat,st.1=(k:Int)/\k<=BL.length/\Sat (AA E rb g S++(Be E wb rb G seen zs BL++Z)) w') (λst _=>((BL.length:Int)-st.1).toNat) ⟨0,rfl,Nat.zero_le _,H⟩ ?_;rintro⟨k',u⟩ _ w2 ⟨k,hk,aO,H2⟩;dsimp only at hk⊢;subst hk;refine AH ⟨_,Rf H2 (k:=1) rfl,AG (λaP=> ?_) λaN=>hK w2 H2⟩;have m:k<BL.length:=by omega
 obtain⟨p,hp⟩: ∃p,BL[k]? =some p:=⟨_,List.getElem?_eq_getElem m⟩;have J:=aD p (List.mem_of_getElem? hp);have aA:=Y.sub p.1 J;have aG:=VL p.1 J;obtain⟨⟨a0,a8⟩,_,aK⟩:=Y.at8 aA;obtain⟨x,hB,aQ,aR⟩:=Y.isB aA;have v:=H2.drew;obtain⟨c,hc⟩:=(sB v).L9 (by decide) Ju m;have rd: ∀{w'},Sat (AA E rb g S++(Be E wb rb G seen zs BL++Z)) w'->w'.cell? ((Addr.mk c 0 none).add (Int.toNat (k:Int)*3))=some (.int .u64 p.1.a):=λh=>by
  have:=(sB h).Gk Ju hc hp (j:=0) rfl;rwa[Nat.add_zero]at this
 refine AH ⟨_,RW v,AH ⟨_,G7 v,AH ⟨_,Rf v (k:=1) rfl,E5 hc ⟨⟨by omega,by omega⟩,_,rd v,?_⟩⟩⟩⟩;rw[AR (n:=p.1.a+8)];obtain⟨_,HH,_,_⟩:=(v.front 11 rfl:Sat (AQ E g.a.b g.a.h g.a.s g.a.r S.W::_) _).Gf;have BU:=HH.BU;obtain⟨R3,aC,_,e⟩:=OW v;have T:Sat (MK E g.a false S.ma S.cy::AQ E g.a.b g.a.h g.a.s g.a.r S.W::IW E g.a.mq::R3) _:=aC;refine Zp hE.toS T Y.inv BU hB (a:=p.1.a+8) ⟨by omega,by omega⟩ (by omega) λw5 H5=> ?_;have O:Sat (AA E rb g S++(Be E wb rb G seen zs BL++Z)) w5:=e H5;refine⟨rd O,Rf O (k:=1) rfl,RW O,?_⟩;have d:=Y.wd p.1 J;unfold Xs at d;rw[d];refine AZ (AH ⟨_,Rf O (k:=1) rfl,E5 hc ⟨⟨by omega,by omega⟩,_,rd O,EO (λc=>absurd rfl c) λ_ jj=>AO rfl ?_⟩⟩);rw[show i64 ((k:Int)+1)=((k+1:Nat):Int) by rw[AI];rfl];exact⟨⟨k+1,rfl,by omega,O⟩,by omega⟩
def ID.align(e:ID S.W S.C U M n B Bw){q:Bk}(J:q∈B){nn cls pg:Int}(hw:Fz nn cls pg)(hz:q.z=Ii nn cls):(32768<nn->q.a %8192=0)/\(q.z %16=0->q.a %16=0):=by
 obtain⟨x,v,O,d⟩:=e.isB J;have T:=(e.inv.sp _ x v.sp).1.ba;refine⟨λg=> ?_,λg=> ?_⟩
 .rcases hw with ⟨K,_⟩|⟨_,rfl,_⟩
  .omega
  .unfold Ii at hz;rw[if_pos rfl]at hz;have h1:x.2.elem %8192=0:=by omega
   have u:(q.m*x.2.elem:Int) %8192=0:=by rw[Int.mul_emod,h1,Int.mul_zero];rfl
   omega
 .rw[d]at g;have u:(q.m*x.2.elem:Int) %16=0:=by rw[Int.mul_emod,g,Int.mul_zero];rfl
  omega
def Xw(hE:FN E)(H:Sat (AA E rb g S++(Be E wb rb G seen zs BL++Z)) w){q:Bk}(hT:ID S.W S.C U M n (q::Bw) Bw)(a2: ∀p∈BL,p.1∈Bw){k:Nat}{nn cls pg:Int}(hk:zs[k]? =some nn)(n0:16<=nn)(n1:nn<=1000000)(hw:Fz nn cls pg)(hz:q.z=Ii nn cls)(bE:BL.length<500000){K:Bool->World->Prop}
  (hK: ∀G' W' w',ID W' S.C U M n (q::Bw) (q::Bw)->W'.S.V.rf=S.W.S.V.rf->Sat (AA E rb g {S with W:=W'}++(Be E wb rb G' seen zs (BL++[(q,(k:Int))])++Z)) w'->K true w'):
  F.B0 E (some ⟨wb,0,none⟩) (k:Int) q.a q.z 0 K w:=by
 unfold F.B0 T0.B0;have aB:q∈q::Bw:=List.mem_cons_self ..;obtain⟨⟨a0,a8⟩,⟨z8,z0⟩,aX⟩:=hT.at8 aB;obtain⟨aY,aZ⟩:=hT.align aB hw hz;have bV:=(List.getElem?_eq_some_iff.1 hk).1;have bU:=size_le hw;have hl:=(sB H).JJ (by decide) Ju;refine AJ (vs:=[.int .u64 q.a,.int .u64 q.z,.int .i64 0]) H λb1 w2 H2 _=>AH ⟨_,Rf H2.tail (k:=3) rfl,?_⟩;have a7:=(H2.tail.front 14 rfl:Sat (Row E.AE 1 G.zs (ints .u64 zs)::_) w2).Bs;rw[ints,List.length_map,Nat.mul_one]at a7;refine(H2.tail.front 14 rfl:Sat (Row E.AE 1 G.zs (ints .u64 zs)::_) w2).Ol (j:=k) (v:=.int .u64 nn) (by rw[ints,List.getElem?_map,hk];rfl) λc _ hc=>⟨⟨by omega,by omega⟩,_,by rw[Int.toNat_natCast,Nat.mul_one];exact hc,AO (decide_eq_false (by omega)) ?_⟩;refine eE hE hE.toS H2 n0 n1 hw λw3 Y=> ?_;have O: ∀(K':Bool->World->Prop) w',Sat (Cells b1 E.Aj [.int .u64 q.a,.int .u64 q.z,.int .i64 0]::(AA E rb g S++(Be E wb rb G seen zs BL++Z))) w'->(∀T,Sat (Cells b1 E.Aj [.int .u64 q.a,.int .u64 q.z,.int .i64 0]::(AA E rb g S++(Be E wb rb G seen zs BL++Z))) T->K' false T)->F.DS E (some ⟨wb,0,none⟩) q.a q.z K' w':=λK' w' h' a5=>by
  have h1:Sat (AA E rb g S++(Be E wb rb G seen zs BL++(Cells b1 E.Aj [.int .u64 q.a,.int .u64 q.z,.int .i64 0]::Z))) w':=by
   have:=h'.perm (List.perm_middle (l₁:=AA E rb g S++Be E wb rb G seen zs BL) (l₂:=Z)).symm|>λh=>h;rw[List.append_assoc]at this;exact this
  refine Xv h1 ⟨a0,by omega,aX⟩ (λp hp=> ?_) λT J=>a5 T ?_
  .have aL:=a2 p hp;have aK:p.1∈q::Bw:=hT.sub _ aL;obtain⟨⟨b0,_⟩,⟨_,bz⟩,a1⟩:=hT.at8 aK;refine⟨⟨b0,by omega,a1⟩,?_⟩;have:=hT.apart aK aB λe=>(List.nodup_cons.1 hT.nd).1 (by rw[<-e];exact List.mem_map.2 ⟨p.1,aL,rfl⟩);omega
  .have h2:Sat ((AA E rb g S++Be E wb rb G seen zs BL)++(Cells b1 E.Aj [.int .u64 q.a,.int .u64 q.z,.int .i64 0]::Z)) T:=by rw[List.append_assoc];exact J
   have h3:=h2.perm (List.perm_middle (l₁:=AA E rb g S++Be E wb rb G seen zs BL) (l₂:=Z));rw[List.append_assoc]at h3;exact h3
 have d: ∀{X:List Pr} {w'},Sat (Cells b1 E.Aj [.int .u64 q.a,.int .u64 q.z,.int .i64 0]::X) w'->w'.cell? (Addr.mk b1 0 none)=some (.int .u64 q.a)/\w'.cell? ((Addr.mk b1 0 none).add 1)=some (.int .u64 q.z):=λh=>⟨h.AU (o:=0) rfl,h.cell (o:=0) (m:=1) rfl⟩;have m8: ¬((Int.tmod q.a 8:Int) !=0)=true:=by rw[Int.tmod_eq_emod_of_nonneg a0,a8];decide
 refine AV (λs w'=>s.1=false/\Sat (Cells b1 E.Aj [.int .u64 q.a,.int .u64 q.z,.int .i64 0]::(AA E rb g S++(Be E wb rb G seen zs BL++Z))) w') ?_ ?_
 .refine AO rfl ⟨_,(d Y).2,EO (λc=>absurd hz c) λ_=>⟨_,(d Y).1,by decide,EO (λc=>absurd (by rw[Int.tmod_eq_emod_of_nonneg a0];exact a8) c) λ_=>AG (λaH=> ?_) λhsm=> ?_⟩⟩
  .have aE:=aY aH;refine⟨_,(d Y).1,by decide,EO (λc=>absurd (by rw[Int.tmod_eq_emod_of_nonneg a0];exact aE) c) λ_=> ?_⟩;refine Cj (λ_=>⟨_,(d Y).1,by decide,EO (λc=>absurd (by rw[Int.tmod_eq_emod_of_nonneg a0];omega) c) λ_=>⟨_,(d Y).1,_,(d Y).2,O _ _ Y λT J=>⟨rfl,J⟩⟩⟩) λ_=>⟨_,(d Y).1,_,(d Y).2,O _ _ Y λT J=>⟨rfl,J⟩⟩
  .refine Cj (λhb=> ?_) λ_=>⟨_,(d Y).1,_,(d Y).2,O _ _ Y λT J=>⟨rfl,J⟩⟩;have VL:=aZ (by rw[hz];exact size16 hw n0 (by omega) hb);exact⟨_,(d Y).1,by decide,EO (λc=>absurd (by rw[Int.tmod_eq_emod_of_nonneg a0];exact VL) c) λ_=>⟨_,(d Y).1,_,(d Y).2,O _ _ Y λT J=>⟨rfl,J⟩⟩⟩
 .rintro⟨s,u⟩ _ w4 ⟨rfl,H4⟩;have Hd:=H4.drew;obtain⟨x,hB,bS,bT⟩:=hT.isB aB;have Hr:=JR Hd;obtain⟨_,HH,_,_⟩:=(Hr.front 11 rfl:Sat (AQ E g.a.b g.a.h g.a.s g.a.r S.W::_) _).Gf;have BU:=HH.BU;refine AO rfl (AH ⟨_,RW Hd.tail,AH ⟨_,G7 Hd.tail,_,(d Hd).1,_,(d Hd).1,?_⟩⟩);rw[AR (n:=q.a+8)];obtain⟨R3,aV,_,aD⟩:=OW Hr;have aF:Sat (MK E g.a false S.ma S.cy::AQ E g.a.b g.a.h g.a.s g.a.r S.W::IW E g.a.mq::R3) _:=aV;have aJ:rE x.2 q.m (q.a+8):=⟨by omega,by omega⟩;have aM:=hB.ready hT.inv BU aJ;refine Xi hE.toS aF hT.inv BU hB (a:=q.a+8) (v:=x9 q.a) aJ (by omega) λa3 w5 H5=> ?_;have a4:=hT.store aB (λp hp=>(hT.at8 hp).1) a3 aM;have H6:Sat (AA E rb g {S with W:={S.W with S:=S.W.S.U4 (EC S.W.S.V (q.a+8) (x9 q.a))}}++Cells b1 E.Aj [.int .u64 q.a,.int .u64 q.z,.int .i64 0]::(Be E wb rb G seen zs BL++Z)) w5:=aD H5;have H7:=QE H6;have a6:(EC S.W.S.V (q.a+8) (x9 q.a)).rf=S.W.S.V.rf:=by unfold EC;split<;>rfl
  refine⟨(d H7).1,(d H7).1,RW H7.tail,AO rfl (AH ?_)⟩;have aC:=H7.drew;refine⟨_,Rf aC.tail (k:=1) rfl,_,(d aC).1,_,(d aC).2,?_⟩;refine AJ (vs:=VO (q,(k:Int))) aC λb8 w8 H8 _=>⟨(d (H8.front 1 rfl)).2,(d (H8.front 1 rfl)).1,Rf H8.tail.tail (k:=1) rfl,?_⟩;refine GJ (news:=VO (q,(k:Int))) (H8.Bh 14 rfl) rfl rfl (xE _) (by show(G.bs.len+1)*24<=_;omega) (by omega) λs9 w9 H9 _=> ?_;have aI:w9.cell? ((Addr.mk b1 0 none).add 1)=some (.int .u64 q.z)/\w9.cell? (Addr.mk b1 0 none)=some (.int .u64 q.a):=⟨(d (H9.front 1 rfl)).2,(d (H9.front 1 rfl)).1⟩;refine⟨aI.1,aI.2,AH ?_⟩;have eB:DI VO BL++VO (q,(k:Int))=DI VO (BL++[(q,(k:Int))]):=by unfold DI;rw[List.flatMap_append];simp
  rw[eB]at H9
  let Q:Cr:={S with W:={S.W with S:=S.W.S.U4 (EC S.W.S.V (q.a+8) (x9 q.a))}}
  let CA:Pr:=Cells b1 E.Aj [.int .u64 q.a,.int .u64 q.z,.int .i64 0]
  have aS:Sat (CA::(AA E rb g Q++([Cells wb E.Ar (Dx rb G seen),Row E.Ab 3 s9 (DI VO (BL++[(q,(k:Int))])),Row E.AE 1 G.zs (ints .u64 zs),Row E.Ag 1 G.ks (ints .i64 (zs.map λ_=>1)),Row E.Bi 1 G.es (zs.map λ_=>.slice none 0 0)]++Z))) w9:=
   Sat.back (Ps:=CA::(AA E rb g Q++(Be E wb rb G seen zs BL++Z))) 14 H9 (by simp[AA,Be])
  refine Ah (aS.front 13 rfl) (o:=0) (m:=1) (v:=.slice s9.base s9.len s9.cap) rfl (by simp[Dx]) λaN aT=> ?_;have aU:Sat (CA::(AA E rb g Q++(Be E wb rb ⟨s9,G.zs,G.ks,G.es⟩ seen zs (BL++[(q,(k:Int))])++Z))) aN:=
   Sat.back (Ps:=CA::(AA E rb g Q++([Cells wb E.Ar (Dx rb G seen),Row E.Ab 3 s9 (DI VO (BL++[(q,(k:Int))])),Row E.AE 1 G.zs (ints .u64 zs),Row E.Ag 1 G.ks (ints .i64 (zs.map λ_=>1)),Row E.Bi 1 G.es (zs.map λ_=>.slice none 0 0)]++Z))) 13 aT (by simp[AA])
  exact hK _ _ aN a4 a6 aU.tail
end
section
variable{E:Env}{rb wb:Nat}{g:NW}{S:Cr}{G:WdG}{seen:Int}{zs:List Int}{BL:List (Bk×Int)}{Z:List Pr}{w:World}{U M:BA}{n:Nat}{B Bw:List Bk}
def xF{P:Pr}(H:Sat (P::(AA E rb g S++(Be E wb rb G seen zs BL++Z))) w):Sat (AA E rb g S++(Be E wb rb G seen zs BL++P::Z)) w:=by
 have:=H.perm (List.perm_middle (l₁:=AA E rb g S++Be E wb rb G seen zs BL) (l₂:=Z)).symm;rw[List.append_assoc]at this;exact this
def Z0{P:Pr}(H:Sat (AA E rb g S++(Be E wb rb G seen zs BL++P::Z)) w):Sat (P::(AA E rb g S++(Be E wb rb G seen zs BL++Z))) w:=by
 have d:Sat ((AA E rb g S++Be E wb rb G seen zs BL)++P::Z) w:=by rw[List.append_assoc];exact H
 have a:=d.perm (List.perm_middle (l₁:=AA E rb g S++Be E wb rb G seen zs BL) (l₂:=Z));rw[List.append_assoc]at a;exact a
def RY(hE:FN E){k:Nat}(H:Sat (AA E rb g S++(Be E wb rb G (k:Int) zs BL++Z)) w)(hR:Rest S)(hL:S.L.length=k+1)(hz:zs.length=k+1)(bA:k<500000){y:Nat×Ak}(hy:S.L[k]? =some y){nn cls pg:Int}(aB:zs[k]? =some nn)(n0:16<=nn)(n1:nn<=1000000){q:Bk}(aI: ∀p∈BL,p.1∈Bw)(aA:BL.length<500000)
  (hc:(y.2.co=0/\y.2.ad=q.a/\y.2.nn=q.z/\ID S.W S.C U M n (q::Bw) Bw/\Fz nn cls pg/\q.z=Ii nn cls)∨y.2.co=13){K:Bool->World->Prop}
  (aJ:y.2.co=0-> ∀G' W' w',ID W' S.C U M n (q::Bw) (q::Bw)->W'.S.V.rf=S.W.S.V.rf->Sat (AA E rb g {S with W:=W'}++(Be E wb rb G' ((k+1:Nat):Int) zs (BL++[(q,(k:Int))])++Z)) w'->K true w')
  (aK:y.2.co=13-> ∀w',Sat (AA E rb g S++(Be E wb rb G ((k+1:Nat):Int) zs BL++Z)) w'->K true w'):F.B3 E (some ⟨wb,0,none⟩) K w:=by
 unfold F.B3 T0.B3;have bC:S.ord.length=k+1:=by rw[hR.or,Zx,hL]
 refine AH ⟨_,RW H,Xq H (by omega) λs w2 H2=> ?_⟩;have aS:=H2.Bs;rw[ints,List.length_map,Nat.mul_one]at aS
 let RO:Pr:=Row E.Ag 1 s (ints .i64 S.ord)
 have H3:Sat (AA E rb g S++(Be E wb rb G (k:Int) zs BL++RO::Z)) w2:=xF H2;refine AM (λ_ w'=>Sat (AA E rb g S++(Be E wb rb G (k:Int) zs BL++RO::Z)) w'∨(w'.cell? ((Addr.mk wb 0 none).add 5)=some (.int .i64 ((k+1:Nat):Int))/\K true w')) (λ_ w'=>match w'.cell? ((Addr.mk wb 0 none).add 5)with
  | some (.int .i64 v)=>((k+1:Nat)-v:Int).toNat
  | _=>0) (.inl H3) ?_
 rintro u _ w4 (H4|⟨h5,hK⟩)
 .have J:=Rf H4 (k:=5) rfl;rw[J];refine AH ⟨_,J,AG (λ_=> ?_) λaO=>absurd (by omega) aO⟩;refine AH ⟨_,J,?_⟩;have hv:(ints .i64 S.ord)[k]? =some (.int .i64 (k:Int)):=by
   rw[ints,hR.or,upto,List.getElem?_map,List.getElem?_map,List.getElem?_range (by omega)];rfl
  refine(Z0 H4).Ol (j:=k) hv λa _ ha=>⟨⟨by omega,by omega⟩,_,by rw[Int.toNat_natCast,Nat.mul_one];exact ha,?_⟩;refine AH ⟨_,J,AH ?_⟩;refine Ah (H4.front 12 rfl) (o:=0) (m:=5) rfl (by simp[Dx]) λw5 H5=> ?_;have e1:i64 ((k:Int)+1)=((k+1:Nat):Int):=by rw[AI];rfl
  rw[e1]at H5;have H6:Sat (AA E rb g S++(Be E wb rb G ((k+1:Nat):Int) zs BL++RO::Z)) w5:=Sat.back (Ps:=AA E rb g S++(Be E wb rb G (k:Int) zs BL++RO::Z)) 12 H5 (by simp[AA,Be]);refine AH ⟨_,RW H6,Jt H6 hy (hR.dn k y hy) λw7 H7=> ?_⟩;refine AJ (vs:=[.int .u64 0,.int .u64 0,.int .i64 0]) H7 λa2 w8 H8 _=> ?_;refine CN (news:=[.int .u64 y.2.ad,.int .u64 y.2.nn,.int .i64 y.2.co]) H8 rfl (by intro v hv;simp only[List.mem_cons,List.not_mem_nil,or_false]at hv;rcases hv with rfl|rfl|rfl<;>rfl) λw9 d=>AO rfl ?_;have aD: ∀{X:List Pr} {w'},Sat (X++[]) w'->True:=λ_=>trivial;have kd: ∃a,G.ks.base=some a/\w9.cell? (a.add (Int.toNat (k:Int)*1))=some (.int .i64 1):=by
   have h:=(d.tail.front 15 rfl:Sat (Row E.Ag 1 G.ks (ints .i64 (zs.map λ_=>1))::_) w9);obtain⟨a,ha⟩:=h.own.Gj (by have:=h.Bs;rw[ints,List.length_map,List.length_map,Nat.mul_one]at this;omega);refine⟨_,ha,?_⟩;rw[Int.toNat_natCast,Nat.mul_one];exact h.own.cell ha (by rw[ints,List.getElem?_map,List.getElem?_map,aB];rfl)
  have bB:zs.length=G.ks.len:=by
   have:=(d.tail.front 15 rfl:Sat (Row E.Ag 1 G.ks (ints .i64 (zs.map λ_=>1))::_) w9).Bs;rw[ints,List.length_map,List.length_map,Nat.mul_one]at this;exact this
  obtain⟨ka,T,Y⟩:=kd;have mu: ∀{G':WdG} {S':Cr} {g':NW} {aG:List (Bk×Int)} {Z':List Pr} {w'},Sat (AA E rb g' S'++(Be E wb rb G' ((k+1:Nat):Int) zs aG++Z')) w'->w'.cell? ((Addr.mk wb 0 none).add 5)=some (.int .i64 ((k+1:Nat):Int)):=λh=>Rf h (k:=5) rfl;refine AZ (AH ⟨_,Rf d.tail (k:=4) rfl,E5 T ⟨⟨by omega,by omega⟩,_,Y,Aa rfl ⟨_,d.cell (o:=0) (m:=2) rfl,λjj=> ?_⟩⟩⟩);rcases hc with ⟨e,aN,aP,hT,hw,aQ⟩|e
  .rw[e,aN,aP]at d;rw[e];refine Aa rfl ⟨_,d.cell (o:=0) (m:=0) rfl,_,d.cell (o:=0) (m:=1) rfl,_,d.cell (o:=0) (m:=2) rfl,?_⟩;refine Xw hE (xF d) hT aI aB n0 n1 hw aQ aA λG' W' aT aM aR O=>AO rfl ⟨.inr ⟨mu O,aJ e G' W' aT aM aR (Z0 (Z0 O).tail).tail⟩,?_⟩;rw[mu O];show(((k+1:Nat):Int)-((k+1:Nat):Int)).toNat<(((k+1:Nat):Int)-(k:Int)).toNat;omega
  .rw[e]at d⊢;refine AO rfl (AZ (AH ⟨_,Rf d.tail (k:=4) rfl,E5 T ⟨⟨by omega,by omega⟩,_,Y,AO rfl λjk=>AO rfl ?_⟩⟩));refine AZ (AH ⟨_,Rf d.tail (k:=4) rfl,E5 T ⟨⟨by omega,by omega⟩,_,Y,AO rfl λjk=>AO rfl ?_⟩⟩);refine⟨.inr ⟨mu d.tail,aK e w9 (Z0 d.tail).tail⟩,?_⟩;rw[mu d.tail];show(((k+1:Nat):Int)-((k+1:Nat):Int)).toNat<(((k+1:Nat):Int)-(k:Int)).toNat;omega
 .refine AH ⟨_,h5,AO (decide_eq_false (by omega)) hK⟩
end
section
variable{E:Env}{w:World}{Rs Z:List Pr}
def Vh(H:Sat Rs w){a0 a1 a2:AW}{pl:List Int}{rf:List Bool}{fl:List Int}
  (h0: ∀w',Sat Rs w'->rowAt w' a0.base a0.len (ints .u64 pl))(l0:pl.length=a0.len)(k0:a0.len<=1099511627776)
  (h1: ∀w',Sat Rs w'->rowAt w' a1.base a1.len (F8 rf))(l1:rf.length=a1.len)(k1:a1.len<=1099511627776)
  (Y: ∀w',Sat Rs w'->rowAt w' a2.base a2.len (ints .u64 fl))(l2:fl.length=a2.len)(k2:a2.len<=1099511627776)
  {K:AW->AW->AW->World->Prop}(hK: ∀s0 s1 s2 w',Sat (Row E.AE 1 s0 (ints .u64 pl)::Row E.Bb 1 s1 (F8 rf)::Row E.AE 1 s2 (ints .u64 fl)::Rs) w'->K s0 s1 s2 w'):F.I9 E a0 a1 a2 K w:=by
 unfold F.I9;have e:(ints IntKind.u64 pl).length=a0.len:=by rw[ints,List.length_map];exact l0
 have v:(F8 rf).length=a1.len:=by rw[F8,List.length_map];exact l1
 have m:(ints IntKind.u64 fl).length=a2.len:=by rw[ints,List.length_map];exact l2
 refine AJ (vs:=[FJ a0,FJ a1,FJ a2]) H λb1 w2 J _=> ?_;refine AJ (vs:=[.slice none 0 0,.slice none 0 0,.slice none 0 0]) J λb3 w4 O _=> ?_;have u:Sat (Cells b1 E.Eg [FJ a0,FJ a1,FJ a2]::YZ::YZ::YZ::Cells b3 E.Eg [.slice none 0 0,.slice none 0 0,.slice none 0 0]::Rs) w4.drew:=(O.drew.emp.emp.emp).front 4 rfl;clear J O;have t4: ∀{P0 P1 P2 P3:Pr} {w'},Sat (P0::P1::P2::P3::Rs) w'->Sat Rs w':=λh=>h.tail.tail.tail.tail;refine⟨a0,u.AU rfl,a1,u.cell rfl,a2,u.cell rfl,?_⟩
 repeat' first
  | (exact Sat.cell (by assumption) (by rfl))
  | (exact Sat.AU (by assumption) (by rfl))
  | (refine Mg 1 (a:=a0) (vs:=ints .u64 pl) (by assumption) (by rfl) rfl (by intro w' h;exact h0 w' (t4 h)) e k0 (by decide) (Q9 _ _) λs' w' d=> ?_)
  | (refine Mg 1 (a:=a2) (vs:=ints .u64 fl) (by assumption) (by rfl) rfl (by intro w' h;exact Y w' (t4 h)) m k2 (by decide) (Q9 _ _) λs' w' d=> ?_)
  | (refine Mg 2 (a:=a1) (vs:=F8 rf) (by assumption) (by rfl) rfl (by intro w' h;exact h1 w' (t4 h)) v k1 (by decide) (k6 _) λs' w' d=> ?_)
  | (refine Mg 3 (a:=a0) (vs:=ints .u64 pl) (by assumption) (by rfl) rfl (by intro w' h;exact h0 w' (t4 h)) e k0 (by decide) (Q9 _ _) λs' w' d=> ?_)
  | (refine Mg 3 (a:=a2) (vs:=ints .u64 fl) (by assumption) (by rfl) rfl (by intro w' h;exact Y w' (t4 h)) m k2 (by decide) (Q9 _ _) λs' w' d=> ?_)
  | (refine Un 2 (t:=E.Bb) (by assumption) (by rfl) λT w' d=> ?_)
  | (refine Un 1 (t:=E.AE) (by assumption) (by rfl) λT w' d=> ?_)
  | (refine Un 3 (t:=E.AE) (by assumption) (by rfl) λT w' d=> ?_)
  | (exact Uo hK (by assumption))
  | (exact Uo hK (Sat.perm (by assumption) (.cons _ (((List.Perm.swap _ _ _).trans (.cons _ (.swap _ _ _))).trans (.swap _ _ _)))))
  | (refine And.intro ?_ ?_)
def eN(H:Sat Z w){a1:AW}{rf:List Bool}(h1: ∀w',Sat Z w'->rowAt w' a1.base a1.len (F8 rf))(l1:rf.length=a1.len)(k1:a1.len<=1099511627776){ps:Nat}(p0:1<=ps)(p1:ps<=64){K:Option Addr->World->Prop}
  (hK: ∀wb rb g S w',Sv S ps rf->Sat (AA E rb g S++(Be E wb rb ⟨⟨none,0,0⟩,⟨none,0,0⟩,⟨none,0,0⟩,⟨none,0,0⟩⟩ 0 [] []++Z)) w'->K (some ⟨wb,0,none⟩) w'):
  F.EI E ⟨none,0,0⟩ a1 ⟨none,0,0⟩ (ps:Int) 100 0 K w:=by
 unfold F.EI T0.EI;refine AJ (vs:=[.slice none 0 0,FJ a1,.slice none 0 0]) H λb1 w2 a _=>⟨⟨none,0,0⟩,a.cell (o:=0) (m:=0) rfl,a1,a.cell (o:=0) (m:=1) rfl,⟨none,0,0⟩,a.cell (o:=0) (m:=2) rfl,?_⟩;refine Vh (a0:=⟨none,0,0⟩) (a2:=⟨none,0,0⟩) (pl:=[]) (rf:=rf) (fl:=[]) a.tail (λ_ _=>show([]:List Value)=[]from rfl) rfl (by decide) h1 l1 k1 (λ_ _=>show([]:List Value)=[]from rfl) rfl (by decide) λs0 s1 s2 w3 d=> ?_;have e0:0=s0.len:=by have:=(d.front 0 rfl).Bs;simpa[ints]using this
 have e1:rf.length=s1.len:=by have:=(d.front 1 rfl).Bs;rw[F8,List.length_map]at this;omega
 have e2:0=s2.len:=by have:=(d.front 2 rfl).Bs;simpa[ints]using this
 refine Sw d (λw' h=>by simpa[ints]using(h.front 0 rfl).KE) e0 (λw' h=>by simpa using(h.front 1 rfl).KE) e1 (by omega) (λw' h=>by simpa[ints]using(h.front 2 rfl).KE) e2 p0 p1 λrb g S w4 hN Y=> ?_;refine AZ (AO rfl λjj=>AO rfl ?_);unfold F.JD;have O:(((DQ .i64 0 0 1):Int)==1)=false/\(((DQ .i64 0 0 2):Int)==2)=false:=by decide+kernel
 rw[O.1,O.2];refine AH ?_;have e:Sat (Cells rb E.EY (Ih g S.ho S.wo)::(AA E rb g S++(Row E.AE 1 s0 (ints .u64 [])::Row E.Bb 1 s1 (F8 rf)::Row E.AE 1 s2 (ints .u64 [])::Z)).eraseIdx 0) w4:=Y;refine Qa [.bool false,.bool false] 8 0 e (by simp[Ih]) (by intro v T;simp at T;rw[T];rfl) λu H5=> ?_;have H6:Sat (AA E rb g S++(Row E.AE 1 s0 (ints .u64 [])::Row E.Bb 1 s1 (F8 rf)::Row E.AE 1 s2 (ints .u64 [])::Z)) u:=H5;have H7:Sat (AA E rb g S++Z) u:=((((H6.front 12 rfl).tail.front 12 rfl).tail.front 12 rfl).tail:Sat _ u);refine AJ (vs:=Dx rb ⟨⟨none,0,0⟩,⟨none,0,0⟩,⟨none,0,0⟩,⟨none,0,0⟩⟩ 0) H7 λwb J H8 _=>hK wb rb g S J hN ?_;have h1:Sat (Row E.Bi 1 ⟨none,0,0⟩ []::Row E.Ag 1 ⟨none,0,0⟩ []::Row E.AE 1 ⟨none,0,0⟩ []::Row E.Ab 3 ⟨none,0,0⟩ []::Cells wb E.Ar (Dx rb ⟨⟨none,0,0⟩,⟨none,0,0⟩,⟨none,0,0⟩,⟨none,0,0⟩⟩ 0)::(AA E rb g S++Z)) J:=(((H8.nil E.Ab 3).nil E.AE 1).nil E.Ag 1).nil E.Bi 1;have h2:Sat (AA E rb g S++(Row E.Bi 1 ⟨none,0,0⟩ []::Row E.Ag 1 ⟨none,0,0⟩ []::Row E.AE 1 ⟨none,0,0⟩ []::Row E.Ab 3 ⟨none,0,0⟩ []::Cells wb E.Ar (Dx rb ⟨⟨none,0,0⟩,⟨none,0,0⟩,⟨none,0,0⟩,⟨none,0,0⟩⟩ 0)::Z)) J:=by
  have:=h1.perm (List.perm_append_comm_assoc [Row E.Bi 1 ⟨none,0,0⟩ [],Row E.Ag 1 ⟨none,0,0⟩ [],Row E.AE 1 ⟨none,0,0⟩ [],Row E.Ab 3 ⟨none,0,0⟩ [],Cells wb E.Ar (Dx rb ⟨⟨none,0,0⟩,⟨none,0,0⟩,⟨none,0,0⟩,⟨none,0,0⟩⟩ 0)] (AA E rb g S) Z);exact this
 refine h2.perm (List.Perm.append_left _ (List.Perm.append_right Z (l₁:=[Row E.Bi 1 ⟨none,0,0⟩ [],Row E.Ag 1 ⟨none,0,0⟩ [],Row E.AE 1 ⟨none,0,0⟩ [],Row E.Ab 3 ⟨none,0,0⟩ [],Cells wb E.Ar (Dx rb ⟨⟨none,0,0⟩,⟨none,0,0⟩,⟨none,0,0⟩,⟨none,0,0⟩⟩ 0)]) (List.reverse_perm _).symm))
end
structure Z1(S:Cr)(U M:BA)(B:List Bk)(BL:List (Bk×Int))(zs:List Int)(n ps OC r0:Nat):Prop where
 rest:Rest S
 ql:S.Q.length=ps
 tp:ID S.W S.C U M n B B
 VL: ∀p∈B,16<=p.z
 bl:BL.map Prod.fst=B.reverse
 zl:zs.length=S.L.length
 ll:S.L.length<=OC
 nn:n<=10*S.L.length
 bb:B.length<=S.L.length
 rf:S.W.S.V.rf.length<=r0
section
variable{E:Env}{rb wb:Nat}{g:NW}{S:Cr}{G:WdG}{zs:List Int}{BL:List (Bk×Int)}{Z:List Pr}{w:World}{U M:BA}{n ps OC r0:Nat}{B:List Bk}
def Z1.blen(h:Z1 S U M B BL zs n ps OC r0):BL.length=B.length:=by
 have:=congrArg List.length h.bl;rwa[List.length_map,List.length_reverse]at this
def Z1.mem(h:Z1 S U M B BL zs n ps OC r0): ∀p∈BL,p.1∈B:=λp hp=>by
 have:p.1∈BL.map Prod.fst:=List.mem_map.2 ⟨p,hp,rfl⟩;rw[h.bl]at this;exact List.mem_reverse.1 this
def ID.used{W:SW}{CL:List (Nat×KS)}{Bw:List Bk}(h:ID W CL U M n B Bw)(p:Int×Nat):(∃x,W.S.sp p.1=some x/\(p.2:Int)<x.2.AP/\U p.1 p.2=true)↔p∈B.map keyOf:=by
 constructor
 .rintro⟨x,h1,a,d⟩;exact(h.bl p.1 x p.2 h1 a).1 d
 .intro hp;obtain⟨q,e,rfl⟩:=List.mem_map.1 hp;obtain⟨x,h1,a,_⟩:=h.bs q e;exact⟨x,h1,a,(h.bl q.id x q.m h1 a).2 hp⟩
def ID.count{W:SW}{CL:List (Nat×KS)}{Bw:List Bk}(h:ID W CL U M n B Bw){L:List (Int×Nat)}(d:L.Nodup)(a: ∀p∈L,∃x,W.S.sp p.1=some x/\(p.2:Int)<x.2.AP/\U p.1 p.2=true):L.length<=B.length:=by
 have hp:L.Perm ((B.map keyOf).filter λp=>decide (p∈L)):=(List.perm_ext_iff_of_nodup d (h.nd.filter _)).2 λp=>by
  rw[List.mem_filter,decide_eq_true_eq];exact⟨λhm=>⟨(h.used p).1 (a p hm),hm⟩,λhm=>hm.2⟩
 rw[hp.length_eq];exact Nat.le_trans (List.length_filter_le ..) (by rw[List.length_map];exact Nat.le_refl _)
def ID.count_eq{W:SW}{CL:List (Nat×KS)}{Bw:List Bk}(h:ID W CL U M n B Bw){L:List (Int×Nat)}(d:L.Nodup)(a: ∀p:Int×Nat,p∈L↔ ∃x,W.S.sp p.1=some x/\(p.2:Int)<x.2.AP/\U p.1 p.2=true):L.length=B.length:=by
 have hp:L.Perm (B.map keyOf):=(List.perm_ext_iff_of_nodup d h.nd).2 λp=>by rw[a,h.used]
 rw[hp.length_eq,List.length_map]
def MN(Y:Rx E)(H:Sat (AA E rb g S++Z) w){Bw:List Bk}(u:ID S.W S.C U M n B Bw)(hb:B.length<=1000000){K:AW->World->Prop}
  (hK: ∀s w',s.len=B.length->Sat (AA E rb g S++Z) w'->K s w'):F.A9 E (some ⟨g.a.m,0,none⟩) K w:=by
 obtain⟨R,O,_,d⟩:=OW H;refine PY Y O u.inv (λL h1 T=>Nat.le_trans (u.count h1 T) hb) λs L w' v e J=>hK s w' ?_ (d J.tail);have:=J.Bs;rw[ints,List.length_map,List.length_map,Nat.mul_one]at this;rw[<-this];exact u.count_eq v e
def lM(a:Rest S){i:Nat}(hi:i<S.Q.length){s':AW}{b:Nat}{nn:Int}(n0:16<=nn)(n1:nn<=1000000)(BU:FM (S.asked i s' [] b (.new 1 i nn ⟨none,0,0⟩))){Bw:List Bk}(v:ID S.W S.C U M n B Bw)(m:S.W.S.V.rf.length<=r0):
  ∃x,lK (S.asked i s' [] b (.new 1 i nn ⟨none,0,0⟩)) U M B Bw n r0 10 i S.L.length x (b,.new 1 i nn ⟨none,0,0⟩):=by
 have d:i<S.T.length:=by have:=a.ok.tn;omega
 refine⟨S.T[i],⟨BU,?_,List.getElem?_eq_getElem d,λj z hz _=>(a.idle j z hz).1,λj z hz=>(a.idle j z hz).2,λj z hz u=> ?_,a.wo,?_,rfl,rfl,n0,n1,λj z hz u=> ?_,?_,a.or,?_⟩,v.mono (by omega),.inl ⟨rfl,(a.idle i _ (List.getElem?_eq_getElem d)).1,a.ho,s',List.getElem?_set_self hi⟩,m⟩
 .show i<(S.Q.set i _).length;rw[List.length_set];exact hi
 .rcases K7 hi hz with ⟨e,_⟩|⟨_,hz⟩
  .exact absurd e u
  .exact a.q j z hz
 .show(S.L++[_])[S.L.length]? =_;rw[List.getElem?_append_right (Nat.le_refl _),Nat.sub_self];rfl
 .have hz:(S.L++[(b,Ak.new 1 i nn ⟨none,0,0⟩)])[j]? =some z:=hz;rcases Nat.lt_or_ge j S.L.length with g|g
  .rw[List.getElem?_append_left g]at hz;exact a.dn j z hz
  .rw[List.getElem?_append_right g]at hz;have:=(List.getElem?_eq_some_iff.1 hz).1;simp at this;omega
 .show(S.L++[_]).length=_;rw[List.length_append];rfl
 .show S.C.length=(S.Q.set i _).length;rw[List.length_set];exact a.cl
end
def WV(l:List Bool):(F8 l).length=l.length:=by simp[F8]
def Z2{w:World}{ok:Bool->Prop}{s:AW}{z:Nat->Bool}(h:mS w .bool ok s z):rowAt w s.base s.len (F8 (jL s.len z)):=by
 cases hb:s.base with
 | none=>
  have:s.len=0:=by
   rcases Nat.eq_zero_or_pos s.len with e|e
   .exact e
   .obtain⟨x,m,_⟩:=h.2.2 0 e;rw[hb]at m;cases m
  show F8 (jL s.len z)=[];rw[this];rfl
 | some a=>
  refine⟨by rw[WV,Qf],λj v u=> ?_⟩;have d:j<s.len:=by
   have:=(List.getElem?_eq_some_iff.1 u).1;rwa[WV,Qf]at this
  obtain⟨x,m,J,_⟩:=h.2.2 j d;rw[hb]at m;cases m;have e:v= .bool (z j):=by
   unfold F8 jL at u;rw[List.getElem?_map,List.getElem?_map,List.getElem?_range d]at u;exact(Option.some.inj u).symm
  rw[e];have:=J 0 (.bool (z j)) rfl;rwa[show j*AT.bool.size+0=j by show j*1+0=j;omega]at this
def mS.oldBT{w w':World}{s:AW}{z:Nat->Bool}(h:Wo w .bool s z)(he:Ext AN w w'):Wo w' .bool s z:=
 ⟨h.1,h.2.1,λj e=>by
  obtain⟨x,h1,a,d⟩:=h.2.2 j e;exact⟨x,h1,λi v m=>he.cell (a i v m) λf=>f,d⟩⟩
def sD{w:World}{k:IntKind}{s:AW}{z:Nat->Int}(h:Wo w (.int k) s z){i:Nat}(hi:i<s.len): ∃a,s.base=some a/\ ∀w',Ext AN w w'->w'.cell? (a.add (Int.toNat (i:Int)*1))=some (.int k (z i)):=by
 obtain⟨x,e,d,_⟩:=h.2.2 i hi;refine⟨x,e,λw' he=> ?_⟩;have:=d 0 (.int k (z i)) rfl;rw[Int.toNat_natCast];exact he.cell this λf=>f
section
variable{E:Env}{w:World}
def Xx(hE:FN E)(hH:Rx E)(hT:DJ E.AB w)
  (cT: ∀(Y:List Pr) w',Sat Y w'->(∀aH,Sat Y aH->DJ E.AB aH)-> ∀K':Bool->World->Prop,(∀aH,Sat Y aH->K' true aH)->F.Dh E K' w')
  {a0 a2 a3:AW}{a1:Int}{z0:Nat->Bool}{z2 z3:Nat->Int}(h0:Wo w .bool a0 z0)(h2:Wo w (.int .u64) a2 z2)(h3:Wo w (.int .i64) a3 z3)
  {K:Bool->World->Prop}(hK: ∀w',Ext AN w w'->K true w'):F.BO E a0 a1 a2 a3 K w:=by
 unfold F.BO T0.BO;refine AV (λs w'=>w'=w/\(s.1=false->a0.len<=100/\1<=a1/\a1<=8/\a2.len<=40/\a3.len<=3000)) (AG (λ_=>⟨rfl,λc=>by cases c⟩) λg0=>AG (λ_=>⟨rfl,λc=>by cases c⟩) λg1=>AG (λ_=>⟨rfl,λc=>by cases c⟩) λg2=>AG (λ_=>⟨rfl,λc=>by cases c⟩) λg3=>⟨rfl,λc=>by have:=of_decide_eq_false c;omega⟩) ?_;rintro⟨s,u⟩ _ _ ⟨rfl,hs⟩;refine AY (λ_=>hK _ (Ext.refl _ _)) λes=> ?_;obtain⟨l0,p0,p1,l2,l3⟩:=hs es;clear hs;obtain⟨ps,rfl⟩: ∃ps:Nat,a1=(ps:Int):=⟨a1.toNat,by omega⟩;rename_i w;have r0: ∀w',Ext AN w w'->rowAt w' a0.base a0.len (F8 (jL a0.len z0)):=λw' h=>Z2 (mS.oldBT h0 h);have bT: ∀{Y:List Pr} {w'} (i:Nat),Sat Y w'->Y[i]? =some (Old w)->DJ E.AB w':=λi h hi=>hT.ext (h.O4 i hi);refine eN (Sat.start w) (λw' h=>r0 w' (h.O4 0 rfl)) (Qf _ _) (by omega) (by omega) (by omega) λwb rb g S w5 hN H5=>AO rfl ?_;have bR:=hN.rest (by omega);have bQ:Z1 S (λ_=>FK) (λ_=>FK) [] [] [] 0 ps (102*0) a0.len:=⟨bR,by rw[hN.q,List.length_replicate],hN.tp,λp hp=>(by cases hp),rfl,by rw[hN.l];rfl,by rw[hN.l];decide,by rw[hN.l];decide,by rw[hN.l];decide,by rw[hN.w];exact Nat.le_of_eq (Qf _ _)⟩;have bK:Sat (AA E rb g S++(Be E wb rb ⟨⟨none,0,0⟩,⟨none,0,0⟩,⟨none,0,0⟩,⟨none,0,0⟩⟩ ((S.L.length:Nat):Int) [] []++[Old w])) w5:=by rw[hN.l];exact H5
 clear H5 hN;refine AM (λst w'=> ∃nx i:Nat,st.1=(nx:Int)/\nx<=a3.len/\st.2.1=(i:Int)/\i<=a2.len/\ ∃g S G U M n B BL zs,Z1 S U M B BL zs n ps (102*i) a0.len/\Sat (AA E rb g S++(Be E wb rb G ((S.L.length:Nat):Int) zs BL++[Old w])) w') (λst _=>((a2.len:Int)-st.2.1).toNat)
  ⟨0,0,rfl,Nat.zero_le _,rfl,Nat.zero_le _,_,_,_,_,_,_,_,_,_,bQ,bK⟩ ?_
 clear bQ bK bR S g;rintro⟨bG,i',u⟩ _ w7 ⟨nx,i,T,e,hi,dQ,g,S,G,U,M,n,B,BL,zs,J,H7⟩;dsimp only at T hi⊢;subst T hi;refine AG (λbZ=> ?_) λdP=> ?_
 .have bZ:i<a2.len:=by omega
  obtain⟨a,ha,aO⟩:=sD h2 bZ;refine AV (λs w'=>w'=w7/\(s.1=false->16<=z2 i/\z2 i<=262144)) (E5 ha ⟨⟨by omega,by omega⟩,_,aO _ (H7.O4 17 rfl),AG (λ_=>⟨rfl,λc=>by cases c⟩) λg1=>E5 ha ⟨⟨by omega,by omega⟩,_,aO _ (H7.O4 17 rfl),rfl,λc=>by have:=of_decide_eq_false c;omega⟩⟩) ?_;rintro⟨F4,u⟩ _ _ ⟨rfl,a5⟩;refine AY (λ_=>hK _ (H7.O4 17 rfl)) λbP=> ?_;obtain⟨n0,n1⟩:=a5 bP;clear a5;rename_i w7;refine AM (λst w'=> ∃nx t:Nat,st.1=(nx:Int)/\nx<=a3.len/\st.2.1=(t:Int)/\t<=a0.len/\ ∃g S G U M n B BL zs,Z1 S U M B BL zs n ps (102*i+t) a0.len/\S.W.S.V.rf.length+t<=a0.len/\Sat (AA E rb g S++(Be E wb rb G ((S.L.length:Nat):Int) zs BL++[Old w])) w') (λst _=>((a0.len:Int)+1-st.2.1).toNat)
   ⟨nx,0,rfl,e,rfl,Nat.zero_le _,g,S,G,U,M,n,B,BL,zs,J,J.rf,H7⟩ ?_
  clear J H7 e nx g S G U M n B BL zs;rintro⟨bG,t',u⟩ _ dW ⟨nx,t,T,e,ht,dT,g,S,G,U,M,n,B,BL,zs,J,dS,cH⟩;dsimp only at T ht⊢;subst T ht;have cX:=J.ll;have dR:=J.nn;have cU:=J.bb;have bE:=J.blen;have bX:i %ps<S.Q.length:=by rw[J.ql];exact Nat.mod_lt _ (by omega)
  have emod:Int.tmod (i:Int) (ps:Int)=((i %ps:Nat):Int):=by rw[Int.tmod_eq_emod_of_nonneg (by omega)];rfl
  have Hd:=cH.drew;refine AZ (AO (decide_eq_false (by omega)) ⟨by omega,E5 ha ⟨⟨by omega,by omega⟩,_,aO _ (Hd.O4 17 rfl),E5 ha ⟨⟨by omega,by omega⟩,_,aO _ (Hd.O4 17 rfl),?_⟩⟩⟩);rw[emod];refine eM Hd J.rest bX J.zl (by omega) (n:=z2 i) λg' G' s' b dX BU aS=>⟨aO _ (aS.O4 17 rfl),λjj=>AO rfl (AH ⟨_,Rf aS (k:=1) rfl,?_⟩)⟩;obtain⟨x,b7⟩:=lM (r0:=a0.len-t) J.rest bX n0 (by omega) BU J.tp (by omega);have dC:=(sB aS).JJ (by decide) Ju;refine AV (λs w'=> ∃(nx:Nat) (vs:List Int),s.1=(nx:Int)/\nx<=a3.len/\vs.length=s.2.1.len/\Sat (AA E rb g' (S.asked (i %ps) s' [] b (.new 1 ((i %ps:Nat):Int) (z2 i) ⟨none,0,0⟩))++(Be E wb rb G' ((S.L.length:Nat):Int) (zs++[z2 i]) BL++[Row E.Ag 1 s.2.1 (ints .i64 vs),Old w])) w') ?_ ?_
  .refine AM (λs w'=> ∃(nx:Nat) (vs:List Int),s.1=(nx:Int)/\nx<=a3.len/\vs.length=s.2.1.len/\Sat (AA E rb g' (S.asked (i %ps) s' [] b (.new 1 ((i %ps:Nat):Int) (z2 i) ⟨none,0,0⟩))++(Be E wb rb G' ((S.L.length:Nat):Int) (zs++[z2 i]) BL++[Row E.Ag 1 s.2.1 (ints .i64 vs),Old w])) w') (λst _=>((a3.len:Int)-st.1).toNat)
    ⟨nx,[],rfl,e,rfl,xF (aS.nil E.Ag 1)⟩ ?_
   rintro⟨bG,UJ,u⟩ _ cA ⟨nx,vs,T,e,aI,aE⟩;dsimp only at T aI aE⊢;subst T;refine AG (λc9=> ?_) λ_=>⟨nx,vs,rfl,e,aI,aE⟩;refine AG (λcY=> ?_) λ_=>⟨nx,vs,rfl,e,aI,aE⟩;obtain⟨a4,cS,bU⟩:=sD h3 (i:=nx) (by omega);refine E5 cS ⟨⟨by omega,by omega⟩,_,bU _ (aE.O4 18 rfl),?_⟩;refine AJ (vs:=[.int .i64 (z3 nx)]) aE λdH d0 cI _=>GJ (news:=[.int .i64 (z3 nx)]) (cI.Bh 17 rfl) rfl rfl (by simp[Value.oneCell']) (by omega) (by omega) λaB d1 cJ bY=> ?_;have e1:i64 ((nx:Int)+1)=((nx+1:Nat):Int):=by rw[AI];rfl
   rw[e1];refine⟨⟨nx+1,vs++[z3 nx],rfl,by omega,by rw[List.length_append,List.length_singleton,bY,aI],?_⟩,by omega⟩;refine xF ?_;rw[ints,List.map_append];exact cJ
  rintro⟨bG,own,u⟩ _ dY ⟨nx,vs,T,e,aI,bA⟩;dsimp only at T aI bA⊢;subst T;refine AV (λs w'=>s.1=false/\ ∃g2 S2 U2 M2 B2 aF G2 co ad nv,Z1 S2 U2 M2 B2 aF (zs++[z2 i]) (n+10) ps (102*i+t+1) a0.len/\S2.L.length=S.L.length+1/\S2.L[S.L.length]? =some (b,(Ak.new 1 ((i %ps:Nat):Int) (z2 i) ⟨none,0,0⟩).rep ad nv co)/\
   (co=0∨(co=13/\ad=0/\nv=0/\aF.length=BL.length/\S2.W.S.V.rf.length+(t+1)<=a0.len))/\Sat (AA E rb g2 S2++(Be E wb rb G2 ((S2.L.length:Nat):Int) (zs++[z2 i]) aF++[Old w])) w') ?_ ?_
  .refine AH ⟨_,RW bA,?_⟩;refine eK hE (λw' h=>bT 6 h rfl) (by omega) J.VL bA b7 aI (λw' h=>(h.front 5 rfl:Sat (Row E.Ag 1 own (ints .i64 vs)::_) w').KE) λg2 S2 bW dZ bJ=>AO rfl ?_;obtain⟨O,d,cR,U2,M2,bF⟩:=bW;have aX:S2.Q.length=ps:=by rw[cR];exact(List.length_set ..).trans J.ql
   have b8:(zs++[z2 i])[S.L.length]? =some (z2 i):=by rw[<-J.zl,List.getElem?_append_right (Nat.le_refl _),Nat.sub_self];rfl
   have aJ:(zs++[z2 i]).length=S.L.length+1:=by rw[List.length_append,J.zl];rfl
   have aN: ∀{g3 S3 G3 v BL3} {w'},Sat (AA E rb g3 S3++(Be E wb rb G3 v (zs++[z2 i]) BL3++[Row E.Ag 1 own (ints .i64 vs),Old w])) w'->Sat (AA E rb g3 S3++(Be E wb rb G3 v (zs++[z2 i]) BL3++[Old w])) w':=λh=>(Z0 h).tail;rcases bF with ⟨q,cls,pg,hw,b4,aG,aU,c2⟩|⟨aG,aU,c2⟩
   .have b3:16<=q.z:=by rw[b4];exact Int.le_trans n0 (size_le hw)
    refine RY hE (q:=q) bJ O d aJ (by omega) aG b8 n0 (by omega) J.mem (by omega) (.inl ⟨rfl,rfl,rfl,aU,hw,b4⟩) (λ_ G3 W3 cA bS b5 aE=>AO rfl ?_) λc=>absurd c (by show ¬((0:Int)=13);decide);have b2: ∀p∈BL++[(q,((S.L.length:Nat):Int))],p.1∈q::B:=λp hp=>by
     rcases List.mem_append.1 hp with hp|hp
     .exact List.mem_cons_of_mem _ (J.mem p hp)
     .rw[List.mem_singleton.1 hp];exact List.mem_cons_self ..
    have aW: ∀p∈q::B,16<=p.z:=λp hp=>by
     rcases List.mem_cons.1 hp with rfl|hp
     .exact b3
     .exact J.VL p hp
    refine RX hE aE bS b2 aW λcB bB=>⟨rfl,g2,{S2 with W:=W3},_,_,q::B,BL++[(q,((S.L.length:Nat):Int))],G3,0,q.a,q.z,⟨⟨⟨O.ok.tn,O.ok.ti,O.ok.qa,O.ok.NN⟩,O.idle,O.q,O.wo,O.ho,O.dn,O.or,O.cl⟩,aX,bS,aW,?_,?_,?_,?_,?_,?_⟩,d,aG,.inl rfl,?_⟩
    .rw[List.map_append,J.bl,List.reverse_cons];rfl
    .rw[aJ];exact d.symm
    .show S2.L.length<=_;omega
    .show n+10<=10*S2.L.length;omega
    .show(q::B).length<=S2.L.length;rw[List.length_cons];omega
    .show W3.S.V.rf.length<=_;rw[b5];omega
    .show Sat (AA E rb g2 {S2 with W:=W3}++(Be E wb rb G3 ((S2.L.length:Nat):Int) (zs++[z2 i]) (BL++[(q,((S.L.length:Nat):Int))])++[Old w])) cB;rw[d];exact aN bB
   .refine RY hE (q:=⟨0,0,0,0⟩) (Bw:=B) (cls:=0) (pg:=0) (n:=0) (U:=U) (M:=M) bJ O d aJ (by omega) aG b8 n0 (by omega) J.mem (by omega) (.inr rfl) (λc=>absurd c (by show ¬((13:Int)=0);decide)) λ_ cA aE=>AO rfl ?_;refine RX hE aE aU J.mem J.VL λcB bB=>⟨rfl,g2,S2,_,_,B,BL,G',13,0,0,⟨O,aX,aU,J.VL,J.bl,?_,?_,?_,?_,?_⟩,d,aG,.inr ⟨rfl,rfl,rfl,rfl,by omega⟩,?_⟩
    .rw[aJ];exact d.symm
    .omega
    .omega
    .omega
    .omega
    .rw[d];exact aN bB
  rintro⟨s43,u⟩ _ d2 ⟨a6,g2,S2,U2,M2,B2,aF,G2,co,ad,nv,d,cW,aG,bV,cK⟩;dsimp only at a6⊢;subst a6;refine AO rfl ?_;have aM:=cK.drew;have dU:=d.zl;have dD:(zs++[z2 i]).length=G2.zs.len:=by
   have:=(aM.front 14 rfl:Sat (Row E.AE 1 G2.zs (ints .u64 (zs++[z2 i]))::_) _).Bs;rw[ints,List.length_map,Nat.mul_one]at this;exact this
  have ek:i64 (((G2.zs.len:Nat):Int)-1)=((S.L.length:Nat):Int):=by rw[AI];omega
  have aY: ∀v∈([.int .u64 ad,.int .u64 nv,.int .i64 co]:List Value),v.oneCell'=true:=by intro v hv;simp only[List.mem_cons,List.not_mem_nil,or_false]at hv;rcases hv with rfl|rfl|rfl<;>rfl
  refine AV (λs w'=> ∃aK,s.1=some ⟨aK,0,none⟩/\s.2.1=true/\Sat (Cells aK E.Aj [.int .u64 ad,.int .u64 nv,.int .i64 co]::(AA E rb g2 S2++(Be E wb rb G2 ((S2.L.length:Nat):Int) (zs++[z2 i]) aF++[Old w]))) w') ?_ ?_
  .refine AH ⟨_,RW aM,AH ⟨_,Rf aM (k:=3) rfl,?_⟩⟩;rw[ek];refine⟨?_,?_⟩
   .refine Jt aM aG rfl λd5 bL=>⟨Rf bL (k:=3) rfl,AJ (vs:=[.int .u64 0,.int .u64 0,.int .i64 0]) bL λaK d6 bM _=>⟨Rf bM.tail (k:=3) rfl,?_⟩⟩;exact CN (news:=[.int .u64 ad,.int .u64 nv,.int .i64 co]) bM rfl aY λd7 cL=>⟨aK,rfl,rfl,cL⟩
   .refine AJ (vs:=[.int .u64 0,.int .u64 0,.int .i64 0]) aM λcP d8 bC _=>⟨Rf bC.tail (k:=3) rfl,RW bC.tail,?_⟩;refine Jt (JR bC) aG rfl λd9 bN=>⟨Rf (QE bN).tail (k:=3) rfl,?_⟩;exact CN (news:=[.int .u64 ad,.int .u64 nv,.int .i64 co]) (QE bN) rfl aY λeA cM=>⟨cP,rfl,rfl,cM⟩
  rintro⟨aC,dE,u⟩ _ d4 ⟨aK,a7,aP,aA⟩;dsimp only at a7 aP⊢;subst a7 aP;refine AV (λs w'=>s.1=false/\Sat (Cells aK E.Aj [.int .u64 ad,.int .u64 nv,.int .i64 co]::(AA E rb g2 S2++(Be E wb rb G2 ((S2.L.length:Nat):Int) (zs++[z2 i]) aF++[Old w]))) w') ?_ ?_
  .refine AO rfl (AH ⟨_,aA.cell (o:=0) (m:=2) rfl,EO (λcZ=> ?_) λ_=>⟨rfl,aA⟩⟩);rcases bV with h|⟨rfl,rfl,rfl,cV,aZ⟩
   .exact absurd h cZ
   .refine AH ⟨_,aA.cell (o:=0) (m:=0) rfl,_,aA.cell (o:=0) (m:=1) rfl,_,aA.cell (o:=0) (m:=2) rfl,AO rfl ?_⟩;have c7:=(sB aA.tail).JJ (by decide) Ju;refine AH ⟨_,Rf aA.tail (k:=1) rfl,EO (λc=>absurd (by omega) c) λ_=>AH ⟨_,RW aA.tail,AH ⟨_,G7 aA.tail,?_⟩⟩⟩;have dO:=d.bb;have cE:=d.blen;refine MN hH (JR aA) d.tp (by omega) λs91 eC b6 cN=>⟨?_,QE cN⟩;show((((s91.len:Nat):Int):Int) !=((G'.bs.len:Nat):Int))=false;rw[b6];simp;omega
  rintro⟨dV,u⟩ _ eB ⟨a8,bD⟩;dsimp only at a8⊢;subst a8;have ex:i64 ((i:Int)+1)=((i+1:Nat):Int):=by rw[AI];rfl
  have et:i64 ((t:Int)+1)=((t+1:Nat):Int):=by rw[AI];rfl
  have c8:=d.ll;refine AO rfl (AH ⟨_,bD.cell (o:=0) (m:=2) rfl,Cj (λc=> ?_) λc=> ?_⟩)
  .rw[ex];exact⟨⟨nx,i+1,rfl,e,rfl,by omega,g2,S2,G2,U2,M2,_,B2,aF,_,⟨d.rest,d.ql,d.tp,d.VL,d.bl,d.zl,by omega,d.nn,d.bb,d.rf⟩,bD.tail⟩,by omega⟩
  .rw[et];rcases bV with h|⟨_,_,_,_,aZ⟩
   .exact absurd h c
   .exact⟨⟨nx,t+1,rfl,e,rfl,by omega,g2,S2,G2,U2,M2,_,B2,aF,_,d,aZ,bD.tail⟩,by omega⟩
 .have Hd:=H7.drew;have cV:=(sB Hd).JJ (by decide) Ju;have cU:=J.bb;have cX:=J.ll;have bE:=J.blen;refine AH ⟨_,RW Hd,AH ⟨_,G7 Hd,AH ⟨_,Rf Hd (k:=1) rfl,?_⟩⟩⟩;refine MN hH Hd J.tp (by omega) λs101 b9 hs aL=>⟨Rf aL (k:=1) rfl,RW aL,Aa ?_ ?_⟩
  .rw[hs];simp;omega
  .exact cT _ b9 aL (λaH h=>bT 17 h rfl) _ λaH h=>⟨Rf h (k:=1) rfl,RW h,hK aH (h.O4 17 rfl)⟩
end
section
variable{E:Env}{rb:Nat}{g:NW}{S:Cr}{Z:List Pr}{w:World}{U M:BA}
def Z3(H:Sat (AA E rb g S++Z) w){i:Nat}{x:Nat×Tk}(a:S.T[i]? =some x){K:World->Prop}
  (v: ∀w',Sat (AA E rb g {S.tk i (x.1,{x.2 with step:=13})with wo:=x.2.n}++Z) w'->K w'):F.Ib E (some ⟨rb,0,none⟩) (some ⟨x.1,0,none⟩) K w:=by
 unfold F.Ib;refine AH ⟨_,Ll H a,AH ?_⟩;refine VC H (m:=7) (by decide) rfl λJ d=>AH ?_;have e:Sat (AA E rb g {S with wo:=x.2.n}++Z) J:=d;exact Fy e a (m:=2) {x.2 with step:=13} rfl (by decide) rfl λO u=>v O u
def Z4(H:Sat (AA E rb g S++Z) w){i:Nat}{x:Nat×Tk}(e:S.T[i]? =some x){K:World->Prop}
  (d: ∀w',Sat (AA E rb g (S.tk i (x.1,{x.2 with step:=14}))++Z) w'->K w'):F.Ic E (some ⟨rb,0,none⟩) (some ⟨x.1,0,none⟩) K w:=by
 unfold F.Ic;exact AH (Fy H e (m:=2) {x.2 with step:=14} rfl (by decide) rfl λu a=>d u a)
def Xy(hE:FN E)(H:Sat (AA E rb g S++Z) w){i:Nat}{x:Nat×Tk}(O:S.T[i]? =some x)(hI:Ai S.W U M)(d: ∀z∈S.W.L,z.HD=true){K:World->Prop}
  (J: ∀w',Sat (AA E rb g (S.tk i (x.1,{x.2 with step:=16}))++Z) w'->K w'):F.D7 E (some ⟨rb,0,none⟩) (some ⟨x.1,0,none⟩) K w:=by
 unfold F.D7 T0.D7;refine AH ⟨_,G7 H,AH ⟨_,VN H (k:=3) rfl,?_⟩⟩;refine Sj hE.toEnvK.toEnvC.toEnvW (H.front 11 rfl:Sat (AQ E g.a.b g.a.h g.a.s g.a.r S.W::_) w) hI (λ_ Y e=>AO rfl (AH ?_)) λz hz=> ?_
 .have u:Sat (AA E rb g S++Z) Y:=Sat.back (Ps:=AA E rb g S++Z) 11 e (by simp[AA]);exact Fy u O (m:=2) {x.2 with step:=16} rfl (by decide) rfl λw4 v=>J w4 v
 .have:=d z hz.1;rw[hz.2.1]at this;cases this
def eO(H:Sat (AA E rb g S++Z) w){i:Nat}{x:Nat×Tk}(O:S.T[i]? =some x){id st:Int}{K:World->Prop}
  (hK: ∀w',Sat (AA E rb g (S.tk i (x.1,{x.2 with tr:=id,step:=st}))++Z) w'->K w'):F.IS E (some ⟨rb,0,none⟩) (some ⟨x.1,0,none⟩) id st K w:=by
 unfold F.IS;have v:=(List.getElem?_eq_some_iff.1 O).1;refine AH (Fy H O (m:=3) {x.2 with tr:=id} rfl (by decide) rfl λw2 u=>AH ⟨_,G7 u,AH ⟨_,VN u (k:=6) rfl,?_⟩⟩);obtain⟨J,h1⟩:=Sat.ex.1 (u.front 8 rfl:Sat ((Ex λJ=>CH g.a.d .i64 J)::_) w2);refine E8 h1 λw3 H3=>AH ?_;have H4:Sat (AA E rb g (S.tk i (x.1,{x.2 with tr:=id}))++Z) w3:=Sat.back (Ps:=AA E rb g (S.tk i (x.1,{x.2 with tr:=id}))++Z) 8 (Sat.ex.2 ⟨_,H3⟩) (by simp[AA]);refine Fy H4 (x:=(x.1,{x.2 with tr:=id})) (List.getElem?_set_self v) (m:=2) {x.2 with tr:=id,step:=st} rfl (by decide) rfl λY H5=>hK Y ?_;have e:Cr.tk (S.tk i (x.1,{x.2 with tr:=id})) i (x.1,{x.2 with tr:=id,step:=st})=S.tk i (x.1,{x.2 with tr:=id,step:=st}):=by simp[Cr.tk]
 exact(congrArg (λs=>Sat (AA E rb g s++Z) Y) e).mp H5
def Z5(hE:FN E)(H:Sat (AA E rb g S++Z) w)(aC:FM S){i k:Nat}(hi:i<S.Q.length){x:Nat×Tk}{y:Nat×Ak}(d:S.T[i]? =some x)(hk:x.2.ask=(k:Int))(hy:S.L[k]? =some y)(aF:x.2.sw<y.2.n)(hI:Ai S.W U M)(m:S.ord.length<1000000){K:World->Prop}
  (aD:(∀z∈S.W.L,z.HD=true)-> ∀g' w',Sat (AA E rb g' (S.done i x k y 0 x.2.sw 0)++Z) w'->K w')
  (aE: ∀z,XY S.W.L z->Ai {S.W with L:=Hv S.W.L z.id} U M-> ∀w',Sat (AA E rb g {S.tk i (x.1,{x.2 with tr:=z.id,step:=11})with W:={S.W with L:=Hv S.W.L z.id}}++Z) w'->K w'):
  F.El E (some ⟨rb,0,none⟩) (some ⟨x.1,0,none⟩) K w:=by
 unfold F.El T0.El;have hn:=aC.tn;obtain⟨u,hu⟩: ∃y,S.T[S.Q.length]? =some y:=⟨_,List.getElem?_eq_getElem (by omega)⟩;refine Jq H hu λw1 H1=>U9 H1 d hu ?_;rw[lJ H1 d hu (by omega)];have Hd:=H1.drew;refine AZ (AZ (AO rfl (AH ⟨_,K6 Hd d (k:=8) rfl,JS Hd d hk hy λw2 v=>⟨K6 v d (k:=8) rfl,λjj=> ?_⟩⟩)));refine Aa (decide_eq_true aF) (AH ⟨_,G7 v,AH ⟨_,VN v (k:=3) rfl,?_⟩⟩);refine Sj hE.toEnvK.toEnvC.toEnvW (v.front 11 rfl:Sat (AQ E g.a.b g.a.h g.a.s g.a.r S.W::_) w2) hI (λe w3 O=>AO rfl λjk=>AO rfl (AH ?_)) λz hz aB w3 O=>Aa rfl ?_
 .have J:Sat (AA E rb g S++Z) w3:=Sat.back (Ps:=AA E rb g S++Z) 11 O (by simp[AA]);exact⟨_,K6 J d (k:=8) rfl,Js J m d hk hy λg' w4 Y=>aD e g' w4 Y⟩
 .have J:Sat (AA E rb g {S with W:={S.W with L:=Hv S.W.L z.id}}++Z) w3:=Sat.back (Ps:=AA E rb g S++Z) 11 O (by simp[AA]);exact eO J d λw4 Y=>aE z hz aB w4 Y
def eP(hE:FN E)(hT: ∀w',Sat Z w'->DJ E.AB w')(H:Sat (AA E rb g S++Z) w)(aE:FM S){i:Nat}(hi:i<S.Q.length){x:Nat×Tk}(hx:S.T[i]? =some x)(hI:Ai S.W U M)(hf:S.W.L.length<1099511627776)(aG:S.W.em.length+S.W.R.length<=1099511627776)
  (hL: ∀y∈S.W.L,y.id≠x.2.tr)(aI:S.W.S.sp x.2.tr≠none)(aD: ∀j,M x.2.tr j=true->U x.2.tr j=true)(aY:0<=x.2.sw/\x.2.sw<1000){K:World->Prop}
  (hK: ∀n gone W' U' M',dP S.W U M x.2.tr false n gone W' U' M'->Ai W' U' M'-> ∀w',Sat (AA E rb g {S.tk i (x.1,{x.2 with tr:=0,sw:=x.2.sw+1,step:=10})with W:=W'}++Z) w'->K w'):
  F.Ff E (some ⟨rb,0,none⟩) (some ⟨x.1,0,none⟩) K EW w:=by
 unfold F.Ff T0.Ff F.Ga T0.Ga;have v:=(List.getElem?_eq_some_iff.1 hx).1;have hn:=aE.tn;refine AH ⟨_,K6 H hx (k:=3) rfl,AH ⟨_,G7 H,AH ⟨_,VN H (k:=3) rfl,?_⟩⟩⟩;have aF: ∀w',Sat ((AA E rb g S++Z).eraseIdx 11) w'->DJ E.AB w':=λw' h=>hT w' h.tail.tail.tail.tail.tail.tail.tail.tail.tail.tail.tail;refine dS hE.toEnvK.toEnvC.toEnvW aF (H.front 11 rfl:Sat (AQ E g.a.b g.a.h g.a.s g.a.r S.W::_) w) hI hf aG hL (λaH=>absurd aH aI) (λz hz ⟨j,hj,hju⟩=>by rw[aD j hj]at hju;cases hju) λn gone W' U' M' Y aC w2 H2=>AO rfl ?_;have H3:Sat (AA E rb g {S with W:=W'}++Z) w2:=Sat.back (Ps:=AA E rb g S++Z) 11 H2 (by simp[AA]);refine AH ⟨_,G7 H3,AH ⟨_,VN H3 (k:=6) rfl,?_⟩⟩;obtain⟨dd,h1⟩:=Sat.ex.1 (H3.front 8 rfl:Sat ((Ex λdd=>CH g.a.d .i64 dd)::_) w2);refine Qe h1 λw4 H4=>AH ?_;have H5:Sat (AA E rb g {S with W:=W'}++Z) w4:=Sat.back (Ps:=AA E rb g {S with W:=W'}++Z) 8 (Sat.ex.2 ⟨_,H4⟩) (by simp[AA]);refine Fy H5 hx (m:=3) {x.2 with tr:=0} rfl (by decide) rfl λw6 H6=>AH ⟨_,K6 H6 (x:=(x.1,{x.2 with tr:=0})) (List.getElem?_set_self v) (k:=8) rfl,AH ?_⟩;show stCells _ 0 [.int .u64 (u64 (x.2.sw+1))] _ _;rw[AR (n:=x.2.sw+1)];refine Fy H6 (x:=(x.1,{x.2 with tr:=0})) (List.getElem?_set_self v) (m:=8) {x.2 with tr:=0,sw:=x.2.sw+1} rfl (by decide) rfl λw7 H7=>AH ?_;refine Fy H7 (x:=(x.1,{x.2 with tr:=0,sw:=x.2.sw+1})) (List.getElem?_set_self (by simpa[Cr.tk]using v)) (m:=2) {x.2 with tr:=0,sw:=x.2.sw+1,step:=10} rfl (by decide) rfl λw8 H8=> ?_;have e:Cr.tk (Cr.tk (Cr.tk {S with W:=W'} i (x.1,{x.2 with tr:=0})) i (x.1,{x.2 with tr:=0,sw:=x.2.sw+1})) i (x.1,{x.2 with tr:=0,sw:=x.2.sw+1,step:=10})={S.tk i (x.1,{x.2 with tr:=0,sw:=x.2.sw+1,step:=10})with W:=W'}:=by simp[Cr.tk]
 have H9:=(congrArg (λs=>Sat (AA E rb g s++Z) w8) e).mp H8;have aA:(S.T.set i (x.1,{x.2 with tr:=0,sw:=x.2.sw+1,step:=10}))[i]? =some (x.1,{x.2 with tr:=0,sw:=x.2.sw+1,step:=10}):=List.getElem?_set_self v;obtain⟨u,hu⟩: ∃y,(S.T.set i (x.1,{x.2 with tr:=0,sw:=x.2.sw+1,step:=10}))[S.Q.length]? =some y:=⟨_,List.getElem?_eq_getElem (by rw[List.length_set];omega)⟩;refine Jq H9 hu λaK J=>U9 (S:={S.tk i (x.1,{x.2 with tr:=0,sw:=x.2.sw+1,step:=10})with W:=W'}) J aA hu ?_;have O:=lJ (S:={S.tk i (x.1,{x.2 with tr:=0,sw:=x.2.sw+1,step:=10})with W:=W'}) J aA hu (by omega);dsimp only at O⊢;rw[O];exact AO rfl (hK n gone W' U' M' Y aC aK J)
end
section
variable{E:Env}{w:World}{Z:List Pr}
def Sx(H:Sat Z w){a b:Int}{K:Int->World->Prop}(d: ∀r w',0<=r->Sat Z w'->K r w'):F.Ji E a b K w:=by
 unfold F.Ji T0.Ji F.Gb T0.Gb F.Ia;have main: ∀(x:Nat) w',Sat Z w'->CND ((E6 x x !=some .eq)) (K 9221120237041090561 w') (K (x:Int) w'):=λx w' h=>AY (λ_=>d _ _ (by decide) h) λ_=>d _ _ (by omega) h;unfold FRES;split
 .exact main _ _ H
 .intro t;exact main _ _ H.drew
def sE(H:Sat Z w){a:Int}(u:0<=a){K:Int->World->Prop}(e: ∀r w',Sat Z w'->K r w'):F.IT E a 100 K w:=by
 unfold F.IT T0.IT F.EK Wl;refine AO rfl (Sx H λr J v m=>Ux m λO d=>⟨⟨u,(WH _ _).1,by decide,by decide⟩,AY (λ_=>e _ _ d) λ_=>e _ _ d⟩)
def sF(H:Sat Z w){a b c:Int}{K:Int->World->Prop}(v: ∀r w',Sat Z w'->K r w'):F.IU E a b c K w:=by
 unfold F.IU T0.IU;refine AV (λs w'=>Sat Z w') (AY (λ_=>Ac λd hd=>H) λ_=>H) ?_;rintro⟨d,u⟩ _ O e;exact Sx e λr J _ m=>v r J m
variable{W:SW}{U M:BA}{A:sV}{dead:Bool}{ma cy:Int}
def eQ(hH:Rx E)(H:Sat (MK E A dead ma cy::AQ E A.b A.h A.s A.r W::Z) w)(hI:Ai W U M){K:Int->Int->World->Prop}
  (hK: ∀a b w',0<=a->Sat (MK E A dead ma cy::AQ E A.b A.h A.s A.r W::Z) w'->K a b w'):F.C4 E (some ⟨A.m,0,none⟩) K w:=by
 unfold F.C4 T0.C4;refine AH ⟨_,H.AU rfl,?_⟩;obtain⟨em,H1⟩:=Sat.IC.1 (H.front 1 rfl:Sat (AQ E A.b A.h A.s A.r W::MK E A dead ma cy::Z) w);refine RV hH (H1.front 1 rfl) hI.hI λs l w2 aA e _ H2=> ?_;have H3:Sat (AQ E A.b A.h A.s A.r W::Row E.Ag 1 s (ints .i64 l)::MK E A dead ma cy::Z) w2:=Sat.IC.2 ⟨em,(H2.Bh 1 rfl).perm (List.perm_middle (l₁:=MB E A.b A.h A.s A.r W em)).symm⟩;have hlen:l.length=s.len:=by
  have:=H2.Bs;rw[ints,List.length_map,Nat.mul_one]at this;exact this
 have aD:l.length<1000000000000000000:=by
  have:=hI.hI.NN l aA λn O=>(e n).1 O;omega
 refine AM (λst w'=> ∃k:Nat,st.2.2.1=(k:Int)/\k<=l.length/\0<=st.1/\Sat (MK E A dead ma cy::AQ E A.b A.h A.s A.r W::Row E.Ag 1 s (ints .i64 l)::Z) w') (λst _=>((l.length:Int)-st.2.2.1).toNat) ⟨0,rfl,Nat.zero_le _,Int.le_refl _,H3.front 2 rfl⟩ ?_;rintro⟨lv,pg,k',u⟩ _ w6 ⟨k,hk,aR,h0,T⟩;dsimp only at hk h0⊢;subst hk;refine AG (λaS=> ?_) λaQ=>hK lv pg w6 h0 ((T.front 2 rfl).tail);have J:k<l.length:=by omega
 obtain⟨id,Nd⟩: ∃id,l[k]? =some id:=⟨_,List.getElem?_eq_getElem J⟩;obtain⟨x,hx⟩: ∃x,W.S.sp id=some x:=Option.ne_none_iff_exists'.1 ((e id).1 (List.mem_of_getElem? Nd));have ei:i64 ((k:Int)+1)=((k+1:Nat):Int):=by rw[AI];rfl
 refine(T.front 2 rfl:Sat (Row E.Ag 1 s (ints .i64 l)::_) w6).Ol (j:=k) (v:=.int .i64 id) (by rw[ints,List.getElem?_map,Nd];rfl) λa ha hc=>⟨⟨by omega,by omega⟩,_,by rw[Int.toNat_natCast,Nat.mul_one];exact hc,?_⟩;refine QB T hI (λO=>by rw[hx]at O;cases O) λy hy w7 H7=>Aa rfl ?_;obtain rfl:y=x:=Option.some.inj (hy.symm.trans hx);refine Kc (H7.front 1 rfl) hx λw8 H8=>AJ (vs:=Jo) H8 λaL w9 H9 _=> ?_;refine CN (news:=Il y.2) H9 rfl (by intro v hv;simp only[Il,List.mem_cons,List.not_mem_nil,or_false]at hv;rcases hv with rfl|rfl|rfl|rfl|rfl|rfl|rfl|rfl|rfl|rfl<;>rfl) λaW d=>⟨_,d.cell (o:=0) (m:=7) rfl,_,d.cell (o:=0) (m:=5) rfl,Ac λaU Y=>⟨_,d.cell (o:=0) (m:=1) rfl,Ac λaV _=> ?_⟩⟩;rw[ei];exact⟨⟨k+1,rfl,by omega,by rw[Y];show 0<=u64 _;rw[QV];omega,d.tail.front 1 rfl⟩,by omega⟩
end
section
variable{E:Env}{rb:Nat}{g:NW}{S:Cr}{Z:List Pr}{w:World}{U M:BA}
def lN(hE:FN E)(hH:Rx E)(H:Sat (AA E rb g S++Z) w){c0 c1:Nat×KS}(hC:S.C=[c0,c1])(hI:Ai S.W U M)(hf:S.W.L.length<1000000){k0:Int}(a5:0<k0/\k0<68)(h0: ∀k np,¬(k=k0/\np=true)->c0.2.held k np=0)(aZ:SC S.W c0.2 k0 true)(h1: ∀k np,c1.2.held k np=0)
  {a1:AW}{as_:List Int}(hA: ∀w',Sat Z w'->rowAt w' a1.base a1.len (ints .u64 as_))(hl:as_.length=a1.len)(bR:a1.len<=1000000)(has: ∀a∈as_,0<=a/\a<18446744073709551616)(a9: ∀d,PA S.W c0.2 k0 true d-> ∀z∈d.L,z.HD=true){K:Int->Int->Int->World->Prop}
  (hK: ∀d S' C0 C1 rt nn w',PA S.W c0.2 k0 true d->QA d.S S'->Ai {d with S:=S',L:=HE d.L} U (M.mark d.S as_)->
   Sat (AA E rb g {S with W:={d with S:=S',L:=HE d.L,Jv:=rt,Br:=0,Fw:=0},C:=[(c0.1,C0),(c1.1,C1)],cy:=u64 (S.cy+1)}++Z) w'->K 0 nn 0 w'):
  F.Ci E (some ⟨g.a.m,0,none⟩) a1 K w:=by
 unfold F.Ci T0.Ci;refine AJ (vs:=[.int .u64 0,.int .u64 0,.int .i64 0]) H λb1 w2 H2 _=> ?_
 let RP:Pr:=Cells b1 E.Aj [.int .u64 0,.int .u64 0,.int .i64 0]
 have Hr:Sat (AA E rb g S++RP::Z) w2:=JR H2;have Y:=(Hr.front 7 rfl:Sat (aF E g.a.cb g.a.cs S.C::_) w2).Jp;rw[hC]at Y;refine AH ⟨_,VN Hr (k:=4) rfl,?_⟩;refine AM (λst w'=>(st.1=0/\Sat (AA E rb g S++RP::Z) w')∨(st.1=1/\ ∃d C0,PA S.W c0.2 k0 true d/\Ai d U M/\Sat (AA E rb g {S with W:=d,C:=[(c0.1,C0),c1]}++RP::Z) w')∨(st.1=2/\ ∃d C0 C1,PA S.W c0.2 k0 true d/\Ai d U M/\Sat (AA E rb g {S with W:=d,C:=[(c0.1,C0),(c1.1,C1)]}++RP::Z) w')) (λst _=>(2-st.1).toNat) (.inl ⟨rfl,Hr⟩) ?_;rintro⟨k,u⟩ _ w4 aM;dsimp only at aM⊢;rcases aM with ⟨rfl,H4⟩|⟨rfl,d,C0,J,T,H4⟩|⟨rfl,d,C0,C1,J,T,H4⟩
 .obtain⟨a,ha,hc⟩:=(H4.front 7 rfl:Sat (aF E g.a.cb g.a.cs S.C::_) w4).Ke (i:=0) (x:=c0) (by rw[hC];rfl);refine Aa (by show decide ((0:Int)<((g.a.cs.len:Nat):Int))=true;rw[<-Y];rfl) (E5 ha ⟨⟨by decide,by show(0:Int)<((g.a.cs.len:Nat):Int);rw[<-Y];show _<((2:Nat):Int);decide⟩,_,hc,?_⟩);obtain⟨R,HR,_,O⟩:=TU H4 (i:=0) (c:=c0) (by rw[hC];rfl);refine RM hE.toEnvK a5 HR hI (by omega) h0 aZ λd J T w5 H5=>⟨.inr (.inl ⟨rfl,d,(c0.2.hold k0 true 0).iO,J,T,?_⟩),by decide⟩;have:=O H5;unfold Cr.cw at this;rw[hC]at this;exact this
 .obtain⟨a,ha,hc⟩:=(H4.front 7 rfl:Sat (aF E g.a.cb g.a.cs [(c0.1,C0),c1]::_) w4).Ke (i:=1) (x:=c1) rfl;refine Aa (by show decide ((1:Int)<((g.a.cs.len:Nat):Int))=true;rw[<-Y];rfl) (E5 ha ⟨⟨by decide,by show(1:Int)<((g.a.cs.len:Nat):Int);rw[<-Y];show _<((2:Nat):Int);decide⟩,_,hc,?_⟩);obtain⟨R,HR,_,O⟩:=TU (S:={S with W:=d,C:=[(c0.1,C0),c1]}) H4 (i:=1) (c:=c1) rfl;have hlen:d.L.length<1000001:=by
   rcases J with ⟨_,rfl⟩|⟨_,y,EU,_,_,rfl⟩
   .omega
   .rw[show(SW.L _)=G5 S.W.L _ from rfl,(G6 S.W.L _).length_eq];show S.W.L.length+1<_;omega
  refine RM hE.toEnvK (k0:=1) (np0:=true) (by decide) HR T (by show d.L.length<_;omega) (λk np _=>h1 k np) (.inl (h1 _ _)) λW1 aE bO w5 H5=> ?_;have a0:W1=d:=by
   rcases aE with ⟨_,e⟩|⟨e,_⟩
   .exact e
   .have:=h1 1 true;omega
  subst a0;exact⟨.inr (.inr ⟨rfl,W1,C0,_,J,T,O H5⟩),by decide⟩
 .refine AO (by show decide ((2:Int)<((g.a.cs.len:Nat):Int))=false;rw[<-Y];rfl) (AH ⟨_,VN H4 (k:=3) rfl,?_⟩)
  let Q:Cr:={S with W:=d,C:=[(c0.1,C0),(c1.1,C1)]}
  have aY: ∀w',Sat ((AA E rb g Q++RP::Z).eraseIdx 11) w'->rowAt w' a1.base a1.len (ints .u64 as_):=λw' h=>hA w' h.tail.tail.tail.tail.tail.tail.tail.tail.tail.tail.tail.tail;refine Zg hE.toEnvK.toEnvC.toEnvW (H4.front 11 rfl:Sat (AQ E g.a.b g.a.h g.a.s g.a.r d::_) w4) T aY hl (by omega) has (λbF=> ?_) λ_ S' a7 aL w6 H6=> ?_
  .exfalso;have:XX d.L false=0:=by
    unfold XX;rw[List.length_eq_zero_iff,List.filter_eq_nil_iff];intro z hz;rw[a9 d J z hz];decide
   omega
  let W2:SW:={d with S:=S',L:=HE d.L}
  have H7:Sat (AA E rb g {Q with W:=W2}++RP::Z) w6:=Sat.back (Ps:=AA E rb g Q++RP::Z) 11 H6 (by simp[AA]);obtain⟨R3,aW,bS,aC⟩:=OW H7;refine eQ hH aW aL λlv pg w8 a6 H8=> ?_;have H9:Sat (AA E rb g {Q with W:=W2}++RP::Z) w8.drew:=(aC H8).drew;refine AH ⟨_,VN H9 (k:=3) rfl,AH ⟨_,VN H9 (k:=8) rfl,?_⟩⟩;refine sE H9 a6 λgl bT aH=>⟨VN aH (k:=3) rfl,sF aH λrt bA aI=>⟨VN aI (k:=3) rfl,?_⟩⟩;refine Zk (aI.front 11 rfl:Sat (AQ E g.a.b g.a.h g.a.s g.a.r W2::_) bA) λaN aP=> ?_
  let W3:SW:={W2 with Jv:=rt,Br:=0,Fw:=0}
  have aJ:Sat (AA E rb g {Q with W:=W3}++RP::Z) aN:=Sat.back (Ps:=AA E rb g {Q with W:=W2}++RP::Z) 11 aP (by simp[AA]);refine AH ⟨_,VN aJ (k:=11) rfl,AH ?_⟩;refine Ah (aJ.front 6 rfl:Sat (MK E g.a false S.ma S.cy::_) aN) (o:=0) (m:=11) rfl (by simp[K4]) λbB aQ=> ?_;have aK:Sat (AA E rb g {Q with W:=W3,cy:=u64 (S.cy+1)}++RP::Z) bB:=Sat.back (Ps:=AA E rb g {Q with W:=W3}++RP::Z) 6 aQ (by simp[AA]);refine AH ⟨_,VN aK (k:=1) rfl,?_⟩;obtain⟨R5,a8,a3⟩:=eC aK;refine M6 a8 λaO aR=> ?_;have aS:Sat (AA E rb g {Q with W:=W3,cy:=u64 (S.cy+1)}++RP::Z) aO:=a3 (L':=W3.L) aR;refine CN (news:=[.int .u64 0,.int .u64 (u64 _),.int .i64 0]) (aS.front 12 rfl:Sat (RP::_) aO) rfl (by intro v hv;simp only[List.mem_cons,List.not_mem_nil,or_false]at hv;rcases hv with rfl|rfl|rfl<;>rfl) λbC aB=> ?_;refine⟨_,aB.cell (o:=0) (m:=0) rfl,_,aB.cell (o:=0) (m:=1) rfl,_,aB.cell (o:=0) (m:=2) rfl,?_⟩;exact hK d S' C0 C1 rt _ bC J a7 aL aB.tail
def Z6(hE:FN E)(hH:Rx E)(H:Sat (AA E rb g S++Z) w){i k:Nat}{x:Nat×Tk}{y:Nat×Ak}(hx:S.T[i]? =some x)(hk:x.2.ask=(k:Int))(hy:S.L[k]? =some y)(u:S.ord.length<1000000){c0 c1:Nat×KS}(hC:S.C=[c0,c1])(hI:Ai S.W U M)(hf:S.W.L.length<1000000){k0:Int}(aB:0<k0/\k0<68)(h0: ∀k np,¬(k=k0/\np=true)->c0.2.held k np=0)(Y:SC S.W c0.2 k0 true)(h1: ∀k np,c1.2.held k np=0)
  {as_:List Int}(hA: ∀w',Sat Z w'->rowAt w' y.2.set.base y.2.set.len (ints .u64 as_))(hl:as_.length=y.2.set.len)(aC:y.2.set.len<=1000000)(has: ∀a∈as_,0<=a/\a<18446744073709551616)(aE: ∀d,PA S.W c0.2 k0 true d-> ∀z∈d.L,z.HD=true){K:World->Prop}
  (hK: ∀d S' v J rt nn O w',PA S.W c0.2 k0 true d->QA d.S S'->Ai {d with S:=S',L:=HE d.L} U (M.mark d.S as_)->
   Sat (AA E rb O {Cr.done {S with W:={d with S:=S',L:=HE d.L,Jv:=rt,Br:=0,Fw:=0},C:=[(c0.1,v),(c1.1,J)],cy:=u64 (S.cy+1)} i x k y 0 nn 0 with wo:= -1}++Z) w'->K w'):
  F.FV E (some ⟨rb,0,none⟩) (some ⟨x.1,0,none⟩) K w:=by
 unfold F.FV T0.FV;have Hd:=H.drew;refine AH ⟨_,G7 Hd,JS Hd hx hk hy λw2 H2=>⟨G7 H2,?_⟩⟩;refine lN hE hH H2 hC hI hf aB h0 Y h1 hA hl aC has aE λd S' v J rt nn w3 e aD aA H3=> ?_;refine Js H3 u hx hk hy λO w4 H4=>AH ?_;exact VC H4 (m:=7) (by decide) rfl λw5 H5=>hK d S' v J rt nn O w5 e aD aA H5
end
def RZ(E:Env)(rb:Nat)(f m:Int)(w2:World)(K:Bool->World->Prop)(d:Int×Int×Unit->World->Prop):Prop:=
  CND (decide ((m:Int)<200000)) (
   Ao (Bool×Unit) (λJ4=>
    F.Dz E (some ⟨rb,0,none⟩) (λr7 w8=>
    CND (r7) (
     J4 (true,()) w8
    ) (
     NC (some (⟨rb,0,none⟩:Addr)) λp9=>
     ∃v:(Option Addr),w8.cell? p9=some (.pointer v)/\
     F.A4 E v (λT aD=>
     J4 (T,()) aD
     ) w8
    )
    ) w2
   ) λs5 _ w6=>
    CND (s5.1) (
     K true w6
    ) (
     F.D9 E (some ⟨rb,0,none⟩) f (λY aA a=>
     CND (!aA) (
      K false a
     ) (
      Ao (Int×Unit) (λe=>
       CND (decide ((m:Int)<(((⟨none,0,0⟩:AW).len:Nat):Int))) (
        NC (⟨none,0,0⟩:AW).base λO=>
        ((0:Int)<=m/\(m:Int)<((⟨none,0,0⟩:AW).len:Nat))/\
        ∃J:Int,a.cell? (O.add (Int.toNat m*1))=some (.int .i64 J)/\
        e (J,()) a
       ) (
        e (Y,()) a
       )
      ) λaX _ aE=>
       F.FB E (some ⟨rb,0,none⟩) aX.1 (λaB aC u=>
       CND ((aC:Int) !=0) (
        K false u
       ) (
        d (i64 (aB+1),i64 (m+1),()) u
       )
       ) aE
     )
     ) w6
    )
  ) (
   K false w2
  )
def eT{n k:Nat}(h:k<n)(d:n<1000):Int.tmod (i64 (Int.tmod (k:Int) (n:Int)+(n:Int))) (n:Int)=(k:Int):=by
 have a:Int.tmod (k:Int) (n:Int)=(k:Int):=by
  rw[Int.tmod_eq_emod_of_nonneg (by omega)];exact Int.emod_eq_of_lt (by omega) (by omega)
 rw[a,AI,Int.tmod_eq_emod_of_nonneg (by omega),Int.add_emod_right];exact Int.emod_eq_of_lt (by omega) (by omega)
structure lP(E:Env)(rb:Nat)(f m:Int)(w2:World)(K:Bool->World->Prop)(next3:Int×Int×Unit->World->Prop):Prop where
 go:RZ E rb f m w2 K next3
section
variable{E:Env}{rb:Nat}{g:NW}{S:Cr}{Z:List Pr}{w:World}
def WW(hE:FN E)(H:Sat (AA E rb g S++Z) w)(BU:FM S)(d:NF S=true){f m:Int}(hm:m<200000){K:Bool->World->Prop}{next:Int×Int×Unit->World->Prop}(a:K true w):lP E rb f m w K next:=by
 constructor;unfold RZ;rw[decide_eq_true hm];refine Aa rfl (AZ (Jr hE H BU ?_));rw[d];exact Aa rfl λe=>Aa rfl a
def EF(hE:FN E)(H:Sat (AA E rb g S++Z) w)(BU:FM S)(hq:NF S=false){l:List Nat}(e:TT S=l)(hl:l.length<1000){f:Int}{i m:Nat}(hi:l[OU l f]? =some i)(hm:m<1000){x:Nat×Tk}(hx:S.T[i]? =some x)
  (J:x.2.step=0-> ∃s a l y,S.Q[i]? =some (s,((a:Nat):Int)::l)/\S.L[a]? =some y)(d:Cr->Prop)(hR: ∀S',d S'-> ∃t',S'.T[i]? =some (x.1,t')/\t'.n=(i:Int))
  (Y: ∀S1 x1,Beg S i x S1->S1.T[i]? =some x1->x1.1=x.1->Zs E rb g Z S1 x.1 x1.2.step d){K:Bool->World->Prop}{next:Int×Int×Unit->World->Prop}
  (u: ∀O S' w',d S'->Sat (AA E rb O S'++Z) w'->next ((i:Int)+1,(m:Int)+1,()) w'):lP E rb f (m:Int) w K next:=by
 constructor;unfold RZ;have aI:=(List.getElem?_eq_some_iff.1 hx).1;have aC:=BU.NN;have aA:=(List.getElem?_eq_some_iff.1 hi).1;rw[decide_eq_true (show(m:Int)<200000 by omega)];refine Aa rfl (AZ (Jr hE H BU ?_));rw[hq];refine AO rfl (AH ⟨_,G7 H,Kf (H.front 6 rfl) λjj=>AO rfl ?_⟩);refine Sq H BU λw3 H3=> ?_;rw[e,decide_eq_true (show((l.length:Nat):Int)>0 by omega)];refine AO rfl (AZ (AO rfl λjj=> ?_));have v:Int.tmod (i64 (Int.tmod ((OU l f:Nat):Int) ((TT S).length:Int)+((TT S).length:Int))) ((TT S).length:Int)=((OU l f:Nat):Int):=by
  rw[e];exact eT aA hl
 refine WS hE H3 BU (by rw[e];exact hi) v hx J d hR Y λO S' w' hr H'=>AO rfl ?_;rw[AI (n:=(i:Int)+1),AI (n:=(m:Int)+1)];exact u O S' w' hr H'
end
def Jw(t:Nat->Nat)(T0 a:Tk)(d e:AW×List Int)(m:List (Nat×Ak))(ord:List Int)(ho wo:Int)(W:SW)(c0 c1:Nat×KS)(ma cy:Int):Cr:=⟨[(t 0,T0),(t 1,a),(t 2,Ta 2),(t 3,Ta 3)],[d,e],m,ord,ho,wo,W,[c0,c1],ma,cy⟩
def Ec{t:Nat->Nat}{T0 m:Tk}{J K:AW×List Int}{e:List (Nat×Ak)}{ord:List Int}{ho wo:Int}{W:SW}{c0 c1:Nat×KS}{ma cy:Int}(h0:T0.n=0)(h1:m.n=1)(u: ∀a∈J.2,0<=a/\a<e.length)(v: ∀a∈K.2,0<=a/\a<e.length)(O:e.length<1000):FM (Jw t T0 m J K e ord ho wo W c0 c1 ma cy):=by
 refine⟨rfl,λi x d=> ?_,λi x d=> ?_,by show(4:Nat)<_/\e.length<_;omega⟩
 .have d:[(t 0,T0),(t 1,m),(t 2,Ta 2),(t 3,Ta 3)][i]? =some x:=d
  match i,d with
  | 0,d=>cases d;exact h0
  | 1,d=>cases d;exact h1
  | 2,d=>cases d;rfl
  | 3,d=>cases d;rfl
  | n+4,d=>simp at d
 .have d:[J,K][i]? =some x:=d
  match i,d with
  | 0,d=>cases d;exact u
  | 1,d=>cases d;exact v
  | n+2,d=>simp at d
def Sv.two{S:Cr}(h:Sv S 2 []): ∃t c0 c1,S=Jw t (Ta 0) (Ta 1) (⟨none,0,0⟩,[]) (⟨none,0,0⟩,[]) [] [] (-1) (-1) (SW.new (HS.new (Lo [] [] []))) (c0,⟨0,λ_=>0,0,0⟩) (c1,⟨1,λ_=>0,0,0⟩) 0 0:=by
 obtain⟨T,Q,L,ord,ho,wo,W,C,ma,cy⟩:=S;obtain⟨h1,m,O,Y,h5,h6,h7,h8,h9,a,d,e⟩:=h;dsimp only at h1 m O Y h5 h6 h7 h8 h9 a d e;subst O Y h5 h6 h7 h8 d e
 match T,h1 with
 | [x0,x1,x2,x3],_=>
  match C,h9 with
  | [c0,c1],_=>
   have u:=m 0 x0 rfl;have v:=m 1 x1 rfl;have J:=m 2 x2 rfl;have K:=m 3 x3 rfl;have f0:=a 0 c0 rfl;have f1:=a 1 c1 rfl;refine⟨λn=>if n=0 then x0.1 else if n=1 then x1.1 else if n=2 then x2.1 else x3.1,c0.1,c1.1,?_⟩;obtain⟨p0,t0⟩:=x0;obtain⟨p1,t1⟩:=x1;obtain⟨p2,t2⟩:=x2;obtain⟨p3,t3⟩:=x3;obtain⟨r0,d0⟩:=c0;obtain⟨r1,d1⟩:=c1;dsimp only at u v J K f0 f1;subst u v J K f0 f1;rfl
def K0(p:Int):KS:=⟨p,λ_=>0,0,0⟩
def tw(n ask step cls pg:Int):Tk:=⟨n,ask,step,0,cls,true,false,pg,0⟩
def ya(b:Nat):Nat×Ak:=(b,Ak.new 1 0 40 ⟨none,0,0⟩)
def yb(b:Nat):Nat×Ak:=(b,Ak.new 1 1 100000 ⟨none,0,0⟩)
def yr(y:Nat×Ak)(ad nn:Int):Nat×Ak:=(y.1,y.2.rep ad nn 0)
def Wz:SW:=SW.new (HS.new (Lo [] [] []))
def isC40:IsC 40 5:=⟨by decide,by decide,by rw[iH];decide,λj h0 h1=>by
 have h:(Au 1).1<40/\(Au 2).1<40/\(Au 3).1<40/\(Au 4).1<40:=by decide+kernel
 rcases(by omega:j=1∨j=2∨j=3∨j=4)with rfl|rfl|rfl|rfl
 .exact h.1
 .exact h.2.1
 .exact h.2.2.1
 .exact h.2.2.2⟩
def Xz:Fz 40 5 1:=.inl ⟨by decide,isC40,by rw[iH]⟩
def Z7:Fz 100000 0 13:=.inr ⟨by decide,rfl,by decide⟩
structure F7(W:SW)(C:List (Nat×KS))(U:BA)(n:Nat)(EV b:Int):Prop where
 tp:ID W C U NP n [⟨EV,0,b,106496⟩] []
 sb: ∃x,W.S.sp EV=some x/\x.2.cls=0/\x.2.base=b/\x.2.AP=1/\x.2.elem=106496
 so: ∀j,j≠EV->W.S.sp j=none
 L: ∃EU,W.L=[⟨EU,EV,b,(0,true,true,true)⟩]
 rf:W.S.V.rf.length=0
 R:W.R=[]/\W.em=[]
structure F9(W:SW)(C:List (Nat×KS))(U:BA)(n:Nat)(EP EV b:Int)(B:List Bk)(um:Nat->Bool):Prop where
 tp:ID W C U NP n B []
 ne:EP≠EV/\0<EP/\0<EV
 sa: ∃x,W.S.sp EP=some x/\x.2.cls=5/\x.2.E3=true/\x.2.elem=48/\x.2.AP=170
 sb: ∃x,W.S.sp EV=some x/\x.2.cls=0/\x.2.base=b/\x.2.AP=1/\x.2.elem=106496
 so: ∀j,j≠EP->j≠EV->W.S.sp j=none
 ua:U EP=um
 L: ∃EU,W.L=[⟨EU,EV,b,(0,true,true,true)⟩]
 rf:W.S.V.rf.length=0
 R:W.R=[]/\W.em=[]
def Kg(t:Nat->Nat)(b0 b1 c0 c1:Nat):Nat->Int->Cr->Prop
 | 0,f,S=>f=0/\ ∃s0 s1,S=Jw t (Ta 0) (Ta 1) (s0,[0]) (s1,[1]) [ya b0,yb b1] [] (-1) (-1) Wz (c0,K0 0) (c1,K0 1) 0 0
 | 1,f,S=>f=1/\ ∃s0 s1,S=Jw t (tw 0 0 2 5 1) (Ta 1) (s0,[]) (s1,[1]) [ya b0,yb b1] [] (-1) (-1) (Wz.I6 (1*8192)) (c0,K0 0) (c1,K0 1) 0 0
 | 2,f,S=>f=2/\ ∃s0 s1,S=Jw t (tw 0 0 2 5 1) (tw 1 1 2 0 13) (s0,[]) (s1,[]) [ya b0,yb b1] [] (-1) (-1) ((Wz.I6 (1*8192)).I6 (13*8192)) (c0,K0 0) (c1,K0 1) 0 0
 | 3,f,S=>f=1/\ ∃s0 s1,S=Jw t (tw 0 0 4 5 1) (tw 1 1 2 0 13) (s0,[]) (s1,[]) [ya b0,yb b1] [] (-1) (-1) ((Wz.I6 (1*8192)).I6 (13*8192)) (c0,K0 0) (c1,K0 1) 0 0
 | 4,f,S=>f=2/\ ∃s0 s1,S=Jw t (tw 0 0 4 5 1) (tw 1 1 6 0 13) (s0,[]) (s1,[]) [ya b0,yb b1] [] (-1) (-1) ((Wz.I6 (1*8192)).I6 (13*8192)) (c0,K0 0) (c1,K0 1) 0 0
 | 5,f,S=>f=1/\ ∃s0 s1,S=Jw t (tw 0 0 6 5 1) (tw 1 1 6 0 13) (s0,[]) (s1,[]) [ya b0,yb b1] [] (-1) (-1) ((Wz.I6 (1*8192)).I6 (13*8192)) (c0,K0 0) (c1,K0 1) 0 0
 | 6,f,S=>f=2/\ ∃s0 s1,S=Jw t (tw 0 0 6 5 1) (tw 1 1 7 0 13) (s0,[]) (s1,[]) [ya b0,yb b1] [] 1 (-1) ((Wz.I6 (1*8192)).I6 (13*8192)) (c0,K0 0) (c1,K0 1) 0 0
 | 7,f,S=>f=2/\ ∃s0 s1 W ma U EV b,F7 W [(c0,K0 0),(c1,K0 1)] U 2 EV b/\S=Jw t (tw 0 0 6 5 1) (tw 1 1 0 0 13) (s0,[]) (s1,[]) [ya b0,yr (yb b1) b 106496] [1] (-1) (-1) W (c0,K0 0) (c1,K0 1) ma 0
 | 8,f,S=>f=1/\ ∃s0 s1 W ma U EV b,F7 W [(c0,K0 0),(c1,K0 1)] U 2 EV b/\S=Jw t (tw 0 0 7 5 1) (tw 1 1 0 0 13) (s0,[]) (s1,[]) [ya b0,yr (yb b1) b 106496] [1] 0 (-1) W (c0,K0 0) (c1,K0 1) ma 0
 | 9,f,S=>f=1/\ ∃s0 s1 W ma U EP EV b,F9 W [(c0,(K0 0).hold 5 true EP),(c1,K0 1)] U 3 EP EV b [⟨EV,0,b,106496⟩] FK/\S=Jw t (tw 0 0 1 5 1) (tw 1 1 0 0 13) (s0,[]) (s1,[]) [ya b0,yr (yb b1) b 106496] [1] (-1) (-1) W (c0,(K0 0).hold 5 true EP) (c1,K0 1) ma 0
 | 10,f,S=>f=1/\ ∃s0 s1 W ma U EP EV b m a,F9 W [(c0,(K0 0).hold 5 true EP),(c1,K0 1)] U 3 EP EV b [⟨EP,m,a,48⟩,⟨EV,0,b,106496⟩] (λj=>FK j||j==m)/\S=Jw t (tw 0 0 0 5 1) (tw 1 1 0 0 13) (s0,[]) (s1,[]) [yr (ya b0) a 48,yr (yb b1) b 106496] [1,0] (-1) (-1) W (c0,(K0 0).hold 5 true EP) (c1,K0 1) ma 0
 | _,_,_=>False
def KP(p k:Int)(np:Bool):(K0 p).held k np=0:=by unfold KS.held K0;split<;>rfl
section
variable{E:Env}{rb:Nat}{g:NW}{S:Cr}{Z:List Pr}{w:World}
def tpz(c0 c1:Nat):ID Wz [(c0,K0 0),(c1,K0 1)] NP NP 0 [] []:=by
 refine⟨Ai.new [] [] [],⟨λx e=>(by cases e),λx e=>(by cases e),rfl,Int.le_refl _,⟨Int.le_refl _,by show(0:Int)<_;decide⟩⟩,λx e=>(by cases e),⟨512,GA.new [],by decide⟩,Nat.le_refl _,λi c a k np=> ?_,λi j c d a hd _ k np g=> ?_,List.nodup_nil,λid x m e=>(by cases e),λp hp=>(by cases hp),λp hp=>hp,λp hp=>(by cases hp)⟩
 .match i,a with
  | 0,a=>cases a;exact .inl (KP _ _ _)
  | 1,a=>cases a;exact .inl (KP _ _ _)
  | n+2,a=>simp at a
 .match i,a with
  | 0,a=>cases a;exact absurd (KP _ _ _) g
  | 1,a=>cases a;exact absurd (KP _ _ _) g
  | n+2,a=>simp at a
def Z8(hE:FN E){i:Nat}{x:Nat×Tk}(O:S.T[i]? =some x)(K:S.W.Jv=0)(e:0<=S.W.Fw){a:Cr->Prop}(h:a (S.tk i (x.1,{x.2 with step:=if x.2.cls=0 then 6 else 4}))):Zs E rb g Z S x.1 2 a:=
 ⟨E.GD,by simp[Im],λR Y w' u v J=>hE.eA _ _ R w' (RK v O K e λm d=>J _ _ m h d)⟩
def xG(hE:FN E){i:Nat}{x:Nat×Tk}(K:S.T[i]? =some x)(h0:FW S.W.L (x.2.cls,x.2.np,false,true)=[])(e: ∀z∈S.W.L,z.HD=true/\z.kd.2.2.2=true){a:Cr->Prop}(h:a (S.tk i (x.1,{x.2 with step:=6}))):Zs E rb g Z S x.1 4 a:=
 ⟨E.Gr,by simp[Im],λR O w' u v J=>hE.rR _ _ R w' (Ss hE.toEnvK.toEnvC.toEnvW v K h0 e λm d=>J _ _ m h d)⟩
def iV(hE:FN E)(BU:FM S){i k:Nat}{x:Nat×Tk}{y:Nat×Ak}(O:S.T[i]? =some x)(hi:i<S.Q.length)(K:x.2.ask=(k:Int))(Y:S.L[k]? =some y)(e:y.2.op=1){a:Cr->Prop}(h:a {S.tk i (x.1,{x.2 with step:=7})with ho:=(i:Int)}):Zs E rb g Z S x.1 6 a:=
 ⟨E.Gs,by simp[Im],λR Z' w' u v J=>hE.rT _ _ R w' (Sr v BU O hi K Y e λm d=>J _ _ m h d)⟩
def Beg.same{x:Nat×Tk}{i:Nat}{S1:Cr}(h:Beg S i x S1)(a:x.2.step≠0):S1=S:=by
 rcases h with ⟨_,e⟩|⟨e,_⟩
 .exact e
 .exact absurd e a
def Beg.new{x:Nat×Tk}{i:Nat}{S1:Cr}(h:Beg S i x S1)(h0:x.2.step=0){s:AW}{a:Nat}{l:List Int}{y:Nat×Ak}(v:S.Q[i]? =some (s,(a:Int)::l))(J:S.L[a]? =some y): ∃s',S1=S.wV i x a s' l (Gl y.2.op):=by
 rcases h with ⟨e,_⟩|⟨_,s1,s',a1,l1,O,d,m,e⟩
 .exact absurd h0 e
 .rw[v]at d;obtain⟨_,u⟩:=Prod.mk.inj (Option.some.inj d);obtain⟨K,rfl⟩:=List.cons.inj u;obtain rfl:a=a1:=by omega
  rw[J]at m;cases m;exact⟨s',e⟩
end
section
variable{E:Env}{rb:Nat}{g:NW}{S:Cr}{Z:List Pr}{w:World}{t:Nat->Nat}{b0 b1 c0 c1:Nat}
def Way(E:Env)(rb:Nat)(Z:List Pr)(Scr:Nat->Int->Cr->Prop)(k:Nat):Prop:= ∀g S f w (K:Bool->World->Prop) (next:Int×Int×Unit->World->Prop),Scr k f S->Sat (AA E rb g S++Z) w->
 (∀d S' a w',Scr (k+1) a S'->Sat (AA E rb d S'++Z) w'->next (a,(k:Int)+1,()) w')->lP E rb f (k:Int) w K next
def way0(hE:FN E)(hT: ∀w',Sat Z w'->DJ E.AB w'):Way E rb Z (Kg t b0 b1 c0 c1) 0:=by
 intro g S f w K next ⟨hf,s0,s1,hS⟩ H hnext
 subst hf hS;have BU:FM (Jw t (Ta 0) (Ta 1) (s0,[0]) (s1,[1]) [ya b0,yb b1] [] (-1) (-1) Wz (c0,K0 0) (c1,K0 1) 0 0):=Ec rfl rfl (by simp) (by simp) (by simp);refine EF (f:=0) (m:=0) (l:=[0,1]) (i:=0) hE H BU rfl rfl (by decide) rfl (by decide) (x:=(t 0,Ta 0)) rfl (λ_=>⟨s0,0,[],ya b0,rfl,rfl⟩) (λS'=>Kg t b0 b1 c0 c1 1 1 S') (λS' h=> ?_) (λS1 x1 hb aA he=> ?_) λg' S' w' hr T=>hnext g' S' 1 w' hr T
 .obtain⟨_,_,_,rfl⟩:=h;exact⟨_,rfl,rfl⟩
 .obtain⟨s',rfl⟩:=hb.new rfl (s:=s0) (a:=0) (l:=[]) (y:=ya b0) rfl rfl;cases aA;refine⟨E.Ep,by simp[Im,Gl,ya,Ak.new],λR Z' w' J T hK=>hE.Zr _ _ R w' ?_⟩;have v:FM (Jw t ⟨0,0,1,0,0,false,false,0,0⟩ (Ta 1) (s',[]) (s1,[1]) [ya b0,yb b1] [] (-1) (-1) Wz (c0,K0 0) (c1,K0 1) 0 0):=Ec rfl rfl (by simp) (by simp) (by simp);have O:=tpz c0 c1;refine MD (S:=Jw t ⟨0,0,1,0,0,false,false,0,0⟩ (Ta 1) (s',[]) (s1,[1]) [ya b0,yb b1] [] (-1) (-1) Wz (c0,K0 0) (c1,K0 1) 0 0) (i:=0) (k:=0) (x:=(t 0,⟨0,0,1,0,0,false,false,0,0⟩)) (y:=ya b0) (c:=(c0,K0 0)) hE (λd h=>hT d (J d h)) T v rfl rfl rfl rfl (show(16:Int)<=40 by decide) (show(40:Int)<=1000000 by decide) rfl O.inv O.F6.ch (show(0:Nat)<1099511627776 by decide) (λk=>.inl (KP _ _ _)) (show(0:Nat)<1000000 by decide) (λcls pg _ _ z m uw hz=>by cases hz) λcls pg W0 Cl hw hl d Y=>hK _ _ d ?_ Y;obtain⟨rfl,rfl⟩:=hw.uniq Xz;rcases hl with ⟨e,_⟩|⟨_,_,u,_,rfl⟩
  .omega
  .rcases u with ⟨_,rfl⟩|⟨e,_⟩
   .refine⟨rfl,s',s1,?_⟩;rw[eH (by decide) (KP _ _ _)];rfl
   .rw[KP]at e;omega
def way1(hE:FN E)(hT: ∀w',Sat Z w'->DJ E.AB w'):Way E rb Z (Kg t b0 b1 c0 c1) 1:=by
 intro g S f w K next ⟨hf,s0,s1,hS⟩ H hnext
 subst hf hS;have BU:FM (Jw t (tw 0 0 2 5 1) (Ta 1) (s0,[]) (s1,[1]) [ya b0,yb b1] [] (-1) (-1) (Wz.I6 (1*8192)) (c0,K0 0) (c1,K0 1) 0 0):=Ec rfl rfl (by simp) (by simp) (by simp);refine EF (f:=1) (m:=1) (l:=[0,1]) (i:=1) hE H BU rfl rfl (by decide) rfl (by decide) (x:=(t 1,Ta 1)) rfl (λ_=>⟨s1,1,[],yb b1,rfl,rfl⟩) (λS'=>Kg t b0 b1 c0 c1 2 2 S') (λS' h=> ?_) (λS1 x1 hb Y he=> ?_) λg' S' w' hr O=>hnext g' S' 2 w' hr O
 .obtain⟨_,_,_,rfl⟩:=h;exact⟨_,rfl,rfl⟩
 .obtain⟨s',rfl⟩:=hb.new rfl (s:=s1) (a:=1) (l:=[]) (y:=yb b1) rfl rfl;cases Y;refine⟨E.Ep,by simp[Im,Gl,yb,Ak.new],λR Z' w' v O hK=>hE.Zr _ _ R w' ?_⟩;have u:FM (Jw t (tw 0 0 2 5 1) ⟨1,1,1,0,0,false,false,0,0⟩ (s0,[]) (s',[]) [ya b0,yb b1] [] (-1) (-1) (Wz.I6 (1*8192)) (c0,K0 0) (c1,K0 1) 0 0):=Ec rfl rfl (by simp) (by simp) (by simp);have J:=(tpz c0 c1).I6 (k:=1*8192) (by decide);refine MD (S:=Jw t (tw 0 0 2 5 1) ⟨1,1,1,0,0,false,false,0,0⟩ (s0,[]) (s',[]) [ya b0,yb b1] [] (-1) (-1) (Wz.I6 (1*8192)) (c0,K0 0) (c1,K0 1) 0 0) (i:=1) (k:=1) (x:=(t 1,⟨1,1,1,0,0,false,false,0,0⟩)) (y:=yb b1) (c:=(c1,K0 1)) hE (λd h=>hT d (v d h)) O u rfl rfl rfl rfl (show(16:Int)<=100000 by decide) (show(100000:Int)<=1000000 by decide) rfl J.inv J.F6.ch (show(0:Nat)<1099511627776 by decide) (λk=>.inl (KP _ _ _)) (show(0:Nat)<1000000 by decide) (λcls pg _ _ z m uw hz=>by cases hz) λcls pg W0 Cl hw hl d T=>hK _ _ d ?_ T;obtain⟨rfl,rfl⟩:=hw.uniq Z7;rcases hl with ⟨_,rfl,rfl⟩|⟨e,_⟩
  .exact⟨rfl,s0,s',rfl⟩
  .omega
def way2(hE:FN E):Way E rb Z (Kg t b0 b1 c0 c1) 2:=by
 intro g S f w K next ⟨hf,s0,s1,hS⟩ H hnext
 subst hf hS;refine EF (f:=2) (m:=2) (l:=[0,1]) (i:=0) hE H (Ec rfl rfl (by simp) (by simp) (by simp)) rfl rfl (by decide) rfl (by decide) (x:=(t 0,tw 0 0 2 5 1)) rfl (λh=>absurd (show(2:Int)=0 from h) (by decide)) (λS'=>Kg t b0 b1 c0 c1 3 1 S') (λS' h=> ?_) (λS1 J u a he=> ?_) λe S' w' v d=>hnext e S' 1 w' v d
 .obtain⟨_,_,_,rfl⟩:=h;exact⟨_,rfl,rfl⟩
 .obtain rfl:=u.same (show(2:Int)≠0 by decide);cases a;exact Z8 (i:=0) hE rfl rfl (show(0:Int)<=0 by decide) ⟨rfl,s0,s1,rfl⟩
def way3(hE:FN E):Way E rb Z (Kg t b0 b1 c0 c1) 3:=by
 intro g S f w K next ⟨hf,s0,s1,hS⟩ H hnext
 subst hf hS;refine EF (f:=1) (m:=3) (l:=[0,1]) (i:=1) hE H (Ec rfl rfl (by simp) (by simp) (by simp)) rfl rfl (by decide) rfl (by decide) (x:=(t 1,tw 1 1 2 0 13)) rfl (λh=>absurd (show(2:Int)=0 from h) (by decide)) (λS'=>Kg t b0 b1 c0 c1 4 2 S') (λS' h=> ?_) (λS1 J u a he=> ?_) λe S' w' v d=>hnext e S' 2 w' v d
 .obtain⟨_,_,_,rfl⟩:=h;exact⟨_,rfl,rfl⟩
 .obtain rfl:=u.same (show(2:Int)≠0 by decide);cases a;exact Z8 (i:=1) hE rfl rfl (show(0:Int)<=0 by decide) ⟨rfl,s0,s1,rfl⟩
def way4(hE:FN E):Way E rb Z (Kg t b0 b1 c0 c1) 4:=by
 intro g S f w K next ⟨hf,s0,s1,hS⟩ H hnext
 subst hf hS;refine EF (f:=2) (m:=4) (l:=[0,1]) (i:=0) hE H (Ec rfl rfl (by simp) (by simp) (by simp)) rfl rfl (by decide) rfl (by decide) (x:=(t 0,tw 0 0 4 5 1)) rfl (λh=>absurd (show(4:Int)=0 from h) (by decide)) (λS'=>Kg t b0 b1 c0 c1 5 1 S') (λS' h=> ?_) (λS1 J u a he=> ?_) λe S' w' v d=>hnext e S' 1 w' v d
 .obtain⟨_,_,_,rfl⟩:=h;exact⟨_,rfl,rfl⟩
 .obtain rfl:=u.same (show(4:Int)≠0 by decide);cases a;exact xG (i:=0) hE rfl rfl (λz hz=>by cases hz) ⟨rfl,s0,s1,rfl⟩
def way5(hE:FN E):Way E rb Z (Kg t b0 b1 c0 c1) 5:=by
 intro g S f w K next ⟨hf,s0,s1,hS⟩ H hnext
 subst hf hS;have BU:FM (Jw t (tw 0 0 6 5 1) (tw 1 1 6 0 13) (s0,[]) (s1,[]) [ya b0,yb b1] [] (-1) (-1) ((Wz.I6 (1*8192)).I6 (13*8192)) (c0,K0 0) (c1,K0 1) 0 0):=Ec rfl rfl (by simp) (by simp) (by simp);refine EF (f:=1) (m:=5) (l:=[0,1]) (i:=1) hE H BU rfl rfl (by decide) rfl (by decide) (x:=(t 1,tw 1 1 6 0 13)) rfl (λh=>absurd (show(6:Int)=0 from h) (by decide)) (λS'=>Kg t b0 b1 c0 c1 6 2 S') (λS' h=> ?_) (λS1 J u a he=> ?_) λe S' w' v d=>hnext e S' 2 w' v d
 .obtain⟨_,_,_,rfl⟩:=h;exact⟨_,rfl,rfl⟩
 .obtain rfl:=u.same (show(6:Int)≠0 by decide);cases a;exact iV (i:=1) (k:=1) (y:=yb b1) hE BU rfl (show 1<2 by decide) rfl rfl rfl ⟨rfl,s0,s1,rfl⟩
def way7(hE:FN E):Way E rb Z (Kg t b0 b1 c0 c1) 7:=by
 intro g S f w K next ⟨hf,s0,s1,W,ma,U,EV,b,hF,hS⟩ H hnext
 subst hf hS;have BU:FM (Jw t (tw 0 0 6 5 1) (tw 1 1 0 0 13) (s0,[]) (s1,[]) [ya b0,yr (yb b1) b 106496] [1] (-1) (-1) W (c0,K0 0) (c1,K0 1) ma 0):=Ec rfl rfl (by simp) (by simp) (by simp);refine EF (f:=2) (m:=7) (l:=[0]) (i:=0) hE H BU rfl rfl (by decide) rfl (by decide) (x:=(t 0,tw 0 0 6 5 1)) rfl (λh=>absurd (show(6:Int)=0 from h) (by decide)) (λS'=>Kg t b0 b1 c0 c1 8 1 S') (λS' h=> ?_) (λS1 J u a he=> ?_) λe S' w' v d=>hnext e S' 1 w' v d
 .obtain⟨_,_,_,_,_,_,_,_,_,rfl⟩:=h;exact⟨_,rfl,rfl⟩
 .obtain rfl:=u.same (show(6:Int)≠0 by decide);cases a;exact iV (i:=0) (k:=0) (y:=ya b0) hE BU rfl (show 0<2 by decide) rfl rfl rfl ⟨rfl,s0,s1,W,ma,U,EV,b,hF,rfl⟩
end
section
variable{E:Env}{rb:Nat}{g:NW}{S:Cr}{Z:List Pr}{w:World}{t:Nat->Nat}{b0 b1 c0 c1:Nat}
def way6(hE:FN E)(hT: ∀w',Sat Z w'->DJ E.AB w'):Way E rb Z (Kg t b0 b1 c0 c1) 6:=by
 intro g S f w K next ⟨hf,s0,s1,hS⟩ H hnext
 subst hf hS;have BU:FM (Jw t (tw 0 0 6 5 1) (tw 1 1 7 0 13) (s0,[]) (s1,[]) [ya b0,yb b1] [] 1 (-1) ((Wz.I6 (1*8192)).I6 (13*8192)) (c0,K0 0) (c1,K0 1) 0 0):=Ec rfl rfl (by simp) (by simp) (by simp);refine EF (f:=2) (m:=6) (l:=[1]) (i:=1) hE H BU rfl rfl (by decide) rfl (by decide) (x:=(t 1,tw 1 1 7 0 13)) rfl (λh=>absurd (show(7:Int)=0 from h) (by decide)) (λS'=>Kg t b0 b1 c0 c1 7 2 S') (λS' h=> ?_) (λS1 x1 hb aH he=> ?_) λg' S' w' hr H'=>hnext g' S' 2 w' hr H'
 .obtain⟨_,_,_,_,_,_,_,_,_,rfl⟩:=h;exact⟨_,rfl,rfl⟩
 .obtain rfl:=hb.same (show(7:Int)≠0 by decide);cases aH;have a:=((tpz c0 c1).I6 (k:=1*8192) (by decide)).I6 (k:=13*8192) (by decide);refine⟨E.Fs,by simp[Im,tw],λR Z' w' aA H' hK=>hE.iM _ _ R w' ?_⟩;refine OY (i:=1) (k:=1) (x:=(t 1,tw 1 1 7 0 13)) (y:=yb b1) (c:=(c1,K0 1)) hE (λd h=>hT d (aA d h)) H' BU rfl rfl rfl rfl (show(16:Int)<=100000 by decide) (show(100000:Int)<=1000000 by decide) Z7 rfl rfl rfl a.inv (show(0:Nat)<1099511627776 by decide) (λz hz=>by cases hz) (show(0:Nat)<1000000 by decide) (λS2 hl J e g' d u=> ?_) (λS2 bl id page X hN O=>absurd (show(0:Int)<0 from O) (by decide)) λS2 bl id page X uw EU hN h0 v e g' d u=>hK _ _ d ?_ u
  .have:=(a.lost hl J (show(1:Int)<=13 by decide) (show(13:Int)<=130 by decide) (by decide) e).2;exact absurd this (Nat.not_lt_zero _)
  .obtain⟨aG,aF,T,Y⟩:=a.fresh hN (show(1:Int)<=13 by decide) (show(13:Int)<=130 by decide) (by decide) (λq hq=>by cases hq) v;have Nd:=(v.hI.sp id _ T).1;have aB:=aG.NQ T rfl rfl (by rw[BA.Ir];rfl) (a.TX hN.no) (a.Xt hN.no Nd) e;rw[WQ]at aB;refine⟨rfl,s0,s1,_,_,_,id,page*8192,⟨aB,⟨_,HS.Fv,rfl,rfl,rfl,rfl⟩,λj hj=> ?_,⟨EU,rfl⟩,?_,rfl,rfl⟩,rfl⟩
   .exact(HS.HU hj).trans (Y j hj)
   .have:S2.V.rf.length<=0:=aF;show S2.V.rf.length=0;omega
def way8(hE:FN E)(hT: ∀w',Sat Z w'->DJ E.AB w'):Way E rb Z (Kg t b0 b1 c0 c1) 8:=by
 intro g S f w K next ⟨hf,s0,s1,W,ma,U,EV,b,hF,hS⟩ H hnext
 subst hf hS;have BU:FM (Jw t (tw 0 0 7 5 1) (tw 1 1 0 0 13) (s0,[]) (s1,[]) [ya b0,yr (yb b1) b 106496] [1] 0 (-1) W (c0,K0 0) (c1,K0 1) ma 0):=Ec rfl rfl (by simp) (by simp) (by simp);refine EF (f:=1) (m:=8) (l:=[0]) (i:=0) hE H BU rfl rfl (by decide) rfl (by decide) (x:=(t 0,tw 0 0 7 5 1)) rfl (λh=>absurd (show(7:Int)=0 from h) (by decide)) (λS'=>Kg t b0 b1 c0 c1 9 1 S') (λS' h=> ?_) (λS1 x1 hb aK he=> ?_) λg' S' w' hr H'=>hnext g' S' 1 w' hr H'
 .obtain⟨_,_,_,_,_,_,_,_,_,_,rfl⟩:=h;exact⟨_,rfl,rfl⟩
 .obtain rfl:=hb.same (show(7:Int)≠0 by decide);cases aK;have a:=hF.tp;obtain⟨xb,O,aL,aM,aN,aO⟩:=hF.sb;obtain⟨Y,aH⟩:=hF.L;refine⟨E.Fs,by simp[Im,tw],λR Z' w' aD H' hK=>hE.iM _ _ R w' ?_⟩;refine OY (i:=0) (k:=0) (x:=(t 0,tw 0 0 7 5 1)) (y:=ya b0) (c:=(c0,K0 0)) hE (λd h=>hT d (aD d h)) H' BU rfl rfl rfl rfl (show(16:Int)<=40 by decide) (show(40:Int)<=1000000 by decide) Xz rfl rfl rfl a.inv (Nat.lt_of_le_of_lt a.len (by decide)) (λz hz=>(a.F6.kd z hz).imp λy h=>h.1) (show(1:Nat)<1000000 by decide) (λS2 hl aC u g' d T=> ?_) (λS2 bl id page X hN aR u d T=>hK _ _ d ?_ T) λS2 bl id page X uw EU hN h0=>absurd (show(5:Int)=0 from h0) (by decide)
  .have h1:=(a.lost hl aC (show(1:Int)<=1 by decide) (show(1:Int)<=130 by decide) (by decide) u).2;have h2:=hF.rf;exact absurd h1 (by omega)
  .obtain⟨aJ,aI,J,v⟩:=a.fresh hN (show(1:Int)<=1 by decide) (show(1:Int)<=130 by decide) (by decide) (λq hq=>by cases hq) u;have Nd:=(u.hI.sp id _ J).1;have aB:id≠EV:=λe=>by
    have h9:W.S.sp id=none:=hN.no;rw[e,O]at h9;cases h9
   have aE:=aJ.hold (i:=0) (c:=(c0,K0 0)) (k:=5) (np:=true) rfl (by decide) J ⟨rfl,rfl⟩ Nd (a.TX hN.no) (a.Xt hN.no Nd);rw[WQ]at aE;refine⟨rfl,s0,s1,_,ma,_,id,EV,b,⟨aE,⟨aB,Nd,(a.inv.hI.sp EV xb O).1⟩,⟨_,J,rfl,rfl,?_,?_⟩,⟨xb,(v EV (λe=>aB e.symm)).trans O,aL,aM,aN,aO⟩,λj h1 h2=>(v j h1).trans (hF.so j h2),BA.Ir ..,⟨Y,aH⟩,?_,hF.R⟩,rfl⟩
   .show(if(5:Int)=0 then(1*8192:Int)else(Au 5).1)=48;rw[if_neg (by decide),iH]
   .show(if(5:Int)=0 then(1:Int)else(Au 5).2.2.1)=170;rw[if_neg (by decide),iH]
   .have h2:=hF.rf;have h3:S2.V.rf.length<=W.S.V.rf.length:=aI;show S2.V.rf.length=0;omega
def way9(hE:FN E)(hT: ∀w',Sat Z w'->DJ E.AB w'):Way E rb Z (Kg t b0 b1 c0 c1) 9:=by
 intro g S f w K next ⟨hf,s0,s1,W,ma,U,EP,EV,b,hF,hS⟩ H hnext
 subst hf hS;have BU:FM (Jw t (tw 0 0 1 5 1) (tw 1 1 0 0 13) (s0,[]) (s1,[]) [ya b0,yr (yb b1) b 106496] [1] (-1) (-1) W (c0,(K0 0).hold 5 true EP) (c1,K0 1) ma 0):=Ec rfl rfl (by simp) (by simp) (by simp);refine EF (f:=1) (m:=9) (l:=[0]) (i:=0) hE H BU rfl rfl (by decide) rfl (by decide) (x:=(t 0,tw 0 0 1 5 1)) rfl (λh=>absurd (show(1:Int)=0 from h) (by decide)) (λS'=>Kg t b0 b1 c0 c1 10 1 S') (λS' h=> ?_) (λS1 x1 hb aL he=> ?_) λg' S' w' hr H'=>hnext g' S' 1 w' hr H'
 .obtain⟨_,_,_,_,_,_,_,_,_,_,_,_,rfl⟩:=h;exact⟨_,rfl,rfl⟩
 .obtain rfl:=hb.same (show(1:Int)≠0 by decide);cases aL;have d:=hF.tp;obtain⟨xa,aF,aJ,aK,v,aA⟩:=hF.sa;obtain⟨T,aI⟩:=hF.L;have a:((K0 0).hold 5 true EP).held 5 true=EP:=LD _ (by decide) (by decide) _;have aC:=d.own 0 (c0,(K0 0).hold 5 true EP) rfl;refine⟨E.Ep,by simp[Im,tw],λR Z' w' aD H' hK=>hE.Zr _ _ R w' ?_⟩;refine MD (i:=0) (k:=0) (x:=(t 0,tw 0 0 1 5 1)) (y:=ya b0) (c:=(c0,(K0 0).hold 5 true EP)) hE (λu h=>hT u (aD u h)) H' BU rfl rfl rfl rfl (show(16:Int)<=40 by decide) (show(40:Int)<=1000000 by decide) rfl d.inv d.F6.ch (Nat.lt_of_le_of_lt d.len (by decide)) (λk=>aC.eF k true) (show(1:Nat)<1000000 by decide) (λcls pg hw aN z m uw hz hm hu Y g' u O=>hK _ _ u ?_ O) λcls pg W0 Cl hw hl u O=> ?_
  .obtain⟨rfl,rfl⟩:=hw.uniq Xz;rw[a]at hz hu Y;have J:W.S.sp EP=some z:=hz;obtain rfl:z=xa:=Option.some.inj (J.symm.trans aF);have aE:=d.take (d.held (i:=0) (c:=(c0,(K0 0).hold 5 true EP)) rfl (k:=5) (np:=true) (by rw[a];exact J)) (by rw[a];exact J) hm (by rw[a];exact hu) (uw:=uw) (by rw[a];exact Y);rw[a,v]at aE;refine⟨rfl,s0,s1,W.take EP z uw m,u64 (ma+1),U.take EP m,EP,EV,b,m,z.2.base+m*48,⟨aE,hF.ne,⟨_,HS.Fv,aJ,aK,v,aA⟩,?_,λj h1 h2=>(HS.HU h1).trans (hF.so j h1 h2),?_,⟨T,aI⟩,hF.rf,hF.R⟩,?_⟩
   .obtain⟨xb,h1,h2⟩:=hF.sb;exact⟨xb,(HS.HU (λe=>hF.ne.1 e.symm)).trans h1,h2⟩
   .unfold BA.take;rw[BA.Ir,hF.ua]
   .show Cr.done (Cr.mw _ _ (W.take (((K0 0).hold 5 true EP).held 5 true) z uw m)) 0 _ 0 _ (z.2.base+m*z.2.elem) z.2.elem 0=_;rw[a,v];rfl
  .obtain⟨rfl,rfl⟩:=hw.uniq Xz;rcases hl with ⟨e,_⟩|⟨_,aB,_⟩
   .omega
   .have:=aB xa (by rw[a];exact aF) 0 (by rw[aA];decide);rw[a,hF.ua]at this;cases this
def xH(hE:FN E)(J: ∀w',Sat Z w'->DJ E.AB w'){f:Int}(hS:Kg t b0 b1 c0 c1 0 f S)(H:Sat (AA E rb g S++Z) w){K:Bool->World->Prop}
  (hK: ∀e S' f' w',Kg t b0 b1 c0 c1 10 f' S'->Sat (AA E rb e S'++Z) w'->K true w'):F.BG E (some ⟨rb,0,none⟩) ⟨none,0,0⟩ K w:=by
 have aC:=hS.1;subst aC;unfold F.BG T0.BG;refine AM (λst w'=> ∃(k:Nat) (e:NW) (S':Cr),st.2.1=(k:Int)/\k<=10/\Kg t b0 b1 c0 c1 k st.1 S'/\Sat (AA E rb e S'++Z) w') (λst _=>(11-st.2.1).toNat) ⟨0,g,S,rfl,by decide,hS,H⟩ ?_;rintro⟨f,m,u⟩ _ T ⟨k,e,S',hk,aG,d,Y⟩;dsimp only at hk d⊢;subst hk;have go: ∀(O:Int×Int×Unit->World->Prop),(O=λs' w'=>(∃(k:Nat) (e:NW) (S':Cr),s'.2.1=(k:Int)/\k<=10/\Kg t b0 b1 c0 c1 k s'.1 S'/\Sat (AA E rb e S'++Z) w')/\(11-s'.2.1).toNat<(11-(k:Int)).toNat)-> ∀(v:Way E rb Z (Kg t b0 b1 c0 c1) k),k<10->lP E rb f (k:Int) T K O:=by
  intro O aA v aM;refine v e S' f T K O d Y ?_;intro g3 S3 f3 w3 aE H3;rw[aA];exact⟨⟨k+1,g3,S3,rfl,by omega,aE,H3⟩,by show(11-((k:Int)+1)).toNat<_;omega⟩
 have hB:lP E rb f (k:Int) T K (λs' w'=>(∃(k:Nat) (e:NW) (S':Cr),s'.2.1=(k:Int)/\k<=10/\Kg t b0 b1 c0 c1 k s'.1 S'/\Sat (AA E rb e S'++Z) w')/\(11-s'.2.1).toNat<(11-(k:Int)).toNat):=by
  match k,d,go with
  | 0,d,go=>exact go _ rfl (way0 hE J) (by decide)
  | 1,d,go=>exact go _ rfl (way1 hE J) (by decide)
  | 2,d,go=>exact go _ rfl (way2 hE) (by decide)
  | 3,d,go=>exact go _ rfl (way3 hE) (by decide)
  | 4,d,go=>exact go _ rfl (way4 hE) (by decide)
  | 5,d,go=>exact go _ rfl (way5 hE) (by decide)
  | 6,d,go=>exact go _ rfl (way6 hE J) (by decide)
  | 7,d,go=>exact go _ rfl (way7 hE) (by decide)
  | 8,d,go=>exact go _ rfl (way8 hE J) (by decide)
  | 9,d,go=>exact go _ rfl (way9 hE J) (by decide)
  | 10,d,go=>
   have aD:=d;obtain⟨hf,s0,s1,W,ma,U,EP,EV,b,m,a,hF,aB⟩:=d;subst aB;exact WW hE Y (Ec rfl rfl (by simp) (by simp) (by simp)) rfl (by omega) (hK e _ f T aD Y)
  | n+11,d,go=>omega
 cases hB with|mk h=>
 unfold RZ at h;dsimp only at h⊢
 with_reducible exact h
end
def BA.eU{U:BA}{id j:Int}{u:Nat->Bool}(h:j≠id):U.set id u j=U j:=if_neg h
def cN0{v:Nat->Bool}(h: ∀i,v i=false): ∀N,cN v N=0
 | 0=>rfl
 | n+1=>by simp only[cN,cN0 h n,h n];rfl
def VP(L:List EH)(id:Int):Option Bool->Prop
 | none=> ∀z∈L,z.id≠id
 | some s=>(∃z∈L,z.id=id)/\ ∀z∈L,z.id=id->z.HD=s
section
variable{L:List EH}{id j:Int}{q:Option Bool}{x:EH}{s:Bool}
def VP.rem:VP (Hv L id) id none:=λz hz=>(Ka.1 hz).2
def VP.sG(h:VP L id q)(a:id≠j):VP (Hv L j) id q:=by
 cases q with
 | none=>exact λz hz=>h z (Ka.1 hz).1
 | some s=>
  obtain⟨⟨z,hz,e⟩,d⟩:=h;exact⟨⟨z,Ka.2 ⟨hz,by rw[e];exact a⟩,e⟩,λy m=>d y (Ka.1 m).1⟩
def VP.ins(h:VP L id none)(a:x.id=id):VP (G5 L x) id (some x.HD):=by
 refine⟨⟨x,Dd.2 (.inl rfl),a⟩,λz hz e=> ?_⟩;rcases Dd.1 hz with rfl|hz
 .rfl
 .exact absurd e (h z hz)
def VP.sH(h:VP L id q)(d:x.id≠id):VP (G5 L x) id q:=by
 cases q with
 | none=>
  intro z hz;rcases Dd.1 hz with rfl|hz
  .exact d
  .exact h z hz
 | some s=>
  obtain⟨⟨z,hz,e⟩,m⟩:=h;refine⟨⟨z,Dd.2 (.inr hz),e⟩,λy a he=> ?_⟩;rcases Dd.1 a with rfl|a
  .exact absurd he d
  .exact m y a he
def VP.flip(h:VP L id (some s)):VP (HE L) id (some false):=by
 obtain⟨⟨z,hz,e⟩,d⟩:=h;refine⟨⟨z.flip,List.mem_map.2 ⟨z,hz,rfl⟩,e⟩,λy a he=> ?_⟩;obtain⟨x,_,rfl⟩:=List.mem_map.1 a;rfl
end
structure FS(W:SW)(U M:BA)(EP EV b:Int)(n:Nat)(qa qb:Option Bool)(la mb:Bool):Prop where
 inv:Ai W U M
 ne:EP≠EV/\0<EP/\0<EV
 R:W.R=[]/\W.em=[]
 len:W.L.length<=n
 mem: ∀z∈W.L,z.id=EP∨z.id=EV
 qa:VP W.L EP qa
 qb:VP W.L EV qb
 a1:la=true->W.S.sp EP≠none/\ ∀i,M EP i=false
 a0:la=false->W.S.sp EP=none
 sb: ∃x,W.S.sp EV=some x/\x.2.base=b/\x.2.AP=1/\x.2.elem=106496
 ub:U EV 0=true
 mb:mb=true-> ∀i,M EV i=(i==0)
 so: ∀i,i≠EP->i≠EV->W.S.sp i=none
section
variable{W W':SW}{U M U' M':BA}{EP EV b:Int}{n k:Nat}{qa qb:Option Bool}{la mb gone:Bool}
def FS.remA(h:FS W U M EP EV b n qa qb la mb)(hI:Ai {W with L:=Hv W.L EP} U M):FS {W with L:=Hv W.L EP} U M EP EV b n none qb la mb:=
 ⟨hI,h.ne,h.R,Nat.le_trans (List.length_filter_le _ _) h.len,λz hz=>h.mem z (Ka.1 hz).1,VP.rem,h.qb.sG h.ne.1.symm,h.a1,h.a0,h.sb,h.ub,h.mb,h.so⟩
def FS.Hv(h:FS W U M EP EV b n qa qb la mb)(hI:Ai {W with L:=Hv W.L EV} U M):FS {W with L:=Hv W.L EV} U M EP EV b n qa none la mb:=
 ⟨hI,h.ne,h.R,Nat.le_trans (List.length_filter_le _ _) h.len,λz hz=>h.mem z (Ka.1 hz).1,h.qa.sG h.ne.1,VP.rem,h.a1,h.a0,h.sb,h.ub,h.mb,h.so⟩
def FS.num(h:FS W U M EP EV b n qa qb la mb){rt ch rp:Int}:FS {W with Jv:=rt,Br:=ch,Fw:=rp} U M EP EV b n qa qb la mb:=
 ⟨⟨h.inv.hI,h.inv.sp,h.inv.it⟩,h.ne,h.R,h.len,h.mem,h.qa,h.qb,h.a1,h.a0,h.sb,h.ub,h.mb,h.so⟩
def FS.oneA(h:FS W U M EP EV b n none qb true mb)(ho:dP W U M EP false k gone W' U' M')(hI:Ai W' U' M'):FS W' U' M' EP EV b n none qb false mb:=by
 obtain⟨x,t,uw,hx,Y,O,hn,rfl,rfl,W1,u,hc⟩:=ho;rw[NA (by rw[h.R.1];intro _ _ _ v;cases v)]at O;subst O;have T:=(h.a1 rfl).2;have h0:cN (λi=>U EP i&&M EP i) x.2.AP.toNat=0:=cN0 (λi=>by rw[T];exact Bool.and_false _) _;rcases hc with ⟨e,_⟩|⟨_,_,_,a,J,e⟩|⟨_,e,_⟩
 .cases e
 .subst e;subst u;have d: ∀j,j≠EP->(HS.free (W.S.put EP (x.1,Lj x.2 uw λi=>U EP i&&M EP i)) a (x.2.base/8192) x.2.AF).sp j=W.S.sp j:=λj K=>(if_neg (by rw[<-J];exact K)).trans (HS.HU K);refine⟨hI,h.ne,h.R,h.len,h.mem,h.qa,h.qb,λe=>(by cases e),λ_=>if_pos J,?_,?_,λe i=> ?_,λi h1 m=>(d i h1).trans (h.so i h1 m)⟩
  .obtain⟨y,v,m⟩:=h.sb;exact⟨y,(d EV h.ne.1.symm).trans v,m⟩
  .rw[BA.eU h.ne.1.symm];exact h.ub
  .rw[BA.eU h.ne.1.symm];exact h.mb e i
 .exact absurd h0 e
def FS.oneB(h:FS W U M EP EV b n qa none la true)(ho:dP W U M EV false k gone W' U' M')(hI:Ai W' U' M'):FS W' U' M' EP EV b (n+1) qa (some true) la false:=by
 obtain⟨x,t,uw,hx,T,O,hn,rfl,rfl,W1,d,Y⟩:=ho;rw[NA (by rw[h.R.1];intro _ _ _ m;cases m)]at O;subst O;have K:=h.mb rfl;obtain⟨y,m,u,a,v⟩:=h.sb;obtain rfl:x=y:=Option.some.inj (hx.symm.trans m);have h0:cN (λi=>U EV i&&M EV i) x.2.AP.toNat≠0:=by
  rw[a];show cN _ 1≠0;simp only[cN,h.ub,K];decide
 rcases Y with ⟨e,_⟩|⟨_,e,_⟩|⟨_,_,_,EU,e⟩
 .cases e
 .exact absurd e h0
 .subst e;subst d;refine⟨hI,h.ne,h.R,?_,λz hz=> ?_,h.qa.sH h.ne.1.symm,h.qb.ins rfl,λe=> ?_,λe=>(HS.HU h.ne.1).trans (h.a0 e),⟨_,HS.Fv,u,a,v⟩,?_,λe=>(by cases e),λi h1 J=>(HS.HU J).trans (h.so i h1 J)⟩
  .rw[show(SW.L _)=G5 W.L _ from rfl,(G6 W.L _).length_eq];exact Nat.succ_le_succ h.len
  .rcases Dd.1 hz with rfl|hz
   .exact .inr rfl
   .exact h.mem z hz
  .refine⟨λc=>(h.a1 e).1 ((HS.HU h.ne.1).symm.trans c),λi=> ?_⟩;rw[BA.eU h.ne.1];exact(h.a1 e).2 i
  .rw[BA.Ir];show(U EV 0&&M EV 0)=true;rw[h.ub,K];rfl
def FS.mu(h:FS W U M EP EV b n qa qb true mb): ∀i,M EP i=true->U EP i=true:=λi e=>by rw[(h.a1 rfl).2]at e;cases e
def FS.muB(h:FS W U M EP EV b n qa qb la true): ∀i,M EV i=true->U EV i=true:=λi e=>by
 rw[h.mb rfl]at e;obtain rfl:i=0:=by simpa using e
 exact h.ub
def F9.flip{C:List (Nat×KS)}{um:Nat->Bool}{c0:Nat×KS}{J:SW}{S':HS}{m:Nat}{a:Int}(h:F9 W C U 3 EP EV b [⟨EP,m,a,48⟩,⟨EV,0,b,106496⟩] um)(hh:c0.2.held 5 true=EP)(hl:PA W c0.2 5 true J)(hm:QA J.S S')
  (hI:Ai {J with S:=S',L:=HE J.L} U (NP.mark J.S [b+5000])):FS {J with S:=S',L:=HE J.L} U (NP.mark J.S [b+5000]) EP EV b 2 (some false) (some false) true true:=by
 obtain⟨aH,O⟩:=h.L;obtain⟨xb,d,aJ,T,u,v⟩:=h.sb;obtain⟨xa,aG,_⟩:=h.sa;rcases hl with ⟨e,_⟩|⟨hp,y,EU,hy,Y,rfl⟩
 .have:=h.ne.2.1;omega
 .rw[hh]at hI hm hy Y⊢;have aD:=h.tp.inv.hI.sp EV xb d;have BU:=(h.tp.inv.sp EV xb d).1;have aF:=BU.size;have aA:W.S.own ((b+5000)/8192)=EV:=aD.2.2.2.2 _ (by omega) (by rw[u,v]at aF;omega);have aE:mkOf W.S (b+5000)=some (EV,0):=by
   unfold mkOf;rw[aA,d];dsimp only;rw[if_pos (by rw[u,v,T];omega),T,v,show(b+5000-b)/106496=0 by omega];rfl
  have K: ∀id i,NP.mark W.S [b+5000] id i=decide ((EV,0)=(id,i)):=λid i=>by
   unfold BA.mark;simp only[List.any_cons,List.any_nil,Bool.or_false];rw[aE];show(false||_)=_;simp
  refine⟨hI,h.ne,h.R,?_,λz hz=> ?_,?_,?_,λ_=>⟨λc=> ?_,λi=> ?_⟩,λe=>(by cases e),?_,?_,λ_ i=> ?_,λi h1 h2=>hm.no i (h.so i h1 h2)⟩
  .show(HE (G5 W.L _)).length<=2;unfold HE;rw[List.length_map,(G6 W.L _).length_eq,O];exact Nat.le_refl _
  .obtain⟨x,hx,rfl⟩:=List.mem_map.1 hz;rcases Dd.1 hx with rfl|hx
   .exact .inl rfl
   .rw[O]at hx;obtain rfl:=List.mem_singleton.1 hx;exact .inr rfl
  .exact VP.flip (VP.ins (λz hz=>Y z hz) rfl)
  .refine VP.flip (s:=true) (VP.sH ?_ h.ne.1);rw[O];exact⟨⟨_,List.mem_singleton.2 rfl,rfl⟩,λz hz _=>by rw[List.mem_singleton.1 hz]⟩
  .obtain⟨mw,e⟩:=hm.sp EP xa aG;rw[show S'.sp EP=none from c]at e;cases e
  .show NP.mark W.S [b+5000] EP i=false;rw[K];exact decide_eq_false λe=>h.ne.1 (Prod.mk.inj e).1.symm
  .obtain⟨mw,e⟩:=hm.sp EV xb d;exact⟨_,e,T,u,v⟩
  .refine(h.tp.bl EV xb 0 d (by rw[u];decide)).2 ?_;simp[keyOf]
  .show NP.mark W.S [b+5000] EV i=_;rw[K];cases i with
   | zero=>exact decide_eq_true rfl
   | succ i=>exact decide_eq_false λe=>by cases (Prod.mk.inj e).2
end
def tv(ask step tr sw:Int):Tk:=⟨0,ask,step,tr,5,true,false,1,sw⟩
def yc(b:Nat)(s:AW):Nat×Ak:=(b,Ak.new 6 0 0 s)
def yw(b:Nat):Nat×Ak:=(b,Ak.new 7 0 9 ⟨none,0,0⟩)
structure Fx where
 t:Nat->Nat
 b0:Nat
 b1:Nat
 b2:Nat
 b3:Nat
 c0:Nat
 c1:Nat
 EP:Int
 EV:Int
 b:Int
 a:Int
 m:Nat
 s2:AW
 ma:Int
def Fx.y(x:Fx)(d e:Nat×Ak):List (Nat×Ak):=[yr (ya x.b0) x.a 48,yr (yb x.b1) x.b 106496,d,e]
def NJ(x:Fx):Nat->Int->Cr->Prop
 | 0,f,S=>f=0/\ ∃s0 s1 W U u,F9 W [(x.c0,(K0 0).hold 5 true x.EP),(x.c1,K0 1)] U 3 x.EP x.EV x.b [⟨x.EP,x.m,x.a,48⟩,⟨x.EV,0,x.b,106496⟩] u/\S=Jw x.t (tv 0 0 0 0) (tw 1 1 0 0 13) (s0,[2,3]) (s1,[]) (x.y (yc x.b2 x.s2) (yw x.b3)) [1,0] (-1) (-1) W (x.c0,(K0 0).hold 5 true x.EP) (x.c1,K0 1) x.ma 0
 | 1,f,S=>f=1/\ ∃s0 s1 W U u,F9 W [(x.c0,(K0 0).hold 5 true x.EP),(x.c1,K0 1)] U 3 x.EP x.EV x.b [⟨x.EP,x.m,x.a,48⟩,⟨x.EV,0,x.b,106496⟩] u/\S=Jw x.t (tv 2 13 0 0) (tw 1 1 0 0 13) (s0,[3]) (s1,[]) (x.y (yc x.b2 x.s2) (yw x.b3)) [1,0] (-1) 0 W (x.c0,(K0 0).hold 5 true x.EP) (x.c1,K0 1) x.ma 0
 | 2,f,S=>f=1/\ ∃s0 s1 W U u,F9 W [(x.c0,(K0 0).hold 5 true x.EP),(x.c1,K0 1)] U 3 x.EP x.EV x.b [⟨x.EP,x.m,x.a,48⟩,⟨x.EV,0,x.b,106496⟩] u/\S=Jw x.t (tv 2 14 0 0) (tw 1 1 0 0 13) (s0,[3]) (s1,[]) (x.y (yc x.b2 x.s2) (yw x.b3)) [1,0] (-1) 0 W (x.c0,(K0 0).hold 5 true x.EP) (x.c1,K0 1) x.ma 0
 | 3,f,S=>f=1/\ ∃s0 s1 W U u,F9 W [(x.c0,(K0 0).hold 5 true x.EP),(x.c1,K0 1)] U 3 x.EP x.EV x.b [⟨x.EP,x.m,x.a,48⟩,⟨x.EV,0,x.b,106496⟩] u/\S=Jw x.t (tv 2 16 0 0) (tw 1 1 0 0 13) (s0,[3]) (s1,[]) (x.y (yc x.b2 x.s2) (yw x.b3)) [1,0] (-1) 0 W (x.c0,(K0 0).hold 5 true x.EP) (x.c1,K0 1) x.ma 0
 | 4,f,S=>f=1/\ ∃s0 s1 W U M d e nn cy,FS W U M x.EP x.EV x.b 2 (some false) (some false) true true/\S=Jw x.t (tv 2 0 0 0) (tw 1 1 0 0 13) (s0,[3]) (s1,[]) (x.y (yr (yc x.b2 x.s2) 0 nn) (yw x.b3)) [1,0,2] (-1) (-1) W d e x.ma cy
 | 5,f,S=>f=1/\ ∃s0 s1 W U M d e nn cy id,((id=x.EP/\FS W U M x.EP x.EV x.b 2 none (some false) true true)∨(id=x.EV/\FS W U M x.EP x.EV x.b 2 (some false) none true true))/\S=Jw x.t (tv 3 11 id 0) (tw 1 1 0 0 13) (s0,[]) (s1,[]) (x.y (yr (yc x.b2 x.s2) 0 nn) (yw x.b3)) [1,0,2] (-1) (-1) W d e x.ma cy
 | 6,f,S=>f=1/\ ∃s0 s1 W U M d e nn cy,(FS W U M x.EP x.EV x.b 2 none (some false) false true∨FS W U M x.EP x.EV x.b 3 (some false) (some true) true false)/\S=Jw x.t (tv 3 10 0 1) (tw 1 1 0 0 13) (s0,[]) (s1,[]) (x.y (yr (yc x.b2 x.s2) 0 nn) (yw x.b3)) [1,0,2] (-1) (-1) W d e x.ma cy
 | 7,f,S=>f=1/\ ∃s0 s1 W U M d e nn cy id,((id=x.EV/\FS W U M x.EP x.EV x.b 2 none none false true)∨(id=x.EP/\FS W U M x.EP x.EV x.b 3 none (some true) true false))/\S=Jw x.t (tv 3 11 id 1) (tw 1 1 0 0 13) (s0,[]) (s1,[]) (x.y (yr (yc x.b2 x.s2) 0 nn) (yw x.b3)) [1,0,2] (-1) (-1) W d e x.ma cy
 | 8,f,S=>f=1/\ ∃s0 s1 W U M d e nn cy,FS W U M x.EP x.EV x.b 3 none (some true) false false/\S=Jw x.t (tv 3 10 0 2) (tw 1 1 0 0 13) (s0,[]) (s1,[]) (x.y (yr (yc x.b2 x.s2) 0 nn) (yw x.b3)) [1,0,2] (-1) (-1) W d e x.ma cy
 | 9,f,S=>f=1/\ ∃s0 s1 W U M d e nn cy,FS W U M x.EP x.EV x.b 3 none (some true) false false/\S=Jw x.t (tv 3 0 0 2) (tw 1 1 0 0 13) (s0,[]) (s1,[]) (x.y (yr (yc x.b2 x.s2) 0 nn) (yr (yw x.b3) 0 2)) [1,0,2,3] (-1) (-1) W d e x.ma cy
 | _,_,_=>False
section
variable{E:Env}{rb:Nat}{g:NW}{S:Cr}{Z:List Pr}{w:World}{x:Fx}
def enL13{t:Nat->Nat}{a d:AW×List Int}{e:List (Nat×Ak)}{ord:List Int}{W:SW}{c0 c1:Nat×KS}{ma cy:Int}:TT (Jw t (tv 2 13 0 0) (tw 1 1 0 0 13) a d e ord (-1) 0 W c0 c1 ma cy)=[0]:=by
 have h0:ML (Jw t (tv 2 13 0 0) (tw 1 1 0 0 13) a d e ord (-1) 0 W c0 c1 ma cy) (t 0) 13=false:=by
  unfold ML;rw[if_neg (by decide),if_pos rfl];simp[Jw,U7,tv,tw,Ta]
 have h1:lU (Jw t (tv 2 13 0 0) (tw 1 1 0 0 13) a d e ord (-1) 0 W c0 c1 ma cy) 0=true:=by
  show(!ML (Jw t (tv 2 13 0 0) (tw 1 1 0 0 13) a d e ord (-1) 0 W c0 c1 ma cy) (t 0) 13)=true;rw[h0];rfl
 have m:lU (Jw t (tv 2 13 0 0) (tw 1 1 0 0 13) a d e ord (-1) 0 W c0 c1 ma cy) 1=false:=rfl;have u:lU (Jw t (tv 2 13 0 0) (tw 1 1 0 0 13) a d e ord (-1) 0 W c0 c1 ma cy) 2=false:=rfl;have v:lU (Jw t (tv 2 13 0 0) (tw 1 1 0 0 13) a d e ord (-1) 0 W c0 c1 ma cy) 3=false:=rfl;show([0,1,2,3]:List Nat).filter _=[0];simp only[List.filter,h1,m,u,v]
def wav0(hE:FN E):Way E rb Z (NJ x) 0:=by
 intro g S f w K next ⟨hf,s0,s1,W,U,um,hF,hS⟩ H hnext
 subst hf hS;have BU:FM (Jw x.t (tv 0 0 0 0) (tw 1 1 0 0 13) (s0,[2,3]) (s1,[]) (x.y (yc x.b2 x.s2) (yw x.b3)) [1,0] (-1) (-1) W (x.c0,(K0 0).hold 5 true x.EP) (x.c1,K0 1) x.ma 0):=Ec rfl rfl (by simp[Fx.y]) (by simp) (by simp[Fx.y]);refine EF (f:=0) (m:=0) (l:=[0]) (i:=0) hE H BU rfl rfl (by decide) rfl (by decide) (x:=(x.t 0,tv 0 0 0 0)) rfl (λ_=>⟨s0,2,[3],yc x.b2 x.s2,rfl,rfl⟩) (λS'=>NJ x 1 1 S') (λS' h=> ?_) (λS1 x1 Y u he=> ?_) λO S' w' hr d=>hnext O S' 1 w' hr d
 .obtain⟨_,_,_,_,_,_,_,rfl⟩:=h;exact⟨_,rfl,rfl⟩
 .obtain⟨s',rfl⟩:=Y.new rfl (s:=s0) (a:=2) (l:=[3]) (y:=yc x.b2 x.s2) rfl rfl;cases u;refine⟨E.IJ,by simp[Im,Gl,yc,Ak.new],λR Z' w' J d T=>hE.yJ _ _ R w' ?_⟩;exact Z3 (i:=0) d rfl λv e=>T _ _ v ⟨rfl,s',s1,W,U,um,hF,rfl⟩ e
def wav1(hE:FN E):Way E rb Z (NJ x) 1:=by
 intro g S f w K next ⟨hf,s0,s1,W,U,um,hF,hS⟩ H hnext
 subst hf hS;refine EF (f:=1) (m:=1) (l:=[0]) (i:=0) hE H (Ec rfl rfl (by simp[Fx.y]) (by simp) (by simp[Fx.y])) rfl enL13 (by decide) rfl (by decide) (x:=(x.t 0,tv 2 13 0 0)) rfl (λh=>absurd (show(13:Int)=0 from h) (by decide)) (λS'=>NJ x 2 1 S') (λS' h=> ?_) (λS1 x1 T e he=> ?_) λJ S' w' Y a=>hnext J S' 1 w' Y a
 .obtain⟨_,_,_,_,_,_,_,rfl⟩:=h;exact⟨_,rfl,rfl⟩
 .obtain rfl:=T.same (show(13:Int)≠0 by decide);cases e;exact⟨E.IK,by simp[Im,tv],λR Z' w' v a O=>hE.wt1 _ _ R w' (Z4 (i:=0) a rfl λu d=>O _ _ u ⟨rfl,s0,s1,W,U,um,hF,rfl⟩ d)⟩
def wav2(hE:FN E):Way E rb Z (NJ x) 2:=by
 intro g S f w K next ⟨hf,s0,s1,W,U,um,hF,hS⟩ H hnext
 subst hf hS;refine EF (f:=1) (m:=2) (l:=[0]) (i:=0) hE H (Ec rfl rfl (by simp[Fx.y]) (by simp) (by simp[Fx.y])) rfl rfl (by decide) rfl (by decide) (x:=(x.t 0,tv 2 14 0 0)) rfl (λh=>absurd (show(14:Int)=0 from h) (by decide)) (λS'=>NJ x 3 1 S') (λS' h=> ?_) (λS1 x1 hb u he=> ?_) λT S' w' hr a=>hnext T S' 1 w' hr a
 .obtain⟨_,_,_,_,_,_,_,rfl⟩:=h;exact⟨_,rfl,rfl⟩
 .obtain rfl:=hb.same (show(14:Int)≠0 by decide);cases u;obtain⟨J,e⟩:=hF.L;refine⟨E.Hb,by simp[Im,tv],λR Z' w' O a Y=>hE.rU _ _ R w' (Xy (i:=0) hE a rfl hF.tp.inv (λz hz=> ?_) λv d=>Y _ _ v ⟨rfl,s0,s1,W,U,um,hF,rfl⟩ d)⟩;have hz:z∈W.L:=hz;rw[e]at hz;rw[List.mem_singleton.1 hz]
def wav3(hE:FN E)(hH:Rx E)(hA: ∀w',Sat Z w'->rowAt w' x.s2.base x.s2.len (ints .u64 [x.b+5000]))(hl:x.s2.len=1):Way E rb Z (NJ x) 3:=by
 intro g S f w K next ⟨hf,s0,s1,W,U,um,hF,hS⟩ H hnext
 subst hf hS;refine EF (f:=1) (m:=3) (l:=[0]) (i:=0) hE H (Ec rfl rfl (by simp[Fx.y]) (by simp) (by simp[Fx.y])) rfl rfl (by decide) rfl (by decide) (x:=(x.t 0,tv 2 16 0 0)) rfl (λh=>absurd (show(16:Int)=0 from h) (by decide)) (λS'=>NJ x 4 1 S') (λS' h=> ?_) (λS1 x1 hb aD he=> ?_) λg' S' w' hr O=>hnext g' S' 1 w' hr O
 .obtain⟨_,_,_,_,_,_,_,_,_,_,_,rfl⟩:=h;exact⟨_,rfl,rfl⟩
 .obtain rfl:=hb.same (show(16:Int)≠0 by decide);cases aD;obtain⟨aF,aA⟩:=hF.L;obtain⟨xb,aE,aN,aB,aO,aP⟩:=hF.sb;have BU:=(hF.tp.inv.sp x.EV xb aE).1;have aC:=BU.ba;have aR:=BU.pg;rw[aB]at aC;have d:((K0 0).hold 5 true x.EP).held 5 true=x.EP:=LD _ (by decide) (by decide) _;refine⟨E.IL,by simp[Im,tv],λR Z' w' J O hK=>hE.yK _ _ R w' ?_⟩;refine Z6 (i:=0) (k:=2) (x:=(x.t 0,tv 2 16 0 0)) (y:=yc x.b2 x.s2) (c0:=(x.c0,(K0 0).hold 5 true x.EP)) (c1:=(x.c1,K0 1)) (k0:=5) (as_:=[x.b+5000]) hE hH O rfl rfl rfl (by show(2:Nat)<_;decide) rfl hF.tp.inv (Nat.lt_of_le_of_lt hF.tp.len (by decide)) (by decide) (λk np h=> ?_) ((hF.tp.own 0 _ rfl).eF 5 true) (λk np=>KP _ _ _) (λv h=>hA v (J v h)) hl.symm (by show x.s2.len<=_;omega) (λa ha=> ?_) (λW0 u z hz=> ?_) λW0 S' C0 C1 rt nn g' v u hm Y T=>hK _ _ v ⟨rfl,s0,s1,_,U,_,_,_,nn,_,(hF.flip d u hm Y).num (rt:=rt) (ch:=0) (rp:=0),rfl⟩ T
  .exact(NB _ (by decide) h _).trans (KP _ _ _)
  .obtain rfl:=List.mem_singleton.1 ha;omega
  .rcases u with ⟨e,_⟩|⟨_,y,EU,_,_,rfl⟩
   .rw[d]at e;have:=hF.ne.2.1;omega
   .rcases Dd.1 hz with rfl|hz
    .rfl
    .have hz:z∈W.L:=hz;rw[aA]at hz;rw[List.mem_singleton.1 hz]
end
section
variable{E:Env}{rb:Nat}{g:NW}{S:Cr}{Z:List Pr}{w:World}{x:Fx}
def Tb(hE:FN E)(BU:FM S){i k:Nat}{x:Nat×Tk}{y:Nat×Ak}(hi:i<S.Q.length)(hx:S.T[i]? =some x)(Y:x.2.ask=(k:Int))(hy:S.L[k]? =some y)(v:x.2.sw<y.2.n){U M:BA}(hI:Ai S.W U M)(m:S.ord.length<1000000){d:Cr->Prop}
  (h0:(∀z∈S.W.L,z.HD=true)->d (S.done i x k y 0 x.2.sw 0))(h1: ∀z,XY S.W.L z->Ai {S.W with L:=Hv S.W.L z.id} U M->d {S.tk i (x.1,{x.2 with tr:=z.id,step:=11})with W:={S.W with L:=Hv S.W.L z.id}}):Zs E rb g Z S x.1 10 d:=
 ⟨E.II,by simp[Im],λR Z' w' K O J=>hE.yI _ _ R w' (Z5 hE O BU hi hx Y hy v hI m (λh g' e a=>J _ _ e (h0 h) a) λz hz u e a=>J _ _ e (h1 z hz u) a)⟩
def X0(hE:FN E)(hT: ∀w',Sat Z w'->DJ E.AB w')(BU:FM S){i:Nat}{x:Nat×Tk}(hi:i<S.Q.length)(hx:S.T[i]? =some x){U M:BA}(hI:Ai S.W U M)(hf:S.W.L.length<1099511627776)(J:S.W.em.length+S.W.R.length<=1099511627776)
  (hL: ∀y∈S.W.L,y.id≠x.2.tr)(K:S.W.S.sp x.2.tr≠none)(v: ∀j,M x.2.tr j=true->U x.2.tr j=true)(O:0<=x.2.sw/\x.2.sw<1000){d:Cr->Prop}
  (h: ∀n gone W' U' M',dP S.W U M x.2.tr false n gone W' U' M'->Ai W' U' M'->d {S.tk i (x.1,{x.2 with tr:=0,sw:=x.2.sw+1,step:=10})with W:=W'}):Zs E rb g Z S x.1 11 d:=
 ⟨E.Iy,by simp[Im],λR Z' w' e Y hK=>hE.one1 _ _ R w' (eP hE (λa h=>hT a (e a h)) Y BU hi hx hI hf J hL K v O λn gone W' U' M' ho u a m=>hK _ _ a (h n gone W' U' M' ho u) m)⟩
def wav4(hE:FN E):Way E rb Z (NJ x) 4:=by
 intro g S f w K next ⟨hf,s0,s1,W,U,M,C0,C1,nn,cy,hF,hS⟩ H hnext
 subst hf hS;have BU:FM (Jw x.t (tv 2 0 0 0) (tw 1 1 0 0 13) (s0,[3]) (s1,[]) (x.y (yr (yc x.b2 x.s2) 0 nn) (yw x.b3)) [1,0,2] (-1) (-1) W C0 C1 x.ma cy):=Ec rfl rfl (by simp[Fx.y]) (by simp) (by simp[Fx.y]);refine EF (f:=1) (m:=4) (l:=[0]) (i:=0) hE H BU rfl rfl (by decide) rfl (by decide) (x:=(x.t 0,tv 2 0 0 0)) rfl (λ_=>⟨s0,3,[],yw x.b3,rfl,rfl⟩) (λS'=>NJ x 5 1 S') (λS' h=> ?_) (λS1 x1 Y v he=> ?_) λO S' w' hr J=>hnext O S' 1 w' hr J
 .obtain⟨_,_,_,_,_,_,_,_,_,_,_,_,rfl⟩:=h;exact⟨_,rfl,rfl⟩
 .obtain⟨s',rfl⟩:=Y.new rfl (s:=s0) (a:=3) (l:=[]) (y:=yw x.b3) rfl rfl;cases v;have u:FM (Jw x.t (tv 3 10 0 0) (tw 1 1 0 0 13) (s',[]) (s1,[]) (x.y (yr (yc x.b2 x.s2) 0 nn) (yw x.b3)) [1,0,2] (-1) (-1) W C0 C1 x.ma cy):=Ec rfl rfl (by simp) (by simp) (by simp[Fx.y]);refine Tb (S:=Jw x.t (tv 3 10 0 0) (tw 1 1 0 0 13) (s',[]) (s1,[]) (x.y (yr (yc x.b2 x.s2) 0 nn) (yw x.b3)) [1,0,2] (-1) (-1) W C0 C1 x.ma cy) (i:=0) (k:=3) (x:=(x.t 0,tv 3 10 0 0)) (y:=yw x.b3) hE u (show 0<2 by decide) rfl rfl rfl (show(0:Int)<9 by decide) hF.inv (by show(3:Nat)<_;decide) (λh=> ?_) λz hz d=> ?_
  .obtain⟨⟨z,hz,e9⟩,T⟩:=hF.qa;have:=h z hz;rw[T z hz e9]at this;cases this
  .refine⟨rfl,s',s1,_,U,M,C0,C1,nn,cy,z.id,?_,rfl⟩;rcases hF.mem z hz.1 with e|e
   .have d:=d;rw[e]at d⊢;exact .inl ⟨rfl,hF.remA d⟩
   .have d:=d;rw[e]at d⊢;exact .inr ⟨rfl,hF.Hv d⟩
def wav5(hE:FN E)(u: ∀w',Sat Z w'->DJ E.AB w'):Way E rb Z (NJ x) 5:=by
 intro g S f w K next ⟨hf,s0,s1,W,U,M,C0,C1,nn,cy,id,a,hS⟩ H hnext
 subst hf hS;have BU:FM (Jw x.t (tv 3 11 id 0) (tw 1 1 0 0 13) (s0,[]) (s1,[]) (x.y (yr (yc x.b2 x.s2) 0 nn) (yw x.b3)) [1,0,2] (-1) (-1) W C0 C1 x.ma cy):=Ec rfl rfl (by simp[Fx.y]) (by simp) (by simp[Fx.y]);refine EF (f:=1) (m:=5) (l:=[0]) (i:=0) hE H BU rfl rfl (by decide) rfl (by decide) (x:=(x.t 0,tv 3 11 id 0)) rfl (λh=>absurd (show(11:Int)=0 from h) (by decide)) (λS'=>NJ x 6 1 S') (λS' h=> ?_) (λS1 x1 O e he=> ?_) λJ S' w' T v=>hnext J S' 1 w' T v
 .obtain⟨_,_,_,_,_,_,_,_,_,_,_,rfl⟩:=h;exact⟨_,rfl,rfl⟩
 .obtain rfl:=O.same (show(11:Int)≠0 by decide);cases e;rcases a with ⟨rfl,a⟩|⟨rfl,a⟩
  .refine X0 (i:=0) (x:=(x.t 0,tv 3 11 x.EP 0)) hE u BU (show 0<2 by decide) rfl a.inv (Nat.lt_of_le_of_lt a.len (by decide)) (by show W.em.length+W.R.length<=_;rw[a.R.1,a.R.2];decide) a.qa (a.a1 rfl).1 a.mu ⟨Int.le_refl _,by show(0:Int)<_;decide⟩ λn gone W' U' M' ho d=>⟨rfl,s0,s1,W',U',M',C0,C1,nn,cy,.inl (a.oneA ho d),rfl⟩
  .refine X0 (i:=0) (x:=(x.t 0,tv 3 11 x.EV 0)) hE u BU (show 0<2 by decide) rfl a.inv (Nat.lt_of_le_of_lt a.len (by decide)) (by show W.em.length+W.R.length<=_;rw[a.R.1,a.R.2];decide) a.qb (λc=> ?_) a.muB ⟨Int.le_refl _,by show(0:Int)<_;decide⟩ λn gone W' U' M' ho d=>⟨rfl,s0,s1,W',U',M',C0,C1,nn,cy,.inr (a.oneB ho d),rfl⟩;obtain⟨y,Y,_⟩:=a.sb;have c:W.S.sp x.EV=none:=c;rw[Y]at c;cases c
def wav6(hE:FN E):Way E rb Z (NJ x) 6:=by
 intro g S f w K next ⟨hf,s0,s1,W,U,M,C0,C1,nn,cy,d,hS⟩ H hnext
 subst hf hS;have BU:FM (Jw x.t (tv 3 10 0 1) (tw 1 1 0 0 13) (s0,[]) (s1,[]) (x.y (yr (yc x.b2 x.s2) 0 nn) (yw x.b3)) [1,0,2] (-1) (-1) W C0 C1 x.ma cy):=Ec rfl rfl (by simp[Fx.y]) (by simp) (by simp[Fx.y]);refine EF (f:=1) (m:=6) (l:=[0]) (i:=0) hE H BU rfl rfl (by decide) rfl (by decide) (x:=(x.t 0,tv 3 10 0 1)) rfl (λh=>absurd (show(10:Int)=0 from h) (by decide)) (λS'=>NJ x 7 1 S') (λS' h=> ?_) (λS1 x1 Y v he=> ?_) λT S' w' hr O=>hnext T S' 1 w' hr O
 .obtain⟨_,_,_,_,_,_,_,_,_,_,_,_,rfl⟩:=h;exact⟨_,rfl,rfl⟩
 .obtain rfl:=Y.same (show(10:Int)≠0 by decide);cases v;rcases d with d|d
  .refine Tb (i:=0) (k:=3) (x:=(x.t 0,tv 3 10 0 1)) (y:=yw x.b3) hE BU (show 0<2 by decide) rfl rfl rfl (show(1:Int)<9 by decide) d.inv (by show(3:Nat)<_;decide) (λh=> ?_) λz hz a=> ?_
   .obtain⟨⟨z,hz,e9⟩,u⟩:=d.qb;have:=h z hz;rw[u z hz e9]at this;cases this
   .refine⟨rfl,s0,s1,_,U,M,C0,C1,nn,cy,z.id,?_,rfl⟩;rcases d.mem z hz.1 with e|e
    .exact absurd e (d.qa z hz.1)
    .have a:=a;rw[e]at a⊢;exact .inl ⟨rfl,d.Hv a⟩
  .refine Tb (i:=0) (k:=3) (x:=(x.t 0,tv 3 10 0 1)) (y:=yw x.b3) hE BU (show 0<2 by decide) rfl rfl rfl (show(1:Int)<9 by decide) d.inv (by show(3:Nat)<_;decide) (λh=> ?_) λz hz a=> ?_
   .obtain⟨⟨z,hz,e9⟩,u⟩:=d.qa;have:=h z hz;rw[u z hz e9]at this;cases this
   .refine⟨rfl,s0,s1,_,U,M,C0,C1,nn,cy,z.id,?_,rfl⟩;rcases d.mem z hz.1 with e|e
    .have a:=a;rw[e]at a⊢;exact .inr ⟨rfl,d.remA a⟩
    .have J:=d.qb.2 z hz.1 e;rw[hz.2.1]at J;cases J
def wav7(hE:FN E)(u: ∀w',Sat Z w'->DJ E.AB w'):Way E rb Z (NJ x) 7:=by
 intro g S f w K next ⟨hf,s0,s1,W,U,M,C0,C1,nn,cy,id,a,hS⟩ H hnext
 subst hf hS;have BU:FM (Jw x.t (tv 3 11 id 1) (tw 1 1 0 0 13) (s0,[]) (s1,[]) (x.y (yr (yc x.b2 x.s2) 0 nn) (yw x.b3)) [1,0,2] (-1) (-1) W C0 C1 x.ma cy):=Ec rfl rfl (by simp[Fx.y]) (by simp) (by simp[Fx.y]);refine EF (f:=1) (m:=7) (l:=[0]) (i:=0) hE H BU rfl rfl (by decide) rfl (by decide) (x:=(x.t 0,tv 3 11 id 1)) rfl (λh=>absurd (show(11:Int)=0 from h) (by decide)) (λS'=>NJ x 8 1 S') (λS' h=> ?_) (λS1 x1 O e he=> ?_) λJ S' w' T v=>hnext J S' 1 w' T v
 .obtain⟨_,_,_,_,_,_,_,_,_,_,_,rfl⟩:=h;exact⟨_,rfl,rfl⟩
 .obtain rfl:=O.same (show(11:Int)≠0 by decide);cases e;rcases a with ⟨rfl,a⟩|⟨rfl,a⟩
  .refine X0 (i:=0) (x:=(x.t 0,tv 3 11 x.EV 1)) hE u BU (show 0<2 by decide) rfl a.inv (Nat.lt_of_le_of_lt a.len (by decide)) (by show W.em.length+W.R.length<=_;rw[a.R.1,a.R.2];decide) a.qb (λc=> ?_) a.muB ⟨by show(0:Int)<=1;decide,by show(1:Int)<_;decide⟩ λn gone W' U' M' ho d=>⟨rfl,s0,s1,W',U',M',C0,C1,nn,cy,a.oneB ho d,rfl⟩;obtain⟨y,Y,_⟩:=a.sb;have c:W.S.sp x.EV=none:=c;rw[Y]at c;cases c
  .exact X0 (i:=0) (x:=(x.t 0,tv 3 11 x.EP 1)) hE u BU (show 0<2 by decide) rfl a.inv (Nat.lt_of_le_of_lt a.len (by decide)) (by show W.em.length+W.R.length<=_;rw[a.R.1,a.R.2];decide) a.qa (a.a1 rfl).1 a.mu ⟨by show(0:Int)<=1;decide,by show(1:Int)<_;decide⟩ λn gone W' U' M' ho d=>⟨rfl,s0,s1,W',U',M',C0,C1,nn,cy,a.oneA ho d,rfl⟩
def wav8(hE:FN E):Way E rb Z (NJ x) 8:=by
 intro g S f w K next ⟨hf,s0,s1,W,U,M,C0,C1,nn,cy,hF,hS⟩ H hnext
 subst hf hS;have BU:FM (Jw x.t (tv 3 10 0 2) (tw 1 1 0 0 13) (s0,[]) (s1,[]) (x.y (yr (yc x.b2 x.s2) 0 nn) (yw x.b3)) [1,0,2] (-1) (-1) W C0 C1 x.ma cy):=Ec rfl rfl (by simp[Fx.y]) (by simp) (by simp[Fx.y]);refine EF (f:=1) (m:=8) (l:=[0]) (i:=0) hE H BU rfl rfl (by decide) rfl (by decide) (x:=(x.t 0,tv 3 10 0 2)) rfl (λh=>absurd (show(10:Int)=0 from h) (by decide)) (λS'=>NJ x 9 1 S') (λS' h=> ?_) (λS1 Y O a he=> ?_) λv S' w' T u=>hnext v S' 1 w' T u
 .obtain⟨_,_,_,_,_,_,_,_,_,_,_,rfl⟩:=h;exact⟨_,rfl,rfl⟩
 .obtain rfl:=O.same (show(10:Int)≠0 by decide);cases a;refine Tb (i:=0) (k:=3) (x:=(x.t 0,tv 3 10 0 2)) (y:=yw x.b3) hE BU (show 0<2 by decide) rfl rfl rfl (show(2:Int)<9 by decide) hF.inv (by show(3:Nat)<_;decide) (λh=>⟨rfl,s0,s1,W,U,M,C0,C1,nn,cy,hF,rfl⟩) λz hz J=> ?_;rcases hF.mem z hz.1 with e|e
  .exact absurd e (hF.qa z hz.1)
  .have d:=hF.qb.2 z hz.1 e;rw[hz.2.1]at d;cases d
end
section
variable{E:Env}{rb:Nat}{g:NW}{S:Cr}{Z:List Pr}{w:World}
def eW(hE:FN E){Scr:Nat->Int->Cr->Prop}{N:Nat}(hN:N<200000)(hS:Scr 0 0 S)(H:Sat (AA E rb g S++Z) w)(e: ∀k,k<N->Way E rb Z Scr k)(hq: ∀f S',Scr N f S'->FM S'/\NF S'=true){K:Bool->World->Prop}
  (hK: ∀a S' f' w',Scr N f' S'->Sat (AA E rb a S'++Z) w'->K true w'):F.BG E (some ⟨rb,0,none⟩) ⟨none,0,0⟩ K w:=by
 unfold F.BG T0.BG;refine AM (λst w'=> ∃(k:Nat) (a:NW) (S':Cr),st.2.1=(k:Int)/\k<=N/\Scr k st.1 S'/\Sat (AA E rb a S'++Z) w') (λst _=>((N:Int)+1-st.2.1).toNat) ⟨0,g,S,rfl,Nat.zero_le _,hS,H⟩ ?_;rintro⟨f,m,u⟩ _ w2 ⟨k,a,S',hk,aC,d,J⟩;dsimp only at hk d⊢;subst hk;have go: ∀(v:Int×Int×Unit->World->Prop),(v=λs' w'=>(∃(k:Nat) (a:NW) (S':Cr),s'.2.1=(k:Int)/\k<=N/\Scr k s'.1 S'/\Sat (AA E rb a S'++Z) w')/\((N:Int)+1-s'.2.1).toNat<((N:Int)+1-(k:Int)).toNat)->lP E rb f (k:Int) w2 K v:=by
  intro v O;rcases Nat.lt_or_ge k N with T|aJ
  .refine e k T a S' f w2 K v d J ?_;intro g3 S3 f3 w3 Y H3;rw[O];exact⟨⟨k+1,g3,S3,rfl,by omega,Y,H3⟩,by show((N:Int)+1-((k:Int)+1)).toNat<_;omega⟩
  .obtain rfl:k=N:=by omega
   exact WW hE J (hq _ _ d).1 (hq _ _ d).2 (by omega) (hK a _ f w2 d J)
 have hB:=go (λs' w'=>(∃(k:Nat) (a:NW) (S':Cr),s'.2.1=(k:Int)/\k<=N/\Scr k s'.1 S'/\Sat (AA E rb a S'++Z) w')/\((N:Int)+1-s'.2.1).toNat<((N:Int)+1-(k:Int)).toNat) rfl;cases hB with|mk h=>
 unfold RZ at h;dsimp only at h⊢
 with_reducible exact h
def Od(H:Sat (AA E rb g S++Z) w)(hI:FM S){op p n:Int}{i:Nat}(hp:p=(i:Int)){q:AW×List Int}(T:S.Q[i]? =some q)(d:1<=op/\op<=9)(J:S.L.length<999999/\q.2.length<999999){K:Int->Int->World->Prop}
  (v: ∀a s' b w',FM (S.asked i s' q.2 b (.new op p n ⟨none,0,0⟩))->Sat (AA E rb a (S.asked i s' q.2 b (.new op p n ⟨none,0,0⟩))++Z) w'->K (S.L.length:Int) 0 w'):F.Es E (some ⟨rb,0,none⟩) op p n 0 0 0 false 0 ⟨none,0,0⟩ ⟨none,0,0⟩ K w:=by
 refine QF H hI hp T d J (λs'=>[KR (s'=⟨none,0,0⟩) YZ]) (λY w' K' h O=>PX (O ⟨none,0,0⟩ w' ?_)) λa s1 s' b u BU m=> ?_
 .exact(Sat.where.2 ⟨rfl,h.emp⟩:Sat (KR ((⟨none,0,0⟩:AW)=⟨none,0,0⟩) YZ::(Y++Z)) w').perm (List.perm_middle (l₁:=Y)).symm
 .have e:s1=⟨none,0,0⟩:=(Sat.where.1 (m.front 12 rfl:Sat (KR (s1=⟨none,0,0⟩) YZ::_) u)).1;subst e;exact v a s' b u BU (m.front 12 rfl).tail
def Z9{d:Nat}{t:Nat}{a:Int}(H:Sat (AA E rb g S++Cells d t [.int .u64 a]::Z) w)(hI:FM S){op p n:Int}{i:Nat}(hp:p=(i:Int)){q:AW×List Int}(hq:S.Q[i]? =some q)(O:1<=op/\op<=9)(hf:S.L.length<999999/\q.2.length<999999){K:Int->Int->World->Prop}
  (hK: ∀u s1 s' b w',s1.len=1->FM (S.asked i s' q.2 b (.new op p n s1))->Sat (AA E rb u (S.asked i s' q.2 b (.new op p n s1))++Row E.AE 1 s1 (ints .u64 [a])::Cells d t [.int .u64 a]::Z) w'->K (S.L.length:Int) 0 w'):F.Es E (some ⟨rb,0,none⟩) op p n 0 0 0 false 0 ⟨none,0,0⟩ ⟨some ⟨d,0,none⟩,1,1⟩ K w:=by
 refine QF H hI hp hq O hf (λs'=>[Row E.AE 1 s' (ints .u64 [a])]) (λY w' K' h hk=>Ve (vs:=[a]) h rfl (λe J=> ?_) rfl (show(1:Nat)<=1000000 by decide) λs' e J=>hk s' e (J.perm (List.perm_middle (l₁:=Y)).symm)) λu s1 s' b w4 BU T=> ?_
 .have h3:Sat (Cells d t [.int .u64 a]::(Y++Z)) e:=J.perm (List.perm_middle (l₁:=Y));refine⟨rfl,λj v m=> ?_⟩
  match j,m with
  | 0,m=>
   cases m;exact h3.AU rfl
  | j+1,m=>simp[ints]at m
 .have:=(T.front 12 rfl:Sat (Row E.AE 1 s1 (ints .u64 [a])::_) w4).Bs;exact hK u s1 s' b w4 (by simp[ints]at this;omega) BU T
def sI{α:Type}{p:α}: ∀{L:List α},L.Nodup->(∀q∈L,q=p)->p∈L->L=[p]
 | [],_,_,h=>by cases h
 | [a],_,h,_=>by rw[h a (List.mem_singleton.2 rfl)]
 | a::b::l,hn,h,_=>by
  have h1:=h a List.mem_cons_self;have d:=h b (List.mem_cons_of_mem _ List.mem_cons_self);exact absurd (by rw[h1,d];exact List.mem_cons_self) (List.nodup_cons.1 hn).1
def Oe(hH:Rx E)(H:Sat (AA E rb g S++Z) w){U M:BA}{EP EV b:Int}{n:Nat}{qa qb:Option Bool}{mb:Bool}(O:FS S.W U M EP EV b n qa qb false mb){K:AW->World->Prop}
  (hK: ∀s w',s.len=1->(∃a,s.base=some a/\w'.cell? (a.add 0)=some (.int .u64 b))->Sat (AA E rb g S++Z) w'->K s w'):F.A9 E (some ⟨g.a.m,0,none⟩) K w:=by
 obtain⟨xb,J,aF,T,aK⟩:=O.sb;have only: ∀p:Int×Nat,(∃x,S.W.S.sp p.1=some x/\(p.2:Int)<x.2.AP/\U p.1 p.2=true)->p=(EV,0):=λp ⟨x,u,hm,_⟩=>by
  obtain⟨i,m⟩:=p;have u:S.W.S.sp i=some x:=u;have hm:(m:Int)<x.2.AP:=hm;by_cases e1:i=EP
  .rw[e1,O.a0 rfl]at u;cases u
  .by_cases e2:i=EV
   .subst e2;rw[J]at u;cases u;rw[T]at hm;obtain rfl:m=0:=by omega
    rfl
   .rw[O.so i e1 e2]at u;cases u
 obtain⟨R,HR,_,v⟩:=OW H;refine PY hH HR O.inv (λL h1 h2=> ?_) λs L w' aG d H'=> ?_
 .match L,h1,h2 with
  | [],_,_=>exact Nat.zero_le _
  | [a],_,_=>exact(by decide:1<=1000000)
  | a::b::l,h1,h2=>
   have e1:=only a (h2 a List.mem_cons_self);have e2:=only b (h2 b (List.mem_cons_of_mem _ List.mem_cons_self));exact absurd (by rw[e1,e2];exact List.mem_cons_self) (List.nodup_cons.1 h1).1
 .have e:L=[(EV,0)]:=sI aG (λq hq=>only q ((d q).1 hq)) ((d _).2 ⟨xb,J,by rw[T];exact(by decide:((0:Nat):Int)<1),O.ub⟩);subst e;have aE:Xu S.W (EV,0)=b:=by
   unfold Xu;dsimp only;rw[J];dsimp only;rw[aF];omega
  rw[List.map_singleton,aE]at H';have hl:=H'.Bs;have Y:=H'.KE;refine hK s w' (by simp[ints]at hl;omega) ?_ (v H'.tail);unfold rowAt at Y;cases hb:s.base with
  | none=>rw[hb]at Y;cases Y
  | some a=>
   rw[hb]at Y;exact⟨a,rfl,Y.2 0 _ rfl⟩
end
end Go.Sh

/- The law SweepPlays holds (its card: math/bits' table as the program's text lays it): for every input of bulk at most 1048576 the Go function returns true and leaves its arguments alone. The bound is the only condition. -/
import Derived.Test.YtgcgcligdjnmaaaGreatDoorK
import Derived.Test.YtgcgcligdjnmaaaGreatDoorG
import Derived.Test.YtgcgcligdjnmaaaGreatDoorJ
import Derived.Test.YtgcgcligdjnmaaaGreatDoorB
import Derived.Test.YtgcgcligdjnmaaaGreatDoorQ
import Derived.Test.YtgcgcligdjnmaaaGreatDoorW
import Derived.Test.YtgcgcligdjnmaaaGreatDoorA
import Derived.Test.YtgcgcligdjnmaaaGreatDoorCards
import Derived.Test.YtgcgcligdjnmaaaGreatDoorTie
import Derived.WalkKit
import Derived.ProofKit
import Derived.OpenShut
import Derived.Deep.DeepHandedRow
import Derived.Lib.LaidTab
set_option linter.all false
set_option maxRecDepth 50000
set_option maxHeartbeats 4000000
namespace Go.Sh
section
variable{E:Env}{q:Nat}{R:List Rc}{Z:List Pr}{w:World}{s:Aa}
def PU(H:Sat (E5 E q R::Z) w){a k d:Int}(hf:R.length<1099511627776){K:Int->World->Prop}(aD: ¬(1<=k/\k<=3)->K 1 w)
  (aO:1<=k/\k<=3-> ∀x∈R,x.addr=a->x.kind=k-> ∀w',Sat (E5 E q R::Z) w'->K 34 w')
  (aN:1<=k/\k<=3->(∀x∈R,¬(x.addr=a/\x.kind=k))-> ∃A B Fz,R=A++B/\Lk (A++⟨Fz,a,k,d⟩::B)/\ ∀w',Sat (E5 E q (A++⟨Fz,a,k,d⟩::B)::Z) w'->K 0 w'):
  F.BW E (some ⟨q,0,none⟩) a k d K w:=by
 unfold F.BW T0.BW;refine AV (AB (λg j=>AU rfl (aD (by omega))) λg1 j=>AQ (λg=>aD (by have:=of_decide_eq_true g;omega)) λg=> ?_);have g2:=of_decide_eq_false g;have hk:1<=k/\k<=3:=⟨by omega,by omega⟩;obtain⟨hI,s,H1⟩:=Sat.RP.1 H;have aW:=hI.KY;refine R6 hI H1 λi ok T hb ha A2 w3 H3=> ?_;have hl:=Ov (H3.front 1 rfl);cases ok with
 | true=>
  obtain⟨y,v,e1,e2⟩:=A2.1 rfl;exact AU rfl (aO hk y (List.mem_of_getElem? v) e1 e2 w3 (Sat.RP.2 ⟨hI,s,H3⟩))
 | false=>
  have aP: ∀x∈R,¬(x.addr=a/\x.kind=k):=λx hx he=>by
   obtain⟨j,hj⟩:=List.mem_iff_getElem?.1 hx;have a1:=(List.getElem?_eq_some_iff.1 hj).1;rcases Nat.lt_trichotomy j i with c|c|c
   .have:=hb j x c hj;omega
   .subst c;exact absurd (A2.2 ⟨x,hj,he.1,he.2⟩) (by decide)
   .obtain⟨y,v⟩: ∃y,R[i]? =some y:=⟨_,List.getElem?_eq_getElem (by omega)⟩;have h1:=ha y v;have h2:y.key<x.key:=hI.HT.lt v hj c;have h3:=hI.kd y (List.mem_of_getElem? v);have h4:=hI.kd x hx;unfold Rc.key at h2;by_cases e:y.addr=a
    .omega
    .omega
  obtain⟨A,B,Fz,hR,aB,aL⟩:=aN hk aP;have aA:A.length=i:=by
   have less: ∀x∈R,(x.addr<a∨x.addr=a/\x.kind<k)↔x.key<4*a+k:=λx hx=>by
    have:=hI.kd x hx;unfold Rc.key;omega
   have hs:=List.pairwise_append.1 aB.HT;have aQ:=List.pairwise_cons.1 hs.2.1;rcases Nat.lt_trichotomy A.length i with c|c|c
   .obtain⟨y,v⟩: ∃y,R[A.length]? =some y:=⟨_,List.getElem?_eq_getElem (by omega)⟩;have h1:=(less y (List.mem_of_getElem? v)).1 (hb _ y c v);have aT:y∈B:=by
     rw[hR,List.getElem?_append_right (Nat.le_refl _),Nat.sub_self]at v;exact List.mem_of_getElem? v
    have h2:=aQ.1 y aT;have h2:4*a+k<y.key:=h2;omega
   .exact c
   .obtain⟨y,v⟩: ∃y,R[i]? =some y:=⟨_,List.getElem?_eq_getElem (by rw[hR,List.length_append];omega)⟩;have h1:=λh=>ha y v ((less y (List.mem_of_getElem? v)).2 h);have aS:y∈A:=by
     rw[hR,List.getElem?_append_left c]at v;exact List.mem_of_getElem? v
    exact absurd (hs.2.2 y aS _ (.head _)) h1
  have aR:R.take i=A:=by rw[hR,<-aA,List.take_left]
  have aM:R.drop i=B:=by rw[hR,<-aA,List.drop_left]
  refine AO rfl (HI (n:=0) (z:=3) H3 rfl (by decide) λb8 w9 H9=>Cu ⟨s,Zj (H9.front 1 rfl),⟨by omega,by omega⟩,?_⟩);rw[Int.toNat_natCast];refine Ep (x:=⟨F2 s.base s.cap 0 3,i,s.cap⟩) (news:=Al HU (R.take i)) H9 rfl ((H9.front 2 rfl).OL (by decide) Dy T) (by rw[DQ Dy,List.length_take];dsimp only;rw[Nat.min_eq_left T]) (GA Ic _) (by dsimp only;omega) (by dsimp only;omega) λs11 aF J aE=> ?_;rw[List.nil_append,aR]at J;dsimp only at aE;refine AR (vs:=HU ⟨Fz,a,k,d⟩) J λaY a4 aI _=> ?_;refine EX (news:=HU ⟨Fz,a,k,d⟩) aI rfl rfl (Ic _) (by omega) (by omega) λSx a5 O aX=> ?_;refine Cu ⟨s,Zj (O.front 1 rfl),⟨by omega,by omega⟩,?_⟩
  try rw[Int.toNat_natCast]
  refine Ep (x:=⟨F2 s.base s.cap i 3,s.len-i,s.cap-i⟩) (news:=Al HU (R.drop i)) O rfl ((O.front 2 rfl).OM (by decide) Dy T) (by rw[DQ Dy,List.length_drop];dsimp only;rw[hl.1]) (GA Ic _) (by dsimp only;omega) (by dsimp only;omega) λs9 a3 Y _=> ?_;rw[aM,show Al HU A++HU ⟨Fz,a,k,d⟩++Al HU B=Al HU (A++⟨Fz,a,k,d⟩::B) by rw[FN,List.append_assoc];rfl]at Y;exact Cu (rcSt (s':=s9) (Y.front 1 rfl) λaF J=>aL aF (Sat.RP.2 ⟨aB,s9,(J.front 2 rfl).tail⟩))
end
def DA(E:Env)(bb b r b2:Nat)(l:List Int):Pr:=Ex λs:Aa=>NB [Cells bb E.Da [.pointer (some ⟨b,0,none⟩),.pointer (some ⟨r,0,none⟩),.pointer (some ⟨b2,0,none⟩),Fo s],Row E.Bx 1 s (ints .i64 l)]
section
variable{E:Env}{bb b r b2:Nat}{l:List Int}{Z:List Pr}{w:World}
def Sat.eQ:Sat (DA E bb b r b2 l::Z) w↔ ∃s,Sat (Cells bb E.Da [.pointer (some ⟨b,0,none⟩),.pointer (some ⟨r,0,none⟩),.pointer (some ⟨b2,0,none⟩),Fo s]::Row E.Bx 1 s (ints .i64 l)::Z) w:=by
 unfold DA;rw[Sat.ex];constructor
 .rintro⟨s,h⟩;exact⟨s,Sat.star.1 h⟩
 .rintro⟨s,h⟩;exact⟨s,Sat.star.2 h⟩
def Bw(H:Sat (DA E bb b r b2 l::Z) w):w.cell? (Addr.mk bb 0 none)=some (.pointer (some ⟨b,0,none⟩))/\w.cell? ((Addr.mk bb 0 none).add 1)=some (.pointer (some ⟨r,0,none⟩))/\w.cell? ((Addr.mk bb 0 none).add 2)=some (.pointer (some ⟨b2,0,none⟩)):=by
 obtain⟨s,h⟩:=Sat.eQ.1 H;exact⟨h.Ah rfl,h.cell rfl,h.cell rfl⟩
def Uz{s:Aa}{Y:List Pr}(H:Sat (Cells bb E.Da [.pointer (some ⟨b,0,none⟩),.pointer (some ⟨r,0,none⟩),.pointer (some ⟨b2,0,none⟩),Fo s]::Y) w):w.cell? ((Addr.mk bb 0 none).add 3)=some (.slice s.base s.len s.cap):=H.cell (o:=0) (m:=3) rfl
def qS{s s':Aa}{Y:List Pr}(H:Sat (Cells bb E.Da [.pointer (some ⟨b,0,none⟩),.pointer (some ⟨r,0,none⟩),.pointer (some ⟨b2,0,none⟩),Fo s]::Y) w){K:World->Prop}
  (d: ∀w',Sat (Cells bb E.Da [.pointer (some ⟨b,0,none⟩),.pointer (some ⟨r,0,none⟩),.pointer (some ⟨b2,0,none⟩),Fo s']::Y) w'->K w'):stCells ((Addr.mk bb 0 none).add 3) 0 [.slice s'.base s'.len s'.cap] w K:=
 AZ H (o:=0) (m:=3) rfl (by show 3<4;omega) d
def OV{s:Aa}{Y:List Pr}(H:Sat (Row E.Bx 1 s (ints .i64 l)::Y) w):l.length=s.len:=by
 have:=H.Du;unfold ints at this;rw[List.length_map]at this;omega
def Z9(H:Sat (DA E bb b r b2 l::Z) w)(hf:l.length<=1000){i:Int}{K:Int->World->Prop}(O:l=[]->K 0 w)(T: ∀id∈l,K id w):F.GH E (some ⟨bb,0,none⟩) i K w:=by
 unfold F.GH;obtain⟨s,H1⟩:=Sat.eQ.1 H;have hl:=OV (H1.front 1 rfl);refine AF ⟨s,Uz H1,BF (λe=>O (List.length_eq_zero_iff.1 (by omega))) λaA=>AF ⟨s,Uz H1,by omega,?_⟩⟩;unfold Hk;have J:(Int.tmod i (s.len:Nat)).natAbs<s.len:=by
  rw[Int.natAbs_tmod,Int.natAbs_natCast];exact Nat.mod_lt _ (by omega)
 generalize Int.tmod i (s.len:Nat)=k at J⊢;have main: ∀j:Nat,j<s.len->NC (some ⟨bb,0,none⟩) λp9=>
   ∃d:Aa,w.cell? (p9.add 3)=some (.slice d.base d.len d.cap)/\
   NC d.base λY=>
   ((0:Int)<=(j:Int)/\((j:Int):Int)<(d.len:Nat))/\
   ∃y:Int,w.cell? (Y.add (Int.toNat (j:Int)*1))=some (.int .i64 y)/\
   K y w:=λj hj=>by
  refine AF ⟨s,Uz H1,?_⟩;obtain⟨bk,v⟩:=(H1.front 1 rfl).own.Eo (by omega);obtain⟨id,O1⟩: ∃id,l[j]? =some id:=⟨_,List.getElem?_eq_getElem (by omega)⟩;rw[v];exact AF ⟨⟨by omega,by omega⟩,id,by rw[Int.toNat_natCast,Nat.mul_one];exact(H1.front 1 rfl).own.cell v (IF O1),T id (List.mem_of_getElem? O1)⟩
 refine AV (AB (λg j=> ?_) λg j=> ?_)
 .rw[AE (n:=0-k)];have:=main k.natAbs J;rwa[show((k.natAbs:Nat):Int)=0-k by omega]at this
 .have:=main k.natAbs J;rwa[show((k.natAbs:Nat):Int)=k by omega]at this
def aA(H:Sat (DA E bb b r b2 l::Z) w)(hf:l.length<=1000){id:Int}{K:World->Prop}(hK: ∀w',Sat (DA E bb b r b2 (l.filter λx=>x !=id)::Z) w'->K w'):F.Ew E (some ⟨bb,0,none⟩) id K w:=by
 unfold F.Ew;obtain⟨s,H1⟩:=Sat.eQ.1 H;have hl:=OV (H1.front 1 rfl);refine AH (λst w'=> ∃i:Nat,st.2.1=(i:Int)/\i<=l.length/\Sat (Row E.Bx 1 st.1 (ints .i64 ((l.take i).filter λx=>x !=id))::Cells bb E.Da [.pointer (some ⟨b,0,none⟩),.pointer (some ⟨r,0,none⟩),.pointer (some ⟨b2,0,none⟩),Fo s]::Row E.Bx 1 s (ints .i64 l)::Z) w') (λst _=>((l.length:Int)-st.2.1).toNat)
  ⟨0,rfl,Nat.zero_le _,H1.nil E.Bx 1⟩ ?_
 rintro⟨sl,i',u⟩ _ w2 ⟨i,hi,aI,d⟩;dsimp only at hi d⊢;subst hi;have aJ:=OV d;have T:=List.length_filter_le (λx=>x !=id) (l.take i);rw[List.length_take]at T;refine AF ⟨s,Uz (d.front 1 rfl),AB (λaK=>AF ⟨s,Uz (d.front 1 rfl),?_⟩) λaH=> ?_⟩
 .obtain⟨bk,j⟩:=(d.front 2 rfl).own.Eo (by omega);obtain⟨x,hx⟩: ∃x,l[i]? =some x:=⟨_,List.getElem?_eq_getElem (by omega)⟩;have hc:w2.cell? ((Addr.mk bk 0 none).add (Int.toNat (i:Int)*1))=some (.int .i64 x):=by rw[Int.toNat_natCast,Nat.mul_one];exact(d.front 2 rfl).own.cell j (IF hx)
  have y:l.take (i+1)=l.take i++[x]:=by rw[List.take_succ,hx];rfl
  rw[AE (n:=(i:Int)+1)]
  try dsimp only
  rw[j];refine AF ⟨⟨by omega,by omega⟩,x,hc,DM (λY=>AF ⟨s,Uz (d.front 1 rfl),?_⟩) λhe=> ?_⟩
  .try dsimp only
   rw[j];refine AF ⟨⟨by omega,by omega⟩,x,hc,AR (vs:=[.int .i64 x]) d λaF aL J _=> ?_⟩;refine EX (news:=[.int .i64 x]) J rfl rfl (by simp[Value.oneCell']) (by omega) (by omega) λSy aM O _=>⟨⟨i+1,by omega,by omega,?_⟩,by omega⟩;rw[y,List.filter_append,show [x].filter (λx=>x !=id)=[x] by rw[List.filter_cons_of_pos (by simpa using Y)];rfl];have e: ∀L:List Int,ints .i64 L++[.int .i64 x]=ints .i64 (L++[x]):=λL=>by unfold ints;rw[List.map_append];rfl
   rw[<-e];exact O
  .refine⟨⟨i+1,by omega,by omega,?_⟩,by omega⟩;rw[y,List.filter_append,show [x].filter (λx=>x !=id)=[] by rw[List.filter_cons_of_neg (by simpa using he)];rfl,List.append_nil];exact d
 .refine AF (qS (s':=sl) (d.front 1 rfl) λaB v=>hK aB (Sat.eQ.2 ⟨sl,?_⟩));have:l.take i=l:=List.take_of_length_le (by omega);rw[this]at v;exact((v.front 2 rfl).tail).front 0 rfl
def eS(H:Sat (DA E bb b r b2 l::Z) w)(hf:l.length<=1000){id:Int}{K:World->Prop}(hK: ∀w',Sat (DA E bb b r b2 (l++[id])::Z) w'->K w'):
  NC (some ⟨bb,0,none⟩) λaA=>
     ∃d:Aa,w.cell? (aA.add 3)=some (.slice d.base d.len d.cap)/\
     AL (.cells ⟨[.int .i64 id]⟩ E.Bx) w λv y=>
     APP E.Bx 1 8 #[.int .i64 0] d ⟨(some (Addr.mk v 0 none)),1,1⟩ y λNl J=>
     NC (some ⟨bb,0,none⟩) λaB=>
     stCells (aB.add 3) 0 [.slice Nl.base Nl.len Nl.cap] J λj=>
     K j:=by
 obtain⟨s,H1⟩:=Sat.eQ.1 H;have hl:=OV (H1.front 1 rfl);refine AF ⟨s,Uz H1,AR (vs:=[.int .i64 id]) (H1.front 1 rfl) λv y O _=> ?_⟩;refine EX (news:=[.int .i64 id]) O rfl rfl (by simp[Value.oneCell']) (by omega) (by omega) λNl J T _=>AF (qS (s':=Nl) (T.front 1 rfl) λj Y=>hK j (Sat.eQ.2 ⟨Nl,?_⟩));have e:ints .i64 l++[.int .i64 id]=ints .i64 (l++[id]):=by unfold ints;rw[List.map_append];rfl
 rw[<-e];exact Y
end
structure JG(W:SW)(U M:Az)(l:List Int)(B:Nat):Prop where
 c:Qm W U M l B
 nm:Ou W
 em:W.em.length+W.R.length<=B
def JG.mono{W:SW}{U M:Az}{l:List Int}{B C:Nat}(h:JG W U M l B)(d:B<=C):JG W U M l C:=⟨h.c.mono d,h.nm,Nat.le_trans h.em d⟩
abbrev LN(E:Env)(bb b h s r b2 h2 s2 r2:Nat)(W:SW)(U M:Az)(l:List Int)(Z:List Pr):List Pr:=DA E bb b r b2 l::AS E b h s r W::Ds E b2 h2 s2 r2 W U M::Z
section
variable{E:Env}{bb b h s r b2 h2 s2 r2:Nat}{W W':SW}{U M U' M':Az}{l:List Int}{B:Nat}{Z:List Pr}{w:World}
def JG.ins{id:Int}{x:DG}(hC:JG W U M l B)(O:x.id=id)(A2:MJ {W with L:=IM W.L x} U M):JG {W with L:=IM W.L x} U M (l.filter λy=>y !=id) B:=by
 refine⟨⟨hC.c.n,A2,hC.c.f,hC.c.nd.filter _,λj K=> ?_⟩,⟨hC.nm.ch,hC.nm.rp⟩,hC.em⟩;have d:=List.mem_filter.1 K;have v:j≠id:=by simpa using d.2
 refine⟨(hC.c.hd j d.1).1,λy J=> ?_⟩;rcases LH.1 J with rfl|J
 .rw[O];exact λe=>v e.symm
 .exact(hC.c.hd j d.1).2 y J
def JG.Xj(h:JG W U M l B)(hE:aO W W')(A2:MJ W' U' M')(d:Ou W')(he:W'.em.length+W'.R.length<=B):JG W' U' M' l B:=⟨h.c.Xj hE A2,d,he⟩
def Qe.len{e:Int}(h:Qe W U M e W' U' M'):W'.em.length+W'.R.length<=W.em.length+W.R.length:=by
 induction h with
 | done _=>exact Nat.le_refl _
 | empty _ _=>exact Nat.le_refl _
 | dS _ _ _ _=>exact Nat.le_refl _
 | go _ _ hO _ _ _ ih=>exact Nat.le_trans ih hO.len
variable(hE:Mk E)
include hE
theorem eT(H:Sat (LN E bb b h s r b2 h2 s2 r2 W U M l Z) w)(hC:JG W U M l B)(hf:l.length<=500){id:Int}{kp:Bool}{b1:Nat}
  (J: ∀w',Sat Z w'->w'.cell? ((Addr.mk b1 0 none).add 9)=some (.bool kp)){K:Bool->World->Prop}
  (hK: ∀W' U' M' l' w',JG W' U' M' l' (B+1)->l'.length<=l.length+1->Sat (LN E bb b h s r b2 h2 s2 r2 W' U' M' l' Z) w'->K true w'):
     NC (some ⟨bb,0,none⟩) λaR=>
     ∃aI:(Option Addr),w.drew.cell? aR=some (.pointer aI)/\
     ∃aJ:Bool,w.drew.cell? ((Addr.mk b1 0 none).add 9)=some (.bool aJ)/\
     F.BC E aI id aJ (λaH aB=>
     NC (some ⟨bb,0,none⟩) λaS=>
     ∃aK:(Option Addr),aB.drew.cell? (aS.add 2)=some (.pointer aK)/\
     ∃aL:Bool,aB.drew.cell? ((Addr.mk b1 0 none).add 9)=some (.bool aL)/\
     F.A4 E aK id aL (λaT j=>
     CND ((aH:Int) !=aT) (
      K false j
     ) (
      CND ((aH:Int)==0) (
       F.Ew E (some ⟨bb,0,none⟩) id (λv=>
       K true v
       ) j
      ) (
       K true j
      )
     )
     ) aB.drew
     ) w.drew:=by
 have Hd:=H.drew;refine AF ⟨_,(Bw Hd).1,kp,J _ Hd.tail.tail.tail,?_⟩;have h1:Sat (AS E b h s r W::DA E bb b r b2 l::Ds E b2 h2 s2 r2 W U M::Z) w.drew:=Hd.front 1 rfl;have zz: ∀{P Q R:Pr} {w'},Sat (P::Q::R::Z) w'->Sat Z w':=λh'=>h'.tail.tail.tail;refine PM hE h1 hC.c.ok.inv hC.c.ok.KY (λhn w' H'=> ?_) (λhl O w' H'=> ?_) λx Y T Fz aO w' H'=> ?_
 .have d:Sat (Ds E b2 h2 s2 r2 W U M::AS E b h s r W::DA E bb b r b2 l::Z) w'.drew:=H'.drew.front 2 rfl;refine AF ⟨_,(Bw (d.front 2 rfl)).2.2,kp,J _ (zz d),Mx d hC.c.ok.inv 0 hC.c.ok.KY (λ_ w3 H3=> ?_) (λhl=>absurd hn hl) λx Y=>by rw[hn]at Y;cases Y⟩;exact DM (λc=>absurd rfl c) λ_=>BF (λc=>by cases c) λ_=>hK W U M l w3 (hC.mono (by omega)) (by omega) ((H3.front 1 rfl).front 2 rfl)
 .have d:Sat (Ds E b2 h2 s2 r2 W U M::AS E b h s r W::DA E bb b r b2 l::Z) w'.drew:=H'.drew.front 2 rfl;refine AF ⟨_,(Bw (d.front 2 rfl)).2.2,kp,J _ (zz d),Mx d hC.c.ok.inv 0 hC.c.ok.KY (λhn=>absurd hn hl) (λ_ _ w3 H3=> ?_) λx Y T=> ?_⟩
  .exact DM (λc=>absurd rfl c) λ_=>BF (λc=>by cases c) λ_=>hK W U M l w3 (hC.mono (by omega)) (by omega) ((H3.front 1 rfl).front 2 rfl)
  .obtain⟨y,hy,e⟩:=O;exact absurd e (T y hy)
 .have A2:=H'.Zf aO hC.c.ok.em;have d:Sat (Ds E b2 h2 s2 r2 W U M::AS E b h s r {W with L:=IM W.L ⟨Fz,id,x.2.base,(x.2.cls,x.2.FY,x.2.used==x.2.AM,kp)⟩}::DA E bb b r b2 l::Z) w'.drew:=H'.drew.front 2 rfl;refine AF ⟨_,(Bw (d.front 2 rfl)).2.2,kp,J _ (zz d),Mx d hC.c.ok.inv Fz hC.c.ok.KY (λhn=>by rw[hn]at Y;cases Y) (λ_ O=> ?_) λy hy _ w3 H3=> ?_⟩
  .obtain⟨y,hy,e⟩:=O;exact absurd e (T y hy)
  .rw[Y]at hy;cases hy;refine DM (λc=>absurd rfl c) λ_=>BF (λ_=>aA (H3.front 2 rfl) (by omega) λv aF=> ?_) λc=>absurd rfl c;exact hK _ U M _ v ((hC.ins rfl A2).mono (by omega)) (Nat.le_trans (List.length_filter_le _ _) (by omega)) (aF.DR 1 rfl)
theorem aB(H:Sat (LN E bb b h s r b2 h2 s2 r2 W U M l Z) w)(hC:JG W U M l B){d:Int}{b1:Nat}
  (T: ∀w',Sat Z w'->w'.cell? ((Addr.mk b1 0 none).add 7)=some (.int .u64 d)){K:Bool->World->Prop}
  (hK: ∀W' U' M' l' w',JG W' U' M' l' (B+1)->l'.length<=l.length+1->Sat (LN E bb b h s r b2 h2 s2 r2 W' U' M' l' Z) w'->K true w'):
         NC (some ⟨bb,0,none⟩) λY=>
         ∃v:(Option Addr),w.drew.cell? Y=some (.pointer v)/\
         ∃y:Int,w.drew.cell? ((Addr.mk b1 0 none).add 7)=some (.int .u64 y)/\
         F.F9 E v y (λj=>
         NC (some ⟨bb,0,none⟩) λaA=>
         ∃J:(Option Addr),j.drew.cell? (aA.add 2)=some (.pointer J)/\
         ∃O:Int,j.drew.cell? ((Addr.mk b1 0 none).add 7)=some (.int .u64 O)/\
         F.D9 E J O (λaC=>
         K true aC
         ) j.drew
         ) w.drew:=by
 have Hd:=H.drew;refine AF ⟨_,(Bw Hd).1,d,T _ Hd.tail.tail.tail,ZZ (Hd.front 1 rfl) λw' H'=> ?_⟩;have H2:=H'.drew;refine AF ⟨_,(Bw (H2.front 1 rfl)).2.2,d,T _ H2.tail.tail.tail,Z6 (H2.front 2 rfl) λw3 H3=> ?_⟩;exact hK {W with Ny:=d,Bq:=0,En:=0} U M l w3 ⟨⟨Nat.le_trans hC.c.n (by omega),⟨⟨hC.c.ok.inv.hI,hC.c.ok.inv.sp,hC.c.ok.inv.it⟩,hC.c.ok.hk,hC.c.ok.se,hC.c.ok.em⟩,hC.c.f,hC.c.nd,hC.c.hd⟩,⟨⟨Int.le_refl 0,by show(0:Int)<_;decide⟩,Int.le_refl 0,by show(0:Int)<_;decide⟩,Nat.le_trans hC.em (by omega)⟩ (by omega) ((H3.front 1 rfl).front 2 rfl)
theorem VU(H:Sat (LN E bb b h s r b2 h2 s2 r2 W U M l Z) w)(hC:JG W U M l B){d:Int}(hd:0<=d/\d<18446744073709551616){b1:Nat}
  (T: ∀w',Sat Z w'->w'.cell? ((Addr.mk b1 0 none).add 7)=some (.int .u64 d)){K:Bool->World->Prop}
  (hK: ∀W' U' M' l' w',JG W' U' M' l' (B+1)->l'.length<=l.length+1->Sat (LN E bb b h s r b2 h2 s2 r2 W' U' M' l' Z) w'->K true w'):
          NC (some ⟨bb,0,none⟩) λY=>
          ∃v:(Option Addr),w.drew.cell? Y=some (.pointer v)/\
          ∃y:Int,w.drew.cell? ((Addr.mk b1 0 none).add 7)=some (.int .u64 y)/\
          F.CY E v y (λj=>
          NC (some ⟨bb,0,none⟩) λaA=>
          ∃J:(Option Addr),j.drew.cell? (aA.add 2)=some (.pointer J)/\
          ∃O:Int,j.drew.cell? ((Addr.mk b1 0 none).add 7)=some (.int .u64 O)/\
          F.Dh E J O (λaB=>
          K true aB
          ) j.drew
          ) w.drew:=by
 have Hd:=H.drew;refine AF ⟨_,(Bw Hd).1,d,T _ Hd.tail.tail.tail,VN (Hd.front 1 rfl) hC.nm.ch hd λw' H'=> ?_⟩;have H2:=H'.drew;refine AF ⟨_,(Bw (H2.front 1 rfl)).2.2,d,T _ H2.tail.tail.tail,VR (H2.front 2 rfl) hC.nm.ch hd λw3 H3=> ?_⟩;have hb:0<=Hj W.Bq d/\Hj W.Bq d<18446744073709551616:=by
  have:=hC.nm.ch;unfold Hj;split<;>omega
 exact hK {W with Bq:=Hj W.Bq d} U M l w3 ⟨⟨Nat.le_trans hC.c.n (by omega),⟨⟨hC.c.ok.inv.hI,hC.c.ok.inv.sp,hC.c.ok.inv.it⟩,hC.c.ok.hk,hC.c.ok.se,hC.c.ok.em⟩,hC.c.f,hC.c.nd,hC.c.hd⟩,⟨hb,hC.nm.rp⟩,Nat.le_trans hC.em (by omega)⟩ (by omega) ((H3.front 1 rfl).front 2 rfl)
theorem Xd(hT: ∀w',Sat Z w'->GL E.AN w')(H:Sat (LN E bb b h s r b2 h2 s2 r2 W U M l Z) w)(hC:JG W U M l B){K:Bool->World->Prop}
  (hK: ∀W' U' M' l' w',JG W' U' M' l' (B+1)->l'.length<=l.length+1->Sat (LN E bb b h s r b2 h2 s2 r2 W' U' M' l' Z) w'->K true w'):
           NC (some ⟨bb,0,none⟩) λJ=>
           ∃y:(Option Addr),w.drew.cell? J=some (.pointer y)/\
           NC (some ⟨bb,0,none⟩) λj=>
           ∃d:(Option Addr),w.drew.cell? (j.add 2)=some (.pointer d)/\
           F.Cn E y (λO v=>
           v.cell? (j.add 2)=some (.pointer d)/\
           F.BL E d (λT Y=>
           K ((O:Int)==T) Y
           ) v
           ) w.drew:=by
 have Hd:=H.drew;refine AF ⟨_,(Bw Hd).1,AF ⟨_,(Bw Hd).2.2,VO hE (λw' h'=>hT w' h'.tail.tail) (Hd.front 1 rfl) hC.c.ok hC.nm λe W' U' M' hr A2 hn w' H'=> ?_⟩⟩;refine⟨(Bw (H'.front 1 rfl)).2.2,Xb (H'.front 2 rfl) hC.c.ok hC.nm hr λw3 H3=> ?_⟩;rw[show((e:Int)==e)=true from beq_self_eq_true e];exact hK W' U' M' l w3 ((hC.Xj hr.Xj A2 hn (Nat.le_trans hr.len hC.em)).mono (by omega)) (by omega) ((H3.front 1 rfl).front 2 rfl)
end
section
variable{E:Env}{bb b h s r b2 h2 s2 r2:Nat}{W W':SW}{U M U' M':Az}{l:List Int}{B:Nat}{Z:List Pr}{w:World}
def JG.rem{x:DG}(hC:JG W U M l B):JG {W with L:=GZ W.L x.id} U M l B:=hC.Xj (aO.rem W x.id) (hC.c.ok.rem x.id) ⟨hC.nm.ch,hC.nm.rp⟩ hC.em
def JG.push{id:Int}(hC:JG W U M l B)(h1:id∉l)(h2:W.S.sp id≠none)(d: ∀x∈W.L,x.id≠id):JG W U M (l++[id]) B:=⟨hC.c.add h1 h2 d,hC.nm,hC.em⟩
variable(hE:Mk E)
include hE
theorem eU(hT: ∀w',Sat Z w'->GL E.AN w'){x:DG}(H:Sat (LN E bb b h s r b2 h2 s2 r2 {W with L:=GZ W.L x.id} U M l Z) w)(hC:JG W U M l B)(hx:Lv W.L x)(hf:l.length<=500){kp:Bool}{K:Bool->World->Prop}
  (hK: ∀W' U' M' l' w',JG W' U' M' l' (B+1)->l'.length<=l.length+1->Sat (LN E bb b h s r b2 h2 s2 r2 W' U' M' l' Z) w'->K true w'):F.CX E (some ⟨bb,0,none⟩) x.id kp K w:=by
 unfold F.CX T0.CX;have aK:=hC.rem (x:=x);have d:=aK.c.ok;obtain⟨y0,a2,bH⟩:=hC.c.ok.inv.it x hx.1;have O:({W with L:=GZ W.L x.id}:SW).S.sp x.id=some y0:=a2;have aO:x.id∉l:=λaZ=>(hC.c.hd _ aZ).2 x hx.1 rfl;refine AF ⟨_,(Bw H).1,PN hE (λw' h'=>hT w' h'.tail.tail) (H.front 1 rfl) d.inv d.KY d.em (λz hz=>(Fh.1 hz).2) (λhn=> ?_) (λz hz a3 w6 H6=> ?_) λn gone W2 U2 M2 J aX w6 H6=> ?_⟩
 .rw[O]at hn;cases hn
 .-- a zombie
  have H7:Sat (Ds E b2 h2 s2 r2 {W with L:=GZ W.L x.id} U M::AS E b h s r {W with L:=GZ W.L x.id}::DA E bb b r b2 l::Z) w6:=H6.front 2 rfl;refine AF ⟨_,(Bw (H7.front 2 rfl)).2.2,My H7 d.inv d.hk d.KY d.em (λz hz=>(Fh.1 hz).2) (λhn=> ?_) (λz' _ _ aS v=> ?_) λz' _ Y=> ?_⟩
  .rw[O]at hn;cases hn
  .refine AV (DM (λc=>absurd rfl c) λ_=>AO rfl λj=>AO rfl (AV (AU rfl ?_)));refine eS (v.front 2 rfl) (by omega) λa4 aE=>λj=> ?_;have aF:Sat (Ds E b2 h2 s2 r2 {W with L:=GZ W.L x.id} U M::DA E bb b r b2 (l++[x.id])::AS E b h s r {W with L:=GZ W.L x.id}::Z) a4:=aE.front 1 rfl;obtain⟨em,T⟩:=Sat.N7.1 aF;refine AF ⟨_,(Bw aE).2.2,AF ⟨_,(T.front 2 rfl).Ah rfl,?_⟩⟩;refine PT T d.inv.hI (λhn=> ?_) λy q R hy aG _=> ?_
   all_goals
    refine AV (AO rfl λj=>AO rfl ?_);exact hK _ U M _ _ ((aK.push aO (by rw[O];exact λc=>by cases c) λz hz=>(Fh.1 hz).2).mono (by omega)) (by simp) ((aF.drew.front 2 rfl).front 2 rfl)
  .obtain⟨i,h1,h2⟩:=a3;have:=Y i h1;rw[h2]at this;cases this
 .have aA:=H6.Zf aX (Nat.le_trans J.len d.em);have aN:=J.Xj ⟨x,hx.1,rfl⟩;have aJ:JG W2 U2 M2 l B:=hC.Xj aN aA (J.num (W:={W with L:=GZ W.L x.id}) ⟨hC.nm.ch,hC.nm.rp⟩) (Nat.le_trans J.len hC.em);have H7:Sat (Ds E b2 h2 s2 r2 {W with L:=GZ W.L x.id} U M::AS E b h s r W2::DA E bb b r b2 l::Z) w6:=H6.front 2 rfl;refine AF ⟨_,(Bw (H7.front 2 rfl)).2.2,My H7 d.inv d.hk d.KY d.em (λz hz=>(Fh.1 hz).2) (λhn=> ?_) (λz _ hz=> ?_) λz _ _=>⟨_,_,_,_,_,J,aA.inv,λaS v=> ?_⟩⟩
  .rw[O]at hn;cases hn
  .obtain⟨y,_,_,_,Y,_⟩:=J;obtain⟨i,h1,h2⟩:=hz;have:=Y i h1;rw[h2]at this;cases this
  have gg:(!(gone==gone))=false:=by cases gone<;>rfl
  refine AV (DM (λc=>absurd rfl c) λ_=>AO gg λj=>AO rfl (AV (AO rfl λj=> ?_)));obtain⟨em,T⟩:=Sat.N7.1 v;have fin: ∀{w'},Sat (Ds E b2 h2 s2 r2 W2 U2 M2::AS E b h s r W2::DA E bb b r b2 l::Z) w'->K true w':=λh'=>hK W2 U2 M2 l _ (aJ.mono (by omega)) (by omega) ((h'.front 1 rfl).front 2 rfl);refine AF ⟨_,(Bw (v.front 2 rfl)).2.2,AF ⟨_,(T.front 2 rfl).Ah rfl,?_⟩⟩;have e0:((0:Int)==0)=true:=rfl;refine PT T aA.inv.hI (λhn=> ?_) λy q R hy aG a9=> ?_
  .refine AV (AU rfl ?_);cases kp with
   | false=>exact AO rfl λj=>AO rfl (fin v.drew)
   | true=>cases gone with
    | true=>exact AU rfl (AO rfl λj=>AO rfl (fin v.drew))
    | false=>exact AU rfl (AU rfl (AO rfl λj=>AO rfl (fin v.drew)))
  .refine AV (AU rfl ?_);cases kp with
   | false=>exact AO rfl λj=>AO rfl (fin v.drew)
   | true=>cases gone with
    | true=>exact AU rfl (AO rfl λj=>AO rfl (fin v.drew))
    | false=>
     refine AU rfl (AU rfl (AU rfl ?_));have Hd:=aG.drew;have aP:aS.drew.cell? ((Addr.mk q 0 none).add 6)=some (.int .i64 y.2.AM):=by
      obtain⟨_,_,_,_,_,_,h7⟩:=Sat.Gx.1 Hd;exact h7.cell rfl
     refine AF ⟨y.2.AM,aP,Ie Hd ⟨aP,λj=> ?_⟩⟩;obtain⟨x0,t,uw,aR,-,-,-,hU,-,W1,aM,hc⟩:=J;rw[O]at aR;cases aR;have aQ:W1.S.sp x.id=some (y0.1,Jv y0.2 uw λi=>U x.id i&&t.m i):=by rw[aM];exact HS.Il
     have aL:U2 x.id=λi=>U x.id i&&t.m i:=by rw[hU];exact Az.N3 U x.id _
     rcases hc with ⟨_,a0,_,e⟩|⟨_,_,hg,_⟩|⟨Y,bG,_,Fz,e⟩
     .have aD:y.2.AM=y0.2.AM:=by
       rw[e,aQ]at hy;cases hy;rfl
      rw[aL,aD];refine AU (decide_eq_true a0) ?_;have hd:=v.drew;refine eS (hd.front 2 rfl) (by omega) λa5 aV=> ?_;refine hK W2 U2 M2 _ a5 ((aJ.push aO (by rw[hy];exact λc=>by cases c) λz hz=> ?_).mono (by omega)) (by simp) (aV.DR 1 rfl);rw[e,aM]at hz;exact(Fh.1 hz).2
     .cases hg
     .have aD:y.2.AM=y0.2.AM:=by
       rw[e]at hy;have hy:W1.S.sp x.id=some y:=hy;rw[aQ]at hy;cases hy;rfl
      rw[aL,aD];exact AO (decide_eq_false λc=>Y ⟨rfl,c⟩) (fin v.drew)
end
def v7(x:Int):0<=D5 .i64 0 x 31/\D5 .i64 0 x 31<=31:=by
 show 0<=IntKind.wrap .i64 ((BitVec.ofInt 64 x&&&BitVec.ofInt 64 31).toNat:Int)/\IntKind.wrap .i64 ((BitVec.ofInt 64 x&&&BitVec.ofInt 64 31).toNat:Int)<=31;have h:(BitVec.ofInt 64 x&&&BitVec.ofInt 64 31).toNat<=31:=by
  rw[BitVec.toNat_and];exact Nat.le_trans Nat.and_le_right (by decide)
 have e:IntKind.wrap .i64 ((BitVec.ofInt 64 x&&&BitVec.ofInt 64 31).toNat:Int)=((BitVec.ofInt 64 x&&&BitVec.ofInt 64 31).toNat:Int):=AE;omega
def qT{α:Type}(X B P:α)(R A Z:List α):(X::(R++(A++B::P::Z))).Perm (P::X::(R++(A++B::Z))):=by
 classical
 exact List.perm_iff_count.2 λa=>by simp only[List.count_cons,List.count_append];omega
section
variable{E:Env}{bb b h s r b2 h2 s2 r2:Nat}{W W':SW}{U M U' M':Az}{l:List Int}{B:Nat}{Z:List Pr}{w:World}
variable(hE:Mk E)
include hE
theorem aC(hT: ∀w',Sat Z w'->GL E.AN w')(H:Sat (LN E bb b h s r b2 h2 s2 r2 W U M l Z) w)(hC:JG W U M l B)(hf:l.length<=500){what:Int}{b1:Nat}
  (aQ: ∀w',Sat Z w'->w'.cell? (Addr.mk b1 0 none)=some (.int .i64 what)){K:Bool->World->Prop}
  (hK: ∀W' U' M' l' w',JG W' U' M' l' (B+1)->l'.length<=l.length+1->Sat (LN E bb b h s r b2 h2 s2 r2 W' U' M' l' Z) w'->K true w'):
        NC (some ⟨bb,0,none⟩) λaJ=>
        ∃aA:(Option Addr),w.cell? aJ=some (.pointer aA)/\
        F.B7 E aA (λJ O T=>
        NC (some ⟨bb,0,none⟩) λaK=>
        ∃aB:(Option Addr),T.cell? (aK.add 2)=some (.pointer aB)/\
        F.A8 E aB (λaL aM Y=>
        Af (Bool×Unit) (λy=>
         CND ((J:Int) !=aL) (
          y (true,()) Y
         ) (
          y (!(O==aM),()) Y
         )
        ) λbJ _ d=>
         CND (bJ.1) (
          K false d
         ) (
          CND (!O) (
           K true d
          ) (
           ∃aD:Int,d.cell? (Addr.mk b1 0 none)=some (.int .i64 aD)/\
           F.CX E (some ⟨bb,0,none⟩) J ((aD:Int)==7) (λaN aO=>
           K aN aO
           ) d
          )
         )
        ) T
        ) w:=by
 refine AF ⟨_,(Bw H).1,N1 hE (H.front 1 rfl) hC.c.ok.inv (λv w8 H8=> ?_) λx hx aU w8 H8=> ?_⟩
 .have H9:Sat (Ds E b2 h2 s2 r2 W U M::AS E b h s r W::DA E bb b r b2 l::Z) w8:=H8.front 2 rfl;refine AF ⟨_,(Bw (H9.front 2 rfl)).2.2,N8 H9 hC.c.ok.se (λ_ aG aE=> ?_) λx hx=> ?_⟩
  .exact AV (AO rfl λj=>AO rfl (AU rfl (hK W U M l aG (hC.mono (by omega)) (by omega) ((aE.front 1 rfl).front 2 rfl))))
  .have:=v x hx.1;rw[hx.2.1]at this;cases this
 .have H9:Sat (Ds E b2 h2 s2 r2 W U M::AS E b h s r {W with L:=GZ W.L x.id}::DA E bb b r b2 l::Z) w8:=H8.front 2 rfl;refine AF ⟨_,(Bw (H9.front 2 rfl)).2.2,N8 H9 hC.c.ok.se (λv=> ?_) λx' aR aG aE=> ?_⟩
  .have:=v x hx.1;rw[hx.2.1]at this;cases this
  obtain rfl:=hx.uniq hC.c.ok.se aR;have aH:Sat (LN E bb b h s r b2 h2 s2 r2 {W with L:=GZ W.L x.id} U M l Z) aG:=(aE.front 1 rfl).front 2 rfl;exact AV (DM (λc=>absurd rfl c) λ_ j=>AO rfl (AO rfl ⟨what,aQ _ aH.tail.tail.tail,eU hE hT aH hC hx hf hK⟩))
theorem Xe(hT: ∀w',Sat Z w'->GL E.AN w')(H:Sat (LN E bb b h s r b2 h2 s2 r2 W U M l Z) w)(hC:JG W U M l B){id N:Int}{b1:Nat}(O1:W.S.sp id=none->id=0)
  (bD: ∀w',Sat Z w'->w'.cell? ((Addr.mk b1 0 none).add 5)=some (.int .i64 N)){K:Bool->World->Prop}
  (hK: ∀W' U' M' l' w',JG W' U' M' l' (B+1)->l'.length<=l.length+1->Sat (LN E bb b h s r b2 h2 s2 r2 W' U' M' l' Z) w'->K true w'):
   NC (some ⟨bb,0,none⟩) λbG=>
   ∃a0:(Option Addr),w.cell? bG=some (.pointer a0)/\
   F.C4 E a0 (λbJ bP=>
   F.EC E bJ id (λaU b9 aH=>
   NC (some ⟨bb,0,none⟩) λbH=>
   ∃a1:(Option Addr),aH.cell? (bH.add 2)=some (.pointer a1)/\
   NC a1 λbI=>
   ∃a2:(Option Addr),aH.cell? bI=some (.pointer a2)/\
   F.An E a2 id (λaV aW=>
   Af (Bool×Unit) (λaJ=>
    CND (aU.isNone) (
     aJ (true,()) aW
    ) (
     aJ (aV.isNone,()) aW
    )
   ) λSb _ aX=>
    CND (Sb.1) (
     K ((id:Int)==0) aX
    ) (
     At (Int×Unit) (0,()) aX λaF _ aI aC=>
      ∃a3:Int,aI.cell? ((Addr.mk b1 0 none).add 5)=some (.int .i64 a3)/\
      CND (decide ((aF.1:Int)<(D5 .i64 0 a3 31))) (
       F.Dg E aU (λbK bL bQ=>
       F.CB E aV (λbM bN aY=>
       Af (Bool×Unit) (λaK=>
        CND ((bK:Int) !=bM) (
         aK (true,()) aY
        ) (
         aK ((bL:Int) !=bN,()) aY
        )
       ) λxB _ J=>
        CND (xB.1) (
         K false J
        ) (
         aC (i64 (aF.1+1),()) J
        )
       ) bQ
       ) aI
      ) (
       K true aI
      )
    )
   ) aH
   ) bP
   ) w:=by
 have H2:=H.front 2 rfl;obtain⟨em,H3⟩:=Sat.N7.1 H2;have cs:=H.front 1 rfl;have aP:=(Bw H).2.2;have aN:w.cell? (Addr.mk b2 0 none)=some (.pointer (some ⟨h2,0,none⟩)):=(H3.front 2 rfl).Ah rfl;refine AF ⟨_,(Bw H).1,G8 cs (R0 cs (λhn=> ?_) λx y=> ?_)⟩
 .refine AF ⟨_,aP,AF ⟨_,aN,PT H3 hC.c.ok.inv.hI (λ_=>AV (AU rfl λj=>AU rfl ?_)) λx q R y _ _=>by rw[hn]at y;cases y⟩⟩;rw[O1 hn];exact hK W U M l w (hC.mono (by omega)) (by omega) H
 .refine AF ⟨_,aP,AF ⟨_,aN,PT H3 hC.c.ok.inv.hI (λhn=>by rw[hn]at y;cases y) λx' q R aT H5 b5=>AV (AO rfl λj=>AO rfl ?_)⟩⟩;rw[y]at aT;cases aT;obtain⟨A2,hg⟩:=hC.c.ok.inv.sp id x y;have aM:=v7 N
  let Y:List Pr:=Gy E b2 h2 s2 r2 W em++DA E bb b r b2 l::Z
  let Wi:SI->SW:=λI=>{W with S:=W.S.put id (x.1,I)}
  have jY: ∀{P:Pr} {W1:SW} {w'},Sat (P::(R++(Gy E b2 h2 s2 r2 W em++DA E bb b r b2 l::AS E b h s r W1::Z))) w'↔Sat (AS E b h s r W1::P::(R++Y)) w':=λ{P W1 w'}=>
   ⟨λh'=>h'.perm (qT _ _ _ _ _ _),λh'=>h'.perm (qT _ _ _ _ _ _).symm⟩
  have Hz: ∀{P Q:Pr} {w'},Sat (Q::P::(R++Y)) w'->Sat Z w':=λh'=>((Sat.rest (Ps:=R) h'.tail.tail):Sat Y _).tail.tail.tail.tail.tail;have a7: ∀{P:Pr} {w'},Sat (P::(R++Y)) w'->Sat Z w':=λh'=>((Sat.rest (Ps:=R) h'.tail):Sat Y _).tail.tail.tail.tail.tail;refine AH (λst w'=> ∃(k:Nat) (I:SI) (u:Nat->Bool),st.1=(k:Int)/\(k:Int)<=D5 .i64 0 N 31/\Ck (Wi I) (U.set id u) M/\I.rs=x.2.rs/\I.f8=x.2.f8/\I.f9=x.2.f9/\Sat (AS E b h s r (Wi I)::Ax E q x.2 u (M id)::(R++Y)) w')
   (λst _=>(D5 .i64 0 N 31-st.1).toNat) ⟨0,x.2,U id,rfl,aM.1,?_,rfl,rfl,rfl,?_⟩ ?_
  .show Ck {W with S:=W.S.put id (x.1,x.2)} (U.set id (U id)) M;rw[show W.S.put id (x.1,x.2)=W.S from HS.Qb y,Az.Kb];exact hC.c.ok.inv
  .refine jY.1 ?_;show Sat (_::(R++(_++_::AS E b h s r {W with S:=W.S.put id (x.1,x.2)}::Z))) w;rw[show W.S.put id (x.1,x.2)=W.S from HS.Qb y];exact H5
  rintro⟨k',u'⟩ _ J ⟨k,I,u,aO,b6,aG,aB,h8,h9,O⟩;dsimp only at aO⊢;subst aO;refine⟨N,bD _ (Hz O),AB (λb7=> ?_) λb4=> ?_⟩
  .have bE:(Wi I).S.sp id=some (x.1,I):=HS.Il;have aQ:I.AM=x.2.AM:=by
    exact congrArg (λt=>t.2.2.2.2.2.2) aB
   have hu:(U.set id u) id=u:=Az.N3 U id u;rw[AE (n:=(k:Int)+1)];refine Zc (λw' h'=>hT w' (a7 h')) O aG bE (λd aZ T=> ?_) λn bO hn v aR aL aZ T=> ?_
   .rw[hu]at d;refine SD (T.front 1 rfl) (by rw[A2.st];decide) hg.sl.1 (λ_=>AV (AO rfl λj=>AO rfl ⟨⟨k+1,I,u,by omega,by omega,aG,aB,h8,h9,T⟩,by omega⟩)) λn hn v=> ?_;have:=d n (by rw[aQ];exact hn);rw[v]at this;cases this
   .rw[hu]at v aR
    let I2:SI:={I with uw:=bO,used:=I.used+1,look:=(n:Int)+1}
    have e1:(Wi I).S.put id (x.1,I2)=W.S.put id (x.1,I2):=HS.Qa W.S id _ _;have e2:((U.set id u).set id λi=>(U.set id u) id i||i==n)=U.set id λi=>u i||i==n:=by rw[hu,Az.set_set]
    rw[e2]at aL;have bC:Ck (Wi I2) (U.set id λi=>u i||i==n) M:=by
     have h:=aL;rw[show({Wi I with S:=(Wi I).S.put id (x.1,I2)}:SW)=Wi I2 by show({W with S:=_}:SW)=_;rw[e1]]at h;exact h
    have a5:Sat (AS E b h s r (Wi I2)::Ax E q x.2 u (M id)::(R++Y)) aZ:=by
     have h:=T;rw[show({Wi I with S:=(Wi I).S.put id (x.1,I2)}:SW)=Wi I2 by show({W with S:=_}:SW)=_;rw[e1]]at h;exact h
    refine SD (a5.front 1 rfl) (by rw[A2.st];decide) hg.sl.1 (λd=> ?_) λn' b8 aE aS cA a6=> ?_
    .have:=d n (by rw[<-aQ];exact hn);rw[v]at this;cases this
    .obtain rfl:n=n':=by
      rcases Nat.lt_trichotomy n n' with c|c|c
      .rw[aS n c]at v;cases v
      .exact c
      .rw[aR n' c]at aE;cases aE
     exact AV (AO (by simp) λj=>AO rfl ⟨⟨k+1,I2,λi=>u i||i==n,by omega,by omega,bC,aB,h8,h9,a6.front 1 rfl⟩,by omega⟩)
  .have h1:=b5 (jY.2 O);rw[Az.Kb]at h1;have a9:=h1.vY y aB;have h3:Sat (Ds E b2 h2 s2 r2 (Wi I) (U.set id u) M::DA E bb b r b2 l::AS E b h s r (Wi I)::Z) J:=Sat.N7.2 ⟨em,a9⟩;refine hK (Wi I) (U.set id u) M l J ⟨⟨Nat.le_trans hC.c.n (by omega),O.Zf aG hC.c.ok.em,hC.c.f.put y h8 h9,hC.c.nd,λj hj=>⟨?_,(hC.c.hd j hj).2⟩⟩,⟨hC.nm.ch,hC.nm.rp⟩,Nat.le_trans hC.em (by omega)⟩ (by omega) ((h3.front 1 rfl).DR 1 rfl);show(if j=id then some (x.1,I)else W.S.sp j)≠none;split
   .exact λc=>by cases c
   .exact(hC.c.hd j hj).1
theorem VV(H:Sat (LN E bb b h s r b2 h2 s2 r2 W U M l Z) w)(hC:JG W U M l B)(hB:B<=1000){id N kd d:Int}{b1:Nat}
  (aC: ∀w',Sat Z w'->w'.cell? ((Addr.mk b1 0 none).add 5)=some (.int .i64 N)/\w'.cell? ((Addr.mk b1 0 none).add 6)=some (.int .i64 kd)/\w'.cell? ((Addr.mk b1 0 none).add 7)=some (.int .u64 d)){K:Bool->World->Prop}
  (hK: ∀W' U' M' l' w',JG W' U' M' l' (B+1)->l'.length<=l.length+1->Sat (LN E bb b h s r b2 h2 s2 r2 W' U' M' l' Z) w'->K true w'):
    NC (some ⟨bb,0,none⟩) λbK=>
    ∃a1:(Option Addr),w.cell? (bK.add 2)=some (.pointer a1)/\
    NC a1 λbL=>
    ∃a2:(Option Addr),w.cell? bL=some (.pointer a2)/\
    F.An E a2 id (λaZ aI=>
    CND (aZ.isNone) (
     K true aI
    ) (
     ∃a3:Int,aI.cell? ((Addr.mk b1 0 none).add 5)=some (.int .i64 a3)/\
     F.CC E aZ (D5 .i64 0 a3 31) (λa0 bN v=>
     CND ((bN:Int) !=0) (
      K true v.drew
     ) (
      NC (some ⟨bb,0,none⟩) λbM=>
      ∃a4:(Option Addr),v.drew.cell? (bM.add 1)=some (.pointer a4)/\
      ∃a5:Int,v.drew.cell? ((Addr.mk b1 0 none).add 6)=some (.int .i64 a5)/\
      ∃a6:Int,v.drew.cell? ((Addr.mk b1 0 none).add 7)=some (.int .u64 a6)/\
      NC (some ⟨bb,0,none⟩) λaH=>
      ∃aE:(Option Addr),v.drew.cell? (aH.add 2)=some (.pointer aE)/\
      NC aE λaY=>
      ∃aJ:(Option Addr),v.drew.cell? (aY.add 2)=some (.pointer aJ)/\
      ∃aK:Int,v.drew.cell? ((Addr.mk b1 0 none).add 6)=some (.int .i64 aK)/\
      ∃aL:Int,v.drew.cell? ((Addr.mk b1 0 none).add 7)=some (.int .u64 aL)/\
      F.B2 E a4 a0 a5 a6 (λbO J=>
      J.cell? ((Addr.mk b1 0 none).add 7)=some (.int .u64 aL)/\
      J.cell? ((Addr.mk b1 0 none).add 6)=some (.int .i64 aK)/\
      J.cell? (aY.add 2)=some (.pointer aJ)/\
      J.cell? (aH.add 2)=some (.pointer aE)/\
      F.BW E aJ a0 aK aL (λbP T=>
      T.cell? (aH.add 2)=some (.pointer aE)/\
      K ((bO:Int)==bP) T
      ) J
      ) v.drew
     )
     ) aI
    )
    ) w:=by
 have H2:=H.front 2 rfl;obtain⟨em,H3⟩:=Sat.N7.1 H2;have bF:=(Bw H).2.2;have bB:w.cell? (Addr.mk b2 0 none)=some (.pointer (some ⟨h2,0,none⟩)):=(H3.front 2 rfl).Ah rfl;have aU:=v7 N;have same: ∀{w'},Sat (Ds E b2 h2 s2 r2 W U M::DA E bb b r b2 l::AS E b h s r W::Z) w'->K true w':=λO=>hK W U M l _ (hC.mono (by omega)) (by omega) ((O.front 1 rfl).DR 1 rfl);refine AF ⟨_,bF,AF ⟨_,bB,PT H3 hC.c.ok.inv.hI (λ_=>AU rfl (same H2)) λx q R hx H5 b5=>AO rfl ⟨N,(aC _ H.tail.tail.tail).1,?_⟩⟩⟩;obtain⟨A2,hg⟩:=hC.c.ok.inv.sp id x hx;have bG:=A2.size;have aT:=A2.ba;have b3:=A2.pg;generalize hk:D5 .i64 0 N 31=k at aU⊢;obtain⟨n,rfl⟩: ∃n:Nat,k=(n:Int):=⟨k.toNat,by omega⟩;have bk: ∀{w'},Sat (Ax E q x.2 (U id) (M id)::(R++(Gy E b2 h2 s2 r2 W em++DA E bb b r b2 l::AS E b h s r W::Z))) w'->Sat (Ds E b2 h2 s2 r2 W U M::DA E bb b r b2 l::AS E b h s r W::Z) w':=λO=>by
  have h1:=b5 O;rw[Az.Kb,Az.Kb]at h1;exact Sat.N7.2 ⟨em,h1⟩
 by_cases hs:(n:Int)<x.2.AM
 .have h4:=bG.2.2.2.2;rw[Int.mul_comm x.2.elem]at h4;have hmul:((n:Int)+1)*x.2.elem<=x.2.AM*x.2.elem:=Int.mul_le_mul_of_nonneg_right (by omega) (by omega);have h3:((n:Int)+1)*x.2.elem=n*x.2.elem+x.2.elem:=by rw[Int.add_mul,Int.one_mul]
  have h5:0<=(n:Int)*x.2.elem:=Int.mul_nonneg (by omega) (by omega);refine SQ H5 ⟨aT.1,aT.2.1⟩ hs ⟨by omega,by omega⟩ (by omega) λv a9=>DM (λc=>absurd rfl c) λ_=> ?_;generalize ha:x.2.base+(n:Int)*x.2.elem=a;have bA:0<=a/\a<18446744073709551616:=by omega
  have Hd:=(bk a9).drew;have cb:=aC _ Hd.tail.tail.tail;have pw: ∀{W1:SW} {Y:List Pr} {w'},Sat (Ds E b2 h2 s2 r2 W1 U M::Y) w'->w'.cell? ((Addr.mk b2 0 none).add 2)=some (.pointer (some ⟨r2,0,none⟩)):=λO=>by
   obtain⟨em,h1⟩:=Sat.N7.1 O;exact(h1.front 2 rfl).cell rfl
  refine AF ⟨_,(Bw (Hd.front 1 rfl)).2.1,kd,cb.2.1,d,cb.2.2,AF ⟨_,(Bw (Hd.front 1 rfl)).2.2,AF ⟨_,pw Hd,kd,cb.2.1,d,cb.2.2,?_⟩⟩⟩;have Hs:Sat (AS E b h s r W::Ds E b2 h2 s2 r2 W U M::DA E bb b r b2 l::Z) v.drew:=Hd.front 2 rfl;obtain⟨Q,HQ,hz,aV⟩:=Hs.Ue;have aB:W.R.length<1099511627776:=by have:=hC.em;omega
  have after: ∀{W1:SW} {w'},Sat (AS E b h s r W1::Ds E b2 h2 s2 r2 W U M::DA E bb b r b2 l::Z) w'->w'.cell? ((Addr.mk b1 0 none).add 7)=some (.int .u64 d)/\w'.cell? ((Addr.mk b1 0 none).add 6)=some (.int .i64 kd)/\w'.cell? ((Addr.mk b2 0 none).add 2)=some (.pointer (some ⟨r2,0,none⟩))/\w'.cell? ((Addr.mk bb 0 none).add 2)=some (.pointer (some ⟨b2,0,none⟩)):=λO=>
   ⟨(aC _ O.tail.tail.tail).2.2,(aC _ O.tail.tail.tail).2.1,pw (O.front 1 rfl),(Bw (O.front 2 rfl)).2.2⟩
  have refl: ∀{W1:SW} {w'},Sat (AS E b h s r W1::Ds E b2 h2 s2 r2 W U M::DA E bb b r b2 l::Z) w'-> ∃Q2,Sat (E5 E r2 W.R::Q2) w'/\(∀{w''},Sat Q2 w''->Sat (AS E b h s r W1::DA E bb b r b2 l::Z) w'')/\ ∀{R' w''},Sat (E5 E r2 R'::Q2) w''->Sat (Ds E b2 h2 s2 r2 {W with R:=R'} U M::AS E b h s r W1::DA E bb b r b2 l::Z) w'':=λ{W1 w'} O=>by
   obtain⟨em,h1⟩:=Sat.N7.1 (O.front 1 rfl:Sat (Ds E b2 h2 s2 r2 W U M::AS E b h s r W1::DA E bb b r b2 l::Z) w');refine⟨_,(h1.front 3 rfl:Sat (E5 E r2 W.R::Kf E h2 W.S (SM U M)::HA E s2 W.L::Cells b2 E.Ak (Ef h2 s2 r2 em W)::Row E.AI 3 em (Al HU W.em)::AS E b h s r W1::DA E bb b r b2 l::Z) w'),λh2=>h2.tail.tail.tail.tail,λ{R' w''} h2=>Sat.N7.2 ⟨em,?_⟩⟩;exact((h2.front 3 rfl).front 3 rfl).front 3 rfl
  refine Rw HQ bA aB (λaW=> ?_) (λbD y hy bI bJ=> ?_) λbC bE A B' Fz J aS aQ=> ?_
  .have hb:=aV (R':=W.R) HQ;have hb:Sat (AS E b h s r W::Ds E b2 h2 s2 r2 W U M::DA E bb b r b2 l::Z) v.drew:=Hs;obtain⟨c1,c2,c3,c4⟩:=after hb;obtain⟨Q2,H6,aX,aD⟩:=refl hb;refine⟨c1,c2,c3,c4,PU H6 aB (λ_=>⟨c4,?_⟩) (λg=>absurd g aW) λg=>absurd g aW⟩;exact same Hd
  .obtain⟨c1,c2,c3,c4⟩:=after Hs;obtain⟨Q2,H6,aX,aD⟩:=refl Hs;refine⟨c1,c2,c3,c4,PU H6 aB (λg=>absurd bD g) (λ_ _ _ _ _ T aG=> ?_) λ_ g=>absurd ⟨bI,bJ⟩ (g y hy)⟩;have h7:=aD aG;exact⟨(Bw (h7.front 2 rfl)).2.2,same (h7.DR 1 rfl)⟩
  .have hb:=aV aQ;obtain⟨c1,c2,c3,c4⟩:=after hb;obtain⟨Q2,H6,aX,aD⟩:=refl hb;have hinv:Lk (A++⟨Fz,a,kd,d⟩::B'):=(Sat.spec.1 aQ).1;refine⟨c1,c2,c3,c4,PU H6 aB (λg=>absurd bC g) (λ_ y hy e1 e2=>absurd ⟨e1,e2⟩ (bE y hy)) λ_ _=>⟨A,B',Fz,aS,hinv,λT aG=> ?_⟩⟩;have h7:=aD aG;refine⟨(Bw (h7.front 2 rfl)).2.2,?_⟩;rw[show((0:Int)==0)=true from rfl];have hlen:(A++(⟨Fz,a,kd,d⟩:Rc)::B').length=W.R.length+1:=by rw[aS,List.length_append,List.length_append,List.length_cons];omega
   have he:=hC.em;have b6:=hC.c.n;refine hK {W with R:=A++⟨Fz,a,kd,d⟩::B'} U M l T ⟨⟨by show W.S.fx.n<=_;omega,⟨⟨hC.c.ok.inv.hI,hC.c.ok.inv.sp,hC.c.ok.inv.it⟩,hC.c.ok.hk,hC.c.ok.se,?_⟩,hC.c.f,hC.c.nd,hC.c.hd⟩,⟨hC.nm.ch,hC.nm.rp⟩,?_⟩ (by omega) ((h7.front 1 rfl).front 2 rfl)
   .show W.em.length+(A++(⟨Fz,a,kd,d⟩:Rc)::B').length<=_;omega
   .show W.em.length+(A++(⟨Fz,a,kd,d⟩:Rc)::B').length<=_;omega
 .have bV:Sat (Ax E q x.2 (U id) (M id)::(R++(Gy E b2 h2 s2 r2 W em++DA E bb b r b2 l::AS E b h s r W::Z))) w:=H5;obtain⟨ul,ml,s1,b7,lk,b0,H6⟩:=Sat.Gx.1 H5;unfold F.CC;exact AV (AO (by simp) (AF ⟨x.2.AM,H6.cell rfl,λj=>AU (decide_eq_true (by omega)) (DM (λ_=>same (bk H5).drew) λc=>by cases c)⟩))
end
section
variable{E:Env}{bb b h s r b2 h2 s2 r2:Nat}{W W':SW}{U M U' M':Az}{l:List Int}{B:Nat}{Z:List Pr}{w:World}
def JG.lost{p n:Int}{S2:HS}(hC:JG W U M l B)(d:Sg W.S p n S2)(A2:MJ {W with S:=S2} U M):JG {W with S:=S2} U M l B:=by
 have es:S2.sp=W.S.sp:=Ze d;exact hC.Xj ⟨congrArg FX.n (u7 d),λc j y v=>c j y (by rw[<-es];exact v),λj h1 h2=>⟨by show S2.sp j≠none;rw[es];exact h1,h2⟩⟩ A2 ⟨hC.nm.ch,hC.nm.rp⟩ hC.em
def JG.found{p n c page id:Int}{np:Bool}{S2:HS}{J:Nat}{X:FX}(hC:JG W U M l B)(T:Found W.S p n page S2)(hX:Next S2 id X)(d:W.S.sp id=none)(A2:MJ {W with S:=S2.Cv id (J,IZ page n c np) page n X} (U.set id ES) (M.set id ES)):
  JG {W with S:=S2.Cv id (J,IZ page n c np) page n X} (U.set id ES) (M.set id ES) (l++[id]) (B+1):=by
 have es:S2.sp=W.S.sp:=T.same.sp;have K: ∀j,(S2.Cv id (J,IZ page n c np) page n X).sp j=if j=id then some (J,IZ page n c np)else S2.sp j:=λ_=>rfl
 have hn:X.n<=B+1:=by
  have h1:=hC.c.n;have h2:S2.fx=W.S.fx:=T.same.fx;rcases hX with ⟨_,_,e⟩|⟨_,_,_,_,e⟩<;>rw[e,h2]<;>dsimp only<;>omega
 have O:Qm {W with S:=S2.Cv id (J,IZ page n c np) page n X} (U.set id ES) (M.set id ES) l (B+1):=by
  refine⟨hn,A2,λj y v=> ?_,hC.c.nd,λj Y=>⟨?_,(hC.c.hd j Y).2⟩⟩
  .have v:(S2.Cv id (J,IZ page n c np) page n X).sp j=some y:=v;rw[K]at v;split at v
   .cases v;exact⟨rfl,rfl⟩
   .exact hC.c.f j y (by rw[<-es];exact v)
  .show(S2.Cv id (J,IZ page n c np) page n X).sp j≠none;rw[K];split
   .exact λc=>by cases c
   .rw[es];exact(hC.c.hd j Y).1
 refine⟨O.add (λc=>(hC.c.hd _ c).1 d) ?_ λx hx e=> ?_,⟨hC.nm.ch,hC.nm.rp⟩,Nat.le_trans hC.em (Nat.le_succ B)⟩
 .show(S2.Cv id (J,IZ page n c np) page n X).sp id≠none;rw[K,if_pos rfl];exact λc=>by cases c
 .obtain⟨y,v,_⟩:=hC.c.ok.inv.it x hx;rw[e,d]at v;cases v
variable(hE:Mk E)
include hE
theorem Xf(hT: ∀w',Sat Z w'->GL E.AN w')(H:Sat (LN E bb b h s r b2 h2 s2 r2 W U M l Z) w)(hC:JG W U M l B)(hf:l.length<=500){n c:Int}{np:Bool}{b1:Nat}(n0:0<=n)(n1:n<18446744073709551616)
  (aU: ∀w',Sat Z w'->w'.cell? ((Addr.mk b1 0 none).add 1)=some (.int .i64 c)/\w'.cell? ((Addr.mk b1 0 none).add 2)=some (.bool np)/\w'.cell? ((Addr.mk b1 0 none).add 3)=some (.int .u64 n)){K:Bool->World->Prop}
  (hK: ∀W' U' M' l' w',JG W' U' M' l' (B+1)->l'.length<=l.length+1->Sat (LN E bb b h s r b2 h2 s2 r2 W' U' M' l' Z) w'->K true w'):
  NC (some ⟨bb,0,none⟩) λp7=>
  ∃x8:(Option Addr),w.drew.cell? p7=some (.pointer x8)/\
  ∃x9:Int,w.drew.cell? ((Addr.mk b1 0 none).add 3)=some (.int .u64 x9)/\
  ∃aL:Int,w.drew.cell? ((Addr.mk b1 0 none).add 1)=some (.int .i64 aL)/\
  ∃aM:Bool,w.drew.cell? ((Addr.mk b1 0 none).add 2)=some (.bool aM)/\
  F.C4 E x8 (λbJ aD=>
  aD.cell? ((Addr.mk b1 0 none).add 2)=some (.bool aM)/\
  aD.cell? ((Addr.mk b1 0 none).add 1)=some (.int .i64 aL)/\
  aD.cell? ((Addr.mk b1 0 none).add 3)=some (.int .u64 x9)/\
  F.CM E bJ 0 x9 aL aM (λaX aY O=>
  NC (some ⟨bb,0,none⟩) λaW=>
  ∃aN:(Option Addr),O.drew.cell? (aW.add 2)=some (.pointer aN)/\
  NC aN λbF=>
  ∃aZ:(Option Addr),O.drew.cell? bF=some (.pointer aZ)/\
  ∃a0:Int,O.drew.cell? ((Addr.mk b1 0 none).add 3)=some (.int .u64 a0)/\
  ∃a1:Int,O.drew.cell? ((Addr.mk b1 0 none).add 1)=some (.int .i64 a1)/\
  ∃a2:Bool,O.drew.cell? ((Addr.mk b1 0 none).add 2)=some (.bool a2)/\
  F.Bu E aZ 0 a0 a1 a2 (λbK bL v=>
  v.cell? (aW.add 2)=some (.pointer aN)/\
  Af (Bool×Unit) (λaR=>
   CND ((aX:Int) !=bK) (
    aR (true,()) v
   ) (
    aR ((aY:Int) !=bL,()) v
   )
  ) λNK _ aE=>
   CND (NK.1) (
    K false aE
   ) (
    CND ((aY:Int)==0) (
     NC (some ⟨bb,0,none⟩) λbG=>
     ∃aF:Aa,aE.cell? (bG.add 3)=some (.slice aF.base aF.len aF.cap)/\
     AL (.cells ⟨[.int .i64 aX]⟩ E.Bx) aE λa7 bM=>
     APP E.Bx 1 8 #[.int .i64 0] aF ⟨(some (Addr.mk a7 0 none)),1,1⟩ bM λNl bN=>
     NC (some ⟨bb,0,none⟩) λbH=>
     stCells (bH.add 3) 0 [.slice Nl.base Nl.len Nl.cap] bN λaK=>
     K true aK
    ) (
     K true aE
    )
   )
  ) O.drew
  ) aD
  ) w.drew:=by
 have Hd:=H.drew;have c1:=aU _ Hd.tail.tail.tail;have Hs:Sat (AS E b h s r W::DA E bb b r b2 l::Ds E b2 h2 s2 r2 W U M::Z) w.drew:=Hd.front 1 rfl;refine AF ⟨_,(Bw Hd).1,n,c1.2.2,c,c1.1,np,c1.2.1,G8 Hs ⟨c1.2.1,c1.1,c1.2.2,?_⟩⟩;obtain⟨R,HH,hz,hb⟩:=Hs.Ho;have zz: ∀{P Q T:Pr} {w'},Sat (P::Q::T::Z) w'->Sat Z w':=λh'=>h'.tail.tail.tail;have rp: ∀{W1:SW} {U1 M1:Az} {Y:List Pr} {w'},Sat (Ds E b2 h2 s2 r2 W1 U1 M1::Y) w'->w'.cell? (Addr.mk b2 0 none)=some (.pointer (some ⟨h2,0,none⟩)):=λh'=>by
  obtain⟨em,h1⟩:=Sat.N7.1 h';exact(h1.front 2 rfl).Ah rfl
 have op: ∀{W1:SW} {w'},Sat (AS E b h s r W1::DA E bb b r b2 l::Ds E b2 h2 s2 r2 W U M::Z) w'-> ∃em,Sat (Kf E h2 W.S (SM U M)::(Gy E b2 h2 s2 r2 W em++AS E b h s r W1::DA E bb b r b2 l::Z)) w':=λh'=>Sat.N7.1 (h'.front 2 rfl);have bk: ∀{em:Aa} {W1:SW} {S':HS} {U1 M1:Az} {w''},Sat (Kf E h2 S' (SM U1 M1)::(Gy E b2 h2 s2 r2 W em++AS E b h s r W1::DA E bb b r b2 l::Z)) w''->Sat (DA E bb b r b2 l::AS E b h s r W1::Ds E b2 h2 s2 r2 {W with S:=S'} U1 M1::Z) w'':=λ{em W1 S' U1 M1 w''} h'=>by
  have h1:Sat (Ds E b2 h2 s2 r2 {W with S:=S'} U1 M1::AS E b h s r W1::DA E bb b r b2 l::Z) w'':=Sat.N7.2 ⟨em,h'⟩;exact(h1.front 1 rfl).front 2 rfl
 have hk:=(HH).A2;refine Rt hE.toEnvA (λw' h'=>hT w' (hz h').tail.tail) HH hC.c.ok.inv.hI n0 n1 (λd O aG=> ?_) (λd S2 hL aT O aG=> ?_) λd page S2 bl id X hF aT q0 q1 hX bA O aG=> ?_
 all_goals
  have aA:=(hb aG).drew;have cz:=aU _ (zz aA);refine AF ⟨_,(Bw (aA.front 1 rfl)).2.2,AF ⟨_,rp (aA.front 2 rfl),n,cz.2.2,c,cz.1,np,cz.2.1,?_⟩⟩;obtain⟨em,aH⟩:=op aA
 .refine Mw aH hC.c.ok.inv.hI hk n0 n1 (λ_ v J=> ?_) (λg=>absurd d g) λg=>absurd d g;have y:=bk J;exact⟨(Bw y).2.2,AV (AO rfl λj=>AO rfl (AO rfl (hK W U M l v (hC.mono (by omega)) (by omega) y)))⟩
 .refine Mw aH hC.c.ok.inv.hI hk n0 n1 (λg=>absurd g d) (λ_ S3 aI v J=> ?_) λ_ page S3 id X hF _ _ _=>(hF.not hL).elim;obtain rfl:=aI.uniq hL;have y:=bk J;have es:S3.sp=W.S.sp:=Ze hL;have A2:=(y.front 1 rfl:Sat (AS E b h s r {W with S:=S3}::_) v).Zf (hC.c.ok.inv.heap aT es) hC.c.ok.em;exact⟨(Bw y).2.2,AV (AO rfl λj=>AO rfl (AO rfl (hK _ U M l v ((hC.lost hL A2).mono (by omega)) (by omega) y)))⟩
 .refine Mw aH hC.c.ok.inv.hI hk n0 n1 (λg=>absurd g d) (λ_ S3 aI v J=>(hF.not aI).elim) λ_ bI S3 bV X' a9 bE v J=> ?_;obtain⟨rfl,rfl⟩:=hF.uniq a9;obtain⟨rfl,rfl⟩:=hX.uniq bE;obtain⟨bB,aJ⟩:=hC.c.ok.inv.Cv (np:=np) hF hX q0 q1 d n0 bA;have J:=J bl;rw[show KB (SM U M) id uW uW=SM (U.set id ES) (M.set id ES)from iC]at J;have y:=bk J;have A2:=(y.front 1 rfl:Sat (AS E b h s r {W with S:=S2.Cv id (bl,IZ page n c np) page n X}::_) v).Zf bB hC.c.ok.em;refine⟨(Bw y).2.2,AV (DM (λc=>absurd rfl c) λ_ j=>AO rfl (AU rfl (eS y (by omega) λaK a5=> ?_)))⟩;exact hK _ _ _ _ aK (hC.found hF hX aJ A2) (by simp) a5
end
section
variable{E:Env}{bb b h s r b2 h2 s2 r2:Nat}{W W':SW}{U M U' M':Az}{l:List Int}{B:Nat}{Z:List Pr}{w:World}
def JG.mark(hC:JG W U M l B){S':HS}(hm:Ob W.S S')(A2:MJ {W with S:=S',L:=Gh W.L} U M'):JG {W with S:=S',L:=Gh W.L} U M' l B:=⟨hC.c.mark hm A2,⟨hC.nm.ch,hC.nm.rp⟩,hC.em⟩
variable(hE:Mk E)
include hE
theorem Xg(H:Sat (LN E bb b h s r b2 h2 s2 r2 W U M l Z) w)(hC:JG W U M l B){sa:Aa}{as_:List Int}{b1:Nat}(aL:as_.length=sa.len)(bU:sa.len<=1000000)(has: ∀a∈as_,0<=a/\a<18446744073709551616)
  (aF: ∀w',Sat Z w'->w'.cell? ((Addr.mk b1 0 none).add 8)=some (.slice sa.base sa.len sa.cap)/\rowAt w' sa.base sa.len (ints .u64 as_)){K:Bool->World->Prop}
  (hK: ∀W' U' M' l' w',JG W' U' M' l' (B+1)->l'.length<=l.length+1->Sat (LN E bb b h s r b2 h2 s2 r2 W' U' M' l' Z) w'->K true w'):
      Af (Aa×Unit) (λaS=>
       ∃y:Aa,w.drew.cell? ((Addr.mk b1 0 none).add 8)=some (.slice y.base y.len y.cap)/\
       ∃d:Aa,w.drew.cell? ((Addr.mk b1 0 none).add 8)=some (.slice d.base d.len d.cap)/\
       (
        AL (.cells ⟨[]⟩ E.AJ) w.drew λaT aI=>
        aI.cell? ((Addr.mk b1 0 none).add 8)=some (.slice d.base d.len d.cap)/\
        aI.cell? ((Addr.mk b1 0 none).add 8)=some (.slice y.base y.len y.cap)/\
        (
         APP E.AJ 1 8 #[.int .u64 0] ⟨(some (Addr.mk aT 0 none)),0,0⟩ y aI λTt aJ=>
         aJ.cell? ((Addr.mk b1 0 none).add 8)=some (.slice d.base d.len d.cap)/\
         AL (.cells ⟨[.int .u64 171]⟩ E.AJ) aJ λa4 aW=>
         aW.cell? ((Addr.mk b1 0 none).add 8)=some (.slice d.base d.len d.cap)/\
         APP E.AJ 1 8 #[.int .u64 0] Tt ⟨(some (Addr.mk a4 0 none)),1,1⟩ aW λj aA=>
         aA.cell? ((Addr.mk b1 0 none).add 8)=some (.slice d.base d.len d.cap)/\
         ((0:Int)<=((d.len:Nat):Int)/\(((d.len:Nat):Int):Int)<=(j.cap:Nat))/\
         aS (⟨(F2 j.base j.cap 0 1),(Int.toNat ((d.len:Nat):Int)),j.cap⟩,()) aA
        )/\(
         AL (.cells ⟨[.int .u64 171]⟩ E.AJ) aI λa5 aN=>
         aN.cell? ((Addr.mk b1 0 none).add 8)=some (.slice d.base d.len d.cap)/\
         aN.cell? ((Addr.mk b1 0 none).add 8)=some (.slice y.base y.len y.cap)/\
         APP E.AJ 1 8 #[.int .u64 0] ⟨(some (Addr.mk aT 0 none)),0,0⟩ y aN λiZ bB=>
         bB.cell? ((Addr.mk b1 0 none).add 8)=some (.slice d.base d.len d.cap)/\
         APP E.AJ 1 8 #[.int .u64 0] iZ ⟨(some (Addr.mk a5 0 none)),1,1⟩ bB λTu bC=>
         bC.cell? ((Addr.mk b1 0 none).add 8)=some (.slice d.base d.len d.cap)/\
         ((0:Int)<=((d.len:Nat):Int)/\(((d.len:Nat):Int):Int)<=(Tu.cap:Nat))/\
         aS (⟨(F2 Tu.base Tu.cap 0 1),(Int.toNat ((d.len:Nat):Int)),Tu.cap⟩,()) bC
        )
       )/\(
        AL (.cells ⟨[.int .u64 171]⟩ E.AJ) w.drew λa6 aO=>
        aO.cell? ((Addr.mk b1 0 none).add 8)=some (.slice d.base d.len d.cap)/\
        aO.cell? ((Addr.mk b1 0 none).add 8)=some (.slice y.base y.len y.cap)/\
        AL (.cells ⟨[]⟩ E.AJ) aO λa7 aP=>
        aP.cell? ((Addr.mk b1 0 none).add 8)=some (.slice d.base d.len d.cap)/\
        aP.cell? ((Addr.mk b1 0 none).add 8)=some (.slice y.base y.len y.cap)/\
        APP E.AJ 1 8 #[.int .u64 0] ⟨(some (Addr.mk a7 0 none)),0,0⟩ y aP λnJ bD=>
        bD.cell? ((Addr.mk b1 0 none).add 8)=some (.slice d.base d.len d.cap)/\
        APP E.AJ 1 8 #[.int .u64 0] nJ ⟨(some (Addr.mk a6 0 none)),1,1⟩ bD λSc bE=>
        bE.cell? ((Addr.mk b1 0 none).add 8)=some (.slice d.base d.len d.cap)/\
        ((0:Int)<=((d.len:Nat):Int)/\(((d.len:Nat):Int):Int)<=(Sc.cap:Nat))/\
        aS (⟨(F2 Sc.base Sc.cap 0 1),(Int.toNat ((d.len:Nat):Int)),Sc.cap⟩,()) bE
       )
      ) λKy _ aE=>
       NC (some ⟨bb,0,none⟩) λbM=>
       ∃bF:(Option Addr),aE.drew.cell? bM=some (.pointer bF)/\
       NC (some ⟨bb,0,none⟩) λbA=>
       ∃aZ:(Option Addr),aE.drew.cell? (bA.add 2)=some (.pointer aZ)/\
       ∃aD:Aa,aE.drew.cell? ((Addr.mk b1 0 none).add 8)=some (.slice aD.base aD.len aD.cap)/\
       F.Cc E bF Ky.1 (λbN aX=>
       aX.cell? ((Addr.mk b1 0 none).add 8)=some (.slice aD.base aD.len aD.cap)/\
       aX.cell? (bA.add 2)=some (.pointer aZ)/\
       F.BX E aZ aD (λbO aY=>
       CND ((bN:Int)==bO) (
        ((0:Int)<=(i64 (((Ky.1.len:Nat):Int)+1))/\((i64 (((Ky.1.len:Nat):Int)+1)):Int)<=(Ky.1.cap:Nat))/\
        NC (F2 Ky.1.base Ky.1.cap 0 1) λaV=>
        ((0:Int)<=((Ky.1.len:Nat):Int)/\(((Ky.1.len:Nat):Int):Int)<((Int.toNat (i64 (((Ky.1.len:Nat):Int)+1))):Nat))/\
        ∃aK:Int,aY.cell? (aV.add (Int.toNat ((Ky.1.len:Nat):Int)*1))=some (.int .u64 aK)/\
        K ((aK:Int)==171) aY
       ) (
        K false aY
       )
       ) aX
       ) aE.drew:=by
 have one: ∀v∈ints .u64 as_,v.oneCell'=true:=λv hv=>by
  obtain⟨x,_,rfl⟩:=List.mem_map.1 hv;rfl
 have a8:ints .u64 as_++[.int .u64 171]=ints .u64 (as_++[171]):=by unfold ints;rw[List.map_append];rfl
 have aU:(ints IntKind.u64 as_).length=as_.length:=by unfold ints;rw[List.length_map]
 have zz: ∀{P Q T:Pr} {w'},Sat (P::Q::T::Z) w'->Sat Z w':=λh'=>h'.tail.tail.tail;refine I3 (λst w'=> ∃s1:Aa,st.1=⟨F2 s1.base s1.cap 0 1,Int.toNat ((sa.len:Nat):Int),s1.cap⟩/\s1.len=sa.len+1/\Sat (Row E.AJ 1 s1 (ints .u64 (as_++[171]))::LN E bb b h s r b2 h2 s2 r2 W U M l Z) w') ?_ ?_
 .have Hd:=H.drew;have c8: ∀{w'} {P Q T:Pr},Sat (P::Q::T::Z) w'->w'.cell? ((Addr.mk b1 0 none).add 8)=some (.slice sa.base sa.len sa.cap):=λh'=>(aF _ (zz h')).1;have fin: ∀{s9 s11:Aa} {bG:Nat} {Y:List Pr} {w'},s9.len=sa.len->Sat (Cells bG E.AJ [.int .u64 171]::Row E.AJ 1 s9 (ints .u64 as_)::LN E bb b h s r b2 h2 s2 r2 W U M l Z) w'-> ∀{P:Aa->World->Prop},(∀j aA,j.len=sa.len+1->j.len<=j.cap->Sat (Row E.AJ 1 j (ints .u64 (as_++[171]))::LN E bb b h s r b2 h2 s2 r2 W U M l Z) aA->P j aA)->APP E.AJ 1 8 #[.int .u64 0] s9 ⟨some (Addr.mk bG 0 none),1,1⟩ w' P:=λ{s9 s11 bG Y w'} h9 h' {P} hP=>by
   refine EX (news:=[.int .u64 171]) h' rfl rfl (by simp[Value.oneCell']) (by omega) (by omega) λj aA O hl=>hP j aA (by omega) ?_ (by rw[<-a8];exact O);exact(O:Sat (Row E.AJ 1 j _::_) aA).own.cap
  refine⟨sa,c8 Hd,sa,c8 Hd,⟨HI (n:=0) (z:=1) Hd rfl (by decide) λaT aI aG=>⟨c8 aG.tail,c8 aG.tail,⟨?_,?_⟩⟩,?_⟩⟩
  .refine Ep (x:=sa) (news:=ints .u64 as_) aG rfl (by simpa using(aF _ (zz aG.tail)).2) (by rw[aU,Nat.mul_one];exact aL) one (by dsimp only;omega) (by dsimp only;omega) λTt aJ J aC=> ?_;rw[List.nil_append]at J;dsimp only at aC;refine⟨c8 J.tail,AR (vs:=[.int .u64 171]) J λa4 aW a2 _=>⟨c8 a2.tail.tail,?_⟩⟩;refine fin (s11:=Tt) (Y:=Z) (by omega) a2 λj aA h1 h2 O=>⟨c8 O.tail,⟨by omega,by omega⟩,j,rfl,h1,O⟩
  .refine AR (vs:=[.int .u64 171]) aG λa5 aN aQ _=>⟨c8 aQ.tail.tail,c8 aQ.tail.tail,?_⟩;have a3:=aQ.front 1 rfl;refine Ep (x:=sa) (news:=ints .u64 as_) a3 rfl (by simpa using(aF _ (zz a3.tail.tail)).2) (by rw[aU,Nat.mul_one];exact aL) one (by dsimp only;omega) (by dsimp only;omega) λTt aJ J aC=> ?_;rw[List.nil_append]at J;dsimp only at aC;refine⟨c8 J.tail.tail,?_⟩;refine fin (s11:=Tt) (Y:=Z) (by omega) (J.front 1 rfl) λj aA h1 h2 O=>⟨c8 O.tail,⟨by omega,by omega⟩,j,rfl,h1,O⟩
  .refine AR (vs:=[.int .u64 171]) Hd λa6 aO aR _=>⟨c8 aR.tail,c8 aR.tail,HI (n:=0) (z:=1) aR rfl (by decide) λa7 aP aM=>⟨c8 aM.tail.tail,c8 aM.tail.tail,?_⟩⟩;refine Ep (x:=sa) (news:=ints .u64 as_) aM rfl (by simpa using(aF _ (zz aM.tail.tail)).2) (by rw[aU,Nat.mul_one];exact aL) one (by dsimp only;omega) (by dsimp only;omega) λTt aJ J aC=> ?_;rw[List.nil_append]at J;dsimp only at aC;refine⟨c8 J.tail.tail,?_⟩;refine fin (s11:=Tt) (Y:=Z) (by omega) (J.front 1 rfl) λj aA h1 h2 O=>⟨c8 O.tail,⟨by omega,by omega⟩,j,rfl,h1,O⟩
 rintro⟨Ky,u⟩ _ aE ⟨s1,hs,bV,bI⟩;dsimp only at hs⊢;subst hs;rw[KR];simp only[Int.toNat_natCast];have Hd:=bI.drew;have bP: ∀{Y:List Pr} {w'},Sat (Row E.AJ 1 s1 (ints .u64 (as_++[171]))::Y) w'->rowAt w' s1.base sa.len (ints .u64 as_):=λ{Y w'} h'=>by
  have h1:=KG h'.Kj (m:=sa.len) (by rw[bV];omega) h'.Du;rwa[<-a8,List.take_append_of_le_length (by rw[aU];omega),List.take_of_length_le (by rw[aU];omega)]at h1
 have fin: ∀{W':SW} {M':Az} {w'},JG W' U M' l B->Sat (Ds E b2 h2 s2 r2 W' U M'::AS E b h s r W'::Row E.AJ 1 s1 (ints .u64 (as_++[171]))::DA E bb b r b2 l::Z) w'->
   ((0:Int)<=(i64 (((sa.len:Nat):Int)+1))/\((i64 (((sa.len:Nat):Int)+1)):Int)<=(s1.cap:Nat))/\NC (F2 s1.base s1.cap 0 1) λaV=>((0:Int)<=((sa.len:Nat):Int)/\(((sa.len:Nat):Int):Int)<((Int.toNat (i64 (((sa.len:Nat):Int)+1))):Nat))/\ ∃aK:Int,w'.cell? (aV.add (sa.len*1))=some (.int .u64 aK)/\K ((aK:Int)==171) w':=λ{W' M' w'} hC' h'=>by
  have hr:=h'.front 2 rfl;have bY:=(hr:Sat (Row E.AJ 1 s1 _::_) w').own.cap;obtain⟨bk,bK⟩:=(hr:Sat (Row E.AJ 1 s1 _::_) w').own.Eo (by omega);rw[AE (n:=((sa.len:Nat):Int)+1),KR,bK];refine⟨⟨by omega,by omega⟩,AF ⟨⟨by omega,by omega⟩,171,?_,?_⟩⟩
  .rw[Nat.mul_one];exact(hr:Sat (Row E.AJ 1 s1 _::_) w').own.cell bK (IF (by rw[<-aL,List.getElem?_append_right (Nat.le_refl _),Nat.sub_self];rfl))
  .rw[show((171:Int)==171)=true from rfl];exact hK W' U M' l w' (hC'.mono (by omega)) (by omega) ((h'.front 2 rfl).tail.front 2 rfl|>.DR 1 rfl)
 have Hs:Sat (AS E b h s r W::Row E.AJ 1 s1 (ints .u64 (as_++[171]))::DA E bb b r b2 l::Ds E b2 h2 s2 r2 W U M::Z) aE.drew:=Hd.front 2 rfl;refine AF ⟨_,(Bw Hd.tail).1,AF ⟨_,(Bw Hd.tail).2.2,sa,(aF _ (zz Hd.tail)).1,?_⟩⟩;refine Rx hE (a1:=⟨s1.base,sa.len,s1.cap⟩) Hs hC.c.ok.inv (λw' h'=>bP h') aL (Nat.le_trans bU (by decide)) has (λbL w' H'=> ?_) λbX S' hm bT w' H'=> ?_
 .have h5:Sat (Ds E b2 h2 s2 r2 W U M::AS E b h s r W::Row E.AJ 1 s1 (ints .u64 (as_++[171]))::DA E bb b r b2 l::Z) w':=H'.front 3 rfl;refine⟨(aF _ h5.tail.tail.tail.tail).1,(Bw (h5.front 3 rfl)).2.2,SR h5 hC.c.ok.inv hC.c.ok.hk hC.c.ok.se (λw' h'=>(aF _ h'.tail.tail.tail).2) aL (by omega) has (λ_=>AU rfl (fin hC h5)) λbJ=> ?_⟩;have:Km W.L false=0:=by
   unfold Km;rw[List.length_eq_zero_iff,List.filter_eq_nil_iff];intro x hx;rw[bJ x hx];decide
  omega
 .have A2:=H'.Zf bT hC.c.ok.em;have h5:Sat (Ds E b2 h2 s2 r2 W U M::AS E b h s r {W with S:=S',L:=Gh W.L}::Row E.AJ 1 s1 (ints .u64 (as_++[171]))::DA E bb b r b2 l::Z) w':=H'.front 3 rfl;refine⟨(aF _ h5.tail.tail.tail.tail).1,(Bw (h5.front 3 rfl)).2.2,SR h5 hC.c.ok.inv hC.c.ok.hk hC.c.ok.se (λw' h'=>(aF _ h'.tail.tail.tail).2) aL (by omega) has (λbL=> ?_) λ_ w8 H8=>AU rfl ?_⟩
  .have:Km W.L false=0:=by
    unfold Km;rw[List.length_eq_zero_iff,List.filter_eq_nil_iff];intro x hx;rw[bX x hx];decide
   omega
  .have bS:Sat (Ds E b2 h2 s2 r2 {W with S:=S',L:=Gh W.L} U (M.mark W.S as_)::AS E b h s r {W with S:=S',L:=Gh W.L}::Row E.AJ 1 s1 (ints .u64 (as_++[171]))::DA E bb b r b2 l::Z) w8:=by
    refine Sat.y9 (W:={W with L:=Gh W.L}) (S':=S') H8 ?_ ?_ ?_ ?_ ?_ λid=> ?_
    .rw[hm.rest]
    .rw[hm.rest]
    .rw[hm.rest]
    .rw[hm.rest]
    .rw[hm.rest]
    .show(S'.sp id).map _=(W.S.sp id).map _;cases hx:W.S.sp id with
     | none=>rw[hm.no id hx]
     | some x=>
      obtain⟨mw,e⟩:=hm.sp id x hx;rw[e];rfl
   exact fin (hC.mark hm A2) bS
end
section
variable{E:Env}{bb b h s r b2 h2 s2 r2:Nat}{W W':SW}{U M U' M':Az}{l:List Int}{B:Nat}{Z:List Pr}{w:World}
variable(hE:Mk E)
include hE
theorem eV(hT: ∀w',Sat Z w'->GL E.AN w')(H:Sat (LN E bb b h s r b2 h2 s2 r2 W U M l Z) w)(hC:JG W U M l B)(hf:l.length<=500)(hB:B<=1000){what c n I N kd d:Int}{np kp:Bool}{J:Aa}{as_:List Int}
  (n0:0<=n/\n<18446744073709551616)(hd:0<=d/\d<18446744073709551616)(aH:as_.length=J.len)(aG:J.len<=1000000)(has: ∀a∈as_,0<=a/\a<18446744073709551616)(aD: ∀w',Sat Z w'->rowAt w' J.base J.len (ints .u64 as_)){K:Bool->World->Prop}
  (hK: ∀W' U' M' l' w',JG W' U' M' l' (B+1)->l'.length<=l.length+1->Sat (LN E bb b h s r b2 h2 s2 r2 W' U' M' l' Z) w'->K true w'):F.C2 E (some ⟨bb,0,none⟩) what c np n I N kd d J kp K w:=by
 unfold F.C2 T0.C2;refine AR (vs:=[.int .i64 what,.int .i64 c,.bool np,.int .u64 n,.int .i64 I,.int .i64 N,.int .i64 kd,.int .u64 d,Fo J,.bool kp]) H λb1 w2 H2 _=>⟨I,H2.cell rfl,?_⟩;have O:Sat (LN E bb b h s r b2 h2 s2 r2 W U M l (Cells b1 E.FR [.int .i64 what,.int .i64 c,.bool np,.int .u64 n,.int .i64 I,.int .i64 N,.int .i64 kd,.int .u64 d,Fo J,.bool kp]::Z)) w2:=((H2.front 3 rfl).front 3 rfl).front 3 rfl;have y: ∀W' U' M' l' w',JG W' U' M' l' (B+1)->l'.length<=l.length+1->Sat (LN E bb b h s r b2 h2 s2 r2 W' U' M' l' (Cells b1 E.FR [.int .i64 what,.int .i64 c,.bool np,.int .u64 n,.int .i64 I,.int .i64 N,.int .i64 kd,.int .u64 d,Fo J,.bool kp]::Z)) w'->K true w':=
  λW' U' M' l' w' h1 h2 h3=>hK W' U' M' l' w' h1 h2 (h3.front 3 rfl).tail
 have T: ∀w',Sat (Cells b1 E.FR [.int .i64 what,.int .i64 c,.bool np,.int .u64 n,.int .i64 I,.int .i64 N,.int .i64 kd,.int .u64 d,Fo J,.bool kp]::Z) w'->GL E.AN w':=λw' v=>hT w' v.tail;clear H2 H;generalize hZ1:(Cells b1 E.FR [.int .i64 what,.int .i64 c,.bool np,.int .u64 n,.int .i64 I,.int .i64 N,.int .i64 kd,.int .u64 d,Fo J,.bool kp]::Z)=Z1 at O y T;have Y: ∀w',Sat Z1 w'->w'.cell? (Addr.mk b1 0 none)=some (.int .i64 what)/\w'.cell? ((Addr.mk b1 0 none).add 1)=some (.int .i64 c)/\w'.cell? ((Addr.mk b1 0 none).add 2)=some (.bool np)/\w'.cell? ((Addr.mk b1 0 none).add 3)=some (.int .u64 n)/\w'.cell? ((Addr.mk b1 0 none).add 5)=some (.int .i64 N)/\
   w'.cell? ((Addr.mk b1 0 none).add 6)=some (.int .i64 kd)/\w'.cell? ((Addr.mk b1 0 none).add 7)=some (.int .u64 d)/\w'.cell? ((Addr.mk b1 0 none).add 8)=some (.slice J.base J.len J.cap)/\w'.cell? ((Addr.mk b1 0 none).add 9)=some (.bool kp)/\rowAt w' J.base J.len (ints .u64 as_):=λw' v=>by
  rw[<-hZ1]at v;exact⟨v.Ah rfl,v.cell rfl,v.cell rfl,v.cell rfl,v.cell rfl,v.cell rfl,v.cell rfl,v.cell rfl,v.cell rfl,aD w' v.tail⟩
 suffices main: ∀id,(W.S.sp id=none->id=0)-> ∃x6:Int,w2.cell? (Addr.mk b1 0 none)=some (.int .i64 x6)/\_ by
  refine Z9 O (by omega) (λ_=>main 0 λ_=>rfl) λid O1=>main id λhn=>absurd hn (hC.c.hd id O1).1
 intro id O1;refine⟨what,(Y _ O.tail.tail.tail).1,?_⟩;refine BF (λ_=> ?_) λ_=>BF (λ_=> ?_) λ_=>BF (λ_=> ?_) λ_=>BF (λ_=> ?_) λ_=>BF (λ_=> ?_) λ_=> ?_
 .have hb:=Xf (K:=K) hE T O hC hf (c:=c) (np:=np) (b1:=b1) n0.1 n0.2 (λw' v=>let h:=Y w' v;⟨h.2.1,h.2.2.1,h.2.2.2.1⟩) y;exact hb
 .have hb:=Xe (K:=K) hE T O hC (N:=N) (b1:=b1) O1 (λw' v=>(Y w' v).2.2.2.2.1) y;exact hb
 .have hb:=VV (K:=K) hE O hC hB (id:=id) (N:=N) (kd:=kd) (d:=d) (b1:=b1) (λw' v=>let h:=Y w' v;⟨h.2.2.2.2.1,h.2.2.2.2.2.1,h.2.2.2.2.2.2.1⟩) y;exact hb
 .have hb:=eT (K:=K) hE O hC hf (id:=id) (kp:=kp) (b1:=b1) (λw' v=>(Y w' v).2.2.2.2.2.2.2.2.1) y;exact hb
 .have hb:=Xg (K:=K) hE O hC (b1:=b1) aH aG has (λw' v=>let h:=Y w' v;⟨h.2.2.2.2.2.2.2.1,h.2.2.2.2.2.2.2.2.2⟩) y;exact hb
 have aE:(what=6∨what=7)->_:=λ_=>aC (K:=K) hE T O hC hf (what:=what) (b1:=b1) (λw' v=>(Y w' v).1) y;refine AV (BF (λe j=>AU (by rw[e];rfl) (aE (.inl e))) λ_ j=>BF (λe=>aE (.inr e)) λ_=> ?_);refine BF (λ_=> ?_) λ_=>BF (λ_=> ?_) λ_=>BF (λ_=> ?_) λ_=>y W U M l w2 (hC.mono (by omega)) (by omega) O
 .exact aB (K:=K) hE O hC (d:=d) (b1:=b1) (λw' v=>(Y w' v).2.2.2.2.2.2.1) y
 .exact VU (K:=K) hE O hC hd (b1:=b1) (λw' v=>(Y w' v).2.2.2.2.2.2.1) y
 .exact Xd (K:=K) hE T O hC y
end
section
variable{E:Env}{bb b h s r b2 h2 s2 r2:Nat}{W W':SW}{U M U' M':Az}{l:List Int}{B:Nat}{Z:List Pr}{w:World}
variable(hE:Mk E)(hH:dC E)
include hE hH
theorem SU(H:Sat (LN E bb b h s r b2 h2 s2 r2 W U M l Z) w)(hC:JG W U M l B)(hB:B<=1000){K:Bool->World->Prop}
  (hK: ∀w',Sat (LN E bb b h s r b2 h2 s2 r2 W U M l Z) w'->K true w'):F.Cj E (some ⟨bb,0,none⟩) K w:=by
 unfold F.Cj T0.Cj;have a9:=hC.em;have rp: ∀{w'},Sat (LN E bb b h s r b2 h2 s2 r2 W U M l Z) w'->w'.cell? (Addr.mk b2 0 none)=some (.pointer (some ⟨h2,0,none⟩))/\w'.cell? ((Addr.mk b2 0 none).add 1)=some (.pointer (some ⟨s2,0,none⟩))/\w'.cell? ((Addr.mk b2 0 none).add 2)=some (.pointer (some ⟨r2,0,none⟩)):=λO=>by
  obtain⟨em,h1⟩:=Sat.N7.1 (O.front 2 rfl);exact⟨(h1.front 2 rfl).Ah rfl,(h1.front 2 rfl).cell rfl,(h1.front 2 rfl).cell rfl⟩
 have Y: ∀{w'},Sat (LN E bb b h s r b2 h2 s2 r2 W U M l Z) w'->w'.cell? (Addr.mk bb 0 none)=some (.pointer (some ⟨b,0,none⟩))/\w'.cell? ((Addr.mk bb 0 none).add 1)=some (.pointer (some ⟨r,0,none⟩))/\w'.cell? ((Addr.mk bb 0 none).add 2)=some (.pointer (some ⟨b2,0,none⟩)):=λO=>Bw O;refine AF ⟨_,(Y H).1,G8 (H.front 1 rfl) ?_⟩;obtain⟨R,HH,hz,hb⟩:=(H.front 1 rfl:Sat (AS E b h s r W::DA E bb b r b2 l::Ds E b2 h2 s2 r2 W U M::Z) w).Ho;refine Yv HH hC.c.ok.inv.hI λw8 H8=> ?_;have H9:Sat (LN E bb b h s r b2 h2 s2 r2 W U M l Z) w8:=(hb H8).front 1 rfl;obtain⟨em,aZ⟩:=Sat.N7.1 (H9.front 2 rfl);refine AF ⟨_,(Y H9).2.2,AF ⟨_,(rp H9).1,VQ aZ hC.c.ok.inv.hI hC.c.ok.hk λb5 bL=> ?_⟩⟩;generalize cP W.S.T.KW=CI;generalize cP W.S.gone=CG;have fold: ∀{w'},Sat (Ds E b2 h2 s2 r2 W U M::DA E bb b r b2 l::AS E b h s r W::Z) w'->Sat (LN E bb b h s r b2 h2 s2 r2 W U M l Z) w':=λO=>(O.front 1 rfl).DR 1 rfl;have op: ∀{w'},Sat (LN E bb b h s r b2 h2 s2 r2 W U M l Z) w'->Sat (Ds E b2 h2 s2 r2 W U M::DA E bb b r b2 l::AS E b h s r W::Z) w':=λO=>O.front 2 rfl;have aL:Sat (LN E bb b h s r b2 h2 s2 r2 W U M l Z) b5.drew:=(fold (Sat.N7.2 ⟨em,bL⟩)).drew;have cnt: ∀{w'} {sw:Bool} {K':Int->World->Prop},Sat (LN E bb b h s r b2 h2 s2 r2 W U M l Z) w'->(∀aO,Sat (LN E bb b h s r b2 h2 s2 r2 W U M l Z) aO->K' ((Km W.L sw:Nat):Int) aO)->F.Fa E (some ⟨s,0,none⟩) sw K' w':=λ{w' sw K'} O hk=>by
  obtain⟨R2,bR,_,bX⟩:=(O.front 1 rfl:Sat (AS E b h s r W::DA E bb b r b2 l::Ds E b2 h2 s2 r2 W U M::Z) w').PK;exact Mm bR λaO bK=>hk aO ((bX bK).front 1 rfl)
 have bD: ∀{w'} {sw:Bool} {K':Int->World->Prop},Sat (LN E bb b h s r b2 h2 s2 r2 W U M l Z) w'->K' ((Km W.L sw:Nat):Int) w'->F.C6 E (some ⟨s2,0,none⟩) sw K' w':=λ{w' sw K'} O hk=>by
  obtain⟨em,h1⟩:=Sat.N7.1 (op O);exact PO (h1.front 1 rfl) hC.c.ok.se.KY hk
 refine I3 (λst w'=>st.1=false/\Sat (LN E bb b h s r b2 h2 s2 r2 W U M l Z) w') ?_ ?_
 .refine DM (λc=>absurd rfl c) λ_=>DM (λc=>absurd rfl c) λ_=>DM (λc=>absurd rfl c) λ_=> ?_;refine AF ⟨_,(Y aL).1,AF ⟨_,(Y aL).2.2,Rz (aL.front 1 rfl) hC.nm.rp.1 λb6 bM=> ?_⟩⟩;have a0:Sat (LN E bb b h s r b2 h2 s2 r2 W U M l Z) b6:=bM.front 1 rfl;refine⟨(Y a0).2.2,SS (op a0) hC.nm λcX bN=>DM (λc=>absurd rfl c) λ_=> ?_⟩;have aD:=fold bN;refine AF ⟨_,(Y aD).1,AF ⟨_,(Y aD).2.2,AF ⟨_,(rp aD).2.1,Nz (aD.front 1 rfl) ⟨(rp aD).2.1,(Y aD).2.2,cnt aD λcY aA=>⟨(rp aA).2.1,(Y aA).2.2,bD aA ⟨(Y aA).2.2,DM (λc=>absurd rfl c) λ_=> ?_⟩⟩⟩⟩⟩⟩;refine AF ⟨_,(Y aA).1,AF ⟨_,(Y aA).2.2,AF ⟨_,(rp aA).2.1,Nz (aA.front 1 rfl) ⟨(rp aA).2.1,(Y aA).2.2,(Y aA).2.2,cnt aA λbE d=>⟨(rp d).2.1,(Y d).2.2,(Y d).2.2,bD d ⟨(Y d).2.2,(Y d).2.2,DM (λc=>absurd rfl c) λ_=> ?_⟩⟩⟩⟩⟩⟩;obtain⟨em,h1⟩:=Sat.N7.1 (op d);obtain⟨cK,sl,g2⟩:=Sat.RP.1 (h1.front 3 rfl:Sat (E5 E r2 W.R::Kf E h2 W.S (SM U M)::HA E s2 W.L::Cells b2 E.Ak (Ef h2 s2 r2 em W)::Row E.AI 3 em (Al HU W.em)::DA E bb b r b2 l::AS E b h s r W::Z) bE);have bA:=Zj g2;have b3:=Ov (g2.front 1 rfl);obtain⟨Q,HQ,cV,a8⟩:=(d.front 1 rfl:Sat (AS E b h s r W::DA E bb b r b2 l::Ds E b2 h2 s2 r2 W U M::Z) bE).Ue;refine AF ⟨_,(Y d).2.1,AF ⟨_,(Y d).2.2,AF ⟨_,(rp d).2.2,AF ⟨sl,bA,VM HQ ⟨bA,(rp d).2.2,(Y d).2.2,(Y d).2.2,(Y d).2.2,?_,d⟩⟩⟩⟩⟩;show((W.R.length:Int) !=((sl.len:Nat):Int))=false;rw[b3.1];simp
 rintro⟨g,u⟩ _ cW ⟨hg,aQ⟩;dsimp only at hg⊢;subst hg;refine AO rfl (AF ⟨_,(Y aQ).1,Ry (aQ.front 1 rfl) (by omega) λaM aW cB aG=> ?_⟩);have aB:Sat (Row E.AI 3 aM (Al HU W.em)::LN E bb b h s r b2 h2 s2 r2 W U M l Z) aW:=aG.DR 1 rfl;have a3: ∀{w'},Sat (LN E bb b h s r b2 h2 s2 r2 W U M l Z) w'-> ∃em:Aa,W.em.length=em.len/\w'.cell? ((Addr.mk b2 0 none).add 3)=some (.slice em.base em.len em.cap)/\ ∀i x,W.em[i]? =some x-> ∃bk,em.base=some ⟨bk,0,none⟩/\w'.cell? (((Addr.mk bk 0 none).add (i*3)).add 0)=some (.int .u64 x.addr)/\w'.cell? (((Addr.mk bk 0 none).add (i*3)).add 1)=some (.int .i64 x.kind)/\w'.cell? (((Addr.mk bk 0 none).add (i*3)).add 2)=some (.int .u64 x.data):=λ{w'} O=>by
  obtain⟨em,h1⟩:=Sat.N7.1 (op O);have h2:=(h1.front 4 rfl);refine⟨em,(h2.Gv (by decide) Dy).1,(h1.front 2 rfl).cell rfl,λi x hx=> ?_⟩;obtain⟨bk,aC⟩:=h2.FW (by decide) Dy (List.getElem?_eq_some_iff.1 hx).1;refine⟨bk,aC,?_,?_,?_⟩
  .rw[add_add];exact h2.Bh Dy aC hx (j:=0) rfl
  .rw[add_add];exact h2.Bh Dy aC hx (j:=1) rfl
  .rw[add_add];exact h2.Bh Dy aC hx (j:=2) rfl
 obtain⟨bT,cQ,bY,_⟩:=a3 aB.tail;refine AF ⟨_,(Y aB.tail).2.2,AF ⟨bT,bY,DM (λc=>absurd (by omega) c) λ_=> ?_⟩⟩;refine AH (λst w'=> ∃(i:Nat) (L:List Rc),st.1=(i:Int)/\i<=W.em.length/\L.length=W.em.length/\(∀j,i<=j->L[j]? =W.em[j]?)/\Sat (Row E.AI 3 aM (Al HU L)::LN E bb b h s r b2 h2 s2 r2 W U M l Z) w') (λst _=>((W.em.length:Int)-st.1).toNat) ⟨0,W.em,rfl,Nat.zero_le _,rfl,λ_ _=>rfl,aB⟩ ?_;rintro⟨i',u⟩ _ b8 ⟨i,L,hi,cN,bV,a4,aR⟩;dsimp only at hi⊢;subst hi;refine AB (λaU=> ?_) λb1=> ?_
 .have J:=aR.drew;obtain⟨x,hx⟩: ∃x,W.em[i]? =some x:=⟨_,List.getElem?_eq_getElem (by omega)⟩;have bB:L[i]? =some x:=(a4 i (Nat.le_refl _)).trans hx;obtain⟨bk,aC⟩:=(J:Sat (Row E.AI 3 aM (Al HU L)::_) _).FW (by decide) Dy (List.getElem?_eq_some_iff.1 bB).1;have rc:=λ(j:Nat) (v:Value) (hv:(HU x)[j]? =some v)=>(J:Sat (Row E.AI 3 aM (Al HU L)::_) _).Bh Dy aC bB hv;obtain⟨bU,cR,bZ,b0⟩:=a3 J.tail;obtain⟨bq,a8,d0,d1,d2⟩:=b0 i x hx;rw[aC];refine AF ⟨⟨by omega,by omega⟩,x.addr,by rw[add_add];exact rc 0 _ rfl,x.kind,by rw[add_add];exact rc 1 _ rfl,x.data,by rw[add_add];exact rc 2 _ rfl,?_⟩;refine AF ⟨_,(Y J.tail).2.2,AF ⟨bU,bZ,?_⟩⟩
  try dsimp only
  rw[a8];refine AF ⟨⟨by omega,by omega⟩,x.addr,d0,x.kind,d1,x.data,d2,AO (by simp) (AF ⟨⟨by omega,by omega⟩,?_⟩)⟩;refine oN Dy Ic J (show i<L.length by omega) ⟨0,0,0,0⟩ aC λc2 bP=>⟨⟨i+1,L.set i ⟨0,0,0,0⟩,by rw[AE];rfl,by omega,by rw[List.length_set];exact bV,λj hj=> ?_,bP⟩,by rw[AE];omega⟩;rw[List.getElem?_set_ne (by omega)];exact a4 j (by omega)
 clear a9;have Hs:=aR.tail;clear aR aB aG aQ aL aZ H9 H8;obtain⟨em,H3⟩:=Sat.N7.1 (op Hs);obtain⟨g,hR,H4⟩:=Sat.IC.1 H3;have cM:=hR.len hC.c.ok.inv.hI;have cI:=hC.c.n
 let Z2:List Pr:=Gy E b2 h2 s2 r2 W em++DA E bb b r b2 l::AS E b h s r W::Z
 let Q:List Pr:=Ee E h2 W.S (SM U M) g++Z2
 have H4:Sat Q b8:=H4;have aV: ∀{w'},Sat Q w'->Sat Z2 w':=λO=>Sat.rest (Ps:=Ee E h2 W.S (SM U M) g) O;have p0: ∀{w'},Sat Q w'->w'.cell? (Addr.mk bb 0 none)=some (.pointer (some ⟨b,0,none⟩)):=λO=>(Bw ((aV O).front 4 rfl)).1;have p2: ∀{w'},Sat Q w'->w'.cell? ((Addr.mk bb 0 none).add 2)=some (.pointer (some ⟨b2,0,none⟩)):=λO=>(Bw ((aV O).front 4 rfl)).2.2;have p3: ∀{w'},Sat Q w'->w'.cell? (Addr.mk b2 0 none)=some (.pointer (some ⟨h2,0,none⟩)):=λO=>((aV O).front 1 rfl).Ah rfl;have p4: ∀{w'},Sat Q w'->w'.cell? ((Addr.mk h2 0 none).add 8259)=some (.slice g.sl.base g.sl.len g.sl.cap):=λO=>aN O;have cL:=Mt (H4.front 4 rfl);have aH: ∀{w'},Sat Q w'->Sat (AS E b h s r W::Q.eraseIdx 11) w':=λO=>O.front 11 rfl;have aP: ∀{w'},Sat (AS E b h s r W::Q.eraseIdx 11) w'->Sat Q w':=λO=>Sat.back (Ps:=Q) 11 O (by simp[Q,Z2,Ee,Gy]);refine AH (λst w'=> ∃i:Nat,st.1=(i:Int)/\i<=g.L.length/\Sat Q w') (λst _=>((g.L.length:Int)-st.1).toNat) ⟨0,rfl,Nat.zero_le _,H4⟩ ?_;rintro⟨k',u⟩ _ w2 ⟨k,hk,cO,H2⟩;dsimp only at hk⊢;subst hk;refine AF ⟨_,p2 H2,AF ⟨_,p3 H2,AF ⟨g.sl,p4 H2,AB (λaU=> ?_) λb1=> ?_⟩⟩⟩
 .have J:=H2.drew;have He:=J.drew;obtain⟨x,hx⟩: ∃x,g.L[k]? =some x:=⟨_,List.getElem?_eq_getElem (by omega)⟩;obtain⟨bh,aT⟩:=(H2.front 4 rfl).FW (by decide) Bs (i:=k) (by omega);obtain⟨y,hy⟩: ∃y,W.S.sp x.1=some y:=Option.ne_none_iff_exists'.1 ((hR.mem x.1).1 (List.mem_map.2 ⟨x,List.mem_of_getElem? hx,rfl⟩));obtain⟨A2,hg⟩:=hC.c.ok.inv.sp x.1 y hy;have a7:=A2.ba;have cS:=A2.pg;have c0: ∀{w'},Sat Q w'->w'.cell? ((Addr.mk bh 0 none).add (Int.toNat (k:Int)*2))=some (.int .i64 x.1):=λO=>by
   have:=(O.front 4 rfl).Bh Bs aT hx (j:=0) rfl;rwa[Nat.add_zero]at this
  have c1: ∀{w'},Sat Q w'->w'.cell? (((Addr.mk bh 0 none).add (Int.toNat (k:Int)*2)).add 1)=some (.pointer (some ⟨x.2,0,none⟩)):=λO=>by
   rw[add_add];exact(O.front 4 rfl).Bh Bs aT hx (j:=1) rfl
  have rb:=λ(P:Addr->Prop) (h:P ⟨bh,0,none⟩)=>show NC g.sl.base P by rw[aT];exact AF h
  refine AF ⟨_,p0 J,AF ⟨_,p2 J,AF ⟨_,p3 J,AF ⟨g.sl,p4 J,rb _ ⟨⟨by omega,aU⟩,x.1,c0 J,G8 (aH J) ⟨c0 J,p4 J,p3 J,p2 J,R0 (aH J) (λhn=>by rw[hy]at hn;cases hn) λy' bC=> ?_⟩⟩⟩⟩⟩⟩;rw[hy]at bC;cases bC;refine⟨p4 J,p3 J,p2 J,AV (AO rfl (AO rfl (AF ⟨_,p2 He,AF ⟨_,p3 He,AF ⟨g.sl,p4 He,rb _ ⟨⟨by omega,aU⟩,_,c1 He,Zd (aH He) hy λb7 bO=> ?_⟩⟩⟩⟩)))⟩;have aF:Sat Q b7:=aP bO;have h1:=(aF.front 5 rfl).GG hx;have e:rsR E W.S.sp (SM U M) x=Ax E x.2 y.2 (U x.1) (M x.1):=by unfold rsR;rw[hy];rfl
  rw[e]at h1;refine⟨c1 aF,p4 aF,p3 aF,p2 aF,Zw h1 ⟨a7.1,by omega,a7.2.1⟩ ⟨by omega,by omega⟩ λaW aG=> ?_⟩;rw[<-e]at aG;have aB:Sat Q aW:=Sat.back (Ps:=Q) 5 (aG.HW hx) (by simp[Q,Z2,Ee,Gy]);refine⟨p4 aB,p3 aB,p2 aB,λj=>AO ?_ ⟨⟨k+1,by rw[AE];rfl,by omega,aB⟩,by rw[AE];omega⟩⟩;obtain⟨f8,f9⟩:=hC.c.f x.1 y hy;rw[f8,f9,hg.cnt];simp
 .have J:=H2.drew;refine AF ⟨_,p0 J,AF ⟨_,p2 J,AF ⟨_,p3 J,AF ⟨g.sl,p4 J,G8 (aH J) ⟨p4 J,p3 J,p2 J,?_⟩⟩⟩⟩⟩;obtain⟨R,HH,hz,hb⟩:=(aH J).Ho;refine ZD hH HH (λl h1 h2=>hC.c.ok.inv.hI.KY l h1 h2) λsp l' bF b4 a6 a1=> ?_;have hlen:l'.length=g.L.length:=by
   have:=((List.perm_ext_iff_of_nodup b4 hR.nd).2 λn=>by rw[a6,hR.mem]).length_eq;rwa[List.length_map]at this
  have cT:l'.length=sp.len:=by
   have:=a1.Du;unfold ints at this;rw[List.length_map]at this;omega
  have Hq:Sat Q bF:=aP (hb a1.tail);refine⟨p4 Hq,p3 Hq,p2 Hq,?_⟩;rw[show((((sp.len:Nat):Int):Int)==((g.sl.len:Nat):Int))=true by rw[beq_iff_eq];omega];exact hK bF (fold (Sat.N7.2 ⟨em,Sat.IC.2 ⟨g,hR,Hq⟩⟩))
end
abbrev JX:AT:=.cons (.int .i64) (.cons (.int .i64) (.cons .bool (.cons (.int .u64) (.cons (.int .i64) (.cons (.int .i64) (.cons (.int .i64) (.cons (.int .u64) (.cons (.sl (.int .u64)) (.cons .bool .nil)))))))))
def Lx(x:Pq JX):Aa:=x.2.2.2.2.2.2.2.2.1
def a18P(x:Pq JX):Int:=x.2.2.2.1
def a18D(x:Pq JX):Int:=x.2.2.2.2.2.2.2.1
def Xh(z:Nat->Pq JX):Nat->Nat
 | 0=>0
 | i+1=>Xh z i+(Lx (z i)).len
def iE{z:Nat->Pq JX}: ∀{n j:Nat},j<n->(Lx (z j)).len<=Xh z n
 | 0,_,h=>absurd h (Nat.not_lt_zero _)
 | n+1,j,h=>by
  show _<=Xh z n+_;rcases Nat.lt_or_ge j n with g|g
  .have:=iE (z:=z) g;omega
  .obtain rfl:j=n:=by omega
   omega
def aD{z:Nat->Pq JX}{L:Nat}(h: ∀j,j<L->(Lx (z j)).len<=1048576): ∀{i:Nat},i<=L->Xh z i<=i*1048576
 | 0,_=>Nat.le_refl _
 | i+1,hi=>by
  have h1:=aD h (i:=i) (by omega);have h2:=h i (by omega);show Xh z i+_<=_;omega
def CE18(w:World)(x:Addr)(j:Nat)(v:Pq JX):Prop:=w.cell? (x.add (j*10))=some (.int .i64 v.1)/\w.cell? ((x.add (j*10)).add 0)=some (.int .i64 v.1)/\w.cell? ((x.add (j*10)).add 1)=some (.int .i64 v.2.1)/\w.cell? ((x.add (j*10)).add 2)=some (.bool v.2.2.1)/\
 w.cell? ((x.add (j*10)).add 3)=some (.int .u64 v.2.2.2.1)/\w.cell? ((x.add (j*10)).add 4)=some (.int .i64 v.2.2.2.2.1)/\w.cell? ((x.add (j*10)).add 5)=some (.int .i64 v.2.2.2.2.2.1)/\w.cell? ((x.add (j*10)).add 6)=some (.int .i64 v.2.2.2.2.2.2.1)/\
 w.cell? ((x.add (j*10)).add 7)=some (.int .u64 v.2.2.2.2.2.2.2.1)/\w.cell? ((x.add (j*10)).add 8)=some (.slice (Lx v).base (Lx v).len (Lx v).cap)/\w.cell? ((x.add (j*10)).add 9)=some (.bool v.2.2.2.2.2.2.2.2.2.1)
def eW{w w':World}{s:Aa}{z:Nat->Pq JX}(h:Wc w JX s z)(he:Ext AP w w'){j:Nat}(y:j<s.len): ∃x,s.base=some x/\CE18 w' x j (z j):=by
 obtain⟨x,K,d,A2⟩:=h.2.2 j y;have hs:AT.size JX=10:=rfl;rw[hs]at d;have d: ∀i v,(MU JX (z j))[i]? =some v->w'.cell? (x.add (j*10+i))=some v:=λi v J=>he.cell (d i v J) λf=>f;refine⟨x,K,?_,?_,?_,?_,?_,?_,?_,?_,?_,?_,?_⟩
 .have:=d 0 _ rfl;exact this
 all_goals rw[add_add]
 .exact d 0 _ rfl
 .exact d 1 _ rfl
 .exact d 2 _ rfl
 .exact d 3 _ rfl
 .exact d 4 _ rfl
 .exact d 5 _ rfl
 .exact d 6 _ rfl
 .exact d 7 _ rfl
 .exact d 8 _ rfl
 .exact d 9 _ rfl
def zB{w:World}{s:Aa}{z:Nat->Pq JX}(h:Wc w JX s z){j:Nat}(d:j<s.len):(0<=a18P (z j)/\a18P (z j)<18446744073709551616)/\(0<=a18D (z j)/\a18D (z j)<18446744073709551616)/\
  ∃as_:List Int,as_.length=(Lx (z j)).len/\(∀a∈as_,0<=a/\a<18446744073709551616)/\ ∀w',Ext AP w w'->rowAt w' (Lx (z j)).base (Lx (z j)).len (ints .u64 as_):=by
 obtain⟨x,T,O,A2⟩:=h.2.2 j d;obtain⟨_,_,_,v,_,_,_,y,J,_⟩:=A2;obtain⟨K,h0⟩:=J;exact⟨bB v,bB y,Wn (Lx (z j)).len K,Tn _ _,rT h0,λw' he=>bE (a8.oldI h0 he)⟩
def Xi{E:Env}{w w0:World}{a0:Aa}{z:Nat->Pq JX}(hA:Wc w0 JX a0 z)(he:Ext AP w0 w)(hu:a0.len<=1048576)(hs: ∀j,j<a0.len->(Lx (z j)).len<=1048576){K:Bool->World->Prop}
  (Y: ∀r,(r=false->a0.len<=120/\Xh z a0.len<=3000)->K r w):F.Hw E a0 K w:=by
 unfold F.Hw;refine AH (λst w'=> ∃i:Nat,st.2.1=(i:Int)/\i<=a0.len/\st.1=(Xh z i:Nat)/\w'=w) (λst _=>((a0.len:Int)-st.2.1).toNat) ⟨0,rfl,Nat.zero_le _,rfl,rfl⟩ ?_;rintro⟨acc,i',u⟩ _ T ⟨i,hi,aA,v,hw⟩;dsimp only at hi v⊢;subst hi v hw;refine AB (λaH=> ?_) λaG=> ?_
 .obtain⟨x,hx,O⟩:=eW hA he (show i<a0.len by omega);rw[hx];have J:(0:Int)<=(i:Int)/\(i:Int)<(a0.len:Nat):=⟨by omega,by omega⟩;have h1:=aD hs aA;have h2:=hs i (by omega);have h3:i*1048576<=1048576*1048576:=Nat.mul_le_mul_right _ (by omega);have nx:NC (some x) λaC=>((0:Int)<=(i:Int)/\(i:Int)<(a0.len:Nat))/\ ∃d:Aa,T.cell? ((aC.add (Int.toNat (i:Int)*10)).add 8)=some (.slice d.base d.len d.cap)/\Hk (i64 (((Xh z i:Nat):Int)+((d.len:Nat):Int)):Int) λy=>
    (∃i1:Nat,i64 ((i:Int)+1)=(i1:Int)/\i1<=a0.len/\y=(Xh z i1:Nat)/\T=T)/\((a0.len:Int)-i64 ((i:Int)+1)).toNat<((a0.len:Int)-(i:Int)).toNat:=
   AF ⟨J,Lx (z i),O.2.2.2.2.2.2.2.2.2.1,AY λn hn=>⟨⟨i+1,by rw[AE];rfl,by omega,by rw[hn,AE];rfl,rfl⟩,by rw[AE];omega⟩⟩
  have tr:K true T:=Y true λc=>by cases c
  refine AV (AF ⟨J,_,O.1,BF (λ_=>AF ⟨J,_,O.2.2.2.2.1,AQ (λ_=>AF ⟨J,_,O.2.2.2.2.1,λj=>AQ (λ_=>tr) λ_=>nx⟩) λ_ j=>AO rfl nx⟩) λ_ j=>AO rfl nx⟩)
 .obtain rfl:i=a0.len:=by omega
  refine AB (λ_=>Y true λc=>by cases c) λh1=>Y _ λe=>⟨by omega,?_⟩;have:=of_decide_eq_false e;omega
section
variable{E:Env}{w:World}(hE:Mk E)(hH:dC E)
include hE hH
theorem Sp{a0:Aa}{z:Nat->Pq JX}(hT:GL E.AN w)(hA:Wc w JX a0 z)(hu:a0.len<=1048576)(hs: ∀j,j<a0.len->(Lx (z j)).len<=1048576)
  {K:Bool->World->Prop}(hK: ∀w',Ext AP w w'->K true w'):F.Ba E a0 K w:=by
 unfold F.Ba T0.Ba;have H0:=Sat.start w;refine Xi hA (H0.Pb 0 rfl) hu hs λr1 hr=>AQ (λ_=>hK w (H0.Pb 0 rfl)) λer=> ?_;obtain⟨l0,l1⟩:=hr er;refine Qc (E:=E) H0 (hS:=hE.toEnvS) λb h s r w5 H5=>AO rfl ?_;have aK: ∀{t:Nat} {k:IntKind} {w'},rowAt w' (none:Option Addr) 0 (ints k []):=λ{t k w'}=>rfl;refine lI (a0:=⟨none,0,0⟩) (a1:=⟨none,0,0⟩) (a2:=⟨none,0,0⟩) (pl:=[]) (rf:=[]) (fl:=[]) H5 (λx hx=>by cases hx) (λw' O=>rfl) rfl (by decide) (λw' O=>rfl) rfl (by decide) (λw' O=>rfl) rfl (by decide) λm w7 H7=> ?_;refine eK (um:=SM (λ_=>ES) (λ_=>ES)) H7 λh2 w9 H9=>eO H9 λb2 s2 r2 a8 T=> ?_;refine AR (vs:=[.pointer (some ⟨b,0,none⟩),.pointer (some ⟨r,0,none⟩),.pointer (some ⟨b2,0,none⟩),.slice none 0 0]) T λbb aJ Y _=> ?_;have aA:=((Sat.eQ (l:=[])).2 ⟨⟨none,0,0⟩,(Y.nil E.Bx 1).front 1 rfl⟩);have d:Sat (LN E bb b h s r b2 h2 s2 r2 (SW.new (HS.new (Md [] [] []))) (λ_=>ES) (λ_=>ES) [] [Old w]) aJ:=aA.DR 1 rfl;have aC:JG (SW.new (HS.new (Md [] [] []))) (λ_=>ES) (λ_=>ES) [] 0:=⟨⟨Nat.le_refl _,(d.front 1 rfl:Sat (AS E b h s r _::_) aJ).Zf (Ck.new _ _ _) (Nat.zero_le _),λid x hx=>(by cases hx),.nil,λid O1=>(by cases O1)⟩,⟨⟨Int.le_refl 0,by show(0:Int)<_;decide⟩,Int.le_refl 0,by show(0:Int)<_;decide⟩,Nat.le_refl _⟩;clear aA Y T H9 H7 H5;have aD: ∀w',Sat [Old w] w'->GL E.AN w':=λw' h=>hT.ext (h.Pb 0 rfl);refine AH (λst w'=> ∃(i:Nat) (W:SW) (U M:Az) (l:List Int),st.1=(i:Int)/\i<=a0.len/\JG W U M l i/\l.length<=i/\Sat (LN E bb b h s r b2 h2 s2 r2 W U M l [Old w]) w') (λst _=>((a0.len:Int)-st.1).toNat)
  ⟨0,_,_,_,_,rfl,Nat.zero_le _,aC,Nat.le_refl _,d⟩ ?_
 clear aC d;rintro⟨i',u⟩ _ a9 ⟨i,W,U,M,l,hi,a3,hC,hl,d⟩;dsimp only at hi⊢;subst hi;refine AB (λa4=> ?_) λ_=> ?_
 .refine I3 (λst w'=>st.1=false/\ ∃W U M l,JG W U M l (i+1)/\l.length<=i+1/\Sat (LN E bb b h s r b2 h2 s2 r2 W U M l [Old w]) w') ?_ ?_
  .have J:i<a0.len:=by omega
   obtain⟨x,hx,y⟩:=eW hA (d.Pb 3 rfl) J;obtain⟨hn,hd,as_,aE,aF,aG⟩:=zB hA J;have a7:=iE (z:=z) J;rw[hx];refine AF ⟨⟨by omega,by omega⟩,_,y.2.1,_,y.2.2.1,_,y.2.2.2.1,_,y.2.2.2.2.1,_,y.2.2.2.2.2.1,_,y.2.2.2.2.2.2.1,_,y.2.2.2.2.2.2.2.1,_,y.2.2.2.2.2.2.2.2.1,_,y.2.2.2.2.2.2.2.2.2.1,_,y.2.2.2.2.2.2.2.2.2.2,?_⟩;refine eV hE aD d hC (by omega) (by omega) hn hd aE (by omega) aF (λw' O=>aG w' (O.Pb 0 rfl)) λW' U' M' l' bB v aR aB=>AO rfl ⟨by decide,BF (λ_=> ?_) λ_=> ?_⟩
   .exact SU hE hH aB v (by omega) λbC aN=>⟨rfl,W',U',M',l',v,by omega,aN⟩
   .exact⟨rfl,W',U',M',l',v,by omega,aB⟩
  rintro⟨s',u⟩ _ bA ⟨aH,W',U',M',l',v,aR,aM⟩;dsimp only at aH⊢;subst aH;refine AO rfl ?_;rw[AE (n:=(i:Int)+1)];exact⟨⟨i+1,W',U',M',l',by omega,by omega,v,by omega,aM⟩,by omega⟩
 .exact SU hE hH d hC (by omega) λbD aO=>AU rfl (XK hE (λw' O=>aD w' O.tail.tail.tail) aO λaS aP=>hK aS (aP.Pb 3 rfl))
end
def zC{H:Type}{enc:TypeId×Value->H}{P:Program}{w:World}{base:Nat}{sp:Nat->Bool}{held:Bool}{t e u:TypeId}{fs:Array Field}{f:Field}{b:DataW H->Nat}{q:List (DataW H)->Nat}{N:Nat}
  (h1:P.underlying t=some (.slice e))(h2:P.cellsOf e=10)(h3:P.underlying e=some (.struct fs))(h4:fs[8]? =some f)(h5:f.offset=8)(h6:P.cellsOf f.type=1)(h7:P.underlying f.type=some (.slice u))
  (g1: ∀L S,q L+q S+1=b (.slice L S))(g2: ∀L,q L+1=b (.agg L))(g3: ∀d L,q (d::L)=b d+q L)(g4: ∀d,1<=b d)
  {a0:Aa}{z:Nat->Pq JX}(hA:Wc w JX a0 z){d:DataW H}{ps:List MemPlace}(hd:DataW.Trod enc P w base sp held t (.slice a0.base a0.len a0.cap) d ps)(hN:b d<=N):a0.len<=N/\ ∀j,j<a0.len->(Lx (z j)).len<=N:=by
 have k1: ∀L:List (DataW H),L.length<=q L:=by
  intro L
  induction L with
  | nil=>exact Nat.zero_le _
  | cons x L ih=>have:=g3 x L;have:=g4 x;rw[List.length_cons];omega
 have k2: ∀(L:List (DataW H)) x,x∈L->b x<=q L:=by
  intro L
  induction L with
  | nil=>intro x h;cases h
  | cons y L ih=>
   intro x h;have:=g3 y L;rcases List.mem_cons.1 h with rfl|h
   .omega
   .have:=ih x h;omega
 obtain⟨m,hm⟩:=hd;rcases Z8 h1 (show DataW.trod enc P w base sp held m t [.slice a0.base a0.len a0.cap]=_ from hm)with h0|⟨a,L,S,n,hb,T,hl,hr⟩
 .exact⟨by omega,λj K=>by omega⟩
 have T:d= .slice L S:=T;have e1:=g1 L S;have e2:=k1 L;rw[T]at hN;refine⟨by omega,λj K=> ?_⟩;obtain⟨cs,y,hc,hy,aB⟩:=hr j K;have e3:=k2 L y.1 aB;rw[h2]at hc;obtain⟨c1,c2⟩:=Vj hc;obtain⟨x,J,he⟩:=eW hA (Ext.refl _ _) K;rw[hb]at J;cases J;have h8:cs[8]? =some (.slice (Lx (z j)).base (Lx (z j)).len (Lx (z j)).cap):=by
  have:=c2 8 _ (List.getElem?_eq_getElem (by omega));rw[he.2.2.2.2.2.2.2.2.2.1]at this;rw[List.getElem?_eq_getElem (by omega)];exact congrArg some (Option.some.inj this).symm
 obtain⟨L2,n2,y2,aA,O,v⟩:=eP h3 hy h4;rw[h5,h6]at v;have h9:(cs.drop 8).take 1=[.slice (Lx (z j)).base (Lx (z j)).len (Lx (z j)).cap]:=by
  rw[List.getElem?_eq_getElem (by omega)]at h8;rw[List.drop_eq_getElem_cons (show 8<cs.length by omega),Option.some.inj h8];rfl
 rw[h9]at v;have e4:=g2 L2;have e5:=k2 L2 y2.1 O;rw[aA]at e3;rcases Z8 h7 v with h0|⟨a',L3,S3,n3,_,Y,aV,_⟩
 .omega
 have e6:=g1 L3 S3;have e7:=k1 L3;rw[Y]at e5;omega
end Go.Sh
namespace Go.Sh
open Go.Proofs
def envS:EnvS env where
 at1:=by
  intro i d j K w h;refine⟨(fY #[.int .i64 i,.pointer d,.pointer j] w (λv w'=> ∃b,v= .bool b/\K b w') NI ?_).1,(fY #[.int .i64 i,.pointer d,.pointer j] w (λv w'=> ∃b,v= .bool b/\K b w') NI ?_).2⟩<;>
  exact(show F.EP env i d j (λb w'=> ∃y,Value.bool b= .bool y/\K y w') w from n9 (λb w' h=>⟨b,rfl,h⟩) h)
 mono:=YR
def envA:EnvA env where
 toEnvS:=envS
 tO:=by
  intro x y d j R w h;refine⟨(fW #[.int .u64 x,.int .u64 y,.pointer d,.pointer j] w R NI ?_).1,(fW #[.int .u64 x,.int .u64 y,.pointer d,.pointer j] w R NI ?_).2⟩<;>
  exact h
def envW:Mk env where
 toEnvA:=envA
 pF:=by
  intro i d j R w h;refine⟨(fX #[.int .i64 i,.pointer d,.pointer j] w R NI ?_).1,(fX #[.int .i64 i,.pointer d,.pointer j] w R NI ?_).2⟩<;>
  exact h
def envH:dC env where
 toEnvA:=envA
 pB:=by
  intro x y p R w h;refine⟨(fV #[.int .i64 x,.int .i64 y,.pointer p] w R NI ?_).1,(fV #[.int .i64 x,.int .i64 y,.pointer p] w R NI ?_).2⟩<;>
  exact h
end Go.Sh
namespace Go.Proofs.YtgcgcligdjnmaaaGreatDoor.sweepPlays
open Go.ChangeShapes Go.WideShapes Go.ChangeAt Go.RowKit
set_option linter.unusedVariables false
set_option linter.unusedSimpArgs false
theorem own:ownKnob Tryz.prog.godebug=none:=by kernel_rfl
theorem laidOut:laidOutB Tryz.prog=true:=by kernel_rfl
theorem gTab:Tryz.prog.globalNamed "math/bits.deBruijn64tab" =some 0:=by kernel_rfl
theorem gTabType:(Tryz.prog.globals[0]?).map (·.type)=some 281:=by kernel_rfl
theorem und1:Tryz.prog.underlying 281=some (.array 64 5):=by kernel_rfl
theorem und2:Tryz.prog.underlying 5=some (.int .u8):=by kernel_rfl
theorem cells1:Tryz.prog.cellsOf 281=64:=by kernel_rfl
theorem cells2:Tryz.prog.cellsOf 5=1:=by kernel_rfl
theorem table{W:World}(h:laidMetH Tryz.prog Rows.sweepPlaysUptoRow.laid W):Go.Sh.GL Go.Sh.env.AN W:=by
 have j:=Lib.tabIs_of_head (rest:=[]) (k:=.u8) (zs:=Lib.deBruijn64tab.map fun n:Nat=>(n:Int)) gTab gTabType und1 und2 cells2 cells1 h;intro i d;have:=j.cell gTab i (by rw[List.length_map];exact d);rw[show(Lib.deBruijn64tab.map fun n:Nat=>(n:Int)).getD i 0=((Lib.deBruijn64tab.getD i 0:Nat):Int) by rw[List.getD_eq_getElem?_getD,List.getD_eq_getElem?_getD,List.getElem?_map];cases Lib.deBruijn64tab[i]? <;>rfl]at this;exact this
theorem walk(x:Go.Sh.YG [.sl (.cons (.int .i64) (.cons (.int .i64) (.cons (.bool) (.cons (.int .u64) (.cons (.int .i64) (.cons (.int .i64) (.cons (.int .i64) (.cons (.int .u64) (.cons (.sl (.int .u64)) (.cons (.bool) (.nil)))))))))))])(w:World)(h:Go.Sh.bA w [.sl (.cons (.int .i64) (.cons (.int .i64) (.cons (.bool) (.cons (.int .u64) (.cons (.int .i64) (.cons (.int .i64) (.cons (.int .i64) (.cons (.int .u64) (.cons (.sl (.int .u64)) (.cons (.bool) (.nil)))))))))))] x)(d:Go.Sh.GL Go.Sh.env.AN w)(hu:Go.Sh.Aa.len x.1<=1048576)(hs: ∀z,Go.Sh.Wc w Go.Sh.JX x.1 z-> ∀j,j<Go.Sh.Aa.len x.1->(Go.Sh.Lx (z j)).len<=1048576):
  Calls Tryz.prog 3 ⟨Go.Sh.Su [.sl (.cons (.int .i64) (.cons (.int .i64) (.cons (.bool) (.cons (.int .u64) (.cons (.int .i64) (.cons (.int .i64) (.cons (.int .i64) (.cons (.int .u64) (.cons (.sl (.int .u64)) (.cons (.bool) (.nil)))))))))))] x⟩ w fun e w'=>e= .returned (.bool true)/\Below w.heap.size w w':=by
 obtain⟨a0,u⟩:=x;obtain⟨w0,_⟩:=h;obtain⟨y,w0⟩:=w0;refine(Go.Sh.vM _ w (fun v w'=>v= .bool true/\Below w.heap.size w w') Go.Sh.NI ?_).2.mono ?_
 ·show Go.Sh.F.Ba Go.Sh.env a0 (fun r w'=>Value.bool r= .bool true/\Below w.heap.size w w') w;exact Go.Sh.Sp Go.Sh.envW Go.Sh.envH d w0 hu (hs _ w0) fun w' h=>⟨rfl,h.below (Nat.le_refl _) fun _ f=>f.elim⟩
 ·intro e w' hE;obtain⟨v,rfl,rfl,h⟩:=hE.val;exact⟨rfl,h⟩
noncomputable def laidWorld(os:Os):World:=
 {World.holding Tryz.prog os ⟨#[],#[],[]⟩with heap:=(World.holding Tryz.prog os ⟨#[],#[],[]⟩).heap.modify 0 fun
   | .cells _ t frozen=>.cells ⟨Lib.deBruijn64tab.map fun n:Nat=>.int .u8 (n:Int)⟩ t frozen
   | o=>o}
theorem laid_met(os:Os):laidMet Tryz.prog Rows.sweepPlaysUptoRow.laid ((laidWorld os).forCall (fun _ _=>0) ⟨#[],#[.slice none 0 0],[]⟩).memory:=
 laidMet_of_run' 8 (by kernel_rfl) (by kernel_rfl)
theorem reads(os:Os){H:Type}(enc:TypeId×Value->H): ∃places,DataW.whole enc Tryz.prog ((laidWorld os).forCall (fun _ _=>0) ⟨#[],#[.slice none 0 0],[]⟩).memory Tryz.f3.params.toList Rows.sweepPlaysSpec.vars false (#[.slice none 0 0]:Array Value).toList 8=some ([.nil],[],places):=
 ⟨[],by kernel_rfl⟩
theorem upto1{H:Type}(d:DataW H):1<=Rows.uptoBulk d:=by
 cases d with
 | lit l=>cases l<;>simp[Rows.uptoBulk]
 | nil=>simp[Rows.uptoBulk]
 | ptr d=>simp[Rows.uptoBulk]
 | slice elems spare=>simp[Rows.uptoBulk]
 | agg parts=>simp[Rows.uptoBulk]
 | iface t d=>simp[Rows.uptoBulk]
 | map entries=>simp[Rows.uptoBulk]
 | held h=>simp[Rows.uptoBulk]
set_option maxRecDepth 100000 in
theorem lifted(os:Os)(started:os.Started)(H:Type)(enc:TypeId×Value->H)(F:Stop.Interp):
  ReturnsInHanded {} Tryz.checked os 3 .any ((Rows.OpenSpec.upto Rows.sweepPlaysSpec).preRow enc Tryz.prog Tryz.f3 Rows.sweepPlaysUptoRow.domain false Rows.sweepPlaysUptoRow.laid) (((Rows.OpenSpec.upto Rows.sweepPlaysSpec).at F).post enc Tryz.prog Tryz.f3 false true false false):=by
 obtain⟨places,hx⟩:=reads os enc;refine returnsInHanded_of_row (C:=Tryz.checked) (s:=Rows.OpenSpec.upto Rows.sweepPlaysSpec) own started (by kernel_rfl) Tryz.func3
  (witness_row_at (enc:=enc) (C:=Tryz.checked) false (laidWorld os) #[.slice none 0 0] rfl (by kernel_rfl) (by kernel_rfl) (by kernel_rfl)
   (OpenSpec.preRow_of_cond 8 hx (by kernel_rfl) (fun k hk=>by cases hk;kernel_rfl) (by kernel_rfl) (laid_met os))) ?_
 intro W base args T gs before J hW _ hC _ hL _ _;have aA:=hW;obtain⟨p,q,O,hV,rfl,aJ,aL⟩:=hW;obtain⟨rfl,rfl⟩:=trodVars_none hV;have y:=Go.Sh.fC (P:=Tryz.prog) (shs:=[.sl (.cons (.int .i64) (.cons (.int .i64) (.cons (.bool) (.cons (.int .u64) (.cons (.int .i64) (.cons (.int .i64) (.cons (.int .i64) (.cons (.int .u64) (.cons (.sl (.int .u64)) (.cons (.bool) (.nil)))))))))))]) (by kernel_rfl) (fun j t v ht hv=>J j t v (by simpa using ht) (by simpa using hv)) O;obtain⟨x,hx,A2⟩:=Go.Sh.Tg y;obtain rfl:args=⟨Go.Sh.Su [.sl (.cons (.int .i64) (.cons (.int .i64) (.cons (.bool) (.cons (.int .u64) (.cons (.int .i64) (.cons (.int .i64) (.cons (.int .i64) (.cons (.int .u64) (.cons (.sl (.int .u64)) (.cons (.bool) (.nil)))))))))))] x⟩:=Array.toList_inj.1 (by simpa using hx);have hlen:=Go.Sh.Rf O;obtain⟨d0,rfl⟩: ∃d0,T=[d0]:=by
  have hl:T.length=1:=hlen
  match T,hl with
  | [d0],_=>exact⟨d0,rfl⟩
 have hN:Rows.uptoBulk d0<=1048576:=by
  have h1:=of_decide_eq_true (hC _ rfl);have h2:Rows.uptoBulkAll [d0]=Rows.uptoBulk d0+Rows.uptoBulkAll ([]:List (DataW H)):=by simp only[Rows.uptoBulkAll]
  have h3:Rows.uptoBulkAll ([d0]++[])<=1048576:=h1;rw[List.append_nil,h2]at h3;omega
 have K:=O;rw[show Tryz.f3.params.toList=[22] by kernel_rfl]at K;obtain⟨p1,q1,Y,_,_⟩:=K;obtain⟨x0,u0⟩:=x;have hB:=fun z hz=>Go.Sh.zC (N:=1048576) (b:=Rows.uptoBulk) (q:=Rows.uptoBulkAll) (P:=Tryz.prog) Tryz.underlying22 (by kernel_rfl) Tryz.underlying45 rfl rfl (by kernel_rfl) Tryz.underlying35 (fun L S=>by simp only[Rows.uptoBulk]) (fun L=>by simp only[Rows.uptoBulk]) (fun d L=>by simp only[Rows.uptoBulkAll]) (fun d=>upto1 d) (a0:=x0) (z:=z) hz Y hN;refine(walk (x0,u0) W A2 (table hL) (by obtain⟨z,hz⟩:=A2.1;exact(hB z hz).1) fun z hz=>(hB z hz).2).mono fun e W' ⟨he,bel⟩=> ?_;subst he;exact⟨_,rfl,_,_,_,[],_,[],aA,trodAll_mk1 (shut_bool Tryz.underlying4 _),Go.Sh.Og laidOut bel (by kernel_rfl) O,rfl,bel.frame _,fun h=>by cases h⟩
theorem said:Rows.SweepPlaysUptoSaid:=
 OpenClaim.holds_of_cond 3 Tryz.f3 rfl rfl rfl rfl rfl rfl rfl ⟨rfl,rfl,rfl,rfl,rfl⟩ rfl rfl rfl rfl rfl (by kernel_rfl) Tryz.func3 (by kernel_rfl)
  (of_decide_eq_true (by kernel_rfl)) (by unfold Func.isWrapper;first|(rw[if_pos (by decide+kernel)];kernel_rfl)|(rw[if_neg (by decide+kernel)];exact⟨rfl,rfl⟩))
  (fun os started H enc _ F=>by rw[OpenClaim.pre_eq_preRow];exact lifted os started H enc F)
theorem plain(f:FuncId)(fn:Func)(hf:Tryz.pinned.checked.prog.funcNamed "mallow/mallowlaw18.SweepPlays" =some f)(v:Tryz.pinned.checked.prog.funcs[f]? =some fn):
  true=Tryz.pinned.checked.prog.looks []/\ ∀(j:Nat) t,fn.params[j]? =some t->Tryz.pinned.checked.prog.wantsStandIn t=false:=by
 obtain rfl:f=3:=Option.some.inj ((show Tryz.prog.funcNamed "mallow/mallowlaw18.SweepPlays" =some 3 by kernel_rfl).symm.trans hf)|>.symm;obtain rfl:fn=Tryz.f3:=(Option.some.inj (Tryz.func3.symm.trans v)).symm;refine⟨by kernel_rfl,fun j t y=> ?_⟩;have d:(Tryz.f3.params.toList.all fun t=> !(Tryz.prog.wantsStandIn t))=true:=by kernel_rfl
 have:=List.all_eq_true.1 d t (Array.mem_toList_iff.2 (Array.mem_of_getElem? y));exact Bool.not_eq_true' _▸this
theorem proved:Rows.SweepPlaysUptoCardSaid:=
 Claim7.holds_tied_plain_at .later [] _ _ _ _ said (fun _ h=>by cases h) (by kernel_rfl) (fun _ h=>by cases h) sweepPlaysUpto_row_tie rfl ⟨rfl,rfl⟩ (by kernel_rfl) rfl plain (by kernel_rfl)
#print axioms proved
end Go.Proofs.YtgcgcligdjnmaaaGreatDoor.sweepPlays

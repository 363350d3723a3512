/- What the law's functions do. No further condition. -/
import Derived.Test.YtgeilojialbgdaaGreatDoorL
import Derived.Test.YtgeilojialbgdaaGreatDoorH
import Derived.Test.YtgeilojialbgdaaGreatDoorA
import Derived.Test.YtgeilojialbgdaaGreatDoorC
import Derived.Test.YtgeilojialbgdaaGreatDoorS
import Derived.Test.YtgeilojialbgdaaGreatDoorF
import Derived.Test.YtgeilojialbgdaaGreatDoorQ
import Derived.Test.YtgeilojialbgdaaGreatDoorM
set_option linter.all false
set_option maxRecDepth 50000
set_option maxHeartbeats 8000000
namespace Go.Sh
def AG{a:Addr}{K:Addr->Prop}(h:K a):NC (some a) K:=by rw[AK];exact h
def EM(U:Nat->Bool)(k:Nat):Int:=W λi=>U (64*k+i)
def Du(U:Nat->Bool)(n:Nat):List Int:=(List.range n).map (EM U)
def Lh(uw:List Int)(U:Nat->Bool):Prop:=uw=Du U uw.length/\ ∀i,64*uw.length<=i->U i=false
def FK(U:Nat->Bool)(n:Nat):(Du U n).length=n:=by simp[Du]
def QJ{U:Nat->Bool}{n k:Nat}(h:k<n):(Du U n)[k]? =some (EM U k):=by simp[Du,h]
def nJ{uw:List Int}{U:Nat->Bool}(h:Lh uw U){k:Nat}(a:k<uw.length):(ints .u64 uw)[k]? =some (.int .u64 (EM U k)):=by
 rw[h.1];exact OJ (QJ a)
def RU{U:Nat->Bool}{n:Nat}(h: ∀i,64*n<=i->U i=false):Lh (Du U n) U:=by
 refine⟨by rw[FK],?_⟩;rw[FK];exact h
def SL{U:Nat->Bool}(h: ∀i,U i=false):Lh [] U:=⟨rfl,λi _=>h i⟩
def YG{U V:Nat->Bool}{n:Nat}(h: ∀i,i<64*n->U i=V i):Du U n=Du V n:=by
 unfold Du EM;refine List.map_congr_left λk a=> ?_;rw[List.mem_range]at a;exact HB λi hi=>h _ (by omega)
def VP{U V:Nat->Bool}{n k:Nat}(h: ∀i,i/64≠k->U i=V i):(Du U n).set k (EM V k)=Du V n:=by
 apply List.ext_getElem?;intro j;rw[List.getElem?_set];by_cases hj:j<n
 .rw[QJ hj,QJ hj,FK];by_cases e:k=j
  .grind
  .rw[if_neg e];unfold EM;congr 1;exact HB λi hi=>h _ (by omega)
 .rw[List.getElem?_eq_none (l:=Du V n) (by rw[FK];omega),List.getElem?_eq_none (l:=Du U n) (by rw[FK];omega),FK]
  grind
def aC{U:Nat->Bool}{n:Nat}(h: ∀i,64*n<=i->U i=false):Du U n++[0]=Du U (n+1):=by
 unfold Du;rw[List.range_succ,List.map_append];congr 1;have:EM U n=0:=by
  unfold EM;exact GC.2 λi _=>h _ (by omega)
 grind
def gdiv{n:Nat}:Int.fdiv (n:Int) (2^(min (Int.toNat 6) (IntKind.bits .i64)))=((n/64:Nat):Int):=by
 rw[show(2:Int)^(min (Int.toNat 6) (IntKind.bits .i64))=64 by decide,Int.fdiv_eq_ediv_of_nonneg _ (by decide)];omega
def gmod{n:Nat}(h:n<9223372036854775808):EA .i64 0 (n:Int) 63=((n %64:Nat):Int):=by
 show IntKind.wrap .i64 ((BitVec.ofInt 64 (n:Int)&&&BitVec.ofInt 64 63).toNat:Int)=_;have e1:(BitVec.ofInt 64 (n:Int)).toNat=n:=by
  rw[BitVec.toNat_ofInt];omega
 have e2:(BitVec.ofInt 64 63).toNat=63:=by decide
 rw[BitVec.toNat_and,e1,e2,show(63:Nat)=2^6-1 from rfl,Nat.and_two_pow_sub_one_eq_mod];have:n %2^6<64:=Nat.mod_lt _ (by decide);exact AI
def gshl{n:Nat}(h:n<1099511627776):i64 ((n:Int)*2^(min (Int.toNat 6) (IntKind.bits .i64)))=((64*n:Nat):Int):=by
 rw[show(2:Int)^(min (Int.toNat 6) (IntKind.bits .i64))=64 by decide,AI];omega
section
variable{E:Env}{w:World}{Z:List Pr}{s:AY}{uw:List Int}{U:Nat->Bool}
def HF(H:Sat (Row E.AF 1 s (ints .u64 uw)::Z) w):uw.length=s.len/\s.len<=s.cap/\s.cap<9223372036854775808:=by
 have a:=H.CK;simp only[ints,List.length_map]at a;exact⟨by omega,H.own.cap,H.own.top⟩
def JK(H:Sat (Row E.AF 1 s (ints .u64 uw)::Z) w)(e:Lh uw U){k:Nat}(j:k<uw.length): ∃b,s.base=some ⟨b,0,none⟩/\w.cell? ((Addr.mk b 0 none).add (k*1))=some (.int .u64 (EM U k)):=by
 have h:=HF H;obtain⟨b,a⟩:=H.own.G7 (by omega);exact⟨b,a,by rw[Nat.mul_one];exact H.own.cell a (nJ e j)⟩
def VQ(H:Sat (Row E.AF 1 s (ints .u64 uw)::Z) w)(e:Lh uw U){n:Nat}(J:n<1099511627776){K:Bool->World->Prop}(a:K (U n) w):F.Is E s n K w:=by
 unfold F.Is;have v:=HF H;rw[gdiv,gmod (by omega)];refine⟨by decide,AE (λg=>⟨by decide,?_⟩) λg=> ?_⟩
 .obtain⟨b,j,u⟩:=JK H e (k:=n/64) (by omega);rw[j,Int.toNat_natCast];simp only[AK];refine⟨⟨by omega,by omega⟩,_,u,by omega,?_⟩;unfold EM;rw[W_get _ (by omega) (by omega),Int.toNat_natCast,show 64*(n/64)+n %64=n by omega];cases hu:U n
  .rw[hu]at a;exact a
  .rw[hu]at a;exact a
 .rw[e.2 n (by omega)]at a;exact a
def aE(hT:Ec E.AH w)(H:Sat (Row E.AF 1 s (ints .u64 uw)::Z) w)(Y:Lh uw U){n:Nat}(hn:n<1099511627776)(hs:s.len<1099511627776){K:Int->World->Prop}
  (T: ∀r:Nat,n<=r->U r=false->(∀i,n<=i->i<r->U i=true)->K r w):F.Ez E s n K w:=by
 unfold F.Ez T0.Ez;have hl:=HF H;rw[gdiv,gmod (by omega),fU (by omega)];refine⟨by decide,AZ λk O=> ?_⟩;subst O;refine AM (λst w'=>w'=w/\ ∃k:Nat,st.1=(k:Int)/\n/64<=k/\(k<=uw.length∨k=n/64)/\ ∀i,n<=i->i<64*k->U i=true) (λst _=>((uw.length:Int)-st.1).toNat) ⟨rfl,n/64,rfl,Nat.le_refl _,.inr rfl,λi h1 h2=>by omega⟩ ?_;rintro⟨k',u⟩ _ w3 ⟨rfl,k,O,k1,k2,k3⟩;dsimp only at O⊢;subst O;refine AE (λg=> ?_) λg=>⟨by decide,AZ λt v=> ?_⟩
 .obtain⟨b,hb,hc⟩:=JK H Y (k:=k) (by omega);rw[hb];simp only[AK];refine⟨⟨by omega,by omega⟩,_,by rw[aD,Int.toNat_natCast];exact hc,?_⟩;have main: ∀V:Nat->Bool,(∀i,i<64->(V i=true↔U (64*k+i)=true∨64*k+i<n))->CND (W V !=18446744073709551615)
    ((0:Int)<=6/\F.BO E (EA .u64 2 18446744073709551615 (W V)) (λaF aG=>JB (i64 ((i64 ((k:Int)*2^(min (Int.toNat 6) (IntKind.bits .i64))))+aF):Int) λt13=>K t13 aG) w3)
    (((w3=w3/\ ∃a:Nat,i64 ((k:Int)+1)=(a:Int)/\n/64<=a/\(a<=uw.length∨a=n/64)/\ ∀i,n<=i->i<64*a->U i=true)/\((uw.length:Int)-i64 ((k:Int)+1)).toNat<((uw.length:Int)-(k:Int)).toNat)):=λV hV=>by
   refine Gm (λaA=>⟨by decide,?_⟩) λhe=> ?_
   .rw[W_not];refine SG hT (λJ=> ?_) λr hr h1 h2=>AZ λt v=> ?_
    .exfalso;refine aA ?_;rw[<-Xm];refine HB λi hi=> ?_;have:=J i hi
     grind
    .have:t=((64*k+r:Nat):Int):=by
      rw[v,gshl (by omega),AI];omega
     rw[this];have aK: ¬(U (64*k+r)=true∨64*k+r<n):=λh=>by grind
     have aB:U (64*k+r)=false:=by
      cases e:U (64*k+r)with
      | false=>rfl
      | true=>grind
     refine T _ (by omega) aB λi i1 i2=> ?_;by_cases e:i<64*k
     .exact k3 i i1 e
     .have h4:V (i-64*k)=true:=by
       have:=h2 (i-64*k) (by omega)
       grind
      rcases(hV _ (by omega)).1 h4 with q|q
      .rwa[show 64*k+(i-64*k)=i by omega]at q
      .omega
   .rw[show i64 ((k:Int)+1)=((k+1:Nat):Int) by rw[AI];rfl];refine⟨⟨rfl,k+1,rfl,by omega,.inl (by omega),λi i1 i2=> ?_⟩,by omega⟩;by_cases e:i<64*k
    .exact k3 i i1 e
    .rw[<-Xm]at he;have:=W_inj he (i:=i-64*k) (by omega);rcases(hV _ (by omega)).1 this with q|q
     .rwa[show 64*k+(i-64*k)=i by omega]at q
     .omega
  refine Ad ⟨by decide,C6 (λe=>⟨by omega,AZ λt v j=> ?_⟩) λe j=> ?_⟩
  .unfold EM at v;rw[pE]at v
   grind
  .refine main (λi=>U (64*k+i)) λi hi=>⟨.inl,λh=> ?_⟩;rcases h with h|h
   .exact h
   .omega
 .rw[<-hl.1,gshl (by omega)]at v;unfold LI at v;by_cases e:64*uw.length<=n
  .have:t=(n:Int):=by rw[v];omega
   rw[this];exact T n (Nat.le_refl _) (Y.2 n e) λi i1 i2=>by omega
  .have:t=((64*uw.length:Nat):Int):=by rw[v];omega
   rw[this];exact T _ (by omega) (Y.2 _ (Nat.le_refl _)) λi i1 i2=>k3 i i1 (by omega)
def rowBt_setS{b t:Nat}{cs:List Value}{o:Nat}(aP:o<cs.length)(H:Sat (Cells b t (cs.set o (FI s))::Row E.AF 1 s (ints .u64 uw)::Z) w)(hU:Lh uw U)(hs:uw.length<1099511627776){n:Nat}(hn:n<1099511627776){K:World->Prop}
  (hK: ∀s' J w',Lh J (λi=>U i||i==n)->J.length=max uw.length (n/64+1)->Sat (Cells b t (cs.set o (FI s'))::Row E.AF 1 s' (ints .u64 J)::Z) w'->K w'):F.Jg E (some ((Addr.mk b 0 none).add o)) n K w:=by
 unfold F.Jg;rw[gdiv,gmod (by omega),W_bit (by omega)];refine AM (λ_ w'=> ∃s J,Lh J U/\(J.length=uw.length∨(uw.length<=J.length/\J.length<=n/64+1))/\Sat (Cells b t (cs.set o (FI s))::Row E.AF 1 s (ints .u64 J)::Z) w') (λ_ w'=>match w'.cell? ((Addr.mk b 0 none).add o)with|some (.slice _ l _)=>n/64+1-l|_=>0) ⟨s,uw,hU,.inl rfl,H⟩ ?_;rintro u _ w2 ⟨s,T,O,hlen,H2⟩;have hc: ∀{s:AY},(cs.set o (FI s))[0+o]? =some (FI s):=λ{s}=>by grind
 have CO: ∀{s:AY} {w'} {Y},Sat (Cells b t (cs.set o (FI s))::Y) w'->w'.cell? ((Addr.mk b 0 none).add o)=some (.slice s.base s.len s.cap):=λh=>h.cell hc;have hl:=HF (H2.front 1 rfl);have hm: ∀{s:AY} {w'} {Y},Sat (Cells b t (cs.set o (FI s))::Y) w'->(match w'.cell? ((Addr.mk b 0 none).add o)with|some (.slice _ l _)=>n/64+1-l|_=>0:Nat)=n/64+1-s.len:=λh=>by grind
 simp only[AK];refine⟨by decide,s,CO H2,AE (λg=> ?_) λg=> ?_⟩
 .refine⟨s,CO H2,AJ (vs:=[.int .u64 0]) H2 λb8 w9 H9 _=> ?_⟩;refine GH (zs:= #[.int .u64 0]) (bytes:=8) (H9.BQ 1 rfl) rfl rfl (by simp[Value.oneCell']) (by omega) (by omega) λGM aQ aE aJ=> ?_;refine Af (aE.front 1 rfl) (v:=FI GM) (o:=0) (m:=o) rfl (by grind) λaR aA=> ?_;rw[Nat.zero_add,List.set_set]at aA;have e:ints .u64 T++[.int .u64 0]=ints .u64 (Du U (T.length+1)):=by
   rw[<-aC O.2,<-O.1];simp[ints]
  rw[e]at aA;refine⟨⟨GM,Du U (T.length+1),RU λi hi=>O.2 i (by omega),by rw[FK];omega,aA⟩,?_⟩
  grind
 .have H3:=H2.drew;refine⟨s,CO H3,by decide,?_⟩;obtain⟨a,ha,aG⟩:=JK (H3.front 1 rfl) O (k:=n/64) (by omega);rw[ha,Int.toNat_natCast];simp only[AK];refine⟨⟨by omega,by omega⟩,_,aG,by omega,⟨by omega,by omega⟩,?_⟩;have ew:EA .u64 1 (EM U (n/64)) (W λi=>i==n %64)=EM (λi=>U i||i==n) (n/64):=by
   unfold EM;rw[pE]
   grind
  rw[ew,Nat.mul_one];refine Ko (H3.front 1 rfl) (j:=n/64) rfl (by simp[ints];omega) ha λaH aB=> ?_;have e2:(ints .u64 T).set (n/64) (.int .u64 (EM (λi=>U i||i==n) (n/64)))=ints .u64 (Du (λi=>U i||i==n) T.length):=by
   rw[O.1,FK,<-VP (U:=U) (k:=n/64) (V:=λi=>U i||i==n) λi hi=>by
    have:(i==n)=false:=by grind
    grind]
   simp only[ints,List.map_set]
  rw[e2]at aB;refine hK s _ aH (RU λi hi=> ?_) (by rw[FK];omega) (aB.front 1 rfl);have:(i==n)=false:=by grind
  rw[O.2 i hi,this];rfl
end
def YH{U:Nat->Bool}{n:Nat}(h: ∀i,n<=i->U i=false): ∀m,cN U (n+m)=cN U n
 | 0=>rfl
 | m+1=>by
  show cN U (n+m)+(U (n+m)).toNat=_;rw[YH h m,h _ (by omega)];rfl
def cN_any{U:Nat->Bool}{n m:Nat}(h1: ∀i,n<=i->U i=false)(a: ∀i,m<=i->U i=false):cN U n=cN U m:=by
 rcases Nat.le_total n m with h|h
 .have:=YH h1 (m-n);grind
 .have:=YH a (n-m);grind
structure Rr(S:SI)(U M:Nat->Bool):Prop where
 uw:Lh S.uw U
 mw:Lh S.mw M
 lu:(S.uw.length:Int)*64<=S.AO+63
 lm:(S.mw.length:Int)*64<=S.AO+63
 OZ: ∀i:Nat,U i=true->(i:Int)<S.AO
 mlim: ∀i:Nat,M i=true->(i:Int)<S.AO
 sl:0<=S.AO/\S.AO<=137438953472
 cnt:S.used=(cN U S.AO.toNat:Nat)
 look:0<=S.look/\S.look<=S.AO/\ ∀i:Nat,(i:Int)<S.look->U i=true
def Rr.out{S:SI}{U M:Nat->Bool}(h:Rr S U M)(i:Nat)(hi:S.AO.toNat<=i):U i=false:=by
 cases e:U i with
 | false=>rfl
 | true=>have:=h.OZ i e;omega
def Rr.next{S:SI}{U M:Nat->Bool}(h:Rr S U M){n:Nat}(e:(n:Int)<S.AO)(hu:U n=false)(v: ∀i,i<n->U i=true){a:List Int}(h1:Lh a λi=>U i||i==n)(j:a.length=max S.uw.length (n/64+1)):
  Rr {S with uw:=a,used:=S.used+1,look:=(n:Int)+1} (λi=>U i||i==n) M:=by
 have J:=h.sl;have u:=h.lu;refine⟨h1,h.mw,by grind,h.lm,λi hi=> ?_,h.mlim,h.sl,?_,⟨by grind,by grind,λi hi=> ?_⟩⟩
 .rw[Bool.or_eq_true,beq_iff_eq]at hi;rcases hi with hi|rfl
  .exact h.OZ i hi
  .exact e
 .show S.used+1=_;rw[sG hu,if_pos (by show n<S.AO.toNat;omega),h.cnt];rfl
 grind
def Rr.mark{S:SI}{U M:Nat->Bool}(h:Rr S U M){n:Nat}(a:(n:Int)<S.AO){mw':List Int}(h1:Lh mw' λi=>M i||i==n)(e:mw'.length=max S.mw.length (n/64+1)):
  Rr {S with mw:=mw'} U (λi=>M i||i==n):=by
 have u:=h.sl;have j:=h.lm;refine⟨h.uw,h1,h.lu,by grind,h.OZ,λi hi=> ?_,h.sl,h.cnt,h.look⟩;rw[Bool.or_eq_true,beq_iff_eq]at hi;rcases hi with hi|rfl
 .exact h.mlim i hi
 .exact a
def Rr.kC{S:SI}{U M:Nat->Bool}(h:Rr S U M):0<=S.used/\S.used<=S.AO:=by
 have:=Zc U S.AO.toNat;have:=h.sl;rw[h.cnt];omega
def aF{U:Nat->Bool}{i:Nat}(hi:U i=false): ∀{n},i<n->cN U n<n
 | n+1,h=>by
  have h1:=Zc U n;show cN U n+(U n).toNat<n+1;by_cases e:i=n
  .subst e;rw[hi];simp;omega
  .have:=aF hi (n:=n) (by omega);have:(U n).toNat<=1:=by cases U n<;>decide
   omega
def sN{U:Nat->Bool}: ∀{n:Nat},(∀i,i<n->U i=true)->cN U n=n
 | 0,_=>rfl
 | n+1,h=>by
  show cN U n+(U n).toNat=n+1;rw[sN λi hi=>h i (by omega),h n (by omega)];rfl
section
variable{E:Env}{w:World}{Z:List Pr}{b:Nat}{S:SI}{U M:Nat->Bool}
def YI(hT:Ec E.AH w)(H:Sat (Cm E b S::Z) w)(u:Rr S U M)(aC:S.state≠0){K:Int->Int->World->Prop}
  (Y:(∀i:Nat,(i:Int)<S.AO->U i=true)-> ∀w',Sat (Cm E b S::Z) w'->K 0 30 w')
  (aA: ∀(n:Nat) a,(n:Int)<S.AO->U n=false->(∀i,i<n->U i=true)->Rr {S with uw:=a,used:=S.used+1,look:=(n:Int)+1} (λi=>U i||i==n) M->
   ∀w',Sat (Cm E b {S with uw:=a,used:=S.used+1,look:=(n:Int)+1}::Z) w'->K n 0 w'):F.Di E (sM b) K w:=by
 obtain⟨v,sm,H⟩:=Sat.span.1 H;unfold F.Di T0.Di;simp only[AK];have hs:=u.sl;obtain⟨l0,l1,l2⟩:=u.look;obtain⟨k,hk⟩:=Int.eq_ofNat_of_zero_le l0;have j:Sat (Z2 E b S v sm++Z) w.drew:=H.drew;refine⟨_,H.cell rfl,C6 (λe=>absurd e aC) λ_=>⟨v,j.cell rfl,_,j.cell rfl,?_⟩⟩;rw[hk];have aJ:=u.lu;have aK:=HF (j.front 1 rfl);refine aE (hT.ext (Ext.drew _ _)) (j.front 1 rfl) u.uw (by omega) (by omega) λr r1 r2 r4=>⟨_,j.cell rfl,?_⟩;have below: ∀i,i<r->U i=true:=λi hi=>by
  by_cases e:i<k
  .exact l2 i (by omega)
  .exact r4 i (by omega) hi
 refine AE (λg=>Y (λi hi=>below i (by omega)) _ (Sat.span.2 ⟨v,sm,j⟩)) λg=> ?_;have hr:(r:Int)<S.AO:=by omega
 have H1:Sat (Cells b E.Eu ((F3 S v sm).set 11 (FI v))::Row E.AF 1 v (ints .u64 S.uw)::Row E.AF 1 sm (ints .u64 S.mw)::Z) w.drew:=j;refine rowBt_setS (by simp[F3]) H1 u.uw (by omega) (by omega) λs' a aO hB aB J=> ?_;have aL:=u.kC;refine⟨S.used,J.cell rfl,?_⟩;rw[AI (n:=S.used+1),AI (n:=(r:Int)+1)];refine Af J (o:=0) (m:=7) rfl (by simp[F3]) λaP O=>Af O (o:=0) (m:=13) rfl (by simp[F3]) λaD T=> ?_;exact aA r a hr r2 below (u.next hr r2 below hB aB) aD (Sat.span.2 ⟨s',sm,T⟩)
def Mb(H:Sat (Cm E b S::Z) w){i:Int}{K:Bool->World->Prop}(h1:0<=i/\i<S.AO->K true w)(a: ¬(0<=i/\i<S.AO)->K false w):F.ES E (sM b) i K w:=by
 refine RT H ?_;by_cases g:0<=i/\i<S.AO
 .rw[decide_eq_true g];exact h1 g
 .rw[decide_eq_false g];exact a g
def TH(H:Sat (Cm E b S::Z) w)(a:Rr S U M){n:Nat}(v:(n:Int)<S.AO){K:Bool->World->Prop}(j:K (U n) w):F.DC E (sM b) n K w:=by
 have e:=H;obtain⟨u,sm,H⟩:=Sat.span.1 H;unfold F.DC T0.DC;simp only[AK];have J:=a.sl;refine Mb e (λ_=>Aa rfl ⟨u,H.cell rfl,?_⟩) λg=>absurd (by omega) g;exact VQ (H.front 1 rfl) a.uw (by omega) j
def WJ(H:Sat (Cm E b S::Z) w)(a:Rr S U M){n:Nat}(u:(n:Int)<S.AO){K:Bool->World->Prop}(j:K (M n) w):F.Dz E (sM b) n K w:=by
 have e:=H;obtain⟨J,sm,H⟩:=Sat.span.1 H;unfold F.Dz T0.Dz;simp only[AK];have v:=a.sl;refine Mb e (λ_=>Aa rfl ⟨sm,H.cell rfl,?_⟩) λg=>absurd (by omega) g;exact VQ (H.front 2 rfl) a.mw (by omega) j
def TI(H:Sat (Cm E b S::Z) w)(a:Rr S U M)(u:S.state=1){n:Nat}(hn:(n:Int)<S.AO){K:Int->World->Prop}
  (Y: ∀mw',Rr {S with mw:=mw'} U (λi=>M i||i==n)-> ∀w',Sat (Cm E b {S with mw:=mw'}::Z) w'->K 0 w'):F.EK E (sM b) n K w:=by
 have O:=H;obtain⟨v,sm,H⟩:=Sat.span.1 H;unfold F.EK T0.EK;simp only[AK];have hs:=a.sl;have aA:=a.lm;refine⟨_,H.cell rfl,Gm (λg=>absurd u g) λ_=>Mb O (λ_=>AR rfl ?_) λg=>absurd (by omega) g⟩;have H1:Sat (Cells b E.Eu ((F3 S v sm).set 12 (FI sm))::Row E.AF 1 sm (ints .u64 S.mw)::Row E.AF 1 v (ints .u64 S.uw)::Z) w:=H.perm (.cons _ (.swap _ _ _));refine rowBt_setS (by simp[F3]) H1 a.mw (by omega) (by omega) λs' mw' J T j e=> ?_;exact Y mw' (a.mark hn T j) J (Sat.span.2 ⟨v,s',e.perm (.cons _ (.swap _ _ _))⟩)
def sO{V:Nat->Bool}{k i:Nat}:EM V k=0->i/64=k->V i=false:=λh hi=>by
 have:=GC.1 h (i %64) (by omega)
 grind
def Ph(H:Sat (Cm E b S::Z) w)(a:Rr S U M){K:Bool->World->Prop}(aB:(∃i,M i=true/\U i=false)->K true w)(aA:(∀i,M i=true->U i=true)->K false w):F.Gs E (sM b) K w:=by
 obtain⟨su,sm,H⟩:=Sat.span.1 H;unfold F.Gs;simp only[AK];have hs:=a.sl;have aJ:=a.lu;have aI:=a.lm;have l1:=HF (H.front 1 rfl);have l2:=HF (H.front 2 rfl);refine⟨sm,H.cell rfl,?_⟩;refine AM (λst w'=>w'=w/\ ∃k:Nat,st.1=(k:Int)/\ ∀i,i<64*k->M i=true->U i=true) (λst _=>((S.mw.length:Int)-st.1).toNat) ⟨rfl,0,rfl,λi hi=>by omega⟩ ?_;rintro⟨k',u⟩ _ w3 ⟨rfl,k,hk,k1⟩;dsimp only at hk⊢;subst hk;refine AE (λg=> ?_) λg=>aA λi hi=> ?_
 .obtain⟨c,hc,T⟩:=JK (H.front 2 rfl) a.mw (k:=k) (by omega);rw[hc];simp only[AK];refine⟨⟨by omega,by omega⟩,_,by rw[aD,Int.toNat_natCast];exact T,?_⟩;have main: ∀v:Int,v=EM (λi=>M i&& !U i) k->CND (v !=0) (K true w3) ((w3=w3/\ ∃O:Nat,i64 ((k:Int)+1)=(O:Int)/\ ∀i,i<64*O->M i=true->U i=true)/\((S.mw.length:Int)-i64 ((k:Int)+1)).toNat<((S.mw.length:Int)-(k:Int)).toNat):=λv hv=>by
   refine Gm (λJ=> ?_) λhe=> ?_
   .obtain⟨c,c1,c2,_⟩:=Z5 (by rw[hv]at J;exact J);rw[Bool.and_eq_true,Bool.not_eq_true']at c2;exact aB ⟨_,c2⟩
   .rw[show i64 ((k:Int)+1)=((k+1:Nat):Int) by rw[AI];rfl];refine⟨⟨rfl,k+1,rfl,λi hi hm=> ?_⟩,by omega⟩;by_cases e:i<64*k
    .exact k1 i e hm
    .have:=sO (hv▸he) (show i/64=k by omega)
     grind
  refine Ad ⟨su,H.cell rfl,AE (λg2=> ?_) λg2 j=>main _ ?_⟩
  .obtain⟨d,hd,Y⟩:=JK (H.front 1 rfl) a.uw (k:=k) (by omega);refine⟨su,H.cell rfl,?_⟩;rw[hd];refine AG ⟨⟨by omega,by omega⟩,_,by rw[aD,Int.toNat_natCast];exact Y,λj=>main _ ?_⟩;unfold EM;rw[OL]
  .unfold EM;refine HB λi hi=> ?_;show M _=(M _&& !U _);rw[a.uw.2 _ (by omega)];simp
 .by_cases e:i<64*k
  .exact k1 i e hi
  .rw[a.mw.2 i (by omega)]at hi;cases hi
def aG(S:SI):Prop:=0<=S.Mx/\S.Mx<4294967296/\(0<S.Mx->S.AO*S.elem<4294967296/\ ∀off:Int,0<=off->off<S.AO*S.elem->off*S.Mx/4294967296=off/S.elem)
def Pj(H:Sat (Cm E b S::Z) w)(hm:aG S)(he:0<S.elem)(T:S.elem<=2199023255552)(hs:0<=S.AO/\S.AO<=1048576)(hb:0<=S.base/\S.base<=281474976710656){a:Int}(ha:0<=a/\a<18446744073709551616){K:Int->Int->World->Prop}
  (v: ¬(S.base<=a/\a<S.base+S.AO*S.elem)-> ∀w',Sat (Cm E b S::Z) w'->K 0 10 w')(Y:S.base<=a->a<S.base+S.AO*S.elem-> ∀w',Sat (Cm E b S::Z) w'->K ((a-S.base)/S.elem) 0 w'):F.DK E (sM b) a K w:=by
 obtain⟨su,sm,H⟩:=Sat.span.1 H;unfold F.DK T0.DK;simp only[AK];have e:Sat (Z2 E b S su sm++Z) w.drew:=H.drew;have u:Sat (Cm E b S::Z) w.drew:=Sat.span.2 ⟨su,sm,e⟩;have h2:S.AO*S.elem<=1048576*2199023255552:=Int.mul_le_mul hs.2 T (by omega) (by decide);have h3:0<=S.AO*S.elem:=Int.mul_nonneg hs.1 (by omega);have e1:u64 (u64 S.AO*u64 S.elem)=S.AO*S.elem:=by rw[AP (n:=S.AO),AP (n:=S.elem),AP]
 refine Ad ⟨_,e.AW rfl,AE (λg j=>Aa rfl (v (λh=>by omega) _ u)) λg1=>⟨_,e.AW rfl,_,e.cell rfl,_,e.cell rfl,λj=> ?_⟩⟩;rw[e1,AP (n:=a-S.base)];refine AE (λg=>v (λh=>by omega) _ u) λg2=>⟨_,e.AW rfl,_,e.cell rfl,?_⟩;have hq:0<=(a-S.base)/S.elem/\(a-S.base)/S.elem<=a-S.base:=⟨Int.ediv_nonneg (by omega) (by omega),Int.ediv_le_self _ (by omega)⟩;rw[AP (n:=a-S.base)];refine AE (λg=>⟨_,e.cell rfl,?_⟩) λg=>⟨_,e.cell rfl,?_⟩
 .obtain⟨m0,m1,m2⟩:=hm;obtain⟨m3,m4⟩:=m2 g;unfold F.Un;refine⟨by decide,AZ λt O=> ?_⟩;have J: ∀{n:Int},0<=n->n<4294967296->IntKind.wrap .u32 n=n:=λ{n} h0 h1=>by
   show n %_=n;exact Int.emod_eq_of_lt h0 h1
  have hx:0<=(a-S.base)*S.Mx/\(a-S.base)*S.Mx<18446744073709551616:=by
   refine⟨Int.mul_nonneg (by omega) m0,?_⟩
   grind
  rw[J (n:=a-S.base) (by omega) (by omega),AP (n:=a-S.base),AP (n:=S.Mx),AP hx.1 hx.2,
   show(2:Int)^(min (Int.toNat 32) (IntKind.bits .u64))=4294967296 by decide,Int.fdiv_eq_ediv_of_nonneg _ (by decide),m4 _ (by omega) (by omega),J (by omega) (by omega)]at O
  rw[O];show K (i64 _) 0 _;rw[AI];exact Y (by omega) (by omega) _ u
 .rw[AP (n:=S.elem),Int.tdiv_eq_ediv_of_nonneg (by omega)];refine⟨by omega,AZ λt O=> ?_⟩;have:t=(a-S.base)/S.elem:=by rw[O,AP,AI]
  grind
end
def HI(F:Nat->Bool)(m:Nat):List Int:=((List.range m).filter F).map λi:Nat=>(i:Int)
def QK(F:Nat->Bool): ∀m,(HI F m).length=cN F m
 | 0=>rfl
 | m+1=>by
  have a:=QK F m;unfold HI at a⊢;rw[List.length_map]at a⊢;rw[List.range_succ,List.filter_append,List.length_append,a];show _=cN F m+(F m).toNat
  grind
def Om{F:Nat->Bool}{m:Nat}: ∀{n:Nat},(∀i,m<=i->i<m+n->F i=false)->HI F (m+n)=HI F m
 | 0,_=>rfl
 | n+1,h=>by
  have a:=Om (F:=F) (m:=m) (n:=n) λi h1 e=>h i h1 (by omega);unfold HI at a⊢;rw[show m+(n+1)=m+n+1 by omega,List.range_succ,List.filter_append,List.map_append,a,List.filter_cons_of_neg (by grind)];simp
def fY{F:Nat->Bool}{m n:Nat}(a:m<=n)(h: ∀i,m<=i->i<n->F i=false)(j:F n=true):HI F (n+1)=HI F m++[(n:Int)]:=by
 have e:=Om (F:=F) (m:=m) (n:=n-m) λi h1 u=>h i h1 (by omega);rw[show m+(n-m)=n by omega]at e;unfold HI at e⊢;rw[List.range_succ,List.filter_append,List.map_append,e,List.filter_cons_of_pos j];simp
def aH(U M:Nat->Bool): ∀n,cN U n=cN (λi=>U i&&M i) n+cN (λi=>U i&& !M i) n
 | 0=>rfl
 | n+1=>by
  show cN U n+(U n).toNat=cN _ n+(U n&&M n).toNat+(cN _ n+(U n&& !M n).toNat);have:=aH U M n;cases U n<;>cases M n<;>simp<;>omega
def VR(S:SI)(a:List Int)(U M:Nat->Bool):SI:={S with uw:=a,mw:=[],used:=(cN (λi=>U i&&M i) S.AO.toNat:Nat),look:=0}
def Rr.Ei{S:SI}{U M:Nat->Bool}(h:Rr S U M){a:List Int}(h1:Lh a λi=>U i&&M i)(e:a.length=S.uw.length):Rr (VR S a U M) (λi=>U i&&M i) (λ_=>false):=by
 have:=h.lu;have:=h.sl;refine⟨h1,SL λ_=>rfl,by show(a.length:Int)*64<=S.AO+63;omega,by show((0:Nat):Int)*64<=S.AO+63;omega,λi hi=> ?_,λi hi=>(by cases hi),h.sl,rfl,⟨Int.le_refl 0,h.sl.1,λi hi=> ?_⟩⟩
 .rw[Bool.and_eq_true]at hi;exact h.OZ i hi.1
 .have hi:(i:Int)<0:=hi;omega
section
variable{E:Env}{w:World}{Z:List Pr}{b:Nat}{S:SI}{U M:Nat->Bool}
def YJ(hT: ∀w',Sat Z w'->Ec E.AH w')(H:Sat (Cm E b S::Z) w)(T:Rr S U M)(bD:S.state=1){K:AY->Int->World->Prop}(bB:(∃i,M i=true/\U i=false)->K ⟨none,0,0⟩ 40 w)
  (hk:(∀i,M i=true->U i=true)-> ∀aR s,Rr (VR S aR U M) (λi=>U i&&M i) (λ_=>false)->s.len=cN (λi=>U i&& !M i) S.AO.toNat->
   ∀w',Sat (Row E.Ar 1 s (ints .i64 (HI (λi=>U i&& !M i) (64*S.uw.length)))::Cm E b (VR S aR U M)::Z) w'->K s 0 w'):F.Ce E (sM b) K w:=by
 have H0:=H;obtain⟨J,sm,H⟩:=Sat.span.1 H;unfold F.Ce T0.Ce;refine AG ⟨_,H.cell rfl,Gm (λg=>absurd bD g) λ_=>Ph H0 T (λh=>Aa rfl (bB h)) λhz=>AR rfl (AG ⟨J,H.cell rfl,?_⟩)⟩;have hs:=T.sl;have b2:=T.lu;have b1:=T.lm;have l1:=HF (H.front 1 rfl);have l2:=HF (H.front 2 rfl)
 let G:Nat->Bool:=λi=>U i&& !M i
 let Uk:Nat->Nat->Bool:=λk i=>if i<64*k then U i&&M i else U i
 have hn:S.uw.length<=2147483649:=by omega
 have a7: ∀k,Lh (Du (Uk k) S.uw.length) (Uk k):=λk=>RU λi hi=>by
  show(if i<64*k then U i&&M i else U i)=false;rw[T.uw.2 i hi];grind
 have e0:Du (Uk 0) S.uw.length=S.uw:=by
  have:Uk 0=U:=by funext i;show(if i<64*0 then _ else _)=_;rw[if_neg (by omega)]
  rw[this];exact T.uw.1.symm
 have fl: ∀m,(HI G m).length<=m:=λm=>by rw[QK];exact Zc G m
 refine AM (λst w'=> ∃k:Nat,st.2.1=(k:Int)/\k<=S.uw.length/\Sat (Row E.Ar 1 st.1 (ints .i64 (HI G (64*k)))::Cells b E.Eu (F3 S J sm)::Row E.AF 1 J (ints .u64 (Du (Uk k) S.uw.length))::Row E.AF 1 sm (ints .u64 S.mw)::Z) w') (λst _=>((S.uw.length:Int)-st.2.1).toNat) ⟨0,rfl,Nat.zero_le _,by rw[e0];exact H.nil E.Ar 1⟩ ?_;rintro⟨fr,k',u⟩ _ w8 ⟨k,aO,b0,H8⟩;dsimp only at aO H8⊢;subst aO;refine AE (λg=> ?_) λg=> ?_
 .have bA:k<S.uw.length:=by omega
  have hg:k<(Du (Uk k) S.uw.length).length:=by rw[FK];exact bA
  obtain⟨a,ha,aG⟩:=JK (H8.front 2 rfl) (a7 k) hg;have ew:EM (Uk k) k=EM U k:=HB λi hi=>by show(if 64*k+i<64*k then _ else _)=_;rw[if_neg (by omega)]
  rw[ew]at aG;have cu: ∀{w'} {vs:List Value} {Y},Sat (Row E.Ar 1 fr vs::Cells b E.Eu (F3 S J sm)::Y) w'->w'.cell? ((Addr.mk b 0 none).add 11)=some (.slice J.base J.len J.cap)/\w'.cell? ((Addr.mk b 0 none).add 12)=some (.slice sm.base sm.len sm.cap):=λh=>⟨(h.front 1 rfl).cell rfl,(h.front 1 rfl).cell rfl⟩;have aC:=cu H8;refine AG ⟨J,aC.1,?_⟩
  try dsimp only
  rw[ha];refine AG ⟨⟨by omega,by omega⟩,_,by rw[aD,Int.toNat_natCast];exact aG,?_⟩;have main: ∀v:Int,v=EM G k-> ∀(e:AY×Int×Unit->World->Prop),(∀st w',(∃k:Nat,st.2.1=(k:Int)/\k<=S.uw.length/\Sat (Row E.Ar 1 st.1 (ints .i64 (HI G (64*k)))::Cells b E.Eu (F3 S J sm)::Row E.AF 1 J (ints .u64 (Du (Uk k) S.uw.length))::Row E.AF 1 sm (ints .u64 S.mw)::Z) w')/\((S.uw.length:Int)-st.2.1).toNat<((S.uw.length:Int)-(k:Int)).toNat->e st w')->
    NC (some (Addr.mk b 0 none)) λbE=> ∃O:AY,w8.cell? (bE.add 11)=some (.slice O.base O.len O.cap)/\NC O.base λbF=>((0:Int)<=(k:Int)/\((k:Int):Int)<(O.len:Nat))/\ ∃aX:Int,w8.cell? (bF.add (Int.toNat (k:Int)*1))=some (.int .u64 aX)/\NC O.base λbG=>((0:Int)<=(k:Int)/\((k:Int):Int)<(O.len:Nat))/\
     stCells (bG.add (Int.toNat (k:Int)*1)) 0 [.int .u64 (EA .u64 3 aX v)] w8 λaS=>
      BK (AY×Int×Unit) (fr,v,()) aS λLp _ aB aE=>
       CND ((Lp.2.1:Int) !=0) (
        (0:Int)<=6/\
        F.BO E Lp.2.1 (λbH bI=>
        AL (.cells ⟨[.int .i64 (i64 ((i64 ((k:Int)*2^(min (Int.toNat 6) (IntKind.bits .i64))))+bH))]⟩ E.Ar) bI λaL aT=>
        APP E.Ar 1 8 #[.int .i64 0] Lp.1 ⟨(some (Addr.mk aL 0 none)),1,1⟩ aT λWo aU=>
        JB (EA .u64 0 Lp.2.1 (u64 (Lp.2.1-1)):Int) λaW=>
        aE (Wo,aW,()) aU
        ) aB
       ) (
        e (Lp.1,i64 ((k:Int)+1),()) aB
       ):=λv hv e aI=>by
   refine AG ⟨J,aC.1,?_⟩;rw[ha];refine AG ⟨⟨by omega,by omega⟩,_,by rw[Int.toNat_natCast];exact aG,AG ⟨⟨by omega,by omega⟩,?_⟩⟩;subst hv;have e1:EA .u64 3 (EM U k) (EM G k)=EM (Uk (k+1)) k:=by
    unfold EM;rw[OL];refine HB λi hi=> ?_;show(U _&& !(U _&& !M _))=if 64*k+i<64*(k+1)then _ else _
    grind
   rw[e1,Int.toNat_natCast,Nat.mul_one];refine Ko (H8.front 2 rfl) (j:=k) rfl (by simp[ints,FK];omega) ha λaS aJ=> ?_;have e2:(ints .u64 (Du (Uk k) S.uw.length)).set k (.int .u64 (EM (Uk (k+1)) k))=ints .u64 (Du (Uk (k+1)) S.uw.length):=by
    rw[<-VP (U:=Uk k) (V:=Uk (k+1)) (k:=k) λi hi=>by
     show(if i<64*k then _ else _)=if i<64*(k+1)then _ else _
     grind]
    simp only[ints,List.map_set]
   rw[e2]at aJ;have aZ:=aJ.front 1 rfl;refine AM (λst w'=> ∃c:Nat,c<=64/\st.2.1=W (λi=>G (64*k+i)&&decide (c<=i))/\Sat (Row E.Ar 1 st.1 (ints .i64 (HI G (64*k+c)))::Row E.AF 1 J (ints .u64 (Du (Uk (k+1)) S.uw.length))::Cells b E.Eu (F3 S J sm)::Row E.AF 1 sm (ints .u64 S.mw)::Z) w') (λst _=>64*(k+1)-st.1.len) ⟨0,by omega,HB λi hi=>by simp,aZ⟩ ?_;rintro⟨a6,v2,u2⟩ _ aB ⟨c,hc,aQ,aA⟩;dsimp only at aQ aA⊢;subst aQ;have hlen:=aA.CK;simp only[ints,List.length_map,Nat.mul_one]at hlen;have aN:=fl (64*k+c);refine Gm (λbC=>⟨by decide,?_⟩) λhe=> ?_
   .refine SG (hT aB aA.tail.tail.tail.tail) (λaM=>absurd (GC.2 aM) bC) λr hr h1 h2=> ?_;rw[Bool.and_eq_true,decide_eq_true_eq]at h1;have h3: ∀i,64*k+c<=i->i<64*k+r->G i=false:=λi i1 i2=>by
     have:=h2 (i-64*k) (by omega)
     grind
    rw[gshl (by omega),AI (n:=((64*k:Nat):Int)+(r:Int))];refine AJ (vs:=[.int .i64 (((64*k:Nat):Int)+(r:Int))]) aA λaL aT a0 _=>GH (zs:= #[.int .i64 0]) (bytes:=8) a0 rfl rfl (by simp[Value.oneCell']) (by omega) (by omega) λWo aU bP bM=>AZ λt ht=> ?_;have eb:=fM (u:=λi=>G (64*k+i)&&decide (c<=i)) hr (by grind) h2;rw[eb]at ht;have ef:=fY (F:=G) (m:=64*k+c) (n:=64*k+r) (by omega) h3 h1.1;refine⟨⟨r+1,by omega,?_,?_⟩,?_⟩
    .show t=_;rw[ht]
     grind
    .rw[show 64*k+(r+1)=64*k+r+1 by omega,ef];have:ints .i64 (HI G (64*k+c))++[.int .i64 (((64*k:Nat):Int)+(r:Int))]=ints .i64 (HI G (64*k+c)++[((64*k+r:Nat):Int)]):=by
      simp[ints]
     grind
    omega
   .rw[show i64 ((k:Int)+1)=((k+1:Nat):Int) by rw[AI];rfl];refine aI _ _ ⟨⟨k+1,rfl,by omega,?_⟩,by grind⟩;have e3:HI G (64*(k+1))=HI G (64*k+c):=by
     rw[show 64*(k+1)=64*k+c+(64-c) by omega];refine Om λi i1 i2=> ?_;have:=GC.1 he (i-64*k) (by omega)
     grind
    show Sat (Row E.Ar 1 a6 (ints .i64 (HI G (64*(k+1))))::_) aB;rw[e3];exact aA.perm (.cons _ (.swap _ _ _))
  refine Ad (AG ⟨sm,aC.2,AE (λg2=>AG ⟨sm,aC.2,?_⟩) λg2 j=>main _ ?_ _ λ_ _ h=>h⟩)
  .obtain⟨d,hd,a9⟩:=JK (H8.front 3 rfl) T.mw (k:=k) (by omega);rw[hd];refine AG ⟨⟨by omega,by omega⟩,_,by rw[aD,Int.toNat_natCast];exact a9,λj=>main _ ?_ _ λ_ _ h=>h⟩;unfold EM;rw[OL]
  .unfold EM;refine HB λi hi=> ?_;show U _=(U _&& !M _);rw[T.mw.2 _ (by omega)];simp
 .have aP:k=S.uw.length:=by omega
  have BV:=H8.front 1 rfl;have hlen:=H8.CK;simp only[ints,List.length_map,Nat.mul_one]at hlen;have e4:cN G (64*S.uw.length)=cN G S.AO.toNat:=cN_any (λi hi=>by show(U i&& !M i)=false;rw[T.uw.2 i hi];rfl) λi hi=>by show(U i&& !M i)=false;rw[T.out i hi];rfl
  have aN:fr.len=cN G S.AO.toNat:=by rw[<-hlen,QK,aP,e4]
  have aY:=aH U M S.AO.toNat;have bL:=T.cnt;have b4:=T.kC;have hle:=Zc U S.AO.toNat;have eu:i64 (S.used-((fr.len:Nat):Int))=(cN (λi=>U i&&M i) S.AO.toNat:Nat):=by
   have:cN G S.AO.toNat=cN (λi=>U i&& !M i) S.AO.toNat:=rfl;rw[AI];omega
  refine AG ⟨_,BV.cell rfl,AG ?_⟩;rw[eu];refine Af BV (o:=0) (m:=7) rfl (by simp[F3]) λb6 a1=>AG (Af a1 (o:=0) (m:=12) (v:=FI ⟨none,0,0⟩) rfl (by simp[F3]) λb7 a2=>AG (Af a2 (o:=0) (m:=13) rfl (by simp[F3]) λaV aK=> ?_));have e5:Du (Uk k) S.uw.length=Du (λi=>U i&&M i) S.uw.length:=YG λi hi=>by
   show(if i<64*k then _ else _)=_
   grind
  rw[e5,aP]at aK;refine hk hz (Du (λi=>U i&&M i) S.uw.length) fr (T.Ei (RU λi hi=>by show(U i&&M i)=false;rw[T.uw.2 i hi];rfl) (FK _ _)) aN aV ?_;have a3:=((aK.front 3 rfl).tail.nil E.AF 1);have a4:Sat (Z2 E b (VR S (Du (λi=>U i&&M i) S.uw.length) U M) J ⟨none,0,0⟩++Row E.Ar 1 fr (ints .i64 (HI G (64*S.uw.length)))::Z) aV:=
   (((a3.front 0 rfl).front 3 rfl).front 2 rfl)
  have a5:=Sat.span.2 ⟨J,⟨none,0,0⟩,a4⟩;exact a5.perm (.swap _ _ _)
end
def Sat.nK{F:List Pr}{w:World}{t:Nat}{s:AY}{vs us:List Value}(H:Sat (Row t 1 s (vs++us)::F) w):Sat (Row t 1 ⟨s.base,vs.length,s.cap⟩ vs::F) w:=by
 obtain⟨D,h,J⟩:=H.step;have ho:=h.2;have O:vs.length+us.length=s.len:=by have:=ho.len;grind
 refine J w D _ (Ext.refl _ _) ⟨h.1,⟨by simp,by have:=ho.cap;grind,ho.top,?_⟩⟩ λ_ v=>.inl v;rcases ho.row with ⟨h1,a⟩|⟨b,cs,h1,a,e,j,u⟩
 .grind
 .refine .inr ⟨b,cs,h1,a,e,j,?_⟩;have K:((cs.toList.take (s.len*1)).take (vs.length*1))=vs:=by
   rw[u,List.take_left' (by omega)]
  grind
def CPY_up{F:List Pr}{w:World}{t:Nat}{s:AY}{vs:List Value}{v:Value}(H:Sat (Row t 1 s (vs++[v])::F) w)(ho: ∀u∈vs,u.oneCell'=true){i:Nat}(hi:i<=vs.length){K:Nat->World->Prop}
  (T: ∀n w' u,Sat (Row t 1 s (vs.take i++u::vs.drop i)::F) w'->K n w'):
  CPY 1 ⟨KE s.base s.cap (i+1) 1,s.len-(i+1),s.cap-(i+1)⟩ ⟨KE s.base s.cap i 1,s.len-i,s.cap-i⟩ w K:=by
 have hl:=H.CK;simp at hl;have j:=H.own.cap;have J:Nat.min (s.len-i) (s.len-(i+1))=vs.length-i:=by grind
 obtain⟨b,Y⟩:=H.own.G7 (by omega);have h1:=LN (z:=1) H.LP rfl (k:=i) (by omega) j H.CK;have hd:(vs++[v]).drop (i*1)=vs.drop i++[v]:=by grind
 rw[hd]at h1;have O:=Px h1 (m:=vs.length-i) (by omega) (by simp;omega);rw[List.take_left' (by simp)]at O;unfold CPY;simp only[J];refine⟨vs.drop i,by simpa using O,?_⟩;have a:KE s.base s.cap (i+1) 1=some (if s.cap=i+1 then(Addr.mk b 0 none)else(Addr.mk b 0 none).add (i+1)):=by
  rw[Y];unfold KE
  grind
 rw[a];simp only;by_cases hc:s.cap=i+1
 .have:vs.drop i=[]:=List.drop_eq_nil_iff.2 (by omega);rw[if_pos hc,this];refine T _ w v ?_;have e:vs.take i=vs:=List.take_of_length_le (by omega)
  grind
 .rw[if_neg hc];obtain⟨u,hu⟩: ∃u,(vs++[v])[i]? =some u:=⟨_,List.getElem?_eq_getElem (by simp;omega)⟩;refine X7 (vs.drop i) (i+1) 0 H (by simp;omega) (λx hx=>ho x (List.mem_of_mem_drop hx)) Y λw' H'=>T _ w' u ?_;have e1:(vs++[v]).take (i+1+0)=vs.take i++[u]:=by
   rw[Nat.add_zero,List.take_succ,hu,List.take_append_of_le_length hi];rfl
  have e2:(vs++[v]).drop (i+1+0+(vs.drop i).length)=[]:=List.drop_eq_nil_iff.2 (by simp;omega)
  grind
def yX{F:List Pr}{w:World}{t bytes:Nat}{s:AY}{vs:List Value}{zs:Array Value}(H:Sat (Row t 1 s vs::F) w)(ho: ∀u∈vs,u.oneCell'=true){i:Nat}(hi:i<vs.length){K:AY->World->Prop}
  (v: ∀s' w',Sat (Row t 1 s' (vs.eraseIdx i)::F) w'->K s' w'):
  APP t 1 bytes zs ⟨KE s.base s.cap 0 1,i,s.cap⟩ ⟨KE s.base s.cap (i+1) 1,s.len-(i+1),s.cap-(i+1)⟩ w K:=by
 have J:=H.CK;simp at J;have a:=H.own.cap;obtain⟨b,e⟩:=H.own.G7 (by omega);have h1:=LN (z:=1) H.LP rfl (k:=i+1) (by omega) a H.CK;rw[UL];refine⟨vs.drop (i+1),by simpa using h1,λ_=> ?_,λg=> ?_⟩
 .rw[e];simp only;rw[show i*1=i by omega];refine X7 (vs.drop (i+1)) i 0 H (by simp;omega) (λx O=>ho x (List.mem_of_mem_drop O)) e λw' j=> ?_;rw[show i+(s.len-(i+1))=(vs.eraseIdx i).length by grind,<-e];refine v _ w' (Sat.nK (us:=vs.drop (i+0+(vs.drop (i+1)).length)) ?_);rw[List.eraseIdx_eq_take_drop_succ];simpa using j
 grind
structure EV where
 EC:Nat
 id:Int
 base:Int
 kd:Kd
abbrev EV.Ei(x:EV):Bool:=x.kd.2.2.2
def Iw(x:EV):Value:=.pointer (sM x.EC)
def MJ(x:EV):List Value:=[.int .i64 x.id,.int .u64 x.base,.int .i64 x.kd.1,.bool x.kd.2.1,.bool x.kd.2.2.1,.bool x.kd.2.2.2]
def aI(E:Env)(x:EV):Pr:=Cells x.EC E.Hv (MJ x)
def F4(f:EV->Int)(L:List EV):Int->Option Value:=λi=>(L.find? λx=>f x==i).map Iw
def Fg(L:List EV)(k:Kd):List EV:=L.filter λx=>decide (x.kd=k)
def HJ(L:List EV)(x:EV):List EV:=L.take (pos (·.base) L x.base)++x::L.drop (pos (·.base) L x.base)
def IZ(L:List EV)(id:Int):List EV:=L.filter λx=>decide (x.id≠id)
def Lu.ext{α:Type}{key:α->Int}: ∀{A B:List α},Lu key A->Lu key B->(∀x,x∈A↔x∈B)->A=B
 | [],[],_,_,_=>rfl
 | [],b::s,_,_,h=>by have:=(h b).2 List.mem_cons_self;cases this
 | a::r,[],_,_,h=>by have:=(h a).1 List.mem_cons_self;cases this
 | a::r,b::s,hA,hB,h=>by
  have u:=List.pairwise_cons.1 hA;have j:=List.pairwise_cons.1 hB;have e:a=b:=by
   rcases List.mem_cons.1 ((h a).1 List.mem_cons_self)with e|h1
   .exact e
   .rcases List.mem_cons.1 ((h b).2 List.mem_cons_self)with e|v
    .exact e.symm
    .have:=j.1 a h1;grind
  subst e;rw[Lu.ext u.2 j.2 λx=> ?_]
  grind
def Ha(L:List EV)(x:EV):(HJ L x).Perm (x::L):=by
 unfold HJ;exact List.perm_middle.trans (by rw[List.take_append_drop])
def DY{L:List EV}{x y:EV}:y∈HJ L x↔y=x∨y∈L:=by rw[(Ha L x).mem_iff,List.mem_cons]
def RV{L:List EV}{x:EV}(j:Lu (·.base) L)(u: ∀y∈L,y.base≠x.base):Lu (·.base) (HJ L x):=by
 unfold HJ;have:=Lu.mid (L:=L.take (pos (·.base) L x.base)) (M:=[x]) (N:=L.drop (pos (·.base) L x.base)) (j.take _) (by simp[Lu]) (j.drop _) (a:=x.base) (b:=x.base+1) (by omega) (λc e=>(X5 e).2) (λc e=>by grind) λc e=>by
  have h1:=X6 j e
  grind
 grind
def Jo{L:List EV}{id:Int}{y:EV}:y∈IZ L id↔y∈L/\y.id≠id:=by simp[IZ]
def FF{L:List EV}{k:Kd}{y:EV}:y∈Fg L k↔y∈L/\y.kd=k:=by simp[Fg]
def K6{L:List EV}(a:Lu (·.base) L)(k:Kd):Lu (·.base) (Fg L k):=a.filter _
def sP{L:List EV}(a:Lu (·.base) L)(id:Int):Lu (·.base) (IZ L id):=a.filter _
def fZ{L:List EV}{x:EV}{k:Kd}(a:Lu (·.base) L)(e: ∀y∈L,y.base≠x.base)(h:x.kd≠k):Fg (HJ L x) k=Fg L k:=
 Lu.ext (K6 (RV a e) k) (K6 a k) λy=>by
  rw[FF,FF,DY]
  grind
def yY{L:List EV}{x:EV}(a:Lu (·.base) L)(e: ∀y∈L,y.base≠x.base):Fg (HJ L x) x.kd=HJ (Fg L x.kd) x:=
 Lu.ext (K6 (RV a e) _) (RV (K6 a _) λy j=>e y (FF.1 j).1) λy=>by
  rw[FF,DY,DY,FF]
  grind
def NV{α β:Type}{f:α->β}: ∀{L:List α},(L.map f).Nodup->L.Nodup
 | [],_=>.nil
 | x::r,h=>by
  rw[List.map_cons,List.nodup_cons]at h;rw[List.nodup_cons];exact⟨λa=>h.1 (List.mem_map.2 ⟨x,a,rfl⟩),NV h.2⟩
def map_inj{α β:Type}{f:α->β}: ∀{L:List α},(L.map f).Nodup-> ∀{x y},x∈L->y∈L->f x=f y->x=y
 | [],_,x,y,j,_,_=>by cases j
 | a::r,h,x,y,j,u,e=>by
  rw[List.map_cons,List.nodup_cons]at h;rcases List.mem_cons.1 j with h1|j
  .rcases List.mem_cons.1 u with v|u
   .rw[h1,v]
   .exact absurd (List.mem_map.2 ⟨y,u,by rw[<-e,h1]⟩) h.1
  .rcases List.mem_cons.1 u with v|u
   .exact absurd (List.mem_map.2 ⟨x,j,by rw[e,v]⟩) h.1
   .exact map_inj h.2 j u e
def XG{α:Type}{key:α->Int}{L:List α}(e:Lu key L):(L.map key).Nodup:=List.Pairwise.map _ (λa b h=>by omega) e
def M1{f:EV->Int}{L:List EV}{i:Int}:F4 f L i=none↔ ∀x∈L,f x≠i:=by
 unfold F4;rw[Option.map_eq_none_iff,List.find?_eq_none];simp
def nL{f:EV->Int}{L:List EV}(e:(L.map f).Nodup){x:EV}(j:x∈L):F4 f L (f x)=some (Iw x):=by
 unfold F4;cases h:L.find? λy=>f y==f x with
 | none=>grind
 | some y=>
  have h1:=List.find?_some h;have a:=List.mem_of_find?_eq_some h;rw[map_inj e a j (by simpa using h1)];rfl
def RW{f:EV->Int}{L:List EV}{i:Int}{v:Value}(h:F4 f L i=some v): ∃x∈L,f x=i/\v=Iw x:=by
 unfold F4 at h;rw[Option.map_eq_some_iff]at h
 grind
def XH{f:EV->Int}{L L':List EV}(a:(L.map f).Nodup)(e:L.Perm L'):F4 f L=F4 f L':=by
 funext i;cases h:F4 f L' i with
 | none=>rw[M1]at h⊢;grind
 | some v=>
  obtain⟨x,j,rfl,rfl⟩:=RW h;exact nL a (e.mem_iff.2 j)
def PO{f:EV->Int}{L:List EV}{x:EV}:F4 f (x::L)=λi=>if i=f x then some (Iw x)else F4 f L i:=by
 funext i;unfold F4
 grind
def aJ{f:EV->Int}{L:List EV}{x:EV}(a:(L.map f).Nodup)(e: ∀y∈L,f y≠f x):F4 f (HJ L x)=λi=>if i=f x then some (Iw x)else F4 f L i:=by
 rw[<-PO];refine XH ?_ (Ha L x);rw[((Ha L x).map f).nodup_iff,List.map_cons,List.nodup_cons]
 grind
def YK: ∀{L:List EV} (u:(L.map (·.id)).Nodup) {j:Nat} {x:EV},L[j]? =some x->IZ L x.id=L.eraseIdx j
 | a::r,u,0,x,h=>by
  have h:a=x:=Option.some.inj h;subst h;rw[List.map_cons,List.nodup_cons]at u;unfold IZ;rw[List.filter_cons,if_neg (by simp),List.eraseIdx_cons_zero];exact List.filter_eq_self.2 λy K=>by grind
 | a::r,u,j+1,x,h=>by
  rw[List.map_cons,List.nodup_cons]at u;have h:r[j]? =some x:=by grind
  have v:=List.mem_of_getElem? h;have ne:a.id≠x.id:=λe=>u.1 (List.mem_map.2 ⟨x,v,e.symm⟩);have J:=YK u.2 h;unfold IZ at J⊢
  grind
def XI{L:List EV}(e:(L.map (·.id)).Nodup){x:EV}(u:x∈L):L.Perm (x::IZ L x.id):=by
 obtain⟨j,a⟩:=List.mem_iff_getElem?.1 u;rw[YK e a];exact EH a
def aK{f:EV->Int}{L:List EV}{x:EV}(hi:(L.map (·.id)).Nodup)(a:(L.map f).Nodup)(u:x∈L):F4 f (IZ L x.id)=λi=>if i=f x then none else F4 f L i:=by
 have j:=XI hi u;rw[XH a j,PO];funext i;by_cases e:i=f x
 .rw[if_pos e,M1]
  grind
 grind
structure TJ(L:List EV):Prop where
 XJ:Lu (·.base) L
 nd:(L.map (·.id)).Nodup
 Nx:L.length<=1099511627776
structure oI where
 bi:Nat
 bb:Nat
 bm:Nat
 kinds:List Kd
 sl:Kd->AY
def SM(ks:List Kd)(sl:Kd->AY):Kd->Option Value:=λk=>if k∈ks then some (FI (sl k))else none
def V0(E:Env)(sl:Kd->AY)(L:List EV)(k:Kd):Pr:=Row E.DP 1 (sl k) ((Fg L k).map Iw)
def KO(g:oI):List Value:=[.map (some g.bi),.map (some g.bb),.map (some g.bm)]
def Nn(E:Env)(b:Nat)(L:List EV)(g:oI):List Pr:=
 [Cells b E.Et (KO g),CM g.bi .i64 (F4 (·.id) L),CM g.bb .u64 (F4 (·.base) L),MapK g.bm (SM g.kinds g.sl),Aj (V0 E g.sl L) g.kinds,Aj (aI E) L]
structure yZ(L:List EV)(g:oI):Prop where
 inv:TJ L
 kn:g.kinds.Nodup
 ks: ∀x∈L,x.kd∈g.kinds
def F8(E:Env)(b:Nat)(L:List EV):Pr:=Ex λg:oI=>Jt (yZ L g) (Kx (Nn E b L g))
section
variable{E:Env}{w:World}{Z:List Pr}{b:Nat}{L:List EV}{g:oI}
def Sat.Cz:Sat (F8 E b L::Z) w↔ ∃g,yZ L g/\Sat (Nn E b L g++Z) w:=by
 unfold F8;rw[Sat.ex];constructor
 .rintro⟨g,h⟩;rw[Sat.where,Sat.star]at h
  grind
 .rintro⟨g,h1,a⟩;refine⟨g,?_⟩;rw[Sat.where,Sat.star]
  grind
def gA(H:Sat Z w){K:Option Addr->World->Prop}(Y: ∀b w',Sat (F8 E b []::Z) w'->K (sM b) w'):F.Q3 E K w:=by
 unfold F.Q3;refine OK H .i64 λb1 w2 j _=>OK j .u64 λa w4 u _=>iX u λe w6 v _=> ?_;refine AJ (vs:=[.map (some b1),.map (some a),.map (some e)]) v λO w8 J _=>Y O w8 (Sat.Cz.2 ⟨⟨b1,a,e,[],λ_=>⟨none,0,0⟩⟩,⟨⟨.nil,.nil,by decide⟩,.nil,λ_ h=>(by cases h)⟩,?_⟩);have T:=((J.NI (V0 E (λ_=>⟨none,0,0⟩) [])).front 0 rfl).NI (aI E);exact((((T.front 1 rfl).front 3 rfl).front 4 rfl).front 5 rfl).front 5 rfl
end
structure EnvW(E:Env):Prop extends EnvA E where
 sQ: ∀i p1 p2 (R:Value->World->Prop) w,F.Hi E i p1 p2 (λr w'=>R (.bool r) w') w->E.call E.Il #[.int .i64 i,.pointer p1,.pointer p2] w R Fi
section
variable{E:Env}(hE:EnvW E){w:World}
include hE
theorem RX{p:Addr}{bm:Nat}{k:Kd}{a:Int}{s:AY}{l:List EV}{G:Kd->Option Value}{Z:List Pr}(hc:w.cell? (p.add 2)=some (.map (some bm)))(H:Sat (MapK bm G::Z) w)(j:(G k).getD (.slice none 0 0)=FI s)
  (hr:rowAt w s.base s.len (l.map Iw))(hl:l.length=s.len)(aT:s.len<4611686018427387904)(hi: ∀x∈l,w.cell? ⟨x.EC,1,none⟩=some (.int .u64 x.base))(hs:Lu (·.base) l){K:Int->World->Prop}
  (hK: ∀w',Ext AN w w'->K ((pos (·.base) l a:Nat):Int) w'):F.Ds E (some p) k.1 k.2.1 k.2.2.1 k.2.2.2 a K w:=by
 unfold F.Ds T0.Ds;refine AJ (vs:=Np k) (Sat.start w) λb1 w2 H2 e2=>AJ (vs:=[.int .u64 a]) H2 λb3 w4 H4 e4=> ?_;simp only[AK];have H5:=H4.drew;have e5:=H5.Pq 2 rfl;have c5:=H5.front 1 rfl;refine⟨some bm,e5.cell hc (λf=>f),k.1,c5.cell rfl,k.2.1,c5.cell rfl,k.2.2.1,c5.cell rfl,k.2.2.2,c5.cell rfl,?_⟩;refine Xp (n:=k) (H.nothing e5) λes aA=>⟨s,j,?_⟩;refine AJ (vs:=[.slice none 0 0]) H5 λaH aW O aI=> ?_;have aJ:=O.Pq 3 rfl;have u:=O.front 2 rfl;obtain⟨c,aA⟩:=aA;refine⟨⟨c,aI.obj aA (λf=>f)⟩,⟨u.cell rfl,u.cell rfl,u.cell rfl,u.cell rfl,trivial⟩,aJ.cell hc (λf=>f),?_⟩;refine Bm (news:=[FI s]) O rfl (by simp[FI,Value.oneCell']) λaX T=> ?_;refine⟨s,T.AW rfl,?_⟩;have aK:=T.Pq 3 rfl;have hp:=eW (key:=λx:EV=>x.base) l a;refine L9 (λi=>match l[i.toNat]? with|some x=>decide (x.base≥a)|none=>true) (by omega) (by omega) ?_ (pos (λx:EV=>x.base) l a:Nat) (by omega) (by omega) ?_ ?_ λw' J=>hK w' (aK.trans' J)
 .intro i w' aB aS J K' aE;have e:i.toNat<l.length:=by omega
  have j:=List.getElem?_eq_getElem e;simp only[j]at aE;have Y:=(T.nothing J).drew;refine hE.sQ i (sM aH) (sM b3) K' w' ?_;unfold F.Hi;simp only[AK];refine⟨s,Y.AW rfl,?_⟩;have aC:=Y.Pq 3 rfl;have v:rowAt w'.drew s.base s.len (l.map Iw):=Wh hr aC λ_ _ _ f=>f;cases hb:s.base with
  | none=>rw[hb]at v;have:l.map Iw=[]:=v;simp at this;grind
  | some q=>
   rw[hb]at v;simp only[AK];refine⟨⟨aB,by omega⟩,some ⟨l[i.toNat].EC,0,none⟩,by rw[aD,Nat.mul_one];exact v.2 _ _ (by rw[List.getElem?_map,j];rfl),?_⟩;simp only[AK];refine⟨l[i.toNat].base,?_,a,(Y.front 1 rfl).AW rfl,?_⟩
   .rw[add_eq];exact aC.cell (hi _ (List.getElem_mem e)) λf=>f
   .exact aE _ (J.trans' (Ext.drew _ _))
 .intro i aB hi;have e:i.toNat<l.length:=by omega
  have j:=List.getElem?_eq_getElem e;simp only[j];have:=NR (key:=λx:EV=>x.base) j (n:=a) (by omega)
  grind
 .intro i aB hi;have e:i.toNat<l.length:=by omega
  have j:=List.getElem?_eq_getElem e;simp only[j];have:=W8 hs j (n:=a) (by omega)
  grind
end
def y7(g:oI)(k:Kd):AY:=if k∈g.kinds then g.sl k else⟨none,0,0⟩
def On(g:oI)(k:Kd):(SM g.kinds g.sl k).getD (.slice none 0 0)=FI (y7 g k):=by
 unfold SM y7;split<;>rfl
def sR{L:List EV}{k:Kd}(h: ∀x∈L,x.kd≠k):Fg L k=[]:=by
 unfold Fg;rw[List.filter_eq_nil_iff]
 grind
def YL(L:List EV)(k:Kd):(Fg L k).length<=L.length:=List.length_filter_le _ _
def aL(l:List EV): ∀v∈l.map Iw,v.oneCell'=true:=by
 intro v a;obtain⟨x,_,rfl⟩:=List.mem_map.1 a;rfl
section
variable{E:Env}{w:World}{Z:List Pr}{b:Nat}{L:List EV}{g:oI}
def IK{Y:List Pr}(H:Sat (Cells b E.Et (KO g)::Y) w):w.cell? (Addr.mk b 0 none)=some (.map (some g.bi))/\w.cell? ((Addr.mk b 0 none).add 1)=some (.map (some g.bb))/\w.cell? ((Addr.mk b 0 none).add 2)=some (.map (some g.bm)):=
 ⟨H.AW rfl,H.cell rfl,H.cell rfl⟩
def Mc{Y:List Pr}(H:Sat (Aj (aI E) L::Y) w){x:EV}(a:x∈L){j:Nat}{v:Value}(e:(MJ x)[j]? =some v):w.cell? ((Addr.mk x.EC 0 none).add j)=some v:=by
 obtain⟨i,hi⟩:=List.mem_iff_getElem?.1 a;exact(H.FQ hi).cell (by grind)
def Sat.sS(hI:yZ L g)(H:Sat (Nn E b L g++Z) w)(k:Kd):
  Sat (Row E.DP 1 (y7 g k) ((Fg L k).map Iw)::Aj (V0 E g.sl L) (g.kinds.erase k)::Cells b E.Et (KO g)::CM g.bi .i64 (F4 (·.id) L)::CM g.bb .u64 (F4 (·.base) L)::MapK g.bm (SM g.kinds g.sl)::Aj (aI E) L::Z) w:=by
 by_cases hk:k∈g.kinds
 .have H1:=(H.front 4 rfl).KU (List.perm_cons_erase hk);have a:=Sat.Iq.1 H1;have e:V0 E g.sl L k=Row E.DP 1 (y7 g k) ((Fg L k).map Iw):=by unfold V0 y7;grind
  rw[e]at a;exact a
 .have e:y7 g k=⟨none,0,0⟩:=by unfold y7;grind
  rw[e,sR (k:=k) λx j h=>hk (by rw[<-h];exact hI.ks x j),List.erase_of_not_mem hk];exact(H.front 4 rfl).nil E.DP 1
def Sat.sT{L':List EV}{s:AY}{k:Kd}(hI:yZ L g)(J:TJ L')(T: ∀j,j≠k->Fg L' j=Fg L j)(O: ∀x∈L',x.kd=k∨x.kd∈g.kinds)
  (H:Sat (Row E.DP 1 s ((Fg L' k).map Iw)::Aj (V0 E g.sl L) (g.kinds.erase k)::Cells b E.Et (KO g)::CM g.bi .i64 (F4 (·.id) L')::CM g.bb .u64 (F4 (·.base) L')::MapK g.bm (λi=>if i=k then some (FI s)else SM g.kinds g.sl i)::Aj (aI E) L'::Z) w):
  Sat (F8 E b L'::Z) w:=by
 have a:k∉g.kinds.erase k:=λh=>((hI.kn.mem_erase_iff).1 h).1 rfl;refine Sat.Cz.2 ⟨{g with kinds:=k::g.kinds.erase k,sl:=λj=>if j=k then s else g.sl j},⟨J,List.nodup_cons.2 ⟨a,hI.kn.erase k⟩,λx Y=> ?_⟩,?_⟩
 .grind
 .have e1:(λi=>if i=k then some (FI s)else SM g.kinds g.sl i)=SM (k::g.kinds.erase k) (λj=>if j=k then s else g.sl j):=by
   funext i;unfold SM
   grind
  have e2:Aj (V0 E g.sl L) (g.kinds.erase k)=Aj (V0 E (λj=>if j=k then s else g.sl j) L') (g.kinds.erase k):=Aj.congr λj K=>by
   have:j≠k:=λe=>a (e▸K);unfold V0
   grind
  have u:Row E.DP 1 s ((Fg L' k).map Iw)=V0 E (λj=>if j=k then s else g.sl j) L' k:=by unfold V0;grind
  rw[e1,e2,u]at H;have v:=Sat.Iq.2 H;exact(((v.front 4 rfl).front 4 rfl).front 4 rfl).front 4 rfl|>.perm (by
   refine List.Perm.refl _)
def sU{x:EV}(h:TJ L)(h1: ∀y∈L,y.id≠x.id/\y.base≠x.base)(e:L.length<1099511627776):TJ (HJ L x):=by
 refine⟨RV h.XJ λy a=>(h1 y a).2,?_,?_⟩
 .rw[((Ha L x).map _).nodup_iff,List.map_cons,List.nodup_cons];refine⟨λhm=> ?_,h.nd⟩
  grind
 .rw[(Ha L x).length_eq,List.length_cons];omega
def sV(h:TJ L)(id:Int):TJ (IZ L id):=
 ⟨sP h.XJ id,List.Nodup.sublist (List.filter_sublist.map _) h.nd,Nat.le_trans (List.length_filter_le _ _) h.Nx⟩
def aM(id c:Int):Prop:=id<1∨c<0∨68<=c
variable(hE:EnvW E)
include hE
theorem gB(H:Sat (F8 E b L::Z) w){id base c:Int}{np full sw:Bool}(hf:L.length<1099511627776){K:Int->World->Prop}
  (aH:aM id c->K 1 w)(aT: ¬aM id c->(∃x∈L,x.id=id∨x.base=base)->K 34 w)
  (bA: ¬aM id c->(∀x∈L,x.id≠id/\x.base≠base)-> ∀EC w',Sat (F8 E b (HJ L ⟨EC,id,base,(c,np,full,sw)⟩)::Z) w'->K 0 w'):
  F.Fe E (sM b) id base c np full sw K w:=by
 obtain⟨g,hI,H⟩:=Sat.Cz.1 H;unfold F.Fe T0.Fe;simp only[AK,add_add];refine Ad (AE (λh j=>Aa rfl (aH (.inl h))) λn1=>AE (λh j=>Aa rfl (aH (.inr (.inl h)))) λn2 j=>AE (λh=>aH (.inr (.inr h))) λn3=> ?_);have nb: ¬aM id c:=λh=>by rcases h with h|h|h<;>omega
 have hc:=IK H;refine Ad ⟨_,hc.1,Rz (H.front 1 rfl) λes _=> ?_⟩;cases e1:F4 (·.id) L id with
 | some v=>
  obtain⟨x,O,h1,rfl⟩:=RW e1;exact⟨some ⟨x.EC,0,none⟩,rfl,Aa rfl λj=>Aa rfl (aT nb ⟨x,O,.inl h1⟩)⟩
 | none=>
 refine⟨none,rfl,AR rfl ⟨_,hc.2.1,Rz (H.front 2 rfl) λes _=> ?_⟩⟩;cases e2:F4 (·.base) L base with
 | some v=>
  obtain⟨x,O,h1,rfl⟩:=RW e2;exact⟨some ⟨x.EC,0,none⟩,rfl,λj=>Aa rfl (aT nb ⟨x,O,.inr h1⟩)⟩
 | none=>
 refine⟨none,rfl,λj=>AR rfl ?_⟩;have bC: ∀x∈L,x.id≠id/\x.base≠base:=λx O=>⟨M1.1 e1 x O,M1.1 e2 x O⟩;have H0:=H.sS hI (c,np,full,sw);refine AJ (vs:=[.int .i64 id,.int .u64 base,.int .i64 c,.bool np,.bool full,.bool sw]) H0 λJ bS aX _=> ?_;have aN:=aX.drew;have aS:=IK (aN.front 3 rfl);refine⟨_,aS.1,_,aS.2.1,?_⟩;refine iY (aN.front 4 rfl) λbT aO=> ?_;have aB:=Sat.back (Ps:=_::_::_::_::_::_::_::_::Z) 4 aO;refine iY (aB.front 5 rfl) λbU aP=> ?_;have e:=Sat.back (Ps:=_::_::_::_::_::_::_::_::Z) 5 aP;simp only[List.set_cons_succ,List.set_cons_zero]at e;clear aO aB aP;obtain⟨x,O⟩: ∃x:EV,x=⟨J,id,base,(c,np,full,sw)⟩:=⟨_,rfl⟩;have hk:x.kd=(c,np,full,sw):=by rw[O]
 have m1:(λi=>if i=id then some (Value.pointer (some (Addr.mk J 0 none)))else F4 (·.id) L i)=F4 (·.id) (HJ L x):=by
  rw[aJ hI.inv.nd (by grind),O];rfl
 have m2:(λi=>if i=base then some (Value.pointer (some (Addr.mk J 0 none)))else F4 (·.base) L i)=F4 (·.base) (HJ L x):=by
  rw[aJ (XG hI.inv.XJ) (by grind),O];rfl
 rw[m1,m2]at e;refine⟨c,e.cell rfl,np,e.cell rfl,full,e.cell rfl,sw,e.cell rfl,?_⟩;have hlen: ∀{w':World} {Y:List Pr} {s:AY},Sat (Row E.DP 1 s ((Fg L (c,np,full,sw)).map Iw)::Y) w'->(Fg L (c,np,full,sw)).length=s.len:=λh=>by simpa using h.CK
 have bB:=hlen (e.front 1 rfl);have bO:=YL L (c,np,full,sw);have bG:=(e.front 1 rfl).own.cap;refine RX (k:=(c,np,full,sw)) hE (IK (e.front 3 rfl)).2.2 (e.front 6 rfl) (On _ _) (by simpa using(e.front 1 rfl).LP) bB (by omega) (λy hy=> ?_) (K6 hI.inv.XJ _) λbV a5=> ?_
 .have:=Mc (e.front 7 rfl) (FF.1 hy).1 (j:=1) rfl;rwa[add_eq]at this
 have hp:=eW (key:=λx:EV=>x.base) (Fg L (c,np,full,sw)) base;generalize hpp:pos (λx:EV=>x.base) (Fg L (c,np,full,sw)) base=i at *
 have aA:=(e.nothing a5).drew;have a3:=IK (aA.front 3 rfl);have d38: ∀{Y:List Pr} {w':World},Sat (Cells J E.Hv [.int .i64 id,.int .u64 base,.int .i64 c,.bool np,.bool full,.bool sw]::Y) w'->w'.cell? ((Addr.mk J 0 none).add (2+0))=some (.int .i64 c)/\w'.cell? ((Addr.mk J 0 none).add (2+1))=some (.bool np)/\w'.cell? ((Addr.mk J 0 none).add (2+2))=some (.bool full)/\w'.cell? ((Addr.mk J 0 none).add (2+3))=some (.bool sw):=
  λh=>⟨h.cell rfl,h.cell rfl,h.cell rfl,h.cell rfl⟩
 obtain⟨d0,d1,d2,d3⟩:=d38 aA;refine⟨_,a3.2.2,c,d0,np,d1,full,d2,sw,d3,Xp (n:=(c,np,full,sw)) (aA.front 6 rfl) λes aG=>⟨_,On _ _,?_⟩⟩;refine AJ (vs:=[.pointer none]) aA λbJ bW aC a6=> ?_;obtain⟨cc,aG⟩:=aG;obtain⟨d0,d1,d2,d3⟩:=d38 (aC.front 1 rfl);refine⟨⟨cc,a6.obj aG λf=>f⟩,⟨d0,d1,d2,d3,trivial⟩,(IK (aC.front 4 rfl)).2.2,?_⟩;refine GH (aC.BQ 1 rfl) rfl rfl (by simp[Value.oneCell']) (by omega) (by omega) λQW bX T bH=> ?_;obtain⟨d0,d1,d2,d3⟩:=d38 (T.front 1 rfl);have aY:=T.drew;have aV:=T.own.cap;have aW:=T.own.top;rw[show i64 ((i:Int)+1)=((i+1:Nat):Int) by rw[AI];rfl,Int.toNat_natCast,Int.toNat_natCast];refine⟨⟨d0,d1,d2,d3,trivial⟩,(IK (T.front 3 rfl)).2.2,⟨by omega,by omega⟩,⟨by omega,by omega⟩,?_⟩;refine CPY_up aY (aL _) (by simpa using hp) λbR bY u aQ=> ?_;obtain⟨bb,aF⟩:=aQ.own.G7 (by omega);rw[aF];simp only[AK];refine⟨⟨by omega,by omega⟩,?_⟩;rw[aD,Int.toNat_natCast,show i*1=i by omega];refine Ko aQ (j:=i) rfl (by simp;omega) aF λbZ aZ=> ?_;have aE:=aZ.drew;have a4:=IK (aE.front 3 rfl);obtain⟨d0,d1,d2,d3⟩:=d38 (aE.front 1 rfl);refine⟨_,a4.2.2,c,d0,np,d1,full,d2,sw,d3,?_⟩
 try rw[<-aF]
 refine Xq (n:=(c,np,full,sw)) (aE.front 6 rfl) λaK a0=> ?_;have aR:=Sat.back (Ps:=_::_::_::_::_::_::_::_::Z) 6 a0;simp only[List.set_cons_succ,List.set_cons_zero]at aR;refine bA nb bC J aK ?_;rw[<-O];have hb: ∀y∈L,y.base≠x.base:=by grind
 have er:(List.take i ((Fg L (c,np,full,sw)).map Iw)++u::List.drop i ((Fg L (c,np,full,sw)).map Iw)).set i (Iw x)=(Fg (HJ L x) (c,np,full,sw)).map Iw:=by
  rw[<-hk,yY hI.inv.XJ hb];unfold HJ;rw[hk,show x.base=base by rw[O],hpp,List.map_append,List.map_cons,List.map_take,List.map_drop,List.set_append_right _ _ (by simp;omega)];congr 1;rw[show i-(List.take i ((Fg L (c,np,full,sw)).map Iw)).length=0 by simp;omega];rfl
 have a1:Sat (Row E.DP 1 QW ((Fg (HJ L x) (c,np,full,sw)).map Iw)::aI E x::Aj (V0 E g.sl L) (g.kinds.erase (c,np,full,sw))::Cells b E.Et (KO g)::CM g.bi .i64 (F4 (·.id) (HJ L x))::CM g.bb .u64 (F4 (·.base) (HJ L x))::MapK g.bm (λi=>if i=(c,np,full,sw)then some (FI QW)else SM g.kinds g.sl i)::Aj (aI E) L::Z) aK:=by
  have a8:aI E x=Cells J E.Hv [.int .i64 id,.int .u64 base,.int .i64 c,.bool np,.bool full,.bool sw]:=by rw[O];rfl
  have a7:Iw x= .pointer (sM J):=by rw[O];rfl
  rw[<-er,a8,a7];exact aR
 have a2:Sat (Aj (aI E) (HJ L x)::Row E.DP 1 QW ((Fg (HJ L x) (c,np,full,sw)).map Iw)::Aj (V0 E g.sl L) (g.kinds.erase (c,np,full,sw))::Cells b E.Et (KO g)::CM g.bi .i64 (F4 (·.id) (HJ L x))::CM g.bb .u64 (F4 (·.base) (HJ L x))::MapK g.bm (λi=>if i=(c,np,full,sw)then some (FI QW)else SM g.kinds g.sl i)::Z) aK:=
  (Sat.Iq.2 ((a1.front 7 rfl).front 2 rfl)).KU (Ha L x).symm
 refine Sat.sT (s:=QW) (k:=(c,np,full,sw)) hI (sU hI.inv (by grind) hf) (λj hj=>fZ hI.inv.XJ hb (by rw[hk];exact Ne.symm hj)) (λy hy=> ?_) (a2.perm ?_)
 .rcases DY.1 hy with rfl|hy
  .grind
  .exact .inr (hI.ks y hy)
 .exact(List.perm_middle (a:=Aj (aI E) (HJ L x)) (l₁:=[_,_,_,_,_,_]) (l₂:=Z)).symm
end
def gC{L:List EV}{x:EV}{k:Kd}(a:(L.map (·.id)).Nodup)(j:x∈L)(h:x.kd≠k):Fg (IZ L x.id) k=Fg L k:=by
 unfold Fg IZ;rw[List.filter_filter];refine List.filter_congr λy u=> ?_;by_cases e:y.kd=k
 .have:y.id≠x.id:=λe2=>h (by rw[<-e,map_inj a u j e2])
  grind
 .simp[e]
def y8{L:List EV}{x:EV}(e:Lu (·.base) L)(a:(L.map (·.id)).Nodup)(j:x∈L):Fg (IZ L x.id) x.kd=(Fg L x.kd).eraseIdx (pos (·.base) (Fg L x.kd) x.base):=by
 have h1:Fg (IZ L x.id) x.kd=IZ (Fg L x.kd) x.id:=by
  unfold Fg IZ;rw[List.filter_filter,List.filter_filter]
  grind
 rw[h1];have hm:x∈Fg L x.kd:=FF.2 ⟨j,rfl⟩;exact YK (List.Nodup.sublist (List.filter_sublist.map _) a) (jT (K6 e _) hm rfl)
section
variable{E:Env}{w:World}{Z:List Pr}{b:Nat}{L:List EV}{g:oI}(hE:EnvW E)
include hE
theorem VU(H:Sat (F8 E b L::Z) w){id:Int}{K:Int->World->Prop}(aN:(∀x∈L,x.id≠id)->K 35 w)(aM: ∀x∈L,x.id=id-> ∀w',Sat (F8 E b (IZ L id)::Z) w'->K 0 w'):
  F.DT E (sM b) id K w:=by
 obtain⟨g,hI,H⟩:=Sat.Cz.1 H;unfold F.DT T0.DT;simp only[AK,add_add];have hc:=IK H;refine⟨_,hc.1,Rz (H.front 1 rfl) λes _=> ?_⟩;cases e1:F4 (·.id) L id with
 | none=>exact⟨none,rfl,Aa rfl (aN (M1.1 e1))⟩
 | some v=>
 obtain⟨x,e,Kv,rfl⟩:=RW e1;subst Kv;refine⟨some ⟨x.EC,0,none⟩,rfl,AR rfl ⟨_,hc.1,?_⟩⟩;simp only[AK];have H0:=H.sS hI x.kd;refine Qw (H0.front 3 rfl) λw9 H9=> ?_;have O:=(Sat.back (Ps:=_::_::_::_::_::_::_::Z) 3 H9).drew;have ic: ∀{w':World} {Y:List Pr},Sat (Aj (aI E) L::Y) w'->w'.cell? ((Addr.mk x.EC 0 none).add 1)=some (.int .u64 x.base)/\w'.cell? ((Addr.mk x.EC 0 none).add (2+0))=some (.int .i64 x.kd.1)/\w'.cell? ((Addr.mk x.EC 0 none).add (2+1))=some (.bool x.kd.2.1)/\w'.cell? ((Addr.mk x.EC 0 none).add (2+2))=some (.bool x.kd.2.2.1)/\w'.cell? ((Addr.mk x.EC 0 none).add (2+3))=some (.bool x.kd.2.2.2):=
  λh=>⟨Mc h e rfl,Mc h e rfl,Mc h e rfl,Mc h e rfl,Mc h e rfl⟩
 obtain⟨i1,_⟩:=ic (O.front 6 rfl);refine⟨_,(IK (O.front 2 rfl)).2.1,x.base,i1,Qw (O.front 4 rfl) λa3 aD=> ?_⟩;have u:=Sat.back (Ps:=_::_::_::_::_::_::_::Z) 4 aD;simp only[List.set_cons_succ,List.set_cons_zero]at u;clear H9 O aD i1;have m1:(λi=>if i=x.id then none else F4 (·.id) L i)=F4 (·.id) (IZ L x.id):=(aK (f:=(·.id)) hI.inv.nd hI.inv.nd e).symm;have m2:(λi=>if i=x.base then none else F4 (·.base) L i)=F4 (·.base) (IZ L x.id):=(aK (f:=(·.base)) hI.inv.nd (XG hI.inv.XJ) e).symm;rw[m1,m2]at u;obtain⟨j1,j2,j3,j4,j5⟩:=ic (u.front 6 rfl);refine⟨_,j2,_,j3,_,j4,_,j5,_,j1,?_⟩;have aO:(Fg L x.kd).length=(y7 g x.kd).len:=by simpa using u.CK
 have a0:=YL L x.kd;have aV:=hI.inv.Nx;have J:=u.drew;refine RX (k:=x.kd) hE (IK (J.front 2 rfl)).2.2 (J.front 5 rfl) (On _ _) (by simpa using J.LP) aO (by omega) (λy hy=> ?_) (K6 hI.inv.XJ _) λa4 aH=> ?_
 .have:=Mc (J.front 6 rfl) (FF.1 hy).1 (j:=1) rfl;rwa[add_eq]at this
 have hm:x∈Fg L x.kd:=FF.2 ⟨e,rfl⟩;have aJ:=jT (K6 hI.inv.XJ x.kd) hm (n:=x.base) rfl;have hp:=(List.getElem?_eq_some_iff.1 aJ).1;have aP:=y8 hI.inv.XJ hI.inv.nd e;generalize hpp:pos (λx:EV=>x.base) (Fg L x.kd) x.base=i at *
 have T:=(J.nothing aH).drew;obtain⟨_,j2,j3,j4,j5⟩:=ic (T.front 6 rfl);refine⟨_,(IK (T.front 2 rfl)).2.2,_,j2,_,j3,_,j4,_,j5,Xp (n:=x.kd) (T.front 5 rfl) λes aY=>⟨_,On _ _,?_⟩⟩;have aA:=T.drew;obtain⟨_,j2,j3,j4,j5⟩:=ic (aA.front 6 rfl);have aU:=aA.own.cap;rw[show i64 ((i:Int)+1)=((i+1:Nat):Int) by rw[AI];rfl,Int.toNat_natCast,Int.toNat_natCast];refine⟨_,(IK (aA.front 2 rfl)).2.2,_,j2,_,j3,_,j4,_,j5,⟨by omega,by omega⟩,⟨by omega,by omega⟩,?_⟩;refine yX aA (aL _) (by simpa using hp) λoG a5 aB=> ?_;obtain⟨_,j2,j3,j4,j5⟩:=ic (aB.front 6 rfl);refine⟨⟨j2,j3,j4,j5,trivial⟩,(IK (aB.front 2 rfl)).2.2,Xq (n:=x.kd) (aB.front 5 rfl) λaR aF=> ?_⟩;have aC:=Sat.back (Ps:=_::_::_::_::_::_::_::Z) 5 aF;simp only[List.set_cons_succ,List.set_cons_zero]at aC;refine aM x e rfl aR ?_;have er:((Fg L x.kd).map Iw).eraseIdx i=(Fg (IZ L x.id) x.kd).map Iw:=by rw[aP,Ip]
 rw[er]at aC;have aG:=(Sat.Iq.1 ((aC.front 6 rfl).KU (XI hI.inv.nd e))).tail;refine Sat.sT (s:=oG) (k:=x.kd) hI (sV hI.inv x.id) (λj hj=>gC hI.inv.nd e (Ne.symm hj)) (λy hy=>.inr (hI.ks y (Jo.1 hy).1)) (aG.perm ?_);exact(List.perm_middle (a:=Aj (aI E) (IZ L x.id)) (l₁:=[_,_,_,_,_,_]) (l₂:=Z)).symm
theorem TK(H:Sat (F8 E b L::Z) w){k:Kd}{K:Int->Bool->World->Prop}(O:Fg L k=[]->K 0 false w)(T: ∀x r,Fg L k=x::r-> ∀w',Sat (F8 E b (IZ L x.id)::Z) w'->K x.id true w'):
  F.E0 E (sM b) k.1 k.2.1 k.2.2.1 k.2.2.2 K w:=by
 have HS:=H;obtain⟨g,hI,H⟩:=Sat.Cz.1 H;unfold F.E0 T0.E0;simp only[AK];have J:=H.sS hI k;have u:(Fg L k).length=(y7 g k).len:=by simpa using J.CK
 refine⟨_,(IK H).2.2,Xp (n:=k) (H.front 3 rfl) λes aC=>⟨_,On _ _,C6 (λe=> ?_) λe=> ?_⟩⟩
 .exact O (List.eq_nil_of_length_eq_zero (by omega))
 .cases hr:Fg L k with
  | nil=>grind
  | cons x r=>
   have Y:x∈L:=(FF.1 (by rw[hr];exact List.mem_cons_self:x∈Fg L k)).1;rw[hr]at J u;simp at u;refine J.O6 (j:=0) (v:=Iw x) rfl λa ha hc=>⟨⟨by omega,by omega⟩,some ⟨x.EC,0,none⟩,hc,?_⟩;simp only[AK];have hi:=Mc (H.front 5 rfl) Y (j:=0) rfl;rw[add_zero]at hi;refine⟨x.id,hi,VU hE HS (λh=>absurd rfl (h x Y)) λy hy he w' H'=>T x r hr w' H'⟩
end
def YM{k:Kd}{K:kY (.agg [.int .i64,.bool,.bool,.bool])->Prop}(h:K (k.1,k.2.1,k.2.2.1,k.2.2.2,())):unVT (.agg [.int .i64,.bool,.bool,.bool]) (.agg ⟨Np k⟩) K:=h
def YN{s:AY}{K:AY->Prop}(h:K s):vH (FI s) K:=h
def Tg(L:List EV)(sw:Bool)(done:List Kd):Nat:=(done.map λk=>if k.2.2.2=sw then(Fg L k).length else 0).sum
def YO(L:List EV)(sw:Bool):Nat:=(L.filter λx=>x.Ei==sw).length
def sW(L:List EV)(sw:Bool)(d:List Kd)(k:Kd):Tg L sw (d++[k])=Tg L sw d+if k.2.2.2=sw then(Fg L k).length else 0:=by simp[Tg]
def SN(x:EV)(L:List EV)(sw:Bool): ∀(d:List Kd),d.Nodup->Tg (x::L) sw d=Tg L sw d+if x.kd∈d/\x.Ei=sw then 1 else 0
 | [],_=>by simp[Tg]
 | k::d,hn=>by
  rw[List.nodup_cons]at hn;have a:=SN x L sw d hn.2;have e:Fg (x::L) k=if x.kd=k then x::Fg L k else Fg L k:=by
   unfold Fg
   grind
  unfold Tg at a⊢
  grind
def SO(sw:Bool): ∀d:List Kd,Tg [] sw d=0
 | []=>rfl
 | k::d=>by
  have:=SO sw d;unfold Tg at this⊢;rw[List.map_cons,List.sum_cons,this];split<;>rfl
def aN: ∀{L:List EV} {sw:Bool} {d:List Kd},d.Nodup->(∀x∈L,x.kd∈d)->Tg L sw d=YO L sw
 | [],sw,d,_,_=>SO sw d
 | x::L,sw,d,hn,h=>by
  have e:=aN (L:=L) (sw:=sw) hn λy a=>h y (List.mem_cons_of_mem _ a);rw[SN x L sw d hn,e];unfold YO
  grind
def y9(L:List EV)(sw:Bool){d:List Kd}(a:d.Nodup):Tg L sw d<=L.length:=by
 induction L with
 | nil=>rw[SO];omega
 | cons x L ih=>
  rw[SN x L sw d a,List.length_cons]
  grind
section
variable{E:Env}{w:World}{Z:List Pr}{b:Nat}{L:List EV}{g:oI}
def NW(H:Sat (F8 E b L::Z) w){sw:Bool}{K:Int->World->Prop}(hK: ∀w',Sat (F8 E b L::Z) w'->K ((YO L sw:Nat):Int) w'):F.GG E (sM b) sw K w:=by
 obtain⟨g,hI,H⟩:=Sat.Cz.1 H;unfold F.GG;simp only[AK];have aK:=hI.inv.Nx;refine⟨_,(IK H).2.2,Xs (H.front 3 rfl) λr4 N w5 H5=> ?_⟩;refine AM (λst w'=> ∃cur done N',st.1=(Tg L sw done:Nat)/\Sat (PT r4 g.bm (SM g.kinds g.sl) cur done N'::(Nn E b L g++Z).eraseIdx 3) w') (λ_ w'=>NK r4 g.bm w') ⟨none,[],N,rfl,H5⟩ ?_;rintro⟨n,u⟩ _ w7 ⟨cur,done,N',hn,H7⟩;dsimp only at hn⊢;subst hn;rw[H7.Mn];refine Ad (SB H7 (λaG Y aA j=>Ad (AR rfl ?_)) λk v aX N2 aS aT hN T j=>Ad (Aa rfl λj2=>Ud T λv' S' a=> ?_))
 .rw[aN Y.Zd.1 λx hx=>(aA _).2 (by unfold SM;rw[if_pos (hI.ks x hx)];grind)];exact hK aG (Sat.Cz.2 ⟨g,hI,Sat.back (Ps:=Nn E b L g++Z) 3 Y.iZ (by simp[Nn])⟩)
 .have hk:k∈g.kinds:=by
   unfold SM at a;by_cases h:k∈g.kinds
   .exact h
   .rw[if_neg h]at a;cases a
  have aE:v'=FI (g.sl k):=by unfold SM at a;rw[if_pos hk]at a;exact(Option.some.inj a).symm
  subst aE;have hlen:(Fg L k).length=(g.sl k).len:=by
   obtain⟨i,hi⟩:=List.mem_iff_getElem?.1 hk;have:=((H.front 4 rfl).FQ hi).CK
   grind
  refine YM (YN (AJ (vs:=[.int .i64 0,.bool false,.bool false,.bool false]) T λaP aY aC _=> ?_));refine Bm (news:=Np k) aC rfl (by simp[Np,Value.oneCell']) λaH O=>⟨k.2.2.2,O.cell rfl,?_⟩;have aB:(done++[k]).Nodup:=T.Zd.1;have hle:=y9 L sw aB;have J:=sW L sw done k;have hm:NK r4 g.bm aH<N':=by rw[(O.front 1 rfl).Mn];exact hN
  by_cases e:k.2.2.2=sw
  .rw[if_pos e]at J;refine Aa (by simp[e]) (AZ λt ht=>⟨⟨some k,done++[k],N2,?_,O.tail⟩,hm⟩);show t=_;rw[ht,J,AI];omega
  .rw[if_neg e]at J;refine AR (by grind) ⟨⟨some k,done++[k],N2,?_,O.tail⟩,hm⟩;omega
end
def Kf(k:Kd):Kd:=(k.1,k.2.1,k.2.2.1,false)
def M3(k:Kd):Kd:=(k.1,k.2.1,k.2.2.1,true)
def EV.flip(x:EV):EV:={x with kd:=Kf x.kd}
def nM{L:List EV}{sw:Bool}(h:YO L sw=0): ∀x∈L,x.Ei≠sw:=by
 intro x a e;unfold YO at h;rw[List.length_eq_zero_iff,List.filter_eq_nil_iff]at h
 grind
def VV(L:List EV)(x:EV):Prop:=x∈L/\x.Ei=false/\ ∀y∈L,y.Ei=false->x.base<=y.base
def kD(L:List EV)(done:List Kd)(p:Option Addr):Prop:=
 (p=none/\ ∀k∈done,k.2.2.2=false->Fg L k=[])∨ ∃x∈L,p=some ⟨x.EC,0,none⟩/\x.Ei=false/\ ∀k∈done,k.2.2.2=false-> ∀y∈Fg L k,x.base<=y.base
section
variable{E:Env}{w:World}{Z:List Pr}{b:Nat}{L:List EV}{g:oI}
def sX{Y:List Pr}(H:Sat (Aj (V0 E g.sl L) g.kinds::Y) w){k:Kd}(a:k∈g.kinds):rowAt w (g.sl k).base (g.sl k).len ((Fg L k).map Iw)/\(Fg L k).length=(g.sl k).len:=by
 obtain⟨i,hi⟩:=List.mem_iff_getElem?.1 a;have h:=H.FQ hi;exact⟨by simpa using h.LP,by simpa using h.CK⟩
def kE{q:List EV}{s:AY}(h:rowAt w s.base s.len (q.map Iw)){i:Nat}{x:EV}(hi:q[i]? =some x): ∃a,s.base=some a/\w.cell? (a.add (i*1))=some (Iw x):=by
 cases hb:s.base with
 | none=>rw[hb]at h;have:q.map Iw=[]:=h;simp at this;grind
 | some a=>rw[hb]at h;exact⟨a,rfl,by rw[Nat.mul_one];exact h.2 i _ (by grind)⟩
def kF{k:Kd}{v:Value}(h:SM g.kinds g.sl k=some v):k∈g.kinds/\v=FI (g.sl k):=by
 unfold SM at h
 grind
def kdM_ne{k:Kd}(h:k∈g.kinds):SM g.kinds g.sl k≠none:=by unfold SM;grind
def RY(H:Sat (F8 E b L::Z) w){K:Int->Bool->World->Prop}(aV:(∀x∈L,x.Ei=true)-> ∀w',Sat (F8 E b L::Z) w'->K 0 false w')(aW: ∀x,VV L x-> ∀w',Sat (F8 E b L::Z) w'->K x.id true w'):
  F.GD E (sM b) K w:=by
 obtain⟨g,hI,H⟩:=Sat.Cz.1 H;unfold F.GD;simp only[AK];refine⟨_,(IK H).2.2,Xs (H.front 3 rfl) λr4 N w5 H5=> ?_⟩;refine AM (λst w'=> ∃cur done N',kD L done st.1/\Sat (PT r4 g.bm (SM g.kinds g.sl) cur done N'::(Nn E b L g++Z).eraseIdx 3) w') (λ_ w'=>NK r4 g.bm w') ⟨none,[],N,.inl ⟨rfl,λk hk=>by cases hk⟩,H5⟩ ?_;rintro⟨p,u⟩ _ w7 ⟨cur,done,N',hp,H7⟩;dsimp only at hp⊢;rw[H7.Mn];have aC: ∀{w'} {cur done N},Sat (PT r4 g.bm (SM g.kinds g.sl) cur done N::(Nn E b L g++Z).eraseIdx 3) w'-> ∀{x},x∈L->w'.cell? (Addr.mk x.EC 0 none)=some (.int .i64 x.id)/\w'.cell? ((Addr.mk x.EC 0 none).add 1)=some (.int .u64 x.base):=λh x O=>
  ⟨by have:=Mc (h.front 5 rfl) O (j:=0) rfl;rwa[add_zero]at this,Mc (h.front 5 rfl) O (j:=1) rfl⟩
 refine Ad (SB H7 (λaD aG aJ j=>Ad (AR rfl ?_)) λk v bG N2 bB bD hN aH j=>Ad (Aa rfl λj2=>Ud aH λv' S' aY=> ?_))
 .have hb:Sat (F8 E b L::Z) aD:=Sat.Cz.2 ⟨g,hI,Sat.back (Ps:=Nn E b L g++Z) 3 aG.iZ (by simp[Nn])⟩;have hd: ∀x∈L,x.kd∈done:=λx O=>(aJ _).2 (kdM_ne (hI.ks x O));rcases hp with ⟨rfl,h0⟩|⟨x,O,rfl,h1,h2⟩
  .refine Aa rfl (aV (λx O=> ?_) aD hb);cases e:x.Ei with
   | true=>rfl
   | false=>
    have:=h0 _ (hd x O) e;have h3:x∈Fg L x.kd:=FF.2 ⟨O,rfl⟩
    grind
  .refine AR rfl ?_;simp only[AK];exact⟨x.id,(aC aG O).1,aW x ⟨O,h1,λy T e=>h2 _ (hd y T) e y (FF.2 ⟨T,rfl⟩)⟩ aD hb⟩
 .obtain⟨hk,rfl⟩:=kF aY;refine YM (YN (AJ (vs:=[.int .i64 0,.bool false,.bool false,.bool false]) aH λa8 bH aQ _=> ?_));refine Bm (news:=Np k) aQ rfl (by simp[Np,Value.oneCell']) λY aR=> ?_;have aI:=aR.drew;have J:=aI.tail;obtain⟨aL,hlen⟩:=sX (J.front 4 rfl) hk;have hm: ∀w',w'=Y.drew->NK r4 g.bm w'<N':=λw' e=>by rw[e,J.Mn];exact hN
  refine Ad ⟨k.2.2.2,aI.cell rfl,?_⟩;have EB:(k.2.2.2=false->Fg L k=[]∨ ∃x∈L,p=some ⟨x.EC,0,none⟩/\ ∀y∈Fg L k,x.base<=y.base)->kD L (done++[k]) p:=λhq=>by
   rcases hp with ⟨h0,h1⟩|⟨x,O,h0,h1,h2⟩
   .refine .inl ⟨h0,λk' aB e=> ?_⟩
    grind
   .refine .inr ⟨x,O,h0,h1,λk' aB e y T=> ?_⟩
    grind
  cases hs:k.2.2.2 with
  | true=>exact AR rfl λj=>AR rfl ⟨⟨_,_,N2,EB (λh=>by grind),J⟩,hm _ rfl⟩
  | false=>
  refine Aa rfl (AE (λa4=> ?_) λbE=> ?_)
  .obtain⟨x,r,hr⟩: ∃x r,Fg L k=x::r:=by
    cases h:Fg L k with
    | nil=>grind
    | cons x r=>grind
   have aN:=FF.1 (show x∈Fg L k by rw[hr];exact List.mem_cons_self);have a3: ∀y∈Fg L k,x.base<=y.base:=λy T=>by
    have aM:=K6 hI.inv.XJ k;rw[hr]at T aM;rcases List.mem_cons.1 T with rfl|T
    .omega
    .exact Int.le_of_lt ((List.pairwise_cons.1 aM).1 y T)
   obtain⟨a,ha,hc⟩:=kE aL (i:=0) (x:=x) (by grind);have take:(∀y,p=some (Addr.mk y 0 none)-> ∀z∈L,z.EC=y->x.base<z.base)->kD L (done++[k]) (sM x.EC):=λhq=>by
    refine .inr ⟨x,aN.1,rfl,by grind,λk' aB e y T=> ?_⟩;rcases List.mem_append.1 aB with h|h
    .rcases hp with ⟨h0,h1⟩|⟨z,hz,h0,h1,h2⟩
     .grind
     grind
    grind
   have aA:(∀y,p=some (Addr.mk y 0 none)-> ∀z∈L,z.EC=y->x.base<z.base)-> ∀j:Nat->Value,CND true
     (NC (g.sl k).base λaZ=>((0:Int)<=0/\(0:Int)<((g.sl k).len:Nat))/\ ∃aO:Option Addr,Y.drew.cell? (aZ.add (Int.toNat 0*1))=some (.pointer aO)/\((∃cur done N',kD L done aO/\Sat (PT r4 g.bm (SM g.kinds g.sl) cur done N'::(Nn E b L g++Z).eraseIdx 3) Y.drew)/\NK r4 g.bm Y.drew<N')) False:=λhq j=>by
    refine Aa rfl ?_;rw[ha];simp only[AK];exact⟨⟨by decide,by omega⟩,_,hc,⟨_,_,N2,take hq,J⟩,hm _ rfl⟩
   rcases hp with ⟨rfl,h1⟩|⟨z,hz,rfl,h1,h2⟩
   .exact Aa rfl λj=>aA (λy T=>by cases T) j
   .refine AR rfl ?_;rw[ha];simp only[AK];refine⟨⟨by decide,by omega⟩,_,hc,?_⟩;simp only[AK];refine⟨_,(aC J aN.1).2,_,(aC J hz).2,λj=>AE (λbC=> ?_) λbA=> ?_⟩
    .have:=aA (λy T z' bF e=>by grind) j;rw[ha]at this;simpa only[o8,AK]using this
    grind
  .refine λj=>AR rfl ⟨⟨_,_,N2,EB (λ_=>.inl (List.eq_nil_of_length_eq_zero (by omega))),J⟩,hm _ rfl⟩
end
def aO{α:Type}: ∀{l:List α} {i:Nat} {x:α},l.Nodup->l[i]? =some x->x∉l.eraseIdx i
 | [],i,x,_,h=>by simp at h
 | y::l,0,x,hn,h=>by grind
 | y::l,i+1,x,hn,h=>by
  have h:l[i]? =some x:=by grind
  rw[List.eraseIdx_cons_succ];have h1:=List.nodup_cons.1 hn;intro hm;rcases List.mem_cons.1 hm with e|hm
  .grind
  .exact aO h1.2 h hm
def JT(L:List EV):List EV:=L.map EV.flip
def cH(E:Env)(c:EV->Bool)(x:EV):Pr:=aI E (if c x=true then x.flip else x)
def sY{L:List EV}(h:Lu (·.base) L):Lu (·.base) (JT L):=List.Pairwise.map _ (λa b h=>h) h
def sZ{L:List EV}(h:TJ L):TJ (JT L):=⟨sY h.XJ,by
 have:(JT L).map (·.id)=L.map (·.id):=by unfold JT;rw[List.map_map];rfl
 rw[this];exact h.nd,by unfold JT;rw[List.length_map];exact h.Nx⟩
def SQ{f:EV->Int}(a: ∀x:EV,f x.flip=f x): ∀L:List EV,F4 f (JT L)=F4 f L
 | []=>rfl
 | x::L=>by
  show F4 f (x.flip::JT L)=_;rw[PO,PO,SQ a L,a];rfl
def LG{k:Kd}(h:k.2.2.2=true):M3 (Kf k)=k:=by
 obtain⟨a,b,c,d⟩:=k;have:d=true:=h;subst this;rfl
def SR{k:Kd}(h:k.2.2.2=false):Kf (M3 k)=k:=by
 obtain⟨a,b,c,d⟩:=k;have:d=false:=h;subst this;rfl
def tA{L:List EV}(j: ∀x∈L,x.Ei=true){k:Kd}(a:k.2.2.2=false):(Fg (JT L) k).map Iw=(Fg L (M3 k)).map Iw:=by
 unfold Fg JT;rw[List.filter_map,List.map_map];have:L.filter ((λx=>decide (x.kd=k))∘EV.flip)=L.filter λx=>decide (x.kd=M3 k):=by
  refine List.filter_congr λx u=> ?_;show decide (Kf x.kd=k)=decide (x.kd=M3 k);refine decide_eq_decide.2 ⟨λe=> ?_,λe=> ?_⟩
  .rw[<-e,LG (j x u)]
  .rw[e,SR a]
 rw[this];rfl
def nN(L:List EV)(sl:Kd->AY)(done:List Kd):Kd->Option Value:=λk=>if k.2.2.2=false/\M3 k∈done/\Fg L (M3 k)≠ []then some (FI (sl (M3 k)))else none
def tB{L:List EV}{sl:Kd->AY}{done:List Kd}{k:Kd}(h:k.2.2.2=false∨Fg L k=[]):nN L sl (done++[k])=nN L sl done:=by
 funext j;unfold nN;by_cases e:M3 j=k
 .have: ¬(j.2.2.2=false/\M3 j∈done++[k]/\Fg L (M3 j)≠ []):=λ⟨_,_,q⟩=>by
   rcases h with h|h
   .rw[<-e]at h;cases h
   grind
  grind
 .simp[e]
def zA{L:List EV}{sl:Kd->AY}{done:List Kd}{k:Kd}(h1:k.2.2.2=true)(a:Fg L k≠ []):(λj=>if j=Kf k then some (FI (sl k))else nN L sl done j)=nN L sl (done++[k]):=by
 funext j;unfold nN;by_cases e:j=Kf k
 .rw[if_pos e];have:M3 j=k:=by rw[e,LG h1]
  rw[this,if_pos ⟨by rw[e];rfl,by simp,a⟩]
 .rw[if_neg e];by_cases hj:j.2.2.2=false
  .have:M3 j≠k:=λh=>e (by rw[<-h,SR hj]);simp[this]
  grind
section
variable{E:Env}{w:World}{Z:List Pr}{b:Nat}{L:List EV}{g:oI}
def aP(H:Sat (F8 E b L::Z) w){K:Int->World->Prop}(bE:0<YO L false-> ∀w',Sat (F8 E b L::Z) w'->K 33 w')(bD:(∀x∈L,x.Ei=true)-> ∀w',Sat (F8 E b (JT L)::Z) w'->K 0 w'):
  F.E4 E (sM b) K w:=by
 unfold F.E4 T0.E4;refine NW H λw2 H2=>AE (λh=>bE (by omega) w2 H2) λh=> ?_;have aG: ∀x∈L,x.Ei=true:=λx O=>by
  have:=nM (L:=L) (sw:=false) (by omega) x O
  grind
 obtain⟨g,hI,H⟩:=Sat.Cz.1 H2;refine iX H λb3 w4 H4 _=> ?_;simp only[AK];refine⟨_,(IK (H4.front 1 rfl)).2.2,Xs (H4.front 4 rfl) λr8 N w9 H9=> ?_⟩;have a9:=NV hI.inv.nd;have e0:nN L g.sl []=λ_=>none:=by funext k;unfold nN;simp
 have e1:Aj (aI E) L=Aj (cH E λx=>decide (x.kd∈([]:List Kd))) L:=Aj.congr λx _=>by simp[cH]
 refine AM (λ_ w'=> ∃cur done N',Sat (PT r8 g.bm (SM g.kinds g.sl) cur done N'::MapK b3 (nN L g.sl done)::Cells b E.Et (KO g)::CM g.bi .i64 (F4 (·.id) L)::CM g.bb .u64 (F4 (·.base) L)::Aj (V0 E g.sl L) g.kinds::Aj (cH E λx=>decide (x.kd∈done)) L::Z) w') (λ_ w'=>NK r8 g.bm w') ⟨none,[],N,by rw[e0,<-e1];exact H9⟩ ?_;rintro _ _ cB ⟨cur,done,N',aK⟩;rw[aK.Mn];refine Ad (SB aK (λcC a2 aV j=>Ad (AR rfl ?_)) λk v cD N2 b1 b5 hN aL j=>Ad (Aa rfl λj2=>Ud aL λv' S' bH=> ?_))
 .have hd: ∀k,k∈done↔k∈g.kinds:=λk=>by
   rw[aV k];unfold SM
   grind
  refine Af (a2.front 2 rfl) (o:=0) (m:=2) rfl (by simp[KO]) λa0 a3=>bD aG a0 ?_
  let P:Kd->Bool:=λk=>k.2.2.2&& !(Fg L k).isEmpty
  have hP: ∀k,P k=true↔k.2.2.2=true/\Fg L k≠ []:=λk=>by simp[P]
  refine Sat.Cz.2 ⟨{g with bm:=b3,kinds:=(g.kinds.filter P).map Kf,sl:=λk=>g.sl (M3 k)},⟨sZ hI.inv,?_,?_⟩,?_⟩
  .refine List.Pairwise.map _ (λa c bA=> ?_) (List.Pairwise.and_mem.1 (hI.kn.filter P));obtain⟨ha,hc,aA⟩:=bA;intro e;have ha:=((hP a).1 (List.mem_filter.1 ha).2).1;have hc:=((hP c).1 (List.mem_filter.1 hc).2).1;exact aA (by rw[<-LG ha,e,LG hc])
  .intro x O;obtain⟨y,T,rfl⟩:=List.mem_map.1 O;refine List.mem_map.2 ⟨y.kd,List.mem_filter.2 ⟨hI.ks y T,(hP _).2 ⟨aG y T,λh=> ?_⟩⟩,rfl⟩;have:y∈Fg L y.kd:=FF.2 ⟨T,rfl⟩
   grind
  .have q1:nN L g.sl done=SM ((g.kinds.filter P).map Kf) (λk=>g.sl (M3 k)):=by
    funext k;unfold nN SM;have:(k.2.2.2=false/\M3 k∈done/\Fg L (M3 k)≠ [])↔k∈(g.kinds.filter P).map Kf:=by
     rw[List.mem_map];constructor
     .rintro⟨h1,h2,h3⟩;exact⟨M3 k,List.mem_filter.2 ⟨(hd _).1 h2,(hP _).2 ⟨rfl,h3⟩⟩,SR h1⟩
     .rintro⟨k',h1,rfl⟩;obtain⟨h2,h3⟩:=List.mem_filter.1 h1;obtain⟨h3,h4⟩:=(hP _).1 h3;rw[LG h3];exact⟨rfl,(hd _).2 h2,h4⟩
    grind
   have q2:Aj (cH E λx=>decide (x.kd∈done)) L=Aj (aI E) (JT L):=by
    unfold JT Aj;rw[List.map_map];congr 1;refine List.map_congr_left λx O=> ?_;show aI E _=aI E x.flip;rw[if_pos (by simpa using(hd _).2 (hI.ks x O))]
   have q3:Aj (V0 E g.sl L) (g.kinds.filter P)=Aj (V0 E (λk=>g.sl (M3 k)) (JT L)) ((g.kinds.filter P).map Kf):=by
    unfold Aj;rw[List.map_map];congr 1;refine List.map_congr_left λk hk=> ?_;have:=((hP k).1 (List.mem_filter.1 hk).2).1;show V0 E g.sl L k=V0 E (λk=>g.sl (M3 k)) (JT L) (Kf k);unfold V0;rw[tA aG (k:=Kf k) rfl];simp only[LG this]
   have aM:=Sat.back (Ps:=_::_::_::_::_::_::_::Z) 2 a3;simp only[List.set_cons_succ,List.set_cons_zero]at aM;have aN:Sat (Aj (V0 E g.sl L) (g.kinds.filter P)::MapK b3 (nN L g.sl done)::Cells b E.Et ((KO g).set 2 (.map (some b3)))::CM g.bi .i64 (F4 (·.id) L)::CM g.bb .u64 (F4 (·.base) L)::Aj (cH E λx=>decide (x.kd∈done)) L::Z) a0:=by
    have h1:=(aM.tail.front 4 rfl).KU (L':=g.kinds.filter P++g.kinds.filter λk=> !P k) (List.filter_append_perm P g.kinds).symm;have h2:=Sat.vR.1 h1;exact(h2.front 1 rfl).tail
   rw[q1,q2,q3]at aN;unfold Nn;rw[SQ (f:=(·.id)) (λ_=>rfl),SQ (f:=(·.base)) (λ_=>rfl)];exact((((aN.front 0 rfl).front 1 rfl).front 4 rfl).front 4 rfl).front 4 rfl
 .obtain⟨hk,rfl⟩:=kF bH;refine YM (YN (AJ (vs:=[.int .i64 0,.bool false,.bool false,.bool false]) aL λa8 cF a4 _=> ?_));refine Bm (news:=Np k) a4 rfl (by simp[Np,Value.oneCell']) λcG a5=> ?_;refine Af a5 (o:=0) (m:=3) rfl (by simp[Np]) λcI aE=> ?_;have hlen:=(sX (aE.front 6 rfl) hk).2;have bG:=YL L k;have bN:=hI.inv.Nx;have e2:(λx:EV=>decide (x.kd∈done))=λx=>decide (x.kd∈done)||decide (x.id∈((Fg L k).take 0).map (·.id)):=by grind
  rw[e2]at aE;refine AM (λst w'=> ∃i:Nat,st.1=(i:Int)/\i<=(Fg L k).length/\Sat (Cells a8 E.JQ (Np (Kf k))::PT r8 g.bm (SM g.kinds g.sl) (some k) (done++[k]) N2::MapK b3 (nN L g.sl done)::Cells b E.Et (KO g)::CM g.bi .i64 (F4 (·.id) L)::CM g.bb .u64 (F4 (·.base) L)::Aj (V0 E g.sl L) g.kinds::Aj (cH E λx=>decide (x.kd∈done)||decide (x.id∈((Fg L k).take i).map (·.id))) L::Z) w') (λst _=>((Fg L k).length-st.1).toNat)
   ⟨0,rfl,Nat.zero_le _,aE⟩ ?_
  rintro⟨i',u⟩ _ cJ ⟨i,hi,b2,J⟩;dsimp only at hi⊢;subst hi;obtain⟨aY,_⟩:=sX (J.front 6 rfl) hk;refine AE (λb4=> ?_) λb0=> ?_
  .obtain⟨x,O⟩: ∃x,(Fg L k)[i]? =some x:=⟨_,List.getElem?_eq_getElem (by omega)⟩;obtain⟨a,ha,hc⟩:=kE aY O;have aH:=FF.1 (List.mem_of_getElem? O);rw[ha];simp only[AK];refine⟨⟨by omega,by omega⟩,some ⟨x.EC,0,none⟩,hc,_,J.cell rfl,_,J.cell rfl,_,J.cell rfl,_,J.cell rfl,?_⟩;simp only[AK];obtain⟨jj,hj⟩:=List.mem_iff_getElem?.1 aH.1;have aD:((Fg L k).map (·.id)).Nodup:=List.Nodup.sublist (List.filter_sublist.map _) hI.inv.nd;have bP:x.id∉((Fg L k).take i).map (·.id):=λhm=>by
    obtain⟨y,T,e⟩:=List.mem_map.1 hm;obtain⟨n,hn⟩:=List.mem_iff_getElem?.1 T;rw[List.getElem?_take]at hn;split at hn
    .rename_i hni;have e2:=map_inj aD (List.mem_of_getElem? hn) (List.mem_of_getElem? O) e;subst e2;have n1:=(List.getElem?_eq_some_iff.1 hn);have n2:=(List.getElem?_eq_some_iff.1 O);have:=(List.getElem_inj (h₀:=n1.1) (h₁:=n2.1) (NV aD)).1 (by grind);omega
    .cases hn
   have aB:=(J.front 7 rfl).FQ hj;have ei:cH E (λx=>decide (x.kd∈done)||decide (x.id∈((Fg L k).take i).map (·.id))) x=Cells x.EC E.Hv (MJ x):=by
    unfold cH;rw[if_neg]
    .rfl
    grind
   rw[ei]at aB;rw[add_eq];refine Qt [.int .i64 (Kf k).1,.bool (Kf k).2.1,.bool (Kf k).2.2.1,.bool (Kf k).2.2.2] (0+2) 0 aB (by simp[MJ]) (by simp[Value.oneCell']) λcK aF=> ?_;have ec:List.take (0+2+0) (MJ x)++[.int .i64 (Kf k).1,.bool (Kf k).2.1,.bool (Kf k).2.2.1,.bool (Kf k).2.2.2]++List.drop (0+2+0+[Value.int .i64 (Kf k).1,.bool (Kf k).2.1,.bool (Kf k).2.2.1,.bool (Kf k).2.2.2].length) (MJ x)=MJ x.flip:=by
    rw[<-aH.2];rfl
   rw[ec]at aF;have e3:Cells x.EC E.Hv (MJ x.flip)=cH E (λx=>decide (x.kd∈done)||decide (x.id∈((Fg L k).take (i+1)).map (·.id))) x:=by
    unfold cH;rw[if_pos]
    .rfl
    .rw[Gb O];simp
   have e4:Aj (cH E λx=>decide (x.kd∈done)||decide (x.id∈((Fg L k).take i).map (·.id))) (L.eraseIdx jj)=Aj (cH E λx=>decide (x.kd∈done)||decide (x.id∈((Fg L k).take (i+1)).map (·.id))) (L.eraseIdx jj):=Aj.congr λy T=>by
    have bI:y∈L:=List.mem_of_mem_eraseIdx T;have aA:y.id≠x.id:=λe=>aO a9 hj (map_inj hI.inv.nd bI aH.1 e▸T);unfold cH;rw[Gb O,List.map_append];simp[aA]
   rw[e3,e4]at aF;have aQ:=Sat.back (Ps:=_::_::_::_::_::_::_::_::Z) 7 (aF.Jb hj);simp only[List.set_cons_succ,List.set_cons_zero]at aQ;refine⟨⟨i+1,by rw[AI];rfl,by omega,aQ⟩,?_⟩;rw[AI];omega
  .have bB:i=(Fg L k).length:=by omega
   have e5:Aj (cH E λx=>decide (x.kd∈done)||decide (x.id∈((Fg L k).take i).map (·.id))) L=Aj (cH E λx=>decide (x.kd∈done++[k])) L:=Aj.congr λx O=>by
    unfold cH;rw[bB,List.take_length];have:(decide (x.kd∈done)||decide (x.id∈(Fg L k).map (·.id)))=decide (x.kd∈done++[k]):=by
     have bO:x.id∈(Fg L k).map (·.id)↔x.kd=k:=by
      rw[List.mem_map];constructor
      .rintro⟨y,T,e⟩;have T:=FF.1 T;rw[<-map_inj hI.inv.nd T.1 O e];exact T.2
      .intro e;exact⟨x,FF.2 ⟨O,e⟩,rfl⟩
     grind
    grind
   rw[e5]at J;have hm: ∀{w'} {Y},Sat (PT r8 g.bm (SM g.kinds g.sl) (some k) (done++[k]) N2::Y) w'->NK r8 g.bm w'<N':=λh=>by rw[h.Mn];exact hN
   refine AE (λbQ=> ?_) λb6=> ?_
   .have aA:Fg L k≠ []:=λh=>by grind
    have bF:k.2.2.2=true:=by
     cases hq:Fg L k with
     | nil=>grind
     | cons x r=>
      have O:=FF.1 (show x∈Fg L k by rw[hq];exact List.mem_cons_self)
      grind
    refine⟨_,J.cell rfl,_,J.cell rfl,_,J.cell rfl,_,J.cell rfl,Xq (n:=Kf k) (J.front 2 rfl) λcL a6=> ?_⟩;have aC:=Sat.back (Ps:=_::_::_::_::_::_::_::_::Z) 2 a6;simp only[List.set_cons_succ,List.set_cons_zero]at aC;have et:=zA (sl:=g.sl) (done:=done) bF aA;unfold FI at et;rw[et]at aC;exact⟨⟨_,_,_,aC.tail⟩,hm aC.tail⟩
   .have he:Fg L k=[]:=List.eq_nil_of_length_eq_zero (by omega);have aB:=J.tail;rw[<-tB (sl:=g.sl) (done:=done) (.inr he)]at aB
    grind
end
def Li{p:Nat->Prop}(h: ∃n,p n): ∃n,p n/\ ∀m,p m->n<=m:=by
 obtain⟨n,a⟩:=h
 induction n using Nat.strongRecOn with
 | _ n ih=>grind
def kG{σ:Type}{s0:σ}{w0:World}{body:σ->(Nat->Value)->World->(σ->World->Prop)->Prop}(I:Nat->σ->World->Prop)(n0:Nat)(h0:I n0 s0 w0)
  (h: ∀n s j w,I n s w->body s j w λs' w'=> ∃a,a<n/\I a s' w'):BK σ s0 w0 body:=by
 classical
 let m:σ->World->Nat:=λs w=>if g: ∃n,I n s w then(Li g).choose else 0
 refine AM (λs w=> ∃n,I n s w) m ⟨n0,h0⟩ λs j w g=> ?_;have hm:I (m s w) s w:=by
  show I (if g: ∃n,I n s w then(Li g).choose else 0) s w;rw[dif_pos g];exact(Li g).choose_spec.1
 have u:=h (m s w) s j w hm;have e:(λs' w'=> ∃a,a<m s w/\I a s' w')=λs' w'=>(∃n,I n s' w')/\m s' w'<m s w:=by
  funext s' w';refine propext ⟨λ⟨a,h1,h2⟩=>⟨⟨a,h2⟩,?_⟩,λ⟨h1,h2⟩=>⟨m s' w',h2,?_⟩⟩
  .show(if g: ∃n,I n s' w' then(Li g).choose else 0)<_;rw[dif_pos ⟨a,h2⟩];exact Nat.lt_of_le_of_lt ((Li ⟨a,h2⟩).choose_spec.2 _ h2) h1
  .show I (if g: ∃n,I n s' w' then(Li g).choose else 0) s' w';rw[dif_pos h1];exact(Li h1).choose_spec.1
 grind
structure Rc where
 EC:Nat
 addr:Int
 kind:Int
 data:Int
def Rc.key(x:Rc):Int:=4*x.addr+x.kind
def Ge(x:Rc):Option Addr:=some ⟨x.EC,0,none⟩
def E7:List Rc->Option Addr->Option Addr
 | [],p=>p
 | x::_,_=>Ge x
def gE(E:Env)(x:Rc)(p:Option Addr):Pr:=Cells x.EC E.Mp [.int .u64 x.addr,.int .i64 x.kind,.int .u64 x.data,.pointer p]
def FY(E:Env):List Rc->Option Addr->List Pr
 | [],_=>[]
 | x::r,p=>gE E x (E7 r p)::FY E r p
def slotOf(b:Nat)(A:List Rc):Addr:=match A.getLast? with
 | none=>⟨b,0,none⟩
 | some x=>(Addr.mk x.EC 0 none).add 3
def PQ(A B:List Rc)(p:Option Addr):E7 (A++B) p=E7 A (E7 B p):=by cases A<;>rfl
def NX(E:Env): ∀(A B:List Rc) (p:Option Addr),FY E (A++B) p=FY E A (E7 B p)++FY E B p
 | [],B,p=>rfl
 | x::A,B,p=>by
  show gE E x (E7 (A++B) p)::FY E (A++B) p=gE E x (E7 A (E7 B p))::(FY E A (E7 B p)++FY E B p);rw[PQ,NX E A B p]
def JL{a:Addr}{K:Addr->Prop}(h:K a):NC (some a) K:=by rw[AK];exact h
structure TL(R:List Rc):Prop where
 XJ:Lu Rc.key R
 kd: ∀x∈R,1<=x.kind/\x.kind<=3/\0<=x.addr/\x.addr<18446744073709551616
 Nx:R.length<=1099511627776
def FL(E:Env)(b:Nat)(A:List Rc)(p:Option Addr)(n:Int):List Pr:=Cells b E.C8 [.pointer (E7 A p),.int .i64 n]::FY E A p
def Ix(E:Env)(b:Nat)(R:List Rc):Pr:=Jt (TL R) (Kx (FL E b R none R.length))
section
variable{E:Env}{w:World}{Z:List Pr}{b:Nat}{R:List Rc}
def Sat.spec:Sat (Ix E b R::Z) w↔TL R/\Sat (FL E b R none R.length++Z) w:=by
 unfold Ix;rw[Sat.where,Sat.star]
def aQ(H:Sat Z w){K:Option Addr->World->Prop}(e: ∀b w',Sat (Ix E b []::Z) w'->K (sM b) w'):F.L5 E K w:=by
 unfold F.L5;refine AJ (vs:=[.pointer none,.int .i64 0]) H λb w' a _=>e b w' (Sat.spec.2 ⟨⟨.nil,λx j=>(by cases j),by decide⟩,a⟩)
def Oo(A:List Rc)(x:Rc):slotOf b (A++[x])=(Addr.mk x.EC 0 none).add 3:=by
 unfold slotOf
 grind
def aR(A:List Rc)(x:Rc)(p:Option Addr):FY E (A++[x]) p=FY E A (Ge x)++[gE E x p]:=by rw[NX];rfl
def gF(A:List Rc)(x:Rc)(p:Option Addr):E7 (A++[x]) p=E7 A (Ge x):=by rw[PQ];rfl
def VW{α:Type}(A:List α):A=[]∨ ∃a x,A=a++[x]:=by
 rcases List.eq_nil_or_concat A with h|⟨a,x,h⟩
 .grind
 grind
def Sat.YP{A:List Rc}{x:Rc}{p:Option Addr}{n:Int}:Sat (FL E b (A++[x]) p n++Z) w↔Sat (gE E x p::(FL E b A (Ge x) n++Z)) w:=by
 unfold FL;rw[aR,gF];have a:(Cells b E.C8 [.pointer (E7 A (Ge x)),.int .i64 n]::(FY E A (Ge x)++[gE E x p])++Z).Perm (gE E x p::(Cells b E.C8 [.pointer (E7 A (Ge x)),.int .i64 n]::FY E A (Ge x)++Z)):=by
  rw[List.cons_append,List.cons_append,List.append_assoc];exact(List.Perm.cons _ List.perm_middle).trans (.swap _ _ _)
 exact⟨λh=>h.perm a,λh=>h.perm a.symm⟩
def M4{A:List Rc}{p:Option Addr}{n:Int}(H:Sat (FL E b A p n++Z) w):w.cell? (slotOf b A)=some (.pointer p):=by
 rcases VW A with rfl|⟨a,x,rfl⟩
 .exact H.AW rfl
 .rw[Oo];exact(Sat.YP.1 H).cell rfl
def tC{A:List Rc}{p q:Option Addr}{n:Int}(H:Sat (FL E b A p n++Z) w){K:World->Prop}(e: ∀w',Sat (FL E b A q n++Z) w'->K w'):stCells (slotOf b A) 0 [.pointer q] w K:=by
 rcases VW A with rfl|⟨j,x,rfl⟩
 .exact Bc H (o:=0) rfl (by simp) λw' a=>e w' a
 .rw[Oo];exact Af (Sat.YP.1 H) (o:=0) (m:=3) rfl (by simp) λw' a=>e w' (Sat.YP.2 a)
def Sat.YQ{A B:List Rc}{y:Rc}{p:Option Addr}{n:Int}:Sat (FL E b (A++y::B) p n++Z) w↔Sat (gE E y (E7 B p)::(FL E b A (Ge y) n++(FY E B p++Z))) w:=by
 unfold FL;rw[NX,PQ];show Sat (Cells b E.C8 [.pointer (E7 A (Ge y)),.int .i64 n]::(FY E A (Ge y)++gE E y (E7 B p)::FY E B p)++Z) w↔_;have a:(Cells b E.C8 [.pointer (E7 A (Ge y)),.int .i64 n]::(FY E A (Ge y)++gE E y (E7 B p)::FY E B p)++Z).Perm (gE E y (E7 B p)::(Cells b E.C8 [.pointer (E7 A (Ge y)),.int .i64 n]::FY E A (Ge y)++(FY E B p++Z))):=by
  rw[List.cons_append,List.cons_append,List.append_assoc,List.cons_append];exact(List.Perm.cons _ List.perm_middle).trans (.swap _ _ _)
 exact⟨λh=>h.perm a,λh=>h.perm a.symm⟩
def JU{A B:List Rc}{p:Option Addr}{n:Int}:Sat (FL E b (A++B) p n++Z) w↔Sat (FL E b A (E7 B p) n++(FY E B p++Z)) w:=by
 unfold FL;rw[NX,PQ,List.cons_append,List.cons_append,List.append_assoc]
def NY(H:Sat (Ix E b R::Z) w){a k:Int}(hk:0<=k/\k<=3){K:Option Addr->World->Prop}
  (hK: ∀A B,R=A++B->(∀x∈A,x.key<4*a+k)->(∀x∈B,4*a+k<=x.key)->K (some (slotOf b A)) w):F.Dc E (sM b) a k K w:=by
 obtain⟨hI,H⟩:=Sat.spec.1 H;unfold F.Dc;simp only[AK];refine kG (λn st w'=>w'=w/\ ∃A B,st.1=some (slotOf b A)/\R=A++B/\(∀x∈A,x.key<4*a+k)/\n=B.length) R.length ⟨rfl,[],R,rfl,rfl,λx v=>(by cases v),rfl⟩ ?_;rintro n ⟨p,u⟩ _ w3 ⟨rfl,A,B,hp,hR,hA,hn⟩;dsimp only at hp⊢;subst hp;subst hR;have hs:=JU.1 H;have J:=M4 hs;have done:(∀x∈B,4*a+k<=x.key)->K (some (slotOf b A)) w3:=λT=>hK A B rfl hA T;refine Ad ?_;simp only[AK];cases B with
 | nil=>exact⟨none,J,AR rfl (done λx v=>by cases v)⟩
 | cons y B=>
  have hy:=Sat.YQ.1 H;have y0:w3.cell? (Addr.mk y.EC 0 none)=some (.int .u64 y.addr):=hy.AW rfl;have y1:w3.cell? ((Addr.mk y.EC 0 none).add 1)=some (.int .i64 y.kind):=hy.cell rfl;have aM:=hI.kd y (by simp);have O:=(List.pairwise_append.1 hI.XJ).2.1;have T:4*a+k<=y.key-> ∀x∈y::B,4*a+k<=x.key:=λh x v=>by
   rcases List.mem_cons.1 v with rfl|v
   .exact h
   .have:=(List.pairwise_cons.1 O).1 x v;omega
  have go:y.key<4*a+k-> ∃n',n'<n/\True/\ ∃Y B',some ((Addr.mk y.EC 0 none).add 3)=some (slotOf b Y)/\A++y::B=Y++B'/\(∀x∈Y,x.key<4*a+k)/\n'=B'.length:=λh=>by
   refine⟨B.length,by rw[hn];grind,trivial,A++[y],B,by rw[Oo],by simp,λx v=> ?_,rfl⟩
   grind
  have aC:y.key=4*y.addr+y.kind:=rfl;refine⟨Ge y,J,Aa rfl ⟨Ge y,J,JL ⟨y.addr,y0,AE (λg=> ?_) λg=>⟨Ge y,J,JL ⟨y.addr,y0,C6 (λe=>⟨Ge y,J,JL ⟨y.kind,y1,AE (λg2=> ?_) λg2=>done (T (by omega))⟩⟩) λe=>done (T (by omega))⟩⟩⟩⟩⟩
  .exact λj=>⟨Ge y,J,JL (go (by omega))⟩
  .exact λj=>⟨Ge y,J,JL (go (by omega))⟩
end
def Rt(x:Rc):List Value:=[.int .u64 x.addr,.int .i64 x.kind,.int .u64 x.data]
def YR(x:Rc):(Rt x).length=3:=rfl
def YS(x:Rc): ∀v∈Rt x,v.oneCell'=true:=by intro v a;simp[Rt]at a;rcases a with rfl|rfl|rfl<;>rfl
def aS{A B:List Rc}{a:Int}(hI:TL (A++B))(j: ∀x∈A,x.key<4*a+0)(u: ∀x∈B,4*a+0<=x.key):(∀x∈A,x.addr<a)/\ ∀x∈B,a<=x.addr:=by
 refine⟨λx e=> ?_,λx e=> ?_⟩
 .have:=j x e;have:=hI.kd x (by simp[e]);unfold Rc.key at *;omega
 .have:=u x e;have:=hI.kd x (by simp[e]);unfold Rc.key at *;omega
def aT{y:Rc}{B:List Rc}(a: ∀x∈y::B,1<=x.kind/\x.kind<=3)(j:Lu Rc.key (y::B)): ∀x∈B,y.addr<=x.addr:=λx e=>by
 have:=(List.pairwise_cons.1 j).1 x e;have h1:=a y (by simp);have u:=a x (by simp[e]);unfold Rc.key at this;omega
def XK{a:Int}: ∀{B:List Rc},Lu Rc.key B->(∀x∈B,1<=x.kind/\x.kind<=3)->(∀x∈B,a<=x.addr)->B.takeWhile (λy=>y.addr==a)=B.filter (λy=>y.addr==a)/\B.dropWhile (λy=>y.addr==a)=B.filter λy=> !(y.addr==a)
 | [],_,_,_=>⟨rfl,rfl⟩
 | y::B,hs,hk,ha=>by
  have u:=XK (a:=a) (List.pairwise_cons.1 hs).2 (λx j=>hk x (by simp[j])) λx j=>ha x (by simp[j]);by_cases e:y.addr=a
  .have e1:(y.addr==a)=true:=by grind
   rw[List.takeWhile_cons_of_pos (by omega),List.filter_cons_of_pos (by omega),List.dropWhile_cons_of_pos (by omega),List.filter_cons_of_neg (by simp[e]),u.1,u.2]
   grind
  .have h1:=aT hk hs;have J:=ha y (by simp);have v: ∀x∈y::B,x.addr≠a:=λx j=>by
    rcases List.mem_cons.1 j with rfl|j
    .exact e
    .have:=h1 x j;omega
   rw[List.takeWhile_cons_of_neg (by grind),List.dropWhile_cons_of_neg (by grind)];refine⟨(List.filter_eq_nil_iff.2 λx j=> ?_).symm,(List.filter_eq_self.2 λx j=> ?_).symm⟩
   .grind
   grind
section
variable{E:Env}{w:World}{Z:List Pr}{b:Nat}{R:List Rc}
def gH{A B:List Rc}{n:Int}(H:Sat (FL E b (A++B) none n++Z) w){a k:Int}{K:Bool->World->Prop}(h1: ∀y j,B=y::j->y.addr=a->y.kind=k->K true w)(h0:(∀y j,B=y::j-> ¬(y.addr=a/\y.kind=k))->K false w):
  F.NN E (some (slotOf b A)) a k K w:=by
 unfold F.NN;have u:=M4 (JU.1 H);simp only[AK];cases B with
 | nil=>exact⟨none,u,AR rfl (h0 λy j h=>by cases h)⟩
 | cons y B=>
  have v:=Sat.YQ.1 H;have J:w.cell? (Addr.mk y.EC 0 none)=some (.int .u64 y.addr):=v.AW rfl;have O:w.cell? ((Addr.mk y.EC 0 none).add 1)=some (.int .i64 y.kind):=v.cell rfl;have no: ¬(y.addr=a/\y.kind=k)->K false w:=λh=>h0 λT j e=>by grind
  refine⟨Ge y,u,Aa rfl ⟨Ge y,u,JL ⟨y.addr,J,C6 (λe=>⟨Ge y,u,JL ⟨y.kind,O,?_⟩⟩) λe=>no λh=>e h.1⟩⟩⟩
  try dsimp only
  by_cases g:y.kind=k
  .rw[show(y.kind==k)=true by grind];exact h1 y B rfl e g
  .rw[show(y.kind==k)=false by grind];exact no λh=>g h.2
def XL{A:List Rc}{p:Option Addr}{n m:Int}(H:Sat (FL E b A p n++Z) w){K:World->Prop}(e: ∀w',Sat (FL E b A p m++Z) w'->K w'):stCells ((Addr.mk b 0 none).add 1) 0 [.int .i64 m] w K:=
 Af H (o:=0) (m:=1) rfl (by simp) λw' a=>e w' a
def zB{A B:List Rc}{a k:Int}(hI:TL (A++B))(K:1<=k/\k<=3)(v: ∀x∈A,x.key<4*a+k)(J: ∀x∈B,4*a+k<=x.key)(h: ∀y u,B=y::u-> ¬(y.addr=a/\y.kind=k)): ∀x∈A++B,¬(x.addr=a/\x.kind=k):=by
 rintro x e ⟨e1,e2⟩;have j:x.key=4*a+k:=by unfold Rc.key;rw[e1,e2]
 rcases List.mem_append.1 e with e|e
 .grind
 .cases B with
  | nil=>cases e
  | cons y B=>
   rcases List.mem_cons.1 e with rfl|e
   .grind
   .have:=(List.pairwise_cons.1 (List.pairwise_append.1 hI.XJ).2.1).1 x e
    grind
def aU(H:Sat (Ix E b R::Z) w){a k:Int}(hk:1<=k/\k<=3){K:Int->Int->World->Prop}(T:(∀x∈R,¬(x.addr=a/\x.kind=k))->K 0 35 w)
  (Y: ∀A B y,R=A++y::B->y.addr=a->y.kind=k-> ∀w',Sat (Ix E b (A++B)::Z) w'->K y.data 0 w'):F.BY E (sM b) a k K w:=by
 have HS:=H;unfold F.BY T0.BY;refine NY HS (by omega) λA B hR hA hB=> ?_;obtain⟨hI,H⟩:=Sat.spec.1 H;subst hR;refine gH H (λy j e e1 e2=>AR rfl ?_) λaB=>Aa rfl (T (zB hI hk hA hB aB));subst e;have hm:=Sat.YQ.1 H;have hs:=JU.1 H;simp only[AK];refine⟨Ge y,M4 hs,JL ⟨E7 j none,hm.cell rfl,?_⟩⟩;have aA:Sat (FL E b A (Ge y) ((A++y::j).length:Int)++(gE E y (E7 j none)::(FY E j none++Z))) w:=hm.perm List.perm_middle.symm;refine tC aA λaC v=>⟨_,(show Sat (Cells b _ _::_) aC from v).cell rfl,XL v λO u=>JL ⟨y.data,?_,?_⟩⟩
 .exact(show Sat (gE E y (E7 j none)::_) O from u.perm List.perm_middle).cell rfl
 .refine Y A j y rfl e1 e2 O (Sat.spec.2 ⟨⟨hI.XJ.sublist (by simp),λx J=>hI.kd x ?_,?_⟩,?_⟩)
  .rcases List.mem_append.1 J with J|J
   .simp[J]
   .simp[J]
  .have:=hI.Nx;grind
  .have hf:=hI.Nx;have e:i64 (((A++y::j).length:Int)-1)=((A++j).length:Int):=by
    rw[AI]
    grind
   rw[e]at u;exact JU.2 (u.perm List.perm_middle).tail
def RZ{A B:List Rc}{n:Int}(t:Int->Bool)(H:Sat (FL E b (A++B) none n++Z) w)(hf:(A++B).length<=1099511627776){K:AY->World->Prop}
  (hK: ∀s w',s.len=(B.takeWhile λy=>t y.addr).length->Sat (Row E.Am 3 s (FJ Rt (B.takeWhile λy=>t y.addr))::(FL E b (A++B) none n++Z)) w'->K s w'):
  BK (AY×(Option Addr)×Unit) (⟨none,0,0⟩,E7 B none,()) w λs5 _ j O=>
  CND (!s5.2.1.isNone) (
   NC s5.2.1 λp8=>
   ∃x9:Int,j.cell? p8=some (.int .u64 x9)/\
   CND (t x9) (
    NC s5.2.1 λT=>
    ∃aB:Int,j.cell? (T.add 0)=some (.int .u64 aB)/\
    ∃aC:Int,j.cell? (T.add 1)=some (.int .i64 aC)/\
    ∃aD:Int,j.cell? (T.add 2)=some (.int .u64 aD)/\
    AL (.cells ⟨[.int .u64 aB,.int .i64 aC,.int .u64 aD]⟩ E.Am) j λaA aE=>
    APP E.Am 3 24 #[.int .u64 0,.int .i64 0,.int .u64 0] s5.1 ⟨(some (Addr.mk aA 0 none)),1,1⟩ aE λZf Y=>
    NC s5.2.1 λaK=>
    ∃aF:(Option Addr),Y.cell? (aK.add 3)=some (.pointer aF)/\
    O (Zf,aF,()) Y
   ) (
    K s5.1 j
   )
  ) (
   K s5.1 j
  ):=by
 refine kG (λn' st w'=> ∃C D,st.2.1=E7 D none/\B=C++D/\(∀x∈C,t x.addr=true)/\n'=D.length/\Sat (Row E.Am 3 st.1 (FJ Rt C)::(FL E b (A++B) none n++Z)) w') B.length ⟨[],B,rfl,rfl,λx a=>(by cases a),rfl,H.nil E.Am 3⟩ ?_;rintro n' ⟨s,p,u⟩ _ j ⟨C,D,hp,hB,hC,hn,H6⟩;dsimp only at hp H6⊢;subst hp;have hl:=H6.Og (by decide) YR;have fin:(∀y D',D=y::D'->t y.addr=false)->K s j:=λh=>by
  have:B.takeWhile (λy=>t y.addr)=C:=by
   rw[hB,List.takeWhile_append_of_pos λx a=>hC x a];cases D with
   | nil=>simp
   | cons y D=>rw[List.takeWhile_cons_of_neg (by grind),List.append_nil]
  grind
 cases D with
 | nil=>exact AR rfl (fin λy D' h=>by cases h)
 | cons y D=>
  have eR:A++B=(A++C)++y::D:=by grind
  have hm: ∀{w':World} {v:List Value} {s':AY},Sat (Row E.Am 3 s' v::(FL E b (A++B) none n++Z)) w'->w'.cell? ((Addr.mk y.EC 0 none).add 0)=some (.int .u64 y.addr)/\w'.cell? ((Addr.mk y.EC 0 none).add 1)=some (.int .i64 y.kind)/\w'.cell? ((Addr.mk y.EC 0 none).add 2)=some (.int .u64 y.data)/\w'.cell? ((Addr.mk y.EC 0 none).add 3)=some (.pointer (E7 D none)):=λh=>by
   have h:=h.tail;rw[eR]at h;have h:=Sat.YQ.1 h;exact⟨h.cell rfl,h.cell rfl,h.cell rfl,h.cell rfl⟩
  obtain⟨m0,m1,m2,_⟩:=hm H6;have hlen:C.length+1<=1099511627776:=by grind
  refine Aa rfl (JL ⟨y.addr,by have:=m0;rwa[add_zero]at this,AX (λht=>JL ⟨_,m0,_,m1,_,m2,?_⟩) λht=>fin λy' D' e=>by cases e;exact ht⟩);refine AJ (vs:=Rt y) H6 λaA aE aI _=> ?_;refine GH (news:=Rt y) (zs:= #[.int .u64 0,.int .i64 0,.int .u64 0]) (bytes:=24) aI rfl rfl (YS y) (by omega) (by omega) λZf Y J _=>JL ⟨_,(hm J).2.2.2,?_⟩;refine⟨D.length,by rw[hn];grind,C++[y],D,rfl,by rw[hB];simp,λx a=> ?_,rfl,?_⟩
  .rcases List.mem_append.1 a with a|a
   .exact hC x a
   .simp at a;subst a;exact ht
  .rw[show FJ Rt C++Rt y=FJ Rt (C++[y]) by rw[RM];simp[FJ]]at J;exact J
def Th(H:Sat (Ix E b R::Z) w){x y:Int}{K:AY->World->Prop}(T: ∀s l w',l.length=s.len->(s.len=0↔ ∀z∈R,¬(x<=z.addr/\z.addr<y))->Sat (Row E.Am 3 s (FJ Rt l)::Ix E b R::Z) w'->K s w'):
  F.BT E (sM b) x y K w:=by
 have HS:=H;unfold F.BT T0.BT;refine NY HS (by omega) λA B Y J O=> ?_;obtain⟨hI,H⟩:=Sat.spec.1 H;subst Y;refine JL ⟨E7 B none,M4 (JU.1 H),?_⟩;refine RZ (λz=>decide (z<y)) H hI.Nx λs w' j u=>T s _ w' j.symm ?_ (((Sat.spec.2 ⟨hI,u.perm List.perm_middle.symm⟩)).perm (.swap _ _ _));obtain⟨h1,v⟩:=aS hI J O;have a:=(List.pairwise_append.1 hI.XJ).2.1;rw[j];cases B with
 | nil=>exact⟨λ_ z hz h=>by grind,λ_=>rfl⟩
 | cons q B=>
  have h3:=aT (λz hz=>(hI.kd z (by simp;grind)).imp id λh=>h.1) a;have h4:=v q (by simp);by_cases e:q.addr<y
  .rw[List.takeWhile_cons_of_pos (by grind)]
   grind
  .rw[List.takeWhile_cons_of_neg (by grind)]
   grind
def YT(R:List Rc)(a:Int):List Rc:=R.filter λy=>y.addr==a
def Ti(R:List Rc)(a:Int):List Rc:=R.filter λy=> !(y.addr==a)
def rc_of{A B:List Rc}{a:Int}(hI:TL (A++B))(J: ∀x∈A,x.key<4*a+0)(K: ∀x∈B,4*a+0<=x.key):B.takeWhile (λy=>y.addr==a)=YT (A++B) a/\A++B.dropWhile (λy=>y.addr==a)=Ti (A++B) a:=by
 obtain⟨h1,j⟩:=aS hI J K;obtain⟨u,v⟩:=XK (a:=a) (List.pairwise_append.1 hI.XJ).2.1 (λx e=>(hI.kd x (by simp[e])).imp id λh=>h.1) j;unfold YT Ti;rw[List.filter_append,List.filter_append,u,v];have e1:A.filter (λy=>y.addr==a)=[]:=List.filter_eq_nil_iff.2 λx e=>by grind
 have e2:A.filter (λy=> !(y.addr==a))=A:=List.filter_eq_self.2 λx e=>by grind
 grind
def gI(H:Sat (Ix E b R::Z) w){a:Int}{K:AY->World->Prop}(O: ∀s w',s.len=(YT R a).length->Sat (Row E.Am 3 s (FJ Rt (YT R a))::Ix E b R::Z) w'->K s w'):
  F.Cw E (sM b) a K w:=by
 have HS:=H;unfold F.Cw T0.Cw;refine NY HS (by omega) λA B T v J=> ?_;obtain⟨hI,H⟩:=Sat.spec.1 H;subst T;refine JL ⟨E7 B none,M4 (JU.1 H),?_⟩;have e:=(rc_of hI v J).1;refine RZ (λz=>z==a) H hI.Nx λs w' u j=> ?_;rw[e]at u j;exact O s w' u (((Sat.spec.2 ⟨hI,j.perm List.perm_middle.symm⟩)).perm (.swap _ _ _))
def YU(H:Sat (Ix E b R::Z) w){a:Int}{K:AY->World->Prop}(hK: ∀s w',s.len=(YT R a).length->Sat (Row E.Am 3 s (FJ Rt (YT R a))::Ix E b (Ti R a)::Z) w'->K s w'):
  F.CH E (sM b) a K w:=by
 unfold F.CH T0.CH;refine gI H λs w2 hs H2=> ?_;have H3:=H2.front 1 rfl;refine NY H3 (by omega) λA B hR hA hB=> ?_;obtain⟨hI,H3⟩:=Sat.spec.1 H3;subst hR;obtain⟨e1,e2⟩:=rc_of hI hA hB;have J:B=YT (A++B) a++B.dropWhile (λy=>y.addr==a):=by rw[<-e1,List.takeWhile_append_dropWhile]
 generalize hT:YT (A++B) a=T at *
 generalize hD:B.dropWhile (λy=>y.addr==a)=D at *
 have v:=hI.Nx;have H4:Sat (FL E b A (E7 B none) ((A++B).length:Int)++(FY E B none++(Row E.Am 3 s (FJ Rt T)::Z))) w2:=JU.1 H3;have aL:B.length=T.length+D.length:=by grind
 simp only[List.length_append]at v;refine AM (λst w'=> ∃i:Nat,st.1=(i:Int)/\i<=T.length/\Sat (FL E b A (E7 (B.drop i) none) ((A++B).length:Int)++(FY E (B.drop i) none++(Row E.Am 3 s (FJ Rt T)::Z))) w') (λst _=>((T.length:Int)-st.1).toNat) ⟨0,rfl,Nat.zero_le _,H4⟩ ?_;rintro⟨i',u⟩ _ Y ⟨i,hi,aP,e⟩;dsimp only at hi⊢;subst hi;rw[hs];refine AE (λg=> ?_) λg=> ?_
 .obtain⟨y,hy⟩: ∃y,B.drop i=y::B.drop (i+1):=⟨B[i]'(by omega),List.drop_eq_getElem_cons (by omega)⟩;rw[hy]at e;have hc:Y.cell? ((Addr.mk y.EC 0 none).add 3)=some (.pointer (E7 (B.drop (i+1)) none)):=
   (show Sat (gE E y (E7 (B.drop (i+1)) none)::_) Y from e.perm List.perm_middle).cell rfl
  have H7:Sat (FL E b A (Ge y) ((A++B).length:Int)++(FY E (B.drop (i+1)) none++(Row E.Am 3 s (FJ Rt T)::Z))) Y:=(show Sat (gE E y (E7 (B.drop (i+1)) none)::_) Y from e.perm List.perm_middle).tail;simp only[AK];refine⟨Ge y,M4 H7,JL ⟨_,hc,tC H7 λaR aB=>⟨⟨i+1,by rw[AI];rfl,by omega,aB⟩,?_⟩⟩⟩;rw[AI];omega
 .have aD:i=T.length:=by omega
  have aC:B.drop i=D:=by rw[J,aD,List.drop_left]
  rw[aC]at e;simp only[AK];refine⟨_,(show Sat (Cells b _ _::_) Y from e).cell rfl,XL e λaE j=>hK s aE hs ?_⟩;have en:i64 (((A++B).length:Int)-((T.length:Nat):Int))=((A++D).length:Int):=by
   rw[AI (by omega) (by grind)]
   grind
  rw[en]at j;rw[<-e2];have hIn:TL (A++D):=⟨hI.XJ.sublist (by grind),λx O=>hI.kd x ?_,by grind⟩
  .exact(Sat.spec.2 ⟨hIn,JU.2 j⟩).perm (.swap _ _ _)
  .rcases List.mem_append.1 O with O|O
   .simp[O]
   .rw[J];simp[O]
end
structure SW where
 S:HS
 L:List EV
 R:List Rc
 em:List Rc
 CD:Int
 Lj:Int
 Bq:Int
 Gd:Int
def Hk(h s r:Nat)(em:AY)(W:SW):List Value:=[.pointer (sM h),.pointer (sM s),.pointer (sM r),FI em,.int .u64 W.CD,.int .u64 W.Lj,.int .u64 W.Bq,.int .u64 W.Gd]
def Lk(E:Env)(b h s r:Nat)(W:SW)(em:AY):List Pr:=[Cells b E.DI (Hk h s r em W),Ax E h W.S,F8 E s W.L,Ix E r W.R,Row E.Am 3 em (FJ Rt W.em)]
def AQ(E:Env)(b h s r:Nat)(W:SW):Pr:=Ex λem:AY=>Kx (Lk E b h s r W em)
structure Ra(x:SI):Prop where
 st:x.state=1
 cls:0<=x.cls/\x.cls<68
 el:x.elem=if x.cls=0 then x.AD*8192 else(A0 x.cls).1
 slo:x.AO=if x.cls=0 then 1 else(A0 x.cls).2.2.1
 mg:x.Mx=(A0 x.cls).2.2.2
 pg:1<=x.AD/\x.AD<=134217728/\(0<x.cls->x.AD=(A0 x.cls).2.1)
 ba:0<=x.base/\x.base %8192=0/\x.base+x.AD*8192<=281474976710656
abbrev Aq:=Int->Nat->Bool
def Aq.set(U:Aq)(id:Int)(u:Nat->Bool):Aq:=λi=>if i=id then u else U i
structure Ae(W:SW)(U M:Aq):Prop where
 hI:HInv W.S no
 sp: ∀id x,W.S.sp id=some x->Ra x.2/\Rr x.2 (U id) (M id)
 it: ∀x∈W.L,∃y,W.S.sp x.id=some y/\y.2.base=x.base
def nO:(PX.all λc=>decide (0<=c.1)&&(decide (0<=c.2.2.1)&&(decide (c.2.2.1<=1024)&&(decide (c.1*c.2.2.1<=c.2.1*8192)&&(decide (0<=c.2.2.2)&&(decide (c.2.2.2<4294967296)&&(decide (c.2.2.2=0)||(decide (8<=c.1)&&(decide (c.1<=32768)&&(decide (4294967296<=c.2.2.2*c.1)&&(decide ((c.2.2.2*c.1-4294967296)*c.2.2.1<c.2.2.2)&&(decide (1<=c.2.2.1)&&decide (1<=c.2.1)))))))))))))=true:=by decide+kernel
def zC:((PX.drop 1).all λc=>decide (8<=c.1)&&(decide (c.1<=32768)&&(decide (1<=c.2.2.1)&&(decide (1<=c.2.1)&&(decide (c.1 %8=0)&&decide (0<c.2.2.2))))))=true:=by decide+kernel
def cls0:A0 0=(0,0,0,0):=by decide+kernel
def Ll{c:Int}(h0:0<c)(h1:c<68):8<=(A0 c).1/\(A0 c).1<=32768/\1<=(A0 c).2.2.1/\1<=(A0 c).2.1/\(A0 c).1 %8=0/\0<(A0 c).2.2.2:=by
 have h:=Ma (c:=c) (by omega) h1;have a:(PX.drop 1)[c.toNat-1]? =some (A0 c):=by grind
 have:=List.all_eq_true.1 zC _ (List.mem_of_getElem? a)
 grind
def VX{c:Int}(h0:0<=c)(h1:c<68):0<=(A0 c).1/\0<=(A0 c).2.2.1/\(A0 c).2.2.1<=1024/\(A0 c).1*(A0 c).2.2.1<=(A0 c).2.1*8192/\0<=(A0 c).2.2.2/\(A0 c).2.2.2<4294967296/\
  ((A0 c).2.2.2=0∨(8<=(A0 c).1/\(A0 c).1<=32768/\4294967296<=(A0 c).2.2.2*(A0 c).1/\((A0 c).2.2.2*(A0 c).1-4294967296)*(A0 c).2.2.1<(A0 c).2.2.2/\1<=(A0 c).2.2.1/\1<=(A0 c).2.1)):=by
 have:=List.all_eq_true.1 nO _ (List.mem_of_getElem? (Ma h0 h1))
 grind
def Ra.size{x:SI}(h:Ra x):0<x.elem/\x.elem<=1099511627776/\1<=x.AO/\x.AO<=1024/\x.elem*x.AO<=x.AD*8192:=by
 have a:=h.cls;have J:=h.pg;by_cases e:x.cls=0
 .have h1:=h.el;have j:=h.slo
  grind
 .have h1:=h.el;have j:=h.slo;rw[if_neg e]at h1 j;have u:=Ll (c:=x.cls) (by omega) a.2;have v:=VX a.1 a.2
  grind
def Ra.aG{x:SI}(h:Ra x):aG x:=by
 have O:=h.cls;have hm:=h.mg;have K:=VX O.1 O.2;have hs:=h.size;refine⟨by omega,by omega,λg=> ?_⟩;have u:x.cls≠0:=λe=>by rw[e,cls0]at hm;grind
 have h1:=h.el;have J:=h.slo;rw[if_neg u]at h1 J;rcases K.2.2.2.2.2.2 with q|⟨q1,q2,q3,q4,q5,q6⟩
 .omega
 .rw[hm,h1,J];generalize (A0 x.cls).1=s at *
  generalize (A0 x.cls).2.2.1=n at *
  generalize (A0 x.cls).2.2.2=m at *
  have hn:n<=1024:=K.2.2.1;have aE:n*s<=1024*32768:=Int.mul_le_mul hn q2 (by omega) (by decide);refine⟨by omega,λoff o0 o1=> ?_⟩;have hr:=Int.emod_nonneg off (show s≠0 by omega);have aI:=Int.emod_lt_of_pos off (show 0<s by omega);have j:=Int.mul_ediv_add_emod off s;have v:0<=off/s:=Int.ediv_nonneg o0 (by omega);have aF:off/s<n:=Int.ediv_lt_of_lt_mul (by omega) o1;generalize off/s=q at *
  generalize off %s=r at *
  have T:off=s*q+r:=j.symm;obtain⟨e,he⟩: ∃e,e=m*s-4294967296:=⟨_,rfl⟩;have a:0<=e:=by omega
  have aC:m*s=4294967296+e:=by omega
  have e1:off*m=q*4294967296+(q*e+r*m):=by grind
  have h6:0<=q*e:=Int.mul_nonneg v a;have h7:0<=r*m:=Int.mul_nonneg hr (by omega);have h8:r*m<=(s-1)*m:=Int.mul_le_mul_of_nonneg_right (by omega) (by omega);have h9:(s-1)*m=m*s-m:=by grind
  have Y:(q+1)*e<=n*e:=Int.mul_le_mul_of_nonneg_right (by omega) a;have aA:(q+1)*e=q*e+e:=by grind
  have aB:e*n<m:=by rw[he];exact q4
  grind
def Ra.Fk{x y:SI}(h:Ra x)(h1:y.base=x.base)(e:y.AD=x.AD)(j:y.state=x.state)(a:y.cls=x.cls)(u:y.elem=x.elem)(v:y.AO=x.AO)(J:y.Mx=x.Mx):Ra y:=by
 refine⟨by rw[j];exact h.st,by rw[a];exact h.cls,by rw[u,a,e];exact h.el,by rw[v,a];exact h.slo,by rw[J,a];exact h.mg,by rw[e,a];exact h.pg,by rw[h1,e];exact h.ba⟩
def zD{page n c:Int}{np:Bool}(h0:0<=page)(h1:page+n<=34359738368)(j: ¬Kc 0 n c)(K:0<=n):Ra (Gv page n c np):=by
 unfold Kc at j;have a:0<=c/\c<68:=by omega
 have v:=RO a.1 a.2;have u:0<c->n=(A0 c).2.1:=λh=>Classical.byContradiction λg=>j (.inr (.inr (.inr (.inr (.inr (.inr ⟨h,g⟩))))));have J:n<=134217728:=by
  by_cases e:c=0
  .omega
  .have:=u (by omega);omega
 refine⟨rfl,a,rfl,rfl,rfl,⟨by show 1<=n;omega,by assumption,u⟩,by show 0<=page*8192/\page*8192 %8192=0/\page*8192+n*8192<=_;omega⟩
def spOf_g{page n c:Int}{np:Bool}(h:Ra (Gv page n c np)):Rr (Gv page n c np) (λ_=>false) λ_=>false:=by
 have a:=h.size;refine⟨SL λ_=>rfl,SL λ_=>rfl,by show((0:Nat):Int)*64<=_;omega,by show((0:Nat):Int)*64<=_;omega,λi hi=>(by cases hi),λi hi=>(by cases hi),by omega,?_,⟨Int.le_refl 0,by show(0:Int)<=_;omega,λi hi=> ?_⟩⟩
 .show(0:Int)=_;have:cN (λ_=>false) (Gv page n c np).AO.toNat=0:=by
   generalize (Gv page n c np).AO.toNat=m
   induction m with
   | zero=>rfl
   | succ m ih=>assumption
  omega
 .have hi:(i:Int)<0:=hi;omega
section
variable{E:Env}{w:World}{Z:List Pr}{b h s r:Nat}{W:SW}{U M:Aq}
def Sat.Gw:Sat (AQ E b h s r W::Z) w↔ ∃em,Sat (Lk E b h s r W em++Z) w:=by
 unfold AQ;rw[Sat.ex];exact⟨λ⟨g,h⟩=>⟨g,Sat.star.1 h⟩,λ⟨g,h⟩=>⟨g,Sat.star.2 h⟩⟩
def NZ{em:AY}(H:Sat (Lk E b h s r W em++Z) w):w.cell? (Addr.mk b 0 none)=some (.pointer (sM h))/\w.cell? ((Addr.mk b 0 none).add 1)=some (.pointer (sM s))/\w.cell? ((Addr.mk b 0 none).add 2)=some (.pointer (sM r))/\
  w.cell? ((Addr.mk b 0 none).add 3)=some (.slice em.base em.len em.cap)/\w.cell? ((Addr.mk b 0 none).add 4)=some (.int .u64 W.CD)/\w.cell? ((Addr.mk b 0 none).add 5)=some (.int .u64 W.Lj)/\w.cell? ((Addr.mk b 0 none).add 6)=some (.int .u64 W.Bq)/\w.cell? ((Addr.mk b 0 none).add 7)=some (.int .u64 W.Gd):=
 have H:Sat (Cells b E.DI (Hk h s r em W)::_) w:=H
 ⟨H.AW rfl,H.cell rfl,H.cell rfl,H.cell rfl,H.cell rfl,H.cell rfl,H.cell rfl,H.cell rfl⟩
def Sat.GA(H:Sat (AQ E b h s r W::Z) w): ∃R,Sat (Ax E h W.S::R) w/\(∀{w'},Sat R w'->Sat Z w')/\ ∀{S' w'},Sat (Ax E h S'::R) w'->Sat (AQ E b h s r {W with S:=S'}::Z) w':=by
 obtain⟨em,H⟩:=Sat.Gw.1 H;exact⟨_,H.front 1 rfl,λh=>h.tail.tail.tail.tail,λ{S' w'} h'=>Sat.Gw.2 ⟨em,Sat.back (Ps:=Lk E b h s r W em++Z) 1 h' (by simp[Lk])⟩⟩
def Sat.QM(H:Sat (AQ E b h s r W::Z) w): ∃R,Sat (F8 E s W.L::R) w/\(∀{w'},Sat R w'->Sat Z w')/\ ∀{L' w'},Sat (F8 E s L'::R) w'->Sat (AQ E b h s r {W with L:=L'}::Z) w':=by
 obtain⟨em,H⟩:=Sat.Gw.1 H;exact⟨_,H.front 2 rfl,λh=>h.tail.tail.tail.tail,λ{S' w'} h'=>Sat.Gw.2 ⟨em,Sat.back (Ps:=Lk E b h s r W em++Z) 2 h' (by simp[Lk])⟩⟩
def Sat.tD(H:Sat (AQ E b h s r W::Z) w): ∃Q,Sat (Ix E r W.R::Q) w/\(∀{w'},Sat Q w'->Sat Z w')/\ ∀{R' w'},Sat (Ix E r R'::Q) w'->Sat (AQ E b h s r {W with R:=R'}::Z) w':=by
 obtain⟨em,H⟩:=Sat.Gw.1 H;exact⟨_,H.front 3 rfl,λh=>h.tail.tail.tail.tail,λ{S' w'} h'=>Sat.Gw.2 ⟨em,Sat.back (Ps:=Lk E b h s r W em++Z) 3 h' (by simp[Lk])⟩⟩
def Sat.Oq(H:Sat (AQ E b h s r W::Z) w):w.cell? (Addr.mk b 0 none)=some (.pointer (sM h))/\w.cell? ((Addr.mk b 0 none).add 1)=some (.pointer (sM s))/\w.cell? ((Addr.mk b 0 none).add 2)=some (.pointer (sM r)):=by
 obtain⟨em,H⟩:=Sat.Gw.1 H;exact⟨(NZ H).1,(NZ H).2.1,(NZ H).2.2.1⟩
def SW.new(S:HS):SW:=⟨S,[],[],[],0,0,0,0⟩
def gJ{S:HS}(H:Sat (Ix E r []::F8 E s []::Ax E h S::Z) w){K:Option Addr->World->Prop}(e: ∀b w',Sat (AQ E b h s r (SW.new S)::Z) w'->K (sM b) w'):F.PG E (sM h) (sM s) (sM r) K w:=by
 unfold F.PG;refine AJ (vs:=Hk h s r ⟨none,0,0⟩ (SW.new S)) H λb1 j a _=>e b1 j (Sat.Gw.2 ⟨⟨none,0,0⟩,?_⟩);have h1:=a.nil E.Am 3;exact((((h1.front 0 rfl).front 2 rfl).front 3 rfl).front 4 rfl).front 4 rfl
def aV(H:Sat (AQ E b h s r W::Z) w){K:Option Addr->World->Prop}(a:K (sM h) w):F.HC E (sM b) K w:=by
 unfold F.HC;exact AG ⟨_,H.Oq.1,a⟩
def JV:List Value:=[.int .u64 0,.int .i64 0,.int .i64 0,.int .i64 0,.bool false,.int .i64 0,.int .i64 0,.int .i64 0,.bool false,.bool false]
def Hl(x:SI):List Value:=[.int .u64 x.base,.int .i64 x.AD,.int .i64 x.state,.int .i64 x.cls,.bool x.Eh,.int .i64 x.elem,.int .i64 x.AO,.int .i64 x.used,.bool x.f8,.bool x.f9]
def QN(H:Sat (AQ E b h s r W::Z) w)(hI:Ae W U M){id:Int}{K:Option Addr->Int->Int->Int->Int->Bool->Int->Int->Int->Bool->Bool->Int->World->Prop}
  (aA:W.S.sp id=none-> ∀w',Sat (AQ E b h s r W::Z) w'->K none 0 0 0 0 false 0 0 0 false false 35 w')
  (aB: ∀x,W.S.sp id=some x->Ra x.2->Rr x.2 (U id) (M id)-> ∀w',Sat (AQ E b h s r W::Z) w'->K (sM x.1) x.2.base x.2.AD x.2.state x.2.cls x.2.Eh x.2.elem x.2.AO x.2.used x.2.f8 x.2.f9 0 w'):
  F.BB E (sM b) id K w:=by
 unfold F.BB T0.BB;refine AJ (vs:=JV) H λb1 w2 v _=>AG ⟨_,(v.front 1 rfl).Oq.1,?_⟩;obtain⟨R,HH,_,hb⟩:=(v.front 1 rfl:Sat (AQ E b h s r W::Cells b1 E.BD JV::Z) w2).GA;refine VB HH (λhn=> ?_) λx hx=> ?_
 .refine Aa rfl ?_;refine Bm (news:=JV) v rfl (by simp[JV,Value.oneCell']) λw8 j=> ?_;exact⟨0,j.cell rfl,0,j.cell rfl,0,j.cell rfl,0,j.cell rfl,false,j.cell rfl,0,j.cell rfl,0,j.cell rfl,0,j.cell rfl,false,j.cell rfl,false,j.cell rfl,aA hn w8 j.tail⟩
 .obtain⟨Bl,hg⟩:=hI.sp id x hx;obtain⟨R2,aC,Y⟩:=HH.Ke hx;refine AR rfl (JS aC λaE J=> ?_);have O:Sat (AQ E b h s r W::Cells b1 E.BD JV::Z) aE:=hb (Y J);refine AJ (vs:=JV) O λaH aM T _=> ?_;refine Bm (news:=Hl x.2) T rfl (by simp[Hl,Value.oneCell']) λaN u=>⟨x.2.state,u.cell rfl,?_⟩;rw[Bl.st];refine AR rfl ?_;have a:=u.drew;refine⟨_,a.cell rfl,_,a.cell rfl,_,a.cell rfl,_,a.cell rfl,_,a.cell rfl,_,a.cell rfl,_,a.cell rfl,_,a.cell rfl,_,a.cell rfl,_,a.cell rfl,?_⟩;refine Bm (news:=Hl x.2) (a.front 2 rfl) rfl (by simp[Hl,Value.oneCell']) λaF e=> ?_;exact⟨_,e.cell rfl,_,e.cell rfl,_,e.cell rfl,_,e.cell rfl,_,e.cell rfl,_,e.cell rfl,_,e.cell rfl,_,e.cell rfl,_,e.cell rfl,_,e.cell rfl,aB x hx Bl hg aF e.tail.tail⟩
end
def VY{S:HS}{fl:Int->Bool}(hI:HInv S fl){id:Int}{x:Nat×SI}(e:S.sp id=some x){p:Int}(h1:x.2.base/8192<=p)(a:p<x.2.base/8192+x.2.AD):S.own p=id:=(hI.sp id x e).2.2.2.2 p h1 a
def tE{S:HS}{fl:Int->Bool}(hI:HInv S fl){i j:Int}{x y:Nat×SI}(a:S.sp i=some x)(e:S.sp j=some y)(h:x.2.base=y.2.base):i=j:=by
 have h1:=(hI.sp i x a).2.2.1;have u:=(hI.sp j y e).2.2.1;rw[<-VY hI a (Int.le_refl _) (by omega),<-VY hI e (p:=x.2.base/8192) (by omega) (by omega)]
section
variable{E:Env}{w:World}{Z:List Pr}{b h s r:Nat}{W:SW}{U M:Aq}
def Ae.ofL(hI:Ae W U M){L:List EV}(a: ∀x∈L,∃y,W.S.sp x.id=some y/\y.2.base=x.base):Ae {W with L:=L} U M:=⟨hI.hI,hI.sp,a⟩
variable(hE:EnvW E)
include hE
theorem QO(H:Sat (AQ E b h s r W::Z) w)(hI:Ae W U M){id:Int}{sw:Bool}(hf:W.L.length<1099511627776){K:Int->World->Prop}
  (aD:W.S.sp id=none-> ∀w',Sat (AQ E b h s r W::Z) w'->K 35 w')(aE:W.S.sp id≠none->(∃x∈W.L,x.id=id)-> ∀w',Sat (AQ E b h s r W::Z) w'->K 34 w')
  (aF: ∀x,W.S.sp id=some x->(∀y∈W.L,y.id≠id)-> ∀EC,Ae {W with L:=HJ W.L ⟨EC,id,x.2.base,(x.2.cls,x.2.Eh,x.2.used==x.2.AO,sw)⟩} U M-> ∀w',
   Sat (AQ E b h s r {W with L:=HJ W.L ⟨EC,id,x.2.base,(x.2.cls,x.2.Eh,x.2.used==x.2.AO,sw)⟩}::Z) w'->K 0 w'):F.BC E (sM b) id sw K w:=by
 unfold F.BC T0.BC;refine QN H hI (λhn w' H'=> ?_) λx hx Bl hg w' H'=> ?_
 .refine AJ (vs:=JV) H' λaB aJ v _=> ?_;refine Bm (news:=JV) v rfl (by simp[JV,Value.oneCell']) λY J=>Aa rfl (aD hn Y J.tail)
 .refine AJ (vs:=JV) H' λaB aJ v _=> ?_;refine Bm (news:=Hl x.2) v rfl (by simp[Hl,Value.oneCell']) λY J=>AR rfl (AG ?_);have a:=J.drew;have O:=a.front 1 rfl;refine⟨_,O.Oq.2.1,_,a.AW rfl,_,a.cell rfl,_,a.cell rfl,_,a.cell rfl,_,a.cell rfl,?_⟩;obtain⟨R,HH,hz,hb⟩:=O.QM;have aL:=(hI.hI.sp id x hx).1;have hc:=Bl.cls;refine gB hE HH hf (λhb=> ?_) (λ_ hex=> ?_) λ_ aG EC aK T=> ?_
  .unfold aM at hb;omega
  .refine⟨a.cell rfl,a.cell rfl,aE (by grind) ?_ _ a.tail⟩;obtain⟨y,j,e⟩:=hex;refine⟨y,j,?_⟩;rcases e with e|e
   .exact e
   .obtain⟨z,aI,aQ⟩:=hI.it y j;exact tE hI.hI aI hx (by simp_all)
  .have u:=hz T.tail;refine⟨u.cell rfl,u.cell rfl,aF x hx (λy j=>(aG y j).1) EC (hI.ofL λy j=> ?_) aK ?_⟩
   .rcases DY.1 j with rfl|j
    .grind
    .exact hI.it y j
   .exact((hb T).front 1 rfl).tail
end
section
variable{E:Env}{w:World}{Z:List Pr}{b h s r:Nat}{W:SW}{U M:Aq}(hE:EnvW E)
include hE
theorem MK(H:Sat (AQ E b h s r W::Z) w)(hI:Ae W U M){K:Int->Bool->World->Prop}(J:(∀x∈W.L,x.Ei=true)-> ∀w',Sat (AQ E b h s r W::Z) w'->K 0 false w')
  (O: ∀x,VV W.L x->Ae {W with L:=IZ W.L x.id} U M-> ∀w',Sat (AQ E b h s r {W with L:=IZ W.L x.id}::Z) w'->K x.id true w'):F.By E (sM b) K w:=by
 unfold F.By T0.By;refine AG ⟨_,H.Oq.2.1,?_⟩;obtain⟨R,HH,hz,hb⟩:=H.QM;refine RY HH (λa w5 j=>AR rfl (J a w5 (hb j))) λx hx w5 j=>Aa rfl ?_;have Y:=hb j;refine AG ⟨_,Y.Oq.2.1,?_⟩;obtain⟨R2,u,aG,v⟩:=Y.QM;refine VU hE u (λT=>absurd rfl (T x hx.1)) λy hy e w9 H9=> ?_;exact O x hx (hI.ofL λy hy=>hI.it y (Jo.1 hy).1) w9 (v H9)
end
structure SS(S S':HS):Prop where
 rest:S'={S with sp:=S'.sp}
 no: ∀id,S.sp id=none->S'.sp id=none
 sp: ∀id x,S.sp id=some x-> ∃mw,S'.sp id=some (x.1,{x.2 with mw:=mw})
def SS.refl(S:HS):SS S S:=⟨rfl,λ_ h=>h,λid x h=>⟨x.2.mw,h⟩⟩
def SS.put{S S':HS}(h:SS S S'){id:Int}{x:Nat×SI}(a:S'.sp id=some x)(mw:List Int):SS S (S'.put id (x.1,{x.2 with mw:=mw})):=by
 refine⟨?_,λi hi=> ?_,λi y u=> ?_⟩
 .have:=h.rest;unfold HS.put;rw[this]
 .show(if i=id then _ else S'.sp i)=none;by_cases e:i=id
  .subst e;rw[h.no i hi]at a;cases a
  .rw[if_neg e];exact h.no i hi
 .obtain⟨j,h0⟩:=h.sp i y u;by_cases e:i=id
  .subst e;rw[a]at h0;have h0:=Option.some.inj h0;subst h0;exact⟨mw,HS.F9⟩
  .exact⟨j,(HS.He e).trans h0⟩
def SS.own{S S':HS}(h:SS S S'):S'.own=S.own:=by rw[h.rest]
def mkOf(S:HS)(a:Int):Option (Int×Nat):=match S.sp (S.own (a/8192))with
 | none=>none
 | some x=>if x.2.base<=a/\a<x.2.base+x.2.AO*x.2.elem then some (S.own (a/8192),((a-x.2.base)/x.2.elem).toNat)else none
def YV{S S':HS}(h:SS S S')(a:Int):mkOf S' a=mkOf S a:=by
 unfold mkOf;rw[h.own];cases e:S.sp (S.own (a/8192))with
 | none=>rw[h.no _ e]
 | some x=>
  obtain⟨mw,h1⟩:=h.sp _ x e;rw[h1]
def Aq.mark(M:Aq)(S:HS)(as_:List Int):Aq:=λid k=>M id k||as_.any λa=>decide (mkOf S a=some (id,k))
def Ae.mark{W:SW}{U M:Aq}(hI:Ae W U M){id:Int}{x:Nat×SI}(v:W.S.sp id=some x){n:Nat}{mw:List Int}(K:Rr {x.2 with mw:=mw} (U id) (λi=>M id i||i==n)):
  Ae {W with S:=W.S.put id (x.1,{x.2 with mw:=mw})} U (λj i=>M j i||(decide (j=id)&&i==n)):=by
 obtain⟨Bl,_⟩:=hI.sp id x v;refine⟨hI.hI.put v rfl rfl (by show x.2.state≠0;rw[Bl.st];decide),λj y a=> ?_,λit u=> ?_⟩
 .by_cases e:j=id
  .subst e;have a:(W.S.put j (x.1,{x.2 with mw:=mw})).sp j=some y:=a;rw[HS.F9]at a;cases a;refine⟨Bl.Fk rfl rfl rfl rfl rfl rfl rfl,?_⟩;have:(λi=>M j i||(decide (j=j)&&i==n))=λi=>M j i||i==n:=by grind
   grind
  .have a:(W.S.put id (x.1,{x.2 with mw:=mw})).sp j=some y:=a;rw[HS.He e]at a;have:=hI.sp j y a
   simp_all
 .obtain⟨y,h1,J⟩:=hI.it it u;by_cases e:it.id=id
  .rw[e,v]at h1;cases h1;exact⟨(x.1,{x.2 with mw:=mw}),by rw[e];exact HS.F9,J⟩
  .exact⟨y,(HS.He e).trans h1,J⟩
section
variable{E:Env}{w:World}{Z:List Pr}{b h s r:Nat}{W:SW}{U M:Aq}(hE:EnvW E)
include hE
theorem aW(H:Sat (AQ E b h s r W::Z) w)(hI:Ae W U M){a1:AY}{as_:List Int}(hA: ∀w',Sat Z w'->rowAt w' a1.base a1.len (ints .u64 as_))(hl:as_.length=a1.len)(bQ:a1.len<=1099511627776)(has: ∀a∈as_,0<=a/\a<18446744073709551616)
  {K:Int->World->Prop}(a4:0<YO W.L false-> ∀w',Sat (AQ E b h s r W::Z) w'->K 33 w')
  (a3:(∀x∈W.L,x.Ei=true)-> ∀S',SS W.S S'->Ae {W with S:=S',L:=JT W.L} U (M.mark W.S as_)-> ∀w',Sat (AQ E b h s r {W with S:=S',L:=JT W.L}::Z) w'->K 0 w'):
  F.DH E (sM b) a1 K w:=by
 unfold F.DH T0.DH;refine AG ⟨_,H.Oq.2.1,?_⟩;obtain⟨R,HH,hz,hb⟩:=H.QM;refine NW HH λw4 H4=>AE (λg=>a4 (by omega) w4 (hb H4)) λg=> ?_;have H5:=hb H4;have e0:M.mark W.S (as_.take 0)=M:=by funext i k;simp[Aq.mark]
 refine AM (λst w'=> ∃(i:Nat) (S':HS),st.1=(i:Int)/\i<=as_.length/\SS W.S S'/\Ae {W with S:=S'} U (M.mark W.S (as_.take i))/\Sat (AQ E b h s r {W with S:=S'}::Z) w') (λst _=>((as_.length:Int)-st.1).toNat) ⟨0,W.S,rfl,Nat.zero_le _,SS.refl _,by rw[e0];exact hI,H5⟩ ?_;rintro⟨i',u⟩ _ w6 ⟨i,S',hi,bP,e,v,H6⟩;dsimp only at hi⊢;subst hi;refine AE (λbR=> ?_) λbO=> ?_
 .obtain⟨a,ha⟩: ∃a,as_[i]? =some a:=⟨_,List.getElem?_eq_getElem (by omega)⟩;have aA:=has a (List.mem_of_getElem? ha);obtain⟨q,hq,a7⟩: ∃q,a1.base=some q/\w6.cell? (q.add (Int.toNat (i:Int)*1))=some (.int .u64 a):=by
   have hr:=hA w6 H6.tail;cases hb1:a1.base with
   | none=>rw[hb1]at hr;have:ints .u64 as_=[]:=hr;simp[ints]at this;grind
   | some q=>rw[hb1]at hr;exact⟨q,rfl,by rw[Int.toNat_natCast,Nat.mul_one];exact hr.2 i _ (OJ ha)⟩
  rw[hq];refine AG ⟨⟨by omega,by omega⟩,a,a7,AG ⟨_,H6.Oq.1,?_⟩⟩;have a0:i64 ((i:Int)+1)=((i+1:Nat):Int):=by rw[AI];rfl
  rw[a0];have aV:as_.take (i+1)=as_.take i++[a]:=Gb ha;obtain⟨R2,T,bA,Y⟩:=H6.GA;have skip:mkOf W.S a=none-> ∀w',Sat (AQ E b h s r {W with S:=S'}::Z) w'->((∃(aC:Nat) (S':HS),((i+1:Nat):Int)=(aC:Int)/\aC<=as_.length/\SS W.S S'/\Ae {W with S:=S'} U (M.mark W.S (as_.take aC))/\Sat (AQ E b h s r {W with S:=S'}::Z) w')/\((as_.length:Int)-((i+1:Nat):Int)).toNat<((as_.length:Int)-(i:Int)).toNat):=λhn w' H'=>by
   refine⟨⟨i+1,S',rfl,by omega,e,?_,H'⟩,by omega⟩;have:M.mark W.S (as_.take (i+1))=M.mark W.S (as_.take i):=by
    funext j k;unfold Aq.mark
    grind
   grind
  refine Z3 T aA.1 aA.2 λbV aN=> ?_;refine QN (Y aN) v (λhn w' H'=> ?_) λx hx Bl hg w' H'=> ?_
  .refine AJ (vs:=JV) H' λaU bB J _=> ?_;refine Bm (news:=JV) J rfl (by simp[JV,Value.oneCell']) λaK O=>Aa rfl ?_;refine skip ?_ aK O.tail;rw[<-YV e];unfold mkOf
   grind
  .have hx:S'.sp (S'.own (a/8192))=some x:=hx;refine AJ (vs:=JV) H' λaU bB J _=> ?_;refine Bm (news:=Hl x.2) J rfl (by simp[Hl,Value.oneCell']) λaK O=>AR rfl ?_;obtain⟨R3,aS,bU,aY⟩:=O.tail.GA;obtain⟨R4,a8,aF⟩:=aS.kB hx;have aJ:=Bl.size;have bG:=Bl.ba;have bS:=Bl.pg;have aM: ∀{S:HS} {id:Int} {y:Nat×SI},S.sp id=some y->S.put id y=S:=λ{S id y} hy=>by
    unfold HS.put;have:(λi=>if i=id then some y else S.sp i)=S.sp:=by grind
    simp_all
   refine Pj a8 Bl.aG aJ.1 (by omega) (by omega) (by omega) aA (λbF w' Hs=> ?_) λh1 h2 w' Hs=> ?_
   .refine AR rfl (skip ?_ w' ?_)
    .rw[<-YV e];unfold mkOf
     grind
    .have:=aF Hs
     grind
   .have a6:0<=(a-x.2.base)/x.2.elem:=Int.ediv_nonneg (by omega) (by omega);have aI:(a-x.2.base)/x.2.elem<x.2.AO:=Int.ediv_lt_of_lt_mul aJ.1 (by omega);obtain⟨n,hn⟩:=Int.eq_ofNat_of_zero_le a6;refine Aa rfl ?_;rw[hn]at aI⊢;refine TI Hs hg Bl.st aI λmw' aZ bW aO=> ?_;have aQ:=aY (aF aO);refine⟨⟨i+1,S'.put (S'.own (a/8192)) (x.1,{x.2 with mw:=mw'}),rfl,by omega,e.put hx mw',?_,aQ⟩,by omega⟩;have hIn:=v.mark (W:={W with S:=S'}) hx aZ;have em:M.mark W.S (as_.take (i+1))=λj k=>M.mark W.S (as_.take i) j k||(decide (j=S'.own (a/8192))&&k==n):=by
     funext j k;unfold Aq.mark;rw[aV,List.any_append,<-Bool.or_assoc];congr 1;simp only[List.any_cons,List.any_nil,Bool.or_false];have:mkOf W.S a=some (S'.own (a/8192),n):=by
      rw[<-YV e];unfold mkOf
      simp_all
     grind
    grind
 .have a2:i=as_.length:=by omega
  refine AG ⟨_,H6.Oq.2.1,?_⟩;obtain⟨R2,T,bA,Y⟩:=H6.QM;refine aP T (λaH=>absurd aH (by grind)) λa9 bC aR=> ?_;rw[a2,List.take_length]at v;refine a3 a9 S' e (v.ofL λx hx=> ?_) bC (Y aR);obtain⟨y,hy,rfl⟩:=List.mem_map.1 hx;exact v.it y hy
end
structure nP where
 R:List Rc
 m:Nat->Bool
 em:List Rc
def Ju(a:Int)(y:Rc):Bool:=y.addr==a&&y.kind==1
def tF(R:List Rc)(a:Int):List Rc:=R.filter λy=> !Ju a y
def spStep(u:Nat->Bool)(base elem:Int)(k:Nat)(t:nP):nP:=
 if u k=true/\t.m k=false then
  match t.R.find? (Ju (base+k*elem))with
  | some y=>⟨tF t.R (base+k*elem),λi=>t.m i||i==k,t.em++[⟨0,base+k*elem,1,y.data⟩]⟩
  | none=>⟨Ti t.R (base+k*elem),t.m,t.em++YT t.R (base+k*elem)⟩
 else t
def Pk(u:Nat->Bool)(base elem:Int):Nat->nP->nP
 | 0,t=>t
 | n+1,t=>spStep u base elem n (Pk u base elem n t)
def aX{u:Nat->Bool}{base elem:Int}{k:Nat}{t:nP}(h: ∀y∈t.R,y.addr≠base+k*elem):spStep u base elem k t=t:=by
 unfold spStep;split
 .have h1:t.R.find? (Ju (base+k*elem))=none:=by
   rw[List.find?_eq_none];intro y a;unfold Ju
   grind
  have e:Ti t.R (base+k*elem)=t.R:=List.filter_eq_self.2 λy a=>by grind
  have j:YT t.R (base+k*elem)=[]:=List.filter_eq_nil_iff.2 λy a=>by grind
  rw[h1]
  simp_all
 .rfl
def QP{u:Nat->Bool}{base elem:Int}{t:nP}: ∀{n:Nat},(∀k,k<n-> ∀y∈t.R,y.addr≠base+(k:Int)*elem)->Pk u base elem n t=t
 | 0,_=>rfl
 | n+1,h=>by
  show spStep u base elem n (Pk u base elem n t)=t;rw[QP λk a=>h k (by omega),aX (h n (by omega))]
def rcF{A B:List Rc}{y:Rc}{a:Int}(hI:TL (A++y::B))(h1:y.addr=a)(J:y.kind=1):(A++y::B).find? (Ju a)=some y/\tF (A++y::B) a=A++B:=by
 have v:=List.pairwise_append.1 hI.XJ;have T:Ju a y=true:=by unfold Ju;grind
 have u: ∀x,x.key≠y.key->Ju a x=false:=λx j=>by
  cases e:Ju a x with
  | false=>rfl
  | true=>
   unfold Ju at e;rw[Bool.and_eq_true,beq_iff_eq,beq_iff_eq]at e;exact absurd (by unfold Rc.key;omega) j
 have K: ∀x∈A,Ju a x=false:=λx j=>u x (by have:=v.2.2 x j y (by simp);omega);have O: ∀x∈B,Ju a x=false:=λx j=>u x (by have:=(List.pairwise_cons.1 v.2.1).1 x j;omega);constructor
 .grind
 .unfold tF;rw[List.filter_append,List.filter_cons_of_neg (by grind),List.filter_eq_self.2 λx j=>by grind,List.filter_eq_self.2 λx j=>by grind]
def rcN{R:List Rc}{a:Int}(h: ∀x∈R,¬(x.addr=a/\x.kind=1)):R.find? (Ju a)=none:=by
 rw[List.find?_eq_none];intro x j e;unfold Ju at e
 grind
def tG(R:List Rc)(a:Int):(YT R a).length+(Ti R a).length=R.length:=by
 unfold YT Ti
 induction R with
 | nil=>rfl
 | cons y R ih=>grind
def zE{R:List Rc}{a:Int}{y:Rc}(h:R.find? (Ju a)=some y):(tF R a).length+1<=R.length:=by
 have h1:=List.find?_some h;have j:=List.mem_of_find?_eq_some h;unfold tF;have:(R.filter λy=> !Ju a y).length<R.length:=by
  refine Nat.lt_of_le_of_ne (List.length_filter_le _ _) λe=> ?_
  simp_all
 omega
def gK{u:Nat->Bool}{base elem:Int}{k:Nat}{t:nP}:(spStep u base elem k t).em.length+(spStep u base elem k t).R.length<=t.em.length+t.R.length:=by
 unfold spStep;split
 .cases h:t.R.find? (Ju (base+k*elem))with
  | some y=>have:=zE h;grind
  | none=>have:=tG t.R (base+k*elem);grind
 omega
def XM{u:Nat->Bool}{base elem:Int}{t:nP}: ∀n,(Pk u base elem n t).em.length+(Pk u base elem n t).R.length<=t.em.length+t.R.length
 | 0=>Nat.le_refl _
 | n+1=>Nat.le_trans gK (XM n)
def tH{u:Nat->Bool}{base elem:Int}{k:Nat}{t:nP}(h: ∀i,t.m i=true->u i=true): ∀i,(spStep u base elem k t).m i=true->u i=true:=by
 unfold spStep
 grind
def kH{u:Nat->Bool}{base elem:Int}{t:nP}(h: ∀i,t.m i=true->u i=true): ∀n i,(Pk u base elem n t).m i=true->u i=true
 | 0=>h
 | n+1=>tH (kH h n)
def HS.Tz(S:HS)(id:Int)(a c:Nat×SI):(S.put id a).put id c=S.put id c:=by
 unfold HS.put
 grind
def HS.aY{S:HS}{id:Int}{x:Nat×SI}(a:S.sp id=some x):S.put id x=S:=by
 unfold HS.put;have:(λi=>if i=id then some x else S.sp i)=S.sp:=by grind
 simp_all
section
variable{E:Env}{w:World}{Z:List Pr}{b h s r:Nat}{W:SW}{U M:Aq}
def Ae.rc(hI:Ae W U M)(R:List Rc)(em:List Rc)(f d p c:Int):Ae {W with R:=R,em:=em,CD:=f,Gd:=d,Bq:=p,Lj:=c} U M:=⟨hI.hI,hI.sp,hI.it⟩
def tI{F:List Pr}{t z bytes:Nat}{zs:Array Value}{s1 s2:AY}{vs us:List Value}{K:AY->World->Prop}(H:Sat (Row t z s1 vs::Row t z s2 us::F) w)(hz:zs.size=z)(ho: ∀v∈us,v.oneCell'=true)
  (u:(s1.len+s2.len)*bytes<=140737488355328)(a:s1.len+s2.len<=9223372036854775807)(j: ∀s' w',Sat (Row t z s' (vs++us)::Row t z s2 us::F) w'->K s' w'):APP t z bytes zs s1 s2 w K:=
 O7 H hz (H.front 1 rfl).LP (H.front 1 rfl).CK ho u a λs' w' e _=>j s' w' e
def Tj(H:Sat (AQ E b h s r W::Z) w)(hI:Ae W U M){id:Int}{x:Nat×SI}(hx:W.S.sp id=some x)(cW:W.em.length+W.R.length<=1099511627776){K:World->Prop}{Kp:Value->World->Prop}
  (b7:(∃i,M id i=true/\U id i=false)-> ∀w',Sat (AQ E b h s r W::Z) w'->Kp (.iface E.Gp (.agg ⟨[]⟩)) w')
  (hk:(∀i,M id i=true->U id i=true)-> ∀t,t=Pk (U id) x.2.base x.2.elem x.2.AO.toNat ⟨W.R,M id,W.em⟩-> ∀mw,Ae {W with S:=W.S.put id (x.1,{x.2 with mw:=mw}),R:=t.R,em:=t.em} U (M.set id t.m)->
   ∀w',Sat (AQ E b h s r {W with S:=W.S.put id (x.1,{x.2 with mw:=mw}),R:=t.R,em:=t.em}::Z) w'->K w'):
  F.A6 E (sM b) (sM x.1) x.2.base x.2.AD x.2.state x.2.cls x.2.Eh x.2.elem x.2.AO x.2.used x.2.f8 x.2.f9 K Kp w:=by
 unfold F.A6 T0.A6;obtain⟨Bl,hg⟩:=hI.sp id x hx;have cC:=Bl.size;have cV:=Bl.ba;have c7:=Bl.pg;have a:W.S.put id (x.1,{x.2 with mw:=x.2.mw})=W.S:=HS.aY hx;have aW:M.set id (M id)=M:=by funext i;unfold Aq.set;split;rename_i e;rw[e];rfl
 refine AJ (vs:=Hl x.2) H λb1 w2 H2 _=> ?_;obtain⟨R2,bL,c9,bT⟩:=(H2.front 1 rfl:Sat (AQ E b h s r W::Cells b1 E.BD (Hl x.2)::Z) w2).GA;obtain⟨R3,aM,bU⟩:=bL.Ke hx;have O: ∀{w'},Sat (Cm E x.1 x.2::R3) w'->Sat (AQ E b h s r W::Cells b1 E.BD (Hl x.2)::Z) w':=λh'=>bT (bU h');refine Ph aM hg (λhz=>Aa rfl (b7 hz w2 ((O aM).front 1 rfl).tail)) λcA=>AR rfl (AG ?_);have H4:=(O aM).drew;have c4:=H4.front 1 rfl;refine⟨_,H4.Oq.2.2,_,c4.AW rfl,_,c4.AW rfl,_,c4.cell rfl,?_⟩;rw[AP (n:=x.2.AD),AP (n:=x.2.AD*8192),AP (n:=x.2.base+x.2.AD*8192)];obtain⟨Q,bN,dB,bW⟩:=H4.tD;refine Th bN λGM l a4 cJ a0 a8=> ?_;have aF:=bW a8.tail;have aK:=aF.front 1 rfl;refine⟨aK.cell rfl,aK.AW rfl,C6 (λe0=> ?_) λe0=>⟨x.2.AO,aK.cell rfl,?_⟩⟩
 .-- no record
  have aX:=a0.1 (by omega);have aE:Pk (U id) x.2.base x.2.elem x.2.AO.toNat ⟨W.R,M id,W.em⟩=⟨W.R,M id,W.em⟩:=QP λk hk y hy e=>aX y hy (by
   have h1:0<=(k:Int)*x.2.elem:=Int.mul_nonneg (by omega) (by omega);have h2:((k:Int)+1)*x.2.elem<=x.2.AO*x.2.elem:=Int.mul_le_mul_of_nonneg_right (by omega) (by omega)
   grind)
  refine hk cA _ rfl x.2.mw ?_ a4 ?_
  .rw[aE,a,aW];exact hI
  .rw[aE,a];exact(aF.front 1 rfl).tail
 .-- slot for slot
  let tk:Nat->nP:=λk=>Pk (U id) x.2.base x.2.elem k ⟨W.R,M id,W.em⟩
  let Wk:Nat->List Int->SW:=λk mw=>{W with S:=W.S.put id (x.1,{x.2 with mw:=mw}),R:=(tk k).R,em:=(tk k).em}
  refine AM (λst w'=> ∃(k:Nat) (mw:List Int),st.1=(k:Int)/\k<=x.2.AO.toNat/\Ae (Wk k mw) U (M.set id (tk k).m)/\Sat (AQ E b h s r (Wk k mw)::Z) w') (λst _=>(x.2.AO-st.1).toNat) ⟨0,x.2.mw,rfl,Nat.zero_le _,?_,?_⟩ ?_
  .show Ae {W with S:=W.S.put id (x.1,{x.2 with mw:=x.2.mw}),R:=W.R,em:=W.em} U (M.set id (M id));rw[a,aW];exact hI
  .show Sat (AQ E b h s r {W with S:=W.S.put id (x.1,{x.2 with mw:=x.2.mw}),R:=W.R,em:=W.em}::Z) a4;rw[a];exact(aF.front 1 rfl).tail
  rintro⟨k',u⟩ _ dE ⟨k,mw,a1,c0,aB,aG⟩;dsimp only at a1⊢;subst a1;refine AE (λc2=> ?_) λcY=> ?_
  .have b6:i64 ((k:Int)+1)=((k+1:Nat):Int):=by rw[AI];rfl
   rw[b6];have aD:(Wk k mw).S.sp id=some (x.1,{x.2 with mw:=mw}):=HS.F9;obtain⟨a3,aC⟩:=aB.sp id _ aD;have aV:(M.set id (tk k).m) id=(tk k).m:=if_pos rfl;rw[aV]at aC;have T:=XM (u:=U id) (base:=x.2.base) (elem:=x.2.elem) (t:=⟨W.R,M id,W.em⟩) k;have T:(tk k).em.length+(tk k).R.length<=W.em.length+W.R.length:=T;have aO: ∀{t':nP} {mw':List Int} {w'},spStep (U id) x.2.base x.2.elem k (tk k)=t'->Ae {W with S:=W.S.put id (x.1,{x.2 with mw:=mw'}),R:=t'.R,em:=t'.em} U (M.set id t'.m)->Sat (AQ E b h s r {W with S:=W.S.put id (x.1,{x.2 with mw:=mw'}),R:=t'.R,em:=t'.em}::Z) w'->
     (∃(Y:Nat) (mw:List Int),((k+1:Nat):Int)=(Y:Int)/\Y<=x.2.AO.toNat/\Ae (Wk Y mw) U (M.set id (tk Y).m)/\Sat (AQ E b h s r (Wk Y mw)::Z) w')/\(x.2.AO-((k+1:Nat):Int)).toNat<(x.2.AO-(k:Int)).toNat:=λ{t' mw' w'} ht hIn hS=>by
    refine⟨⟨k+1,mw',rfl,by omega,?_,?_⟩,by omega⟩
    .have:tk (k+1)=t':=ht
     grind
    .have:tk (k+1)=t':=ht
     grind
   have same: ∀{w'},¬(U id k=true/\(tk k).m k=false)->Sat (AQ E b h s r (Wk k mw)::Z) w'->_:=λ{w'} aL hS=>aO (t':=tk k) (mw':=mw) (w':=w') (by unfold spStep;rw[if_neg aL]) aB hS;obtain⟨R4,bM,dA,bV⟩:=aG.GA;obtain⟨R5,aN,aZ⟩:=bM.Ke aD;refine TH aN aC (by omega) ?_;cases hu:U id k with
   | false=>exact Aa rfl (same (by grind) aG)
   | true=>
   refine AR rfl (WJ aN aC (by omega) ?_);cases hm:(tk k).m k with
   | true=>exact Aa rfl (same (by grind) aG)
   | false=>
   have b0:U id k=true/\(tk k).m k=false:=⟨hu,hm⟩;refine AR rfl (TF aN (by omega) (by omega) λcE a9=> ?_);have aH:Sat (AQ E b h s r (Wk k mw)::Z) cE:=bV (aZ a9);have c3:0<=(k:Int)*x.2.elem:=Int.mul_nonneg (by omega) (by omega);have c5:((k:Int)+1)*x.2.elem<=x.2.AO*x.2.elem:=Int.mul_le_mul_of_nonneg_right (by omega) (by omega);have c6:((k:Int)+1)*x.2.elem=k*x.2.elem+x.2.elem:=by grind
   have b9:=cC.2.2.2.2;rw[Int.mul_comm x.2.elem]at b9;have ea:u64 (x.2.base+u64 (u64 (k:Int)*u64 x.2.elem))=x.2.base+k*x.2.elem:=by
    rw[AP (n:=(k:Int)),AP (n:=x.2.elem),AP (n:=(k:Int)*x.2.elem),AP]
   have bQ:u64 (({x.2 with mw:=mw}:SI).base+u64 (u64 (k:Int)*u64 ({x.2 with mw:=mw}:SI).elem))=x.2.base+k*x.2.elem:=ea;rw[bQ];generalize hA:x.2.base+(k:Int)*x.2.elem=A at *
   refine AG ⟨_,aH.Oq.2.2,?_⟩;obtain⟨Q6,aT,dC,bX⟩:=aH.tD;refine aU aT (by decide) (λaL=> ?_) λA1 B1 y hR ey ek cF bA=> ?_
   .-- no finalizer
    refine AR rfl ?_;have aI:=aH.drew;obtain⟨em,J⟩:=Sat.Gw.1 aI;have aA:=NZ J;refine AG ⟨em,aA.2.2.2.1,AG ⟨_,aA.2.2.1,?_⟩⟩;have b4:(tk k).R.find? (Ju A)=none:=rcN aL;refine YU (J.front 3 rfl) λoG a6 a2 bI=> ?_;have bJ:Sat ((Lk E b h s r (Wk k mw) em++Row E.Am 3 oG (FJ Rt (YT (tk k).R A))::Z).set 3 (Ix E r (Ti (tk k).R A))) a6:=by
     have h1:=bI.front 1 rfl;exact Sat.back (Ps:=Lk E b h s r (Wk k mw) em++Row E.Am 3 oG (FJ Rt (YT (tk k).R A))::Z) 3 (h1.perm (by
      refine .cons _ ?_;exact(List.perm_middle (l₁:=[_,_,_,_]) (l₂:=Z)).symm)) (by simp[Lk])
    have aJ:Sat (Row E.Am 3 em (FJ Rt (tk k).em)::Row E.Am 3 oG (FJ Rt (YT (tk k).R A))::Cells b E.DI (Hk h s r em (Wk k mw))::Ax E h (Wk k mw).S::F8 E s W.L::Ix E r (Ti (tk k).R A)::Z) a6:=(bJ.front 5 rfl).front 5 rfl;have b8:(tk k).em.length=em.len:=(aJ.Og (by decide) YR).1;have c1:oG.len=(YT (tk k).R A).length:=a2;have cK:=tG (tk k).R A;refine⟨(aJ.front 2 rfl).cell rfl,?_⟩;refine tI (bytes:=24) aJ rfl (rN YS _) (by omega) (by omega) λvB dI bK=>AG ?_;refine Af (bK.front 2 rfl) (o:=0) (m:=3) (v:=FI vB) rfl (by simp[Hk]) λcH aS=> ?_;have et:spStep (U id) x.2.base x.2.elem k (tk k)=⟨Ti (tk k).R A,(tk k).m,(tk k).em++YT (tk k).R A⟩:=by
     unfold spStep
     grind
    refine aO (mw':=mw) et ?_ ?_
    .exact aB.rc (Ti (tk k).R A) ((tk k).em++YT (tk k).R A) W.CD W.Gd W.Bq W.Lj
    .refine Sat.Gw.2 ⟨vB,?_⟩;rw[<-RM]at aS;have h1:Sat (Row E.Am 3 vB (FJ Rt ((tk k).em++YT (tk k).R A))::Cells b E.DI (Hk h s r vB (Wk k mw))::Ax E h (Wk k mw).S::F8 E s W.L::Ix E r (Ti (tk k).R A)::Z) cH:=by
      have h0:=(aS.front 2 rfl).tail;exact h0.front 0 rfl|>.perm (.swap _ _ _)|>.perm (.swap _ _ _)|>.perm (.swap _ _ _)
     exact h1.perm (List.perm_middle (l₁:=[_,_,_,_]) (l₂:=Z)).symm
   .-- a finalizer
    have hR:(tk k).R=A1++y::B1:=hR;have bS:TL (tk k).R:=(Sat.spec.1 aT).1;obtain⟨b2,b3⟩:=rcF (hR▸bS) ey ek;rw[<-hR]at b2 b3;have aI:Sat (AQ E b h s r {Wk k mw with R:=A1++B1}::Z) cF:=bX bA;obtain⟨em,J⟩:=Sat.Gw.1 aI;have aA:=NZ J;refine Aa rfl (AG ⟨em,aA.2.2.2.1,?_⟩);refine AJ (vs:=Rt ⟨0,A,1,y.data⟩) J λcP dF bB _=> ?_;have aR:=bB.BQ 4 rfl;have b8:(tk k).em.length=em.len:=((aR.front 1 rfl).Og (by decide) YR).1;refine GH (news:=Rt ⟨0,A,1,y.data⟩) (bytes:=24) aR rfl rfl (YS _) (by omega) (by omega) λcG dG bC _=>AG ?_;refine Af (bC.front 1 rfl) (o:=0) (m:=3) (v:=FI cG) rfl (by simp[Hk]) λa5 bD=> ?_;have er:FJ Rt (tk k).em++Rt ⟨0,A,1,y.data⟩=FJ Rt ((tk k).em++[⟨0,A,1,y.data⟩]):=by rw[RM];rfl
    have bE:Sat (Cells b E.DI (Hk h s r cG (Wk k mw))::Row E.Am 3 cG (FJ Rt ((tk k).em++[⟨0,A,1,y.data⟩]))::Ax E h (Wk k mw).S::F8 E s W.L::Ix E r (A1++B1)::Z) a5:=by rw[<-er];exact bD
    have bF:Sat (AQ E b h s r {Wk k mw with R:=A1++B1,em:=(tk k).em++[⟨0,A,1,y.data⟩]}::Z) a5:=Sat.Gw.2 ⟨cG,bE.perm (.cons _ (List.perm_middle (l₁:=[_,_,_]) (l₂:=Z)).symm)⟩;obtain⟨R7,bO,dD,bY⟩:=bF.GA;obtain⟨R8,cB,bZ⟩:=bO.kB aD;refine TI cB aC a3.st (by omega) λmw' b5 dH bH=> ?_;have cN:=bY (bZ bH);have et:spStep (U id) x.2.base x.2.elem k (tk k)=⟨A1++B1,λi=>(tk k).m i||i==k,(tk k).em++[⟨0,A,1,y.data⟩]⟩:=by
     unfold spStep
     grind
    refine aO (mw':=mw') et ?_ ?_
    .have h1:=(aB.mark aD (n:=k) (mw:=mw') (by rw[aV];exact b5)).rc (A1++B1) ((tk k).em++[⟨0,A,1,y.data⟩]) W.CD W.Gd W.Bq W.Lj;have e1:(λj i=>M.set id (tk k).m j i||(decide (j=id)&&i==k))=M.set id λi=>(tk k).m i||i==k:=by
      funext j i;unfold Aq.set;by_cases e:j=id
      .simp[e]
      .simp[e]
     rw[e1]at h1;have e2:(Wk k mw).S.put id (x.1,{x.2 with mw:=mw'})=W.S.put id (x.1,{x.2 with mw:=mw'}):=HS.Tz _ _ _ _
     grind
    .have e2:(Wk k mw).S.put id (x.1,{x.2 with mw:=mw'})=W.S.put id (x.1,{x.2 with mw:=mw'}):=HS.Tz _ _ _ _
     grind
  .have cZ:k=x.2.AO.toNat:=by omega
   grind
end
section
variable{E:Env}{h:Nat}{S:HS}{Z:List Pr}{w:World}
def Sat.aZ(H:Sat (Ax E h S::Z) w){id:Int}{x:Nat×SI}(u:S.sp id=some x): ∃R:List Pr,Sat (Cm E x.1 x.2::R) w/\(∀{w'},Sat R w'->Sat Z w')/\ ∀{I:SI} {w'},Sat (Cm E x.1 I::R) w'->Sat (Ax E h (S.put id (x.1,I))::Z) w':=by
  obtain⟨g,hI,H⟩:=Sat.heap.1 H;have hm:id∈g.ids:=(hI.mem id).2 (by grind);obtain⟨i,hi⟩:=List.mem_iff_getElem?.1 hm;have H1:=(H.front 6 rfl).FQ hi;have e:spR E S.sp id=Cm E x.1 x.2:=by unfold spR;rw[u]
  rw[e]at H1;refine⟨_,H1,λh=>h.tail.tail.tail.tail.tail.tail.tail.tail,λ{I w'} h'=>Sat.heap.2 ⟨g,⟨hI.nd,λj=> ?_⟩,?_⟩⟩
  . rw[hI.mem];show _↔(if j=id then some (x.1,I)else S.sp j)≠none
    grind
  . have e1:spR E (S.put id (x.1,I)).sp id=Cm E x.1 I:=by unfold spR;rw[HS.F9]
    have e2:Aj (spR E S.sp) (g.ids.eraseIdx i)=Aj (spR E (S.put id (x.1,I)).sp) (g.ids.eraseIdx i):=Aj.congr λj K=>by
      have:j≠id:=λe=>Oh hI.nd hi (e▸K);unfold spR;rw[HS.He this]
    rw[<-e1,e2]at h';have J:=Sat.Jb h' hi;have Y:=Sat.back (Ps:=Bf E h S g++Z) 6 J (by simp[Bf]);have v:Dl S.sp=Dl (S.put id (x.1,I)).sp:=by
      funext j;unfold Dl;by_cases e:j=id
      . rw[e,HS.F9,u];rfl
      . rw[HS.He e]
    have O:(Bf E h S g++Z).set 6 (Aj (spR E (S.put id (x.1,I)).sp) g.ids)=Bf E h (S.put id (x.1,I)) g++Z:=by
      show [Cells h E.Ab (BV g S.hint S.AD),B8 E g.m S.V,BG E g.t S.T,BR E g.a S.ks S.own,Gg E g.f S.fx,CM g.sm .i64 (Dl S.sp),_,_]++Z=_;rw[v];rfl
    grind
end
def Iy(x:SI)(uw:List Int)(u:Nat->Bool):SI:={x with uw:=uw,mw:=[],used:=(cN u x.AO.toNat:Nat),look:=0}
def D8:Nat->Bool:=λ_=>false
def YW(W:SW)(U M:Aq)(id:Int)(EB:Bool)(n:Nat)(gone:Bool)(W':SW)(U' M':Aq):Prop:=
  ∃(x:Nat×SI) (t:nP) (uw:List Int),W.S.sp id=some x/\(∀i,M id i=true->U id i=true)/\t=Pk (U id) x.2.base x.2.elem x.2.AO.toNat ⟨W.R,M id,W.em⟩/\
    n=cN (λi=>U id i&& !t.m i) x.2.AO.toNat/\U'=U.set id (λi=>U id i&&t.m i)/\M'=M.set id D8/\
    ∃e:SW,e={W with S:=W.S.put id (x.1,Iy x.2 uw λi=>U id i&&t.m i),R:=t.R,em:=t.em,CD:=u64 (W.CD+n),Gd:=u64 (W.Gd+x.2.AD)}/\
    ((EB=true/\((cN (λi=>U id i&&t.m i) x.2.AO.toNat:Nat):Int)<x.2.AO/\gone=false/\W'=e)∨
     (¬(EB=true/\((cN (λi=>U id i&&t.m i) x.2.AO.toNat:Nat):Int)<x.2.AO)/\cN (λi=>U id i&&t.m i) x.2.AO.toNat=0/\gone=true/\ ∃a:Nat,id=(a:Int)+1/\W'={e with S:=e.S.free a (x.2.base/8192) x.2.AD})∨
     (¬(EB=true/\((cN (λi=>U id i&&t.m i) x.2.AO.toNat:Nat):Int)<x.2.AO)/\cN (λi=>U id i&&t.m i) x.2.AO.toNat≠0/\gone=false/\ ∃EC,W'={e with L:=HJ W.L ⟨EC,id,x.2.base,(x.2.cls,x.2.Eh,((cN (λi=>U id i&&t.m i) x.2.AO.toNat:Nat):Int)==x.2.AO,true)⟩}))
section
variable{E:Env}{w:World}{Z:List Pr}{b h s r:Nat}{W:SW}{U M:Aq}
def gL{a:Addr}{i:Nat}{w:World}{K:World->Prop}(h:K w):stCells a i [] w K:=h
def gM{b1 a e:Nat}{K:World->Prop}(j:K w):F.CI E (sM b1) (sM a) (sM e) .nilIface K w:=by
  unfold F.CI;exact⟨rfl,Aa rfl j⟩
def tJ{b1 j u t1 t3 t5:Nat}{v1 Y v5:Value}(H:Sat (Cells b1 t1 [v1]::Cells j t3 [Y]::Cells u t5 [v5]::Z) w){K:World->Prop}
    (T: ∀w',Sat (Cells b1 t1 [.int .i64 0]::Cells j t3 [.bool false]::Cells u t5 [.int .i64 40]::Z) w'->K w'):F.CI E (sM b1) (sM j) (sM u) (.iface E.Gp (.agg ⟨[]⟩)) K w:=by
  unfold F.CI;refine⟨rfl,AR rfl ?_⟩;unfold TAS;simp only[Nat.beq_refl];have go: ∀K:kY (.agg [])->Prop,K ()->unVT (.agg []) (.agg ⟨[]⟩) K:=λK h=>h;refine go _ ?_;refine Aa rfl (AJ (vs:=[]) H λb4 w5 J _=> ?_);refine gL (AG (Bc (J.front 1 rfl) (o:=0) rfl (by simp) λw8 O=>AG (Bc (O.front 2 rfl) (o:=0) rfl (by simp) λaB a=>AG (Bc (a.front 3 rfl) (o:=0) rfl (by simp) λv e=>T v ?_))));exact(((e.front 3 rfl).tail).front 1 rfl).front 2 rfl
def Sat.skip{X P:Pr}{F:List Pr}(H:Sat (X::P::F) w):Sat (X::F) w:=(H.front 1 rfl).tail
def Aq.set_set(U:Aq)(id:Int)(u v:Nat->Bool):(U.set id u).set id v=U.set id v:=by
  funext i;unfold Aq.set
  grind
def Aq.KB(U:Aq)(id:Int)(u:Nat->Bool):(U.set id u) id=u:=if_pos rfl
def Aq.tK(U:Aq)(id:Int):U.set id (U id)=U:=by
  funext i;unfold Aq.set;split
  . rename_i e;rw[e]
  . rfl
def Ae.putS{W:SW}{U M:Aq}(hI:Ae W U M){id:Int}{x:Nat×SI}(J:W.S.sp id=some x){I:SI}{u m:Nat->Bool}(h1:I.base=x.2.base)(K:I.AD=x.2.AD)(O:I.state=x.2.state)(T:I.cls=x.2.cls)(Y:I.elem=x.2.elem)(h6:I.AO=x.2.AO)(h7:I.Mx=x.2.Mx)(hg:Rr I u m):
    Ae {W with S:=W.S.put id (x.1,I)} (U.set id u) (M.set id m):=by
  obtain⟨Bl,_⟩:=hI.sp id x J;refine⟨hI.hI.put J h1 K (by rw[O,Bl.st];decide),λj y a=> ?_,λit v=> ?_⟩
  . by_cases e:j=id
    . subst e;have a:(W.S.put j (x.1,I)).sp j=some y:=a;rw[HS.F9]at a;cases a;rw[Aq.KB,Aq.KB];exact⟨Bl.Fk h1 K O T Y h6 h7,hg⟩
    . have a:(W.S.put id (x.1,I)).sp j=some y:=a;rw[HS.He e]at a;have e1:U.set id u j=U j:=if_neg e;have e2:M.set id m j=M j:=if_neg e;rw[e1,e2];exact hI.sp j y a
  . obtain⟨y,g1,g2⟩:=hI.it it v;by_cases e:it.id=id
    . rw[e,J]at g1;cases g1;exact⟨(x.1,I),by rw[e];exact HS.F9,h1.trans g2⟩
    . exact⟨y,(HS.He e).trans g1,g2⟩
variable(hE:EnvW E)
include hE
theorem gN(hT: ∀w',Sat Z w'->Ec E.AH w')(H:Sat (AQ E b h s r W::Z) w)(hI:Ae W U M){id:Int}{EB:Bool}(hf:W.L.length<1099511627776)(b7:W.em.length+W.R.length<=1099511627776)(hL: ∀y∈W.L,y.id≠id)
    {K:Int->Bool->Int->World->Prop}(b9:W.S.sp id=none-> ∀w',Sat (AQ E b h s r W::Z) w'->K 0 false 35 w')
    (cA: ∀x,W.S.sp id=some x->(∃i,M id i=true/\U id i=false)-> ∀w',Sat (AQ E b h s r W::Z) w'->K 0 false 40 w')
    (hk: ∀n gone W' U' M',YW W U M id EB n gone W' U' M'->Ae W' U' M'-> ∀w',Sat (AQ E b h s r W'::Z) w'->K n gone 0 w'):
    F.CQ E (sM b) id EB K w:=by
  unfold F.CQ T0.CQ;refine AJ (vs:=[.int .i64 0]) H λb1 w2 H2 _=>AJ (vs:=[.bool false]) H2 λb3 w4 H4 _=>AJ (vs:=[.int .i64 0]) H4 λb5 w6 H6 _=> ?_;have a6:Sat (AQ E b h s r W::Cells b5 E.Bn [.int .i64 0]::Cells b3 E.Be [.bool false]::Cells b1 E.Ar [.int .i64 0]::Z) w6:=H6.front 3 rfl;refine QN a6 hI (λhn w' H'=> ?_) λx hx Bl hg w' H'=> ?_
  . refine AJ (vs:=JV) H' λaB cG aG _=> ?_;refine Bm (news:=JV) aG rfl (by simp[JV,Value.oneCell']) λcH aH=> ?_;refine Bc (aH.front 2 rfl) (o:=0) rfl (by simp) λcI O=>⟨35,O.AW rfl,Aa rfl ?_⟩;have a0:=O.drew;refine⟨35,a0.AW rfl,Bc (a0.front 4 rfl) (o:=0) rfl (by simp) λc4 a1=>⟨(a1.front 1 rfl).AW rfl,Bc (a1.front 4 rfl) (o:=0) rfl (by simp) λc5 a2=>⟨(a2.front 2 rfl).AW rfl,Bc (a2.front 2 rfl) (o:=0) rfl (by simp) λcJ aI=> ?_⟩⟩⟩;exact⟨0,(aI.front 2 rfl).AW rfl,false,(aI.front 1 rfl).AW rfl,35,aI.AW rfl,b9 hn cJ aI.tail.tail.tail.tail⟩
  . refine AJ (vs:=JV) H' λaB cG aG _=> ?_;refine Bm (news:=Hl x.2) aG rfl (by simp[Hl,Value.oneCell']) λcH aH=> ?_;refine Bc (aH.front 2 rfl) (o:=0) rfl (by simp) λcI O=>⟨0,O.AW rfl,AR rfl ?_⟩;have v:=O.front 1 rfl;refine⟨_,v.cell rfl,_,v.cell rfl,_,v.cell rfl,_,v.cell rfl,_,v.cell rfl,_,v.cell rfl,_,v.cell rfl,_,v.cell rfl,_,v.cell rfl,_,v.cell rfl,?_⟩;have c1:=Bl.size;refine Tj (O.front 2 rfl) hI hx b7 (λhz cK aJ=> ?_) λbJ t ht mw hIn cK aJ=> ?_
    . refine tJ (((aJ.front 1 rfl).front 3 rfl).front 4 rfl) λcP aO=> ?_;exact⟨0,aO.AW rfl,false,(aO.front 1 rfl).AW rfl,40,(aO.front 2 rfl).AW rfl,cA x hx hz cP aO.tail.tail.tail.skip⟩
    . have cC: ∀i,t.m i=true->U id i=true:=by rw[ht];exact kH bJ _
      obtain⟨R1,a9,cE,bE⟩:=aJ.GA;have aY:(W.S.put id (x.1,{x.2 with mw:=mw})).sp id=some (x.1,{x.2 with mw:=mw}):=HS.F9;obtain⟨bK,bG⟩:=hIn.sp id _ aY;rw[Aq.KB]at bG;obtain⟨R2,bM,cF,bF⟩:=a9.aZ aY;refine YJ (λw' h'=>hT w' (cE (cF h')).tail.tail.tail.tail) bM bG bK.st (λ⟨i,h1,h2⟩=>absurd (cC i h1) (by grind)) λ_ uw s43 bH T c6 a3=> ?_;have aS:=bE (bF a3.tail);have bN:VR {x.2 with mw:=mw} uw (U id) t.m=Iy x.2 uw λi=>U id i&&t.m i:=rfl;rw[bN,HS.Tz]at aS;rw[bN]at bH;have bD:=hIn.putS aY (I:=Iy x.2 uw λi=>U id i&&t.m i) rfl rfl rfl rfl rfl rfl rfl bH;rw[Aq.set_set]at bD;have T:s43.len=cN (λi=>U id i&& !t.m i) x.2.AO.toNat:=T;obtain⟨n,hn⟩: ∃n,n=cN (λi=>U id i&& !t.m i) x.2.AO.toNat:=⟨_,rfl⟩;have cT:=Zc (λi=>U id i&& !t.m i) x.2.AO.toNat;rw[<-hn]at T;rw[T];refine Bc (aS.front 4 rfl) (o:=0) rfl (by simp) λcL a4=> ?_;have aA:Sat (AQ E b h s r {W with S:=W.S.put id (x.1,Iy x.2 uw λi=>U id i&&t.m i),R:=t.R,em:=t.em}::Cells b1 E.Ar [.int .i64 (n:Int)]::Cells b5 E.Bn [.int .i64 0]::Cells aB E.BD (Hl x.2)::Cells b3 E.Be [.bool false]::Z) cL.drew:=(a4.drew).front 1 rfl;obtain⟨em,aT⟩:=Sat.Gw.1 aA;have bC:=NZ aT;refine AG ⟨_,bC.2.2.2.2.1,_,(aA.front 1 rfl).AW rfl,AG ?_⟩;refine Af (show Sat (Cells b E.DI _::_) _ from aT) (o:=0) (m:=4) rfl (by simp[Hk]) λc7 a5=> ?_;have aK:=a5.drew;refine AG ⟨_,aK.cell rfl,_,(aK.front 7 rfl).cell rfl,AG (Af aK (o:=0) (m:=7) rfl (by simp[Hk]) λcM aU=> ?_)⟩;rw[AP (n:=(n:Int)),AP (n:=x.2.AD) (by have:=Bl.pg;omega) (by have:=Bl.pg;omega)]at aU;obtain⟨Y,aD⟩: ∃Y:SW,Y={W with S:=W.S.put id (x.1,Iy x.2 uw λi=>U id i&&t.m i),R:=t.R,em:=t.em,CD:=u64 (W.CD+n),Gd:=u64 (W.Gd+x.2.AD)}:=⟨_,rfl⟩;have bQ:Sat (AQ E b h s r Y::Cells b1 E.Ar [.int .i64 (n:Int)]::Cells b5 E.Bn [.int .i64 0]::Cells aB E.BD (Hl x.2)::Cells b3 E.Be [.bool false]::Z) cM:=Sat.Gw.2 ⟨em,by rw[aD];exact aU⟩;have aC:Ae Y (U.set id λi=>U id i&&t.m i) (M.set id D8):=by
        rw[aD];have h1:=bD.rc t.R t.em (u64 (W.CD+n)) (u64 (W.Gd+x.2.AD)) W.Bq W.Lj;rw[show(W.S.put id (x.1,{x.2 with mw:=mw})).put id (x.1,Iy x.2 uw λi=>U id i&&t.m i)=W.S.put id (x.1,Iy x.2 uw λi=>U id i&&t.m i)from HS.Tz _ _ _ _]at h1;exact h1
      clear aU aK a5 aT aA a4 aS a3 bM bF a9 bE aJ O v aH aG H' a6 H6 H4 H2 bC;have aQ:Y.L=W.L:=by rw[aD]
      have aF:Y.S.sp id=some (x.1,Iy x.2 uw λi=>U id i&&t.m i):=by rw[aD];exact HS.F9
      have mk: ∀gone W',_->YW W U M id EB n gone W' (U.set id λi=>U id i&&t.m i) (M.set id D8):=λgone W' h=>⟨x,t,uw,hx,bJ,ht,hn,rfl,rfl,Y,aD,h⟩;refine AV (λ_ w'=> ∃gone W',YW W U M id EB n gone W' (U.set id λi=>U id i&&t.m i) (M.set id D8)/\Ae W' (U.set id λi=>U id i&&t.m i) (M.set id D8)/\ ∃vs,Sat (Cells b1 E.Ar [.int .i64 (n:Int)]::Cells b3 E.Be [.bool gone]::Cells b5 E.Bn [.int .i64 0]::AQ E b h s r W'::Cells aB E.BD vs::Z) w') ?_ ?_
      . obtain⟨R3,bY,c2,b2⟩:=bQ.GA;obtain⟨R4,cB,b4⟩:=bY.Ke aF;refine JS cB λdA bS=> ?_;have bT:=b2 (b4 bS);refine Bm (news:=Hl (Iy x.2 uw λi=>U id i&&t.m i)) (bT.front 3 rfl) rfl (by simp[Hl,Value.oneCell']) λbO aL=> ?_;have e1:(Iy x.2 uw λi=>U id i&&t.m i).used=(cN (λi=>U id i&&t.m i) x.2.AO.toNat:Nat):=rfl;have e2:(Iy x.2 uw λi=>U id i&&t.m i).AO=x.2.AO:=rfl;have aM:Sat (AQ E b h s r Y::Cells aB E.BD (Hl (Iy x.2 uw λi=>U id i&&t.m i))::Cells b1 E.Ar [.int .i64 (n:Int)]::Cells b5 E.Bn [.int .i64 0]::Cells b3 E.Be [.bool false]::Z) bO:=aL.front 1 rfl;refine AV (λst w'=>w'=bO/\(st.1=true↔EB=true/\((cN (λi=>U id i&&t.m i) x.2.AO.toNat:Nat):Int)<x.2.AO)) ?_ ?_
        . cases aX:EB with
          | false=>simp
          | true=>exact Aa rfl ⟨_,aL.cell rfl,_,aL.cell rfl,rfl,by grind⟩
        . rintro⟨kp,u⟩ _ dB ⟨rfl,aX⟩;dsimp only at aX⊢;refine AX (λJ=> ?_) λcZ=>⟨_,aL.cell rfl,C6 (λh0=> ?_) λh0=> ?_⟩
          . have bI:=aX.1 J;exact⟨false,Y,mk _ _ (.inl ⟨bI.1,bI.2,rfl,rfl⟩),aC,_,((aM.front 3 rfl).front 4 rfl).front 4 rfl⟩
          . have aE: ¬(EB=true/\((cN (λi=>U id i&&t.m i) x.2.AO.toNat:Nat):Int)<x.2.AO):=λh=>by grind
            have aW:cN (λi=>U id i&&t.m i) x.2.AO.toNat=0:=by omega
            refine AG ⟨_,aM.Oq.1,?_⟩;obtain⟨R5,bZ,c3,b6⟩:=aM.GA;refine fR hE.toEnvA bZ aC.hI (λhn=>by rw[aF]at hn;cases hn) (λy J hu=> ?_) λy a J hu ha aP dC bU=> ?_
            . rw[aF]at J;cases J;rw[e1]at hu;omega
            . rw[aF]at J;cases J;have bV:=b6 bU;refine Bc (bV.front 4 rfl) (o:=0) rfl (by simp) λdD bW=> ?_;refine⟨true,{Y with S:=Y.S.free a (x.2.base/8192) x.2.AD},mk _ _ (.inr (.inl ⟨aE,aW,rfl,a,ha,rfl⟩)),⟨aP,λj y J=> ?_,λit b8=> ?_⟩,Hl (Iy x.2 uw λi=>U id i&&t.m i),?_⟩
              . have J:(if j=(a:Int)+1 then none else Y.S.sp j)=some y:=J;split at J
                . cases J
                . exact aC.sp j y J
              . obtain⟨y,g1,g2⟩:=aC.it it b8;refine⟨y,?_,g2⟩;show(if it.id=(a:Int)+1 then none else Y.S.sp it.id)=some y
                grind
              . exact((bW.front 4 rfl).front 1 rfl).front 4 rfl
          . have aE: ¬(EB=true/\((cN (λi=>U id i&&t.m i) x.2.AO.toNat:Nat):Int)<x.2.AO):=λh=>by grind
            have aW:cN (λi=>U id i&&t.m i) x.2.AO.toNat≠0:=λh=>h0 (by omega);refine QO hE aM aC (by grind) (λhn=>by grind) (λ_ ⟨y,J,e⟩=>absurd e (hL y (by rw[<-aQ];exact J))) λy J c0 EC aP dE a7=> ?_;rw[aF]at J;cases J;rw[aQ]at aP a7;refine⟨false,_,mk _ _ (.inr (.inr ⟨aE,aW,rfl,EC,rfl⟩)),aP,Hl (Iy x.2 uw λi=>U id i&&t.m i),?_⟩;exact((a7.front 3 rfl).front 4 rfl).front 4 rfl
      . rintro _ _ c8 ⟨gone,W',bL,b0,vs,bR⟩;have aV:=bR.drew;refine⟨_,aV.AW rfl,_,(aV.front 1 rfl).AW rfl,Bc aV (o:=0) rfl (by simp) λdF a8=>⟨(a8.front 1 rfl).AW rfl,Bc (a8.front 1 rfl) (o:=0) rfl (by simp) λdG bX=>Bc (bX.front 2 rfl) (o:=0) rfl (by simp) λcO aN=>gM ?_⟩⟩;exact⟨_,(aN.front 2 rfl).AW rfl,_,(aN.front 1 rfl).AW rfl,_,aN.AW rfl,hk n gone W' _ _ bL b0 cO aN.tail.tail.tail.skip⟩
end
section
variable{E:Env}{w:World}{Rs Z:List Pr}
def Na(H:Sat Z w){n r:Int}{K:Int->World->Prop}(Y: ∀w',Sat Z w'->K (timesV n r) w'):F.Dw E n r K w:=by
 unfold F.Dw T0.Dw F.Ew;have main: ∀(x:Nat) w',Sat Z w'->(bif (EN x 4895412794951729152==some .gt||EN x 4895412794951729152==some .eq)then(18446744073709551615:Int)else bif (EN x 4607182418800017408==some .gt||EN x 4607182418800017408==some .eq)then(TX x).getD 0 else 0)=timesV n r->
   CND ((EN x 4895412794951729152==some .gt||EN x 4895412794951729152==some .eq)) (K 18446744073709551615 w')
    (CND ((EN x 4607182418800017408==some .gt||EN x 4607182418800017408==some .eq)) (∃a:Int,TX x=some a/\(IntKind.min .u64<=a/\a<=IntKind.max .u64)/\K a w') (K 0 w')):=by
  intro x w' T e;have j:=Y w' T;refine AX (λJ=> ?_) λJ=>AX (λh1=> ?_) λh1=> ?_
  .rw[J]at e;rw[<-e]at j;exact j
  .obtain⟨k,u,aA⟩:=YE h1 (by grind);refine⟨k,u,⟨by show(0:Int)<=k;omega,by show(k:Int)<=18446744073709551615;omega⟩,?_⟩;rw[J,h1,cond_false,cond_true,u]at e;rw[<-e]at j;exact j
  .rw[J,h1,cond_false,cond_false]at e;rw[<-e]at j;exact j
 have key:FRES (Kl .mul (Ng n) r.toNat) w λv O=>
   CND ((EN v 4895412794951729152==some .gt||EN v 4895412794951729152==some .eq)) (K 18446744073709551615 O)
    (CND ((EN v 4607182418800017408==some .gt||EN v 4607182418800017408==some .eq)) (∃a:Int,TX v=some a/\(IntKind.min .u64<=a/\a<=IntKind.max .u64)/\K a O) (K 0 O)):=by
  cases hx:Kl .mul (Ng n) r.toNat with
  | some x=>
   refine main x w H ?_;unfold timesV;rw[hx]
  | none=>
   intro t;refine main (k6 t) w.drew H.drew ?_;rw[Tx,Tx,TG hx];rfl
 simp_all
end
section
variable{W:SW}{U M:Aq}
def Ae.EB(hI:Ae W U M){S2:HS}{p n c page id:Int}{np:Bool}{bl:Nat}{X:FX}(hf:Found W.S p n page S2)(Y:Next S2 id X)(h0:0<=page)(h1:page+n<=34359738368)(hb: ¬Kc 0 n c)(hn:0<=n)(K:HInv (S2.EB id (bl,Gv page n c np) page n X) no):
  Ae {W with S:=S2.EB id (bl,Gv page n c np) page n X} (U.set id D8) (M.set id D8)/\W.S.sp id=none:=by
 have es:=hf.same;have u:W.S.sp id=none:=by
  refine Classical.byContradiction λg=> ?_;obtain⟨a,ha,h2,K⟩:=(hI.hI.sf id).1 g;rcases Y with ⟨O,T,_⟩|⟨b',r',O,T,_⟩
  .rw[es.fx]at T;omega
  .rw[es.fx]at O
   grind
 have Bl:=zD (np:=np) h0 h1 hb hn;refine⟨⟨K,λj y v=> ?_,λit J=> ?_⟩,u⟩
 .have v:(if j=id then some (bl,Gv page n c np)else S2.sp j)=some y:=v;by_cases e:j=id
  .rw[if_pos e]at v;cases v;subst e;rw[Aq.KB,Aq.KB];exact⟨Bl,spOf_g Bl⟩
  .rw[if_neg e,es.sp]at v;have e1:U.set id D8 j=U j:=if_neg e;have e2:M.set id D8 j=M j:=if_neg e;rw[e1,e2];exact hI.sp j y v
 .obtain⟨y,g1,g2⟩:=hI.it it J;have:it.id≠id:=λe=>by grind
  refine⟨y,?_,g2⟩;show(if it.id=id then _ else S2.sp it.id)=_;rw[if_neg this,es.sp];exact g1
def Ae.new(pl:List Int)(rf:List Bool)(fl:List Int):Ae (SW.new (HS.new (Kq pl rf fl))) (λ_=>D8) (λ_=>D8):=
 ⟨HInv.Kq pl rf fl,λid x a=>(by cases a),λx a=>(by cases a)⟩
end
section
variable{E:Env}{w:World}{Z:List Pr}{b h s r:Nat}{W:SW}{U M:Aq}
def a7(H:Sat (AQ E b h s r W::Z) w){rt:Int}{K:World->Prop}(u: ∀w',Sat (AQ E b h s r {W with Lj:=rt,Bq:=0,Gd:=0}::Z) w'->K w'):F.HD E (sM b) rt K w:=by
 unfold F.HD;obtain⟨em,H1⟩:=Sat.Gw.1 H;refine AG (Af (show Sat (Cells b E.DI _::_) _ from H1) (o:=0) (m:=5) rfl (by simp[Hk]) λJ a=>AG (Af a (o:=0) (m:=6) rfl (by simp[Hk]) λO e=>AG (Af e (o:=0) (m:=7) rfl (by simp[Hk]) λv j=>u v (Sat.Gw.2 ⟨em,j⟩))))
def Lm(c n:Int):Int:=if 18446744073709551616<=c+n then 18446744073709551615 else c+n
def WK(H:Sat (AQ E b h s r W::Z) w){n:Int}(u:0<=W.Bq/\W.Bq<18446744073709551616)(J:0<=n/\n<18446744073709551616){K:World->Prop}(e: ∀w',Sat (AQ E b h s r {W with Bq:=Lm W.Bq n}::Z) w'->K w'):F.CW E (sM b) n K w:=by
 unfold F.CW T0.CW F.GF;obtain⟨em,H1⟩:=Sat.Gw.1 H;refine AG ⟨_,(NZ H1).2.2.2.2.2.2.1,⟨u.1,J.1,by decide,by decide⟩,?_⟩;have fin: ∀v:Int,v=Lm W.Bq n->stCells ((Addr.mk b 0 none).add 6) 0 [.int .u64 v] w K:=λv O=>by
  rw[O];exact Af (show Sat (Cells b E.DI _::_) _ from H1) (o:=0) (m:=6) rfl (by simp[Hk]) λT a=>e T (Sat.Gw.2 ⟨em,a⟩)
 rw[show W.Bq+n+0=W.Bq+n by omega];unfold Lm at fin;refine Ad (AE (λg j=>AG (fin _ ?_)) λg j=>AG (fin _ ?_))
 .rw[if_pos (by omega)]
 .rw[if_neg (by omega),Int.emod_eq_of_lt (by omega) (by omega)]
noncomputable def SW.debt(W:SW):Int:=if timesV W.Bq W.Lj<W.Gd then 0 else timesV W.Bq W.Lj-W.Gd
def a9(H:Sat (AQ E b h s r W::Z) w)(hr:0<=W.Gd){K:Int->World->Prop}(O: ∀w',Sat (AQ E b h s r W::Z) w'->K W.debt w'):F.DE E (sM b) K w:=by
 unfold F.DE T0.DE;have j:=H.drew;obtain⟨em,H1⟩:=Sat.Gw.1 j;have c1:=NZ H1;refine AG ⟨_,c1.2.2.2.2.2.2.1,AG ⟨_,c1.2.2.2.2.2.1,Na j λT e=> ?_⟩⟩;obtain⟨J,v⟩:=Sat.Gw.1 e;have u:=NZ v;have Y:=XF W.Bq W.Lj;have a:=O T e;unfold SW.debt at a;refine AG ⟨_,u.2.2.2.2.2.2.2,AE (λg=> ?_) λg=>AG ⟨_,u.2.2.2.2.2.2.2,?_⟩⟩
 .rw[if_pos g]at a;exact a
 .rw[if_neg g]at a;rw[AP];exact a
end
def Gf:Aq:=λ_=>D8
def Ia(id:Int):Gf.set id D8=Gf:=by funext i;unfold Aq.set Gf;split<;>rfl
section
variable{E:Env}{w:World}{Z:List Pr}{b h s r:Nat}{W:SW}{U M:Aq}
variable(hE:EnvW E)
include hE
end
def u2:Nat->Bool:=λi=>((D8 i||i==0)||i==1)
section
variable{E:Env}{w:World}{Z:List Pr}(hE:EnvW E)
include hE
end
section
variable{E:Env}{w:World}{Z:List Pr}{b h s r:Nat}{W:SW}{U M:Aq}
def TM(hT: ∀w',Sat Z w'->Ec E.AH w')(H:Sat (AQ E b h s r W::Z) w)(hI:Ae W U M){id:Int}{x:Nat×SI}(u:W.S.sp id=some x){K:Int->Int->World->Prop}
  (aD:(∀i:Nat,(i:Int)<x.2.AO->U id i=true)-> ∀w',Sat (AQ E b h s r W::Z) w'->K 0 30 w')
  (O: ∀(n:Nat) a,(n:Int)<x.2.AO->U id n=false->(∀i,i<n->U id i=true)->Ae {W with S:=W.S.put id (x.1,{x.2 with uw:=a,used:=x.2.used+1,look:=(n:Int)+1})} (U.set id λi=>U id i||i==n) M->
   ∀w',Sat (AQ E b h s r {W with S:=W.S.put id (x.1,{x.2 with uw:=a,used:=x.2.used+1,look:=(n:Int)+1})}::Z) w'->K n 0 w'):F.Di E (sM x.1) K w:=by
 obtain⟨Bl,hg⟩:=hI.sp id x u;obtain⟨R,HH,hz,hb⟩:=H.GA;obtain⟨R2,j,T,e⟩:=HH.aZ u;refine YI (hT _ (hz (T j.tail))) j hg (by rw[Bl.st];decide) (λY w' v=> ?_) λn a hn hu hl J w' v=> ?_
 .have:=hb (e v);rw[show W.S.put id (x.1,x.2)=W.S from HS.aY u]at this
  simp_all
 .refine O n a hn hu hl ?_ w' (hb (e v));have:=hI.putS u (I:={x.2 with uw:=a,used:=x.2.used+1,look:=(n:Int)+1}) rfl rfl rfl rfl rfl rfl rfl J;rwa[Aq.tK]at this
def JW(H:Sat (AQ E b h s r W::Z) w){id:Int}{x:Nat×SI}(O:W.S.sp id=some x){K:Int->Int->Int->Int->Bool->Int->Int->Int->Bool->Bool->World->Prop}
  (v: ∀w',Sat (AQ E b h s r W::Z) w'->K x.2.base x.2.AD x.2.state x.2.cls x.2.Eh x.2.elem x.2.AO x.2.used x.2.f8 x.2.f9 w'):F.Av E (sM x.1) K w:=by
 obtain⟨R,u,hz,J⟩:=H.GA;obtain⟨T,e,a⟩:=u.Ke O;exact JS e λw' j=>v w' (J (a j))
def ML(H:Sat (AQ E b h s r W::Z) w){id:Int}{K:Option Addr->Int->World->Prop}(a:W.S.sp id=none->K none 35 w)(e: ∀x,W.S.sp id=some x->K (sM x.1) 0 w):F.Dp E (sM h) id K w:=by
 obtain⟨R,j,hz,u⟩:=H.GA;exact VB j a e
def nQ(H:Sat (AQ E b h s r W::Z) w){x:Int}(h0:0<=x)(v:x<18446744073709551616){K:Int->World->Prop}(j: ∀w',Sat (AQ E b h s r W::Z) w'->K (W.S.own (x/8192)) w'):F.ED E (sM h) x K w:=by
 obtain⟨R,e,hz,u⟩:=H.GA;exact Z3 e h0 v λw' a=>j w' (u a)
def Kr(H:Sat (AQ E b h s r W::Z) w)(hI:Ae W U M){id:Int}{x:Nat×SI}(u:W.S.sp id=some x){i:Int}(h0:0<=i)(h1:i<x.2.AO){K:Int->Int->World->Prop}(T: ∀w',Sat (AQ E b h s r W::Z) w'->K (x.2.base+i*x.2.elem) 0 w'):F.Cd E (sM x.1) i K w:=by
 obtain⟨Bl,hg⟩:=hI.sp id x u;have j:=Bl.size;have aA:=Bl.ba;have aB:=Bl.pg;obtain⟨R,J,hz,Y⟩:=H.GA;obtain⟨R2,e,a⟩:=J.Ke u;have h2:0<=i*x.2.elem:=Int.mul_nonneg h0 (by omega);have h3:i*x.2.elem<=x.2.AO*x.2.elem:=Int.mul_le_mul_of_nonneg_right (by omega) (by omega);have O:=j.2.2.2.2;rw[Int.mul_comm x.2.elem]at O;refine TF e h0 h1 λw' v=> ?_;rw[AP (n:=i),AP (n:=x.2.elem),AP (n:=i*x.2.elem),AP (n:=x.2.base+i*x.2.elem)];exact T w' (Y (a v))
end
structure EnvC(E:Env):Prop extends EnvW E where
def FO(E:Env)(cb b h s r:Nat)(W:SW):Pr:=Kx [Cells cb E.A5 [.pointer (sM b)],AQ E b h s r W]
section
variable{E:Env}{w:World}{Z:List Pr}{cb b h s r:Nat}{W:SW}{U M:Aq}
def Sat.zF:Sat (FO E cb b h s r W::Z) w↔Sat (Cells cb E.A5 [.pointer (sM b)]::AQ E b h s r W::Z) w:=Sat.star
def Sat.VZ(H:Sat (FO E cb b h s r W::Z) w):Sat (AQ E b h s r W::Cells cb E.A5 [.pointer (sM b)]::Z) w:=(Sat.zF.1 H).perm (.swap _ _ _)
def Sat.Va(H:Sat (AQ E b h s r W::Cells cb E.A5 [.pointer (sM b)]::Z) w):Sat (FO E cb b h s r W::Z) w:=Sat.zF.2 (H.perm (.swap _ _ _))
def Sat.kI(H:Sat (FO E cb b h s r W::Z) w):w.cell? (Addr.mk cb 0 none)=some (.pointer (sM b)):=(Sat.zF.1 H).AW rfl
def gO(H:Sat (AQ E b h s r W::Z) w){K:Option Addr->World->Prop}(e: ∀cb w',Sat (FO E cb b h s r W::Z) w'->K (sM cb) w'):F.L6 E (sM b) K w:=by
 unfold F.L6;exact AJ (vs:=[.pointer (sM b)]) H λb1 j a _=>e b1 j (Sat.zF.2 a)
def Vb(H:Sat (FO E cb b h s r W::Z) w){K:Option Addr->World->Prop}(a:K (sM b) w):F.FE E (sM cb) K w:=by
 unfold F.FE;exact AG ⟨_,H.kI,a⟩
variable(hE:EnvC E)
include hE
theorem bA(H:Sat (FO E cb b h s r W::Z) w)(hI:Ae W U M){id:Int}(Y:W.L.length<1099511627776){K:Int->World->Prop}
  (j:W.S.sp id=none-> ∀w',Sat (FO E cb b h s r W::Z) w'->K 35 w')(u:W.S.sp id≠none->(∃x∈W.L,x.id=id)-> ∀w',Sat (FO E cb b h s r W::Z) w'->K 34 w')
  (v: ∀x,W.S.sp id=some x->(∀y∈W.L,y.id≠id)-> ∀EC,Ae {W with L:=HJ W.L ⟨EC,id,x.2.base,(x.2.cls,x.2.Eh,x.2.used==x.2.AO,true)⟩} U M-> ∀w',
   Sat (FO E cb b h s r {W with L:=HJ W.L ⟨EC,id,x.2.base,(x.2.cls,x.2.Eh,x.2.used==x.2.AO,true)⟩}::Z) w'->K 0 w'):F.CV E (sM cb) id K w:=by
 unfold F.CV T0.CV;exact AG ⟨_,H.kI,QO hE.toEnvW H.VZ hI Y (λJ w' a=>j J w' a.Va) (λJ T w' a=>u J T w' a.Va) λx T O EC e w' a=>v x T O EC e w' a.Va⟩
end
section
variable{E:Env}{w:World}{Rs Z:List Pr}
end
structure EnvK(E:Env):Prop extends EnvC E where
structure KS where
 p:Int
 hd:Nat->Int
 zG:Int
 X4:Int
def Gj(cb:Nat)(C:KS):List Value:=.pointer (sM cb):: .int .i64 C.p::(((List.range 136).map λj=>.int .i64 (C.hd j))++[.int .u64 C.zG,.int .i64 C.X4])
def Ej(E:Env)(c cb:Nat)(C:KS):Pr:=Cells c E.GW (Gj cb C)
def gQ(cb:Nat)(C:KS):(Gj cb C).length=140:=by rfl
def ks_hd(cb:Nat)(C:KS){j:Nat}(a:j<136):(Gj cb C)[j+2]? =some (.int .i64 (C.hd j)):=by
 unfold Gj;rw[List.getElem?_cons_succ,List.getElem?_cons_succ,List.getElem?_append_left (by simpa using a)]
 simp_all
def tL(f:Nat->Int)(n k:Nat)(v:Int):((List.range n).map λj=>Value.int .i64 (f j)).set k (.int .i64 v)=(List.range n).map λj=>Value.int .i64 (if j=k then v else f j):=by
 refine List.ext_getElem (by simp) λi h1 a=> ?_
 grind
def tM(cb:Nat)(C:KS){j:Nat}(a:j<136)(v:Int):(Gj cb C).set (j+2) (.int .i64 v)=Gj cb {C with hd:=λi=>if i=j then v else C.hd i}:=by
 unfold Gj;rw[List.set_cons_succ,List.set_cons_succ,List.set_append_left _ _ (by simpa using a),tL]
def gR(cb:Nat)(C:KS)(v:Int):(Gj cb C).set 138 (.int .u64 v)=Gj cb {C with zG:=v}:=by rfl
def gS(cb:Nat)(C:KS)(v:Int):(Gj cb C).set 139 (.int .i64 v)=Gj cb {C with X4:=v}:=by rfl
def nR(k:Int)(np:Bool):Nat:=k.toNat*2+if np=true then 1 else 0
def tN{k:Int}{np:Bool}(h0:0<=k)(h1:k<68):nR k np<136:=by unfold nR;grind
def KS.held(C:KS)(k:Int)(np:Bool):Int:=if 0<k/\k<68 then C.hd (nR k np)else 0
def KS.hold(C:KS)(k:Int)(np:Bool)(id:Int):KS:={C with hd:=λi=>if i=nR k np then id else C.hd i}
section
variable{E:Env}{w:World}{Z:List Pr}{c cb:Nat}{C:KS}
def kaPtr(H:Sat (Ej E c cb C::Z) w):w.cell? (Addr.mk c 0 none)=some (.pointer (sM cb))/\w.cell? ((Addr.mk c 0 none).add 1)=some (.int .i64 C.p)/\w.cell? ((Addr.mk c 0 none).add 138)=some (.int .u64 C.zG)/\w.cell? ((Addr.mk c 0 none).add 139)=some (.int .i64 C.X4):=
 have H:Sat (Cells c E.GW (Gj cb C)::Z) w:=H
 ⟨H.AW rfl,H.cell rfl,H.cell (by rfl),H.cell (by rfl)⟩
def gT(H:Sat Z w){p:Int}{K:Option Addr->World->Prop}(e: ∀c w',Sat (Ej E c cb ⟨p,λ_=>0,0,0⟩::Z) w'->K (sM c) w'):F.PI E (sM cb) p K w:=by
 unfold F.PI;exact AJ (vs:=Gj cb ⟨p,λ_=>0,0,0⟩) H λc w' a _=>e c w' a
def tO{np:Bool}{K:Int->World->Prop}(a:K (if np=true then 1 else 0) w):F.LX E np K w:=by
 unfold F.LX;cases np
 .exact AR rfl a
 .exact Aa rfl a
def zH{k:Int}{K:Bool->World->Prop}(h1:0<k/\k<68->K true w)(h0: ¬(0<k/\k<68)->K false w):F.L8 E k K w:=by
 unfold F.L8;refine AE (λg=> ?_) λg=>h0 (by omega);by_cases e:k<68
 .rw[decide_eq_true e];exact h1 ⟨g,e⟩
 .rw[decide_eq_false e];exact h0 (by omega)
def Ot(H:Sat (Ej E c cb C::Z) w){k:Int}{np:Bool}{K:Int->World->Prop}(a: ∀w',Sat (Ej E c cb C::Z) w'->K (C.held k np) w'):F.DS E (sM c) k np K w:=by
 unfold F.DS T0.DS;refine zH (λg=>AR rfl (AG ⟨by omega,tO ?_⟩)) λg=>Aa rfl ?_
 .have u:((0:Int)<=(if np=true then 1 else 0)/\((if np=true then 1 else 0:Int))<(2:Nat)):=by omega
  refine⟨u,C.hd (nR k np),?_,?_⟩
  .have j:Sat (Cells c E.GW (Gj cb C)::Z) w.drew:=H.drew;rw[add_add,add_add];have e:2+(Int.toNat k*2+Int.toNat (if np=true then 1 else 0)*1)=nR k np+2:=by unfold nR;grind
   rw[e];exact j.cell (by rw[Nat.zero_add];exact ks_hd cb C (tN (by omega) g.2))
  .have:=a _ H.drew;unfold KS.held at this
   grind
 .have:=a _ H;unfold KS.held at this
  grind
def TN(H:Sat (Ej E c cb C::Z) w){k id:Int}{np:Bool}(v:0<k/\k<68){K:World->Prop}(u: ∀w',Sat (Ej E c cb (C.hold k np id)::Z) w'->K w'):F.Cr E (sM c) k np id K w:=by
 unfold F.Cr T0.Cr;have J:((0:Int)<=(if np=true then 1 else 0)/\((if np=true then 1 else 0:Int))<(2:Nat)):=by omega
 refine AG ⟨by omega,tO ⟨J,?_⟩⟩;have j:Sat (Cells c E.GW (Gj cb C)::Z) w.drew:=H.drew;rw[add_add,add_add];have e:2+(Int.toNat k*2+Int.toNat (if np=true then 1 else 0)*1)=nR k np+2:=by unfold nR;grind
 rw[e];refine Af j (o:=0) rfl (by rw[gQ];omega) λw' a=>u w' ?_;rw[Nat.zero_add,tM cb C (tN (by omega) v.2)]at a;exact a
end
def YX{W:SW}{U M:Aq}(hI:Ae W U M):W.S.sp 0=none:=by
 refine Classical.byContradiction λg=> ?_;obtain⟨a,e,_⟩:=(hI.hI.sf 0).1 g;omega
def KC(C:KS){k:Int}{np:Bool}(h0:0<k)(h1:k<68)(id:Int):(C.hold k np id).held k np=id:=by
 unfold KS.held KS.hold;rw[if_pos ⟨h0,h1⟩];simp
def zI{k l:Int}{np mp:Bool}(h0:0<=k)(h1:0<=l)(h:nR k np=nR l mp):k=l/\np=mp:=by
 unfold nR at h
 grind
def KD(C:KS){k l:Int}{np mp:Bool}(h0:0<k)(h: ¬(l=k/\mp=np))(id:Int):(C.hold k np id).held l mp=C.held l mp:=by
 unfold KS.held;by_cases g:0<l/\l<68
 .rw[if_pos g,if_pos g];unfold KS.hold;simp only;rw[if_neg];intro e;have:=zI (by omega) (by omega) e
  grind
 omega
section
variable{E:Env}{w:World}{Z:List Pr}{c cb b h s r:Nat}{C:KS}{W:SW}{U M:Aq}
def bB(hT: ∀w',Sat Z w'->Ec E.AH w')(H:Sat (Ej E c cb C::FO E cb b h s r W::Z) w)(hI:Ae W U M){k:Int}{np:Bool}{K:Int->Bool->World->Prop}
  (Y:W.S.sp (C.held k np)=none-> ∀w',Sat (Ej E c cb C::FO E cb b h s r W::Z) w'->K 0 false w')
  (aA: ∀x,W.S.sp (C.held k np)=some x->(∀i:Nat,(i:Int)<x.2.AO->U (C.held k np) i=true)-> ∀w',Sat (Ej E c cb C::FO E cb b h s r W::Z) w'->K 0 false w')
  (aB: ∀x (n:Nat) a,W.S.sp (C.held k np)=some x->(n:Int)<x.2.AO->U (C.held k np) n=false->(∀i,i<n->U (C.held k np) i=true)->
   Ae {W with S:=W.S.put (C.held k np) (x.1,{x.2 with uw:=a,used:=x.2.used+1,look:=(n:Int)+1})} (U.set (C.held k np) λi=>U (C.held k np) i||i==n) M->
   ∀w',Sat (Ej E c cb C::FO E cb b h s r {W with S:=W.S.put (C.held k np) (x.1,{x.2 with uw:=a,used:=x.2.used+1,look:=(n:Int)+1})}::Z) w'->K (x.2.base+n*x.2.elem) true w'):
  F.Dy E (sM c) k np K w:=by
 unfold F.Dy T0.Dy;have T: ∀w',Sat (Cells cb E.A5 [.pointer (sM b)]::Ej E c cb C::Z) w'->Ec E.AH w':=λw' O=>hT w' O.tail.tail;refine AG ⟨_,(kaPtr H).1,Vb (H.front 1 rfl) (aV (H.front 1 rfl:Sat (FO E cb b h s r W::Ej E c cb C::Z) w).VZ ?_)⟩;refine Ot H λw8 H8=> ?_;have H9:Sat (AQ E b h s r W::Cells cb E.A5 [.pointer (sM b)]::Ej E c cb C::Z) w8:=(H8.front 1 rfl:Sat (FO E cb b h s r W::Ej E c cb C::Z) w8).VZ;have bk: ∀{W':SW} {w'},Sat (AQ E b h s r W'::Cells cb E.A5 [.pointer (sM b)]::Ej E c cb C::Z) w'->Sat (Ej E c cb C::FO E cb b h s r W'::Z) w':=λO=>(O.Va).perm (.swap _ _ _);refine ML H9 (λu=>Aa rfl (Y u w8 H8)) λx hx=>AR rfl ?_;refine TM T H9 hI hx (λj w' H'=>Aa rfl (aA x hx j w' (bk H'))) λn a u hu hl e aJ v=>AR rfl ?_;refine Kr v e (id:=C.held k np) (x:=(x.1,{x.2 with uw:=a,used:=x.2.used+1,look:=(n:Int)+1})) HS.F9 (by omega) u λaD J=> ?_;exact aB x n a hx u hu hl e aD (bk J)
variable(hE:EnvK E)
include hE
def Vc(W:SW)(C:KS)(k:Int)(np:Bool):Prop:=C.held k np=0∨(0<C.held k np/\ ∃y,W.S.sp (C.held k np)=some y/\ ∀x∈W.L,x.id≠C.held k np)
def SU(W:SW)(C:KS)(k:Int)(np:Bool)(a:SW):Prop:=(C.held k np=0/\a=W)∨(0<C.held k np/\ ∃y EC,W.S.sp (C.held k np)=some y/\(∀x∈W.L,x.id≠C.held k np)/\a={W with L:=HJ W.L ⟨EC,C.held k np,y.2.base,(y.2.cls,y.2.Eh,y.2.used==y.2.AO,true)⟩})
theorem Vd(H:Sat (Ej E c cb C::FO E cb b h s r W::Z) w)(hI:Ae W U M){k:Int}{np:Bool}(hk:0<k/\k<68)(hf:W.L.length<1099511627776)(hH:Vc W C k np){K:World->Prop}
  (J: ∀j,SU W C k np j->Ae j U M-> ∀w',Sat (Ej E c cb (C.hold k np 0)::FO E cb b h s r j::Z) w'->K w'):F.Bj E (sM c) k np K w:=by
 unfold F.Bj T0.Bj;refine Ot H λY v=> ?_;rcases hH with h0|⟨hp,y,T,a⟩
 .rw[h0];refine AR rfl ?_;have e:C.hold k np 0=C:=by
   unfold KS.hold;have:(λi=>if i=nR k np then 0 else C.hd i)=C.hd:=by
    funext i;split
    .rename_i e;have h1:=h0;unfold KS.held at h1
     grind
    .rfl
   simp_all
  have:=J W (.inl ⟨h0,rfl⟩) hI Y
  grind
 .refine Aa (by grind) (AG ⟨_,(kaPtr v).1,?_⟩);refine bA hE.toEnvC (v.front 1 rfl:Sat (FO E cb b h s r W::Ej E c cb C::Z) Y) hI hf (λhn=>by grind) (λ_ ⟨z,hz,e⟩=>absurd e (a z hz)) λx O _ EC u w6 H6=> ?_;rw[T]at O;cases O;refine TN (H6.front 1 rfl:Sat (Ej E c cb C::FO E cb b h s r _::Z) w6) hk λw7 H7=> ?_;exact J _ (.inr ⟨hp,y,EC,T,a,rfl⟩) u w7 H7
end
structure vE where
 m:Nat
 h:Nat
 s:Nat
 r:Nat
 b:Nat
 cb:Nat
 sk:Nat
 d:Nat
 mq:Nat
 cs:AY
 ca:Nat->Nat
def K7(A:vE)(dead:Bool)(ma cy:Int):List Value:=[.pointer (sM A.h),.pointer (sM A.s),.pointer (sM A.r),.pointer (sM A.b),FI A.cs,.pointer (sM A.sk),.map (some A.d),.pointer (sM A.mq),.int .i64 100,.bool dead,.int .u64 ma,.int .u64 cy]
abbrev Ou(E:Env)(A:vE)(dead:Bool)(ma cy:Int):Pr:=Cells A.m E.Cn (K7 A dead ma cy)
structure zJ(W:SW)(U:Aq)(id:Int)(n:Nat)(x:Nat×SI):Prop where
 sp:W.S.sp id=some x
 lt:(n:Int)<x.2.AO
 u:U id n=true
def inB(x:SI)(n:Nat)(a:Int):Prop:=x.base+n*x.elem<=a/\a<x.base+n*x.elem+x.elem
def inB.Wq{x:SI}(u:Ra x){n:Nat}(K:(n:Int)<x.AO){a:Int}(h:inB x n a):x.base<=a/\a<x.base+x.AO*x.elem/\x.base+x.AO*x.elem<=x.base+x.AD*8192/\(a-x.base)/x.elem=n:=by
 have v:=u.size;have h1:(n:Int)*x.elem+x.elem<=x.AO*x.elem:=by
  have:=Int.mul_le_mul_of_nonneg_right (show(n:Int)+1<=x.AO by omega) (show 0<=x.elem by omega)
  grind
 have J:0<=(n:Int)*x.elem:=Int.mul_nonneg (by omega) (by omega);have j:=v.2.2.2.2;rw[Int.mul_comm]at j;obtain⟨g1,g2⟩:=h;refine⟨by omega,by omega,by omega,?_⟩;have e:a-x.base=(a-x.base-n*x.elem)+n*x.elem:=by omega
 rw[e,Int.add_mul_ediv_right _ _ (by omega),Int.ediv_eq_zero_of_lt (by omega) (by omega)];omega
def zJ.own{W:SW}{U M:Aq}{id:Int}{n:Nat}{x:Nat×SI}(h:zJ W U id n x)(hI:Ae W U M){a:Int}(j:inB x.2 n a):W.S.own (a/8192)=id/\0<=a/\a<281474976710656:=by
 have e:=(hI.sp id x h.sp).1;obtain⟨h1,u,v,J⟩:=j.Wq e h.lt;have K:=e.ba;exact⟨VY hI.hI h.sp (by omega) (by omega),by omega,by omega⟩
section
variable{E:Env}{w:World}{Z:List Pr}{b h s r:Nat}{W:SW}{U M:Aq}
def YY(H:Sat (AQ E b h s r W::Z) w)(hI:Ae W U M){id:Int}{x:Nat×SI}(J:W.S.sp id=some x){n:Nat}(hn:(n:Int)<x.2.AO){a:Int}(ha:inB x.2 n a){K:Int->Int->World->Prop}
  (hK: ∀w',Sat (AQ E b h s r W::Z) w'->K n 0 w'):F.DK E (sM x.1) a K w:=by
 obtain⟨e,hg⟩:=hI.sp id x J;have hs:=e.size;have hb:=e.ba;obtain⟨h1,Y,h3,h4⟩:=ha.Wq e hn;obtain⟨R,T,hz,j⟩:=H.GA;obtain⟨R2,v,u⟩:=T.Ke J;refine Pj v e.aG hs.1 (by omega) (by omega) (by omega) (by omega) (λg=>absurd ⟨h1,Y⟩ g) λ_ _ w' O=> ?_;rw[h4];exact hK w' (j (u O))
def TO(H:Sat (AQ E b h s r W::Z) w)(hI:Ae W U M){id:Int}{x:Nat×SI}(e:W.S.sp id=some x){n:Nat}(O:(n:Int)<x.2.AO){K:Bool->World->Prop}(u:K (U id n) w):F.DC E (sM x.1) n K w:=by
 obtain⟨R,j,hz,v⟩:=H.GA;obtain⟨T,a,J⟩:=j.Ke e;exact TH a (hI.sp id x e).2 O u
variable{A:vE}{dead:Bool}{ma cy:Int}
def QR(H:Sat (Ou E A dead ma cy::AQ E A.b A.h A.s A.r W::Z) w)(hI:Ae W U M){id:Int}{K:Option Addr->Bool->World->Prop}(a:W.S.sp id=none->K none false w)
  (e: ∀x,W.S.sp id=some x-> ∀w',Sat (Ou E A dead ma cy::AQ E A.b A.h A.s A.r W::Z) w'->K (sM x.1) true w'):F.Bv E (sM A.m) id K w:=by
 unfold F.Bv T0.Bv;refine AG ⟨_,H.AW rfl,?_⟩;refine ML (H.front 1 rfl) (λJ=>Ad (Aa rfl λ_=>Aa rfl (a J))) λx u=>Ad (AR rfl ?_);refine JW (H.front 1 rfl) u λw' v j=>Gm (λc=>absurd (hI.sp id x u).1.st c) λ_=>e x u w' (v.front 1 rfl)
def bC(H:Sat (Ou E A dead ma cy::AQ E A.b A.h A.s A.r W::Z) w)(hI:Ae W U M){id:Int}{n:Nat}{x:Nat×SI}(e:zJ W U id n x){a:Int}(O:inB x.2 n a){K:Int->Int->Bool->World->Prop}
  (hK: ∀w',Sat (Ou E A dead ma cy::AQ E A.b A.h A.s A.r W::Z) w'->K (x.2.base+n*x.2.elem) x.2.elem true w'):F.Cv E (sM A.m) a K w:=by
 unfold F.Cv T0.Cv;obtain⟨ho,h0,h1⟩:=e.own hI O;have hs:=(hI.sp id x e.sp).1.size;refine AG ⟨_,H.AW rfl,nQ (H.front 1 rfl) h0 (by omega) λw1 H1=> ?_⟩;rw[ho];refine QR (H1.front 1 rfl) hI (λT=>by rw[e.sp]at T;cases T) λy v w2 Y=>AR rfl ?_;obtain rfl:y=x:=Option.some.inj (v.symm.trans e.sp);refine YY (Y.front 1 rfl) hI v e.lt O λw3 J=>Ad (AR rfl (TO J hI v e.lt λj=>AR (by rw[e.u];rfl) ?_));refine Kr J hI v (by omega) e.lt λw4 H4=>JW H4 v λw5 H5=> ?_;rw[AP];exact hK w5 (H5.front 1 rfl)
end
structure IsC(n k:Int):Prop where
 k0:0<k
 k1:k<68
 le:n<=(A0 k).1
 lt: ∀j,0<j->j<k->(A0 j).1<n
def IsC.uniq{n k l:Int}(h:IsC n k)(g:IsC n l):k=l:=by
 rcases Int.lt_trichotomy k l with c|c|c
 .have:=g.lt k h.k0 c;have:=h.le;omega
 .exact c
 .have:=h.lt l g.k0 c;have:=g.le;omega
def tP:(List.range 67).all (λi=>decide ((A0 (i:Nat)).1<(A0 ((i+1:Nat):Int)).1))=true:=by decide+kernel
def tQ{i j:Nat}(h:i<j)(a:j<68):(A0 i).1<(A0 j).1:=by
 induction j with
 | zero=>omega
 | succ j ih=>
  have h1:=of_decide_eq_true (List.all_eq_true.1 tP j (List.mem_range.2 (by omega)))
  grind
def cls67:(A0 67).1=32768:=by decide+kernel
def tR{n:Int}(h:n<=32768): ∃k:Nat,IsC n k:=by
 have key: ∀m:Nat,m<=67->n<=(A0 m).1-> ∃k:Nat,(k:Int)<=m/\n<=(A0 k).1/\(0<m->0<k)/\ ∀j:Int,0<j->j<k->(A0 j).1<n:=by
  intro m
  induction m with
  | zero=>intro _ h0;exact⟨0,by omega,h0,λc=>by omega,λj _ _=>by omega⟩
  | succ m ih=>
   intro hm h0;by_cases g:0<m/\n<=(A0 (m:Nat)).1
   .grind
   .refine⟨m+1,by omega,h0,λ_=>by omega,λj j0 j1=> ?_⟩;obtain⟨i,rfl⟩: ∃i:Nat,j=i:=⟨j.toNat,by omega⟩;have u:(A0 (m:Nat)).1<n:=by omega
    rcases Nat.lt_or_ge i m with c|c
    .have:=tQ c (by omega);omega
    grind
 obtain⟨k,h1,a,v,e⟩:=key 67 (by omega) (by rw[show((67:Nat):Int)=67 from rfl,cls67];exact h);exact⟨k,by omega,by omega,a,e⟩
section
variable{E:Env}{w:World}{Z:List Pr}(hS:EnvS E)
include hS
theorem YZ(hO: ∀x p1 p2 K w,F.Ga E x p1 p2 K w->E.call E.K0 #[.int .i64 x,.pointer p1,.pointer p2] w (λr w'=> ∃b,r= .bool b/\K b w') Fi)
  (H:Sat Z w){n k:Int}(h0:0<=n)(h1:n<=32768)(u:IsC n k){K:Int->Int->World->Prop}(hK: ∀w',Sat Z w'->K k 0 w'):F.KW E n K w:=by
 unfold F.KW T0.KW;refine AJ (vs:=[.int .i64 n]) H λb1 w2 v _=> ?_;have aL:=u.k0;have aM:=u.k1;refine Ad ⟨_,v.AW rfl,AR (decide_eq_false (by omega)) ⟨_,v.AW rfl,λj=>AR (decide_eq_false (by omega)) (QD v λs w3 H3=> ?_)⟩⟩;refine AJ (vs:=[.slice none 0 0]) H3 λb4 w4 H4 _=>Bc H4 rfl (by decide) λw5 e=>⟨_,e.AW rfl,?_⟩;have hl:=(e.front 1 rfl:Sat (Row E.DA 4 s (FJ Nr PX)::_) w5).Og (by decide) Bp;rw[NS]at hl;rw[show i64 (((s.len:Nat):Int)-1)=67 by rw[<-hl.1];decide];obtain⟨a,rfl⟩: ∃a:Nat,k=a:=⟨k.toNat,by omega⟩;refine L9 (λi=>decide (n<=(A0 (i+1)).1)) (by decide) (by decide) (λi w' i0 i1 he K' O=> ?_) ((a:Int)-1) (by omega) (by omega) (λi i0 i1=>decide_eq_false ?_) (λi i0 i1=>decide_eq_true ?_) λw' he=> ?_
 .have H':=e.nothing he;refine hS.mono _ _ _ _ _ ?_ (hO i (sM b4) (sM b1) (λr Y=>K' (.bool r) Y) w' ?_)
  .grind
  .unfold F.Ga;have J:=H'.drew;have Hr:Sat (Row E.DA 4 s (FJ Nr PX)::_) w'.drew:=J.front 1 rfl;obtain⟨x,hx⟩:=Hr.RN (by decide) Bp (i:=(i+1).toNat) (by rw[NS];omega);refine AG ⟨s,J.AW rfl,?_⟩;show NC s.base _;rw[hx,AI (n:=i+1)];refine AG ⟨⟨by omega,by omega⟩,_,Hr.JA Bp hx (Ma (c:=i+1) (by omega) (by omega)) (j:=0) rfl,?_⟩;exact AG ⟨_,(J.front 2 rfl:Sat (Cells b1 E.Ar [.int .i64 n]::_) w'.drew).AW rfl,O _ (he.trans' (Ext.drew _ _))⟩
 .exact Int.not_le.2 (u.lt (i+1) (by omega) (by omega))
 .obtain⟨T,rfl⟩: ∃T:Nat,i=T:=⟨i.toNat,by omega⟩;have:=u.le;rcases Nat.lt_or_ge a (T+1)with c|c
  .have:=tQ c (by omega)
   grind
  grind
 .rw[show(1:Int)+((a:Int)-1)=a by omega,AI];exact hK w' (e.nothing he).tail.tail.tail
end
def Ya{t z bytes:Nat}{zs:Array Value}{s x:AY}{w:World}{K:AY->World->Prop}(e:x.len=0)(u:s.len<=s.cap)(v:K s w):APP t z bytes zs s x w K:=by
 obtain⟨b,l,c⟩:=s;obtain⟨j,J,c2⟩:=x;have e:J=0:=e;have u:l<=c:=u;subst e;refine⟨[],?_,λ_=> ?_,λh=>absurd (show c<l+0 from h) (by omega)⟩
 .show rowAt w j (0*z) [];rw[Nat.zero_mul];unfold rowAt;cases j with
  | none=>rfl
  | some a=>grind
 .cases b<;>exact v
def tS{t:Nat}{v z:Value}{K:Value->Bool->Prop}(h:K v true):TAS (.iface t v) t z K:=by
 unfold TAS;show(match Nat.beq t t with|true=>K v true|false=>K z false);rw[Nat.beq_refl];exact h
def Iz(E:Env)(q:Nat):Pr:=Ex λs:AY=>Jt (s.len=0/\s.cap<9223372036854775808) (Cells q E.GV [FI s])
section
variable{E:Env}{w:World}{Z:List Pr}{q:Nat}
def Sat.mask:Sat (Iz E q::Z) w↔ ∃s:AY,(s.len=0/\s.cap<9223372036854775808)/\Sat (Cells q E.GV [FI s]::Z) w:=by
 unfold Iz;rw[Sat.ex];simp only[Sat.where]
def Yb(H:Sat Z w){K:Option Addr->World->Prop}(e: ∀q w',Sat (Iz E q::Z) w'->K (sM q) w'):F.PF E K w:=by
 unfold F.PF;exact AJ (vs:=[.slice none 0 0]) H λq w' a _=>e q w' (Sat.mask.2 ⟨⟨none,0,0⟩,⟨rfl,by decide⟩,a⟩)
def Ve(hS:EnvS E)(H:Sat (Iz E q::Z) w){a n:Int}(h0:0<=a)(h8:a %8=0)(O:n %8=0)(hn:0<n)(aG:n<=1099511627776)(hb:a+n<=281474976710656){K:Int->World->Prop}
  (hK: ∀w',Sat (Iz E q::Z) w'->K 0 w'):F.De E (sM q) a n K w:=by
 unfold F.De T0.De F.OR F.FH T0.FH F.Fw T0.Fw;rw[Int.tmod_eq_emod_of_nonneg h0,Int.tmod_eq_emod_of_nonneg (show 0<=n by omega),AP (n:=281474976710656-a)];refine⟨by decide,C6 (λ_=>⟨by decide,C6 (λ_=>Gm (λ_=> ?_) λc=>by omega) λc=>absurd O c⟩) λc=>absurd h8 c⟩;refine Aa (decide_eq_true (by omega)) (Aa (decide_eq_true (by omega)) (AR (by grind) ⟨by decide,by decide,?_⟩));obtain⟨s,hs,H⟩:=Sat.mask.1 H;refine AJ (vs:=[.pointer (sM q)]) H λb1 w2 H2 _=>AJ (vs:=[.int .u64 _]) H2 λb3 Y v _=> ?_;refine⟨_,(v.front 1 rfl:Sat (Cells b1 E.LU [.pointer (sM q)]::_) Y).AW rfl,AG ⟨s,(v.front 2 rfl:Sat (Cells q E.GV [FI s]::_) Y).AW rfl,?_⟩⟩
 try dsimp only
 rw[hs.1];refine L9 (λ_=>true) (by decide) (by decide) (λi _ i0 i1=>by omega) 0 (by decide) (by decide) (λi i0 i1=>by omega) (λi _ _=>rfl) λw5 he=> ?_;have H5:Sat (Cells q E.GV [FI s]::Z) w5:=(v.nothing he).tail.tail;refine NJ (t:=E.Co) (n:=0) (z:=4) (vs:=[]) H5 rfl (by decide) λT w6 J=> ?_;have e: ∀{X:List Pr} {w'},Sat (Cells q E.GV [FI s]::X) w'->w'.cell? (Addr.mk q 0 none)=some (.slice s.base s.len s.cap):=λh=>h.AW rfl;refine AG ⟨s,e (J.front 1 rfl),⟨by omega,by omega⟩,Ya rfl (Nat.le_refl _) (Ad (AM (λst w'=>st=(0,⟨some ⟨T,0,none⟩,0,0⟩,⟨none,0,0⟩,())/\w'=w6) (λ_ _=>0) ⟨rfl,rfl⟩ ?_))⟩;rintro _ _ _ ⟨rfl,rfl⟩;refine AG ⟨s,e (J.front 1 rfl),AR (by grind) λj=>Ad (tS ?_)⟩;have go: ∀K:kY (.agg [])->Prop,K ()->unVT (.agg []) (.agg ⟨[]⟩) K:=λK h=>h;refine go _ ?_;refine AJ (vs:=[]) J λb7 w7 H7 _=>gL (AR rfl λj2=> ?_);have u:=H7.drew;refine AG ⟨s,e (u.front 2 rfl),⟨by omega,by omega⟩,Ya rfl (Nat.le_refl _) ⟨e (u.front 2 rfl),Ya (by grind) (Nat.le_refl _) ⟨e (u.front 2 rfl),AG (Bc (u.front 2 rfl) rfl (by simp) λw8 H8=>hK w8 ?_)⟩⟩⟩;exact Sat.mask.2 ⟨⟨some ⟨T,0,none⟩,0,0⟩,⟨rfl,by grind⟩,(H8.skip).skip⟩
end
def Vf{α:Type}[DecidableEq α]: ∀{A B:List α},A.Nodup->(∀x∈A,x∈B)->A.length<=B.length
 | [],B,_,_=>Nat.zero_le _
 | a::A,B,hn,hs=>by
  have h1:=List.nodup_cons.1 hn;have u:A.length<=(B.erase a).length:=Vf h1.2 λx j=>(List.mem_erase_of_ne (λe:x=a=>h1.1 (e▸j))).2 (hs x (List.mem_cons_of_mem _ j));have v:=List.length_erase_of_mem (hs a List.mem_cons_self);have J:0<B.length:=List.length_pos_of_mem (hs a List.mem_cons_self);rw[List.length_cons];omega
def WL(n:Nat)(ks:List Int):List Int:=ks.flatMap λc=>(List.range (512/n)).map λj:Nat=>512*c+(n:Int)*j
def bD(n:Nat): ∀ks,(WL n ks).length=ks.length*(512/n)
 | []=>by simp[WL]
 | c::ks=>by
  have:=bD n ks;unfold WL at this⊢;rw[List.flatMap_cons,List.length_append,this,List.length_map,List.length_range,List.length_cons,Nat.succ_mul];omega
def bE{n:Nat}{ks:List Int}{s:Int}:s∈WL n ks↔ ∃c∈ks,∃j:Nat,j<512/n/\s=512*c+(n:Int)*j:=by
 unfold WL;simp only[List.mem_flatMap,List.mem_map,List.mem_range];exact⟨λ⟨c,hc,j,hj,e⟩=>⟨c,hc,j,hj,e.symm⟩,λ⟨c,hc,j,hj,e⟩=>⟨c,hc,j,hj,e.symm⟩⟩
def gU{n j:Nat}(u:1<=n)(e:j<512/n):0<=(n:Int)*j/\(n:Int)*j+n<=512:=by
 have h1:n*(j+1)<=512:=Nat.le_trans (Nat.mul_le_mul_left n e) (Nat.mul_div_le 512 n);have a:(n:Int)*j=((n*j:Nat):Int):=by simp
 rw[Nat.mul_add,Nat.mul_one]at h1;rw[a];omega
def Vg{n:Nat}(u:1<=n): ∀{ks:List Int},ks.Nodup->(WL n ks).Pairwise λs t:Int=>s+(n:Int)<=t∨t+(n:Int)<=s
 | [],_=>List.Pairwise.nil
 | c::ks,h=>by
  have h1:=List.nodup_cons.1 h;unfold WL;rw[List.flatMap_cons,List.pairwise_append];refine⟨?_,Vg u h1.2,λs O t T=> ?_⟩
  .rw[List.pairwise_map];refine List.Pairwise.imp (λ{i j} (v:i<j)=> ?_) List.pairwise_lt_range;have e:((j:Nat):Int)=(i:Int)+1+((j-i-1:Nat):Int):=by omega
   have h0:0<=(n:Int)*((j-i-1:Nat):Int):=Int.mul_nonneg (by omega) (by omega);refine .inl ?_;rw[e,Int.mul_add,Int.mul_add,Int.mul_one];omega
  .obtain⟨i,hi,rfl⟩:=List.mem_map.1 O;obtain⟨d,hd,j,J,rfl⟩:=bE.1 T;have K:c≠d:=λe=>h1.1 (e▸hd);have a:=gU u (List.mem_range.1 hi);have b:=gU u J;omega
def Yc(n:Nat)(I:List Int)(ps:Nat):List (Int×Int×Int):=
 (I.flatMap λid=>[(0,id,0),(0,id,1)])++(List.range ps).flatMap λi:Nat=>(List.range (64/n+2)).map λq:Nat=>(1,(i:Int),(q:Int))
def nS(n:Nat)(I:List Int)(ps:Nat):(Yc n I ps).length=2*I.length+ps*(64/n+2):=by
 unfold Yc;rw[List.length_append];congr 1
 .induction I with
  | nil=>rfl
  | cons a I ih=>rw[List.flatMap_cons,List.length_append,ih];simp only[List.length_cons,List.length_nil];omega
 .rw[List.length_flatMap];simp only[List.length_map,List.length_range];rw[List.map_const',List.sum_replicate_nat,List.length_range]
def nT{n:Nat}(hn:1<=n){ks:List Int}(Y:ks.Nodup){I:List Int}{b:Int->Int}{ps:Nat}{cb:Nat->Int}
  (aB: ∀c∈ks,∀j:Nat,j<512/n-> ∃p,512*c+(n:Int)*j<=p/\p<512*c+(n:Int)*j+n/\((∃id∈I,b id<=p/\p<b id+n)∨ ∃i,i<ps/\cb i<=p/\p<cb i+64)):
  ks.length*(512/n)<=2*I.length+ps*(64/n+2):=by
 have v:(0:Int)<(n:Int):=by omega
 have u: ∀x:Int,x/(n:Int)*n<=x/\x<x/(n:Int)*n+n:=λx=>by
  have h1:=Int.emod_add_mul_ediv x n;have J:=Int.emod_nonneg x (show(n:Int)≠0 by omega);have K:=Int.emod_lt_of_pos x v;rw[Int.mul_comm]at h1;omega
 have O: ∀s:Int,∃c:Int×Int×Int,s∈WL n ks->c∈Yc n I ps/\
   ((∃id,c=(0,id,0)/\b id<s/\s<b id+n)∨(∃id,c=(0,id,1)/\s<=b id/\b id<s+n)∨ ∃i:Nat,c=(1,(i:Int),(s-cb i+n)/(n:Int))):=λs=>by
  by_cases a:s∈WL n ks
  .obtain⟨c,O,j,hj,rfl⟩:=bE.1 a;obtain⟨p,p0,p1,h⟩:=aB c O j hj;rcases h with ⟨id,Kv,q0,q1⟩|⟨i,hi,q0,q1⟩
   .by_cases hb:b id<512*c+(n:Int)*j
    .exact⟨(0,id,0),λ_=>⟨List.mem_append.2 (.inl (List.mem_flatMap.2 ⟨id,Kv,by simp⟩)),.inl ⟨id,rfl,hb,by omega⟩⟩⟩
    .exact⟨(0,id,1),λ_=>⟨List.mem_append.2 (.inl (List.mem_flatMap.2 ⟨id,Kv,by simp⟩)),.inr (.inl ⟨id,rfl,by omega,by omega⟩)⟩⟩
   .refine⟨(1,(i:Int),(512*c+(n:Int)*j-cb i+n)/(n:Int)),λ_=>⟨List.mem_append.2 (.inr (List.mem_flatMap.2 ⟨i,List.mem_range.2 hi,List.mem_map.2 ⟨((512*c+(n:Int)*j-cb i+n)/(n:Int)).toNat,?_,?_⟩⟩)),.inr (.inr ⟨i,rfl⟩)⟩⟩
    .rw[List.mem_range];have h1:(512*c+(n:Int)*j-cb i+n)/(n:Int)<=(64+(n:Int))/n:=Int.ediv_le_ediv v (by omega);have J:(64+(n:Int))/n=64/(n:Int)+1:=Int.add_ediv_of_dvd_right (Int.dvd_refl _)|>.trans (by rw[Int.ediv_self (by omega)]);have K:(64:Int)/(n:Int)=((64/n:Nat):Int):=rfl;rw[J,K]at h1;generalize (512*c+(n:Int)*j-cb i+n)/(n:Int)=x at h1⊢;generalize 64/n=y at h1⊢;omega
    .rw[Int.toNat_of_nonneg (Int.ediv_nonneg (by omega) (by omega))]
  .exact⟨(0,0,0),λh=>absurd h a⟩
 obtain⟨f,T⟩:=Classical.axiomOfChoice O;have aA:((WL n ks).map f).Nodup:=by
  refine List.pairwise_map.2 ?_;have:=Vg hn Y;refine(List.Pairwise.imp_of_mem (λ{s t} a ht hst e=> ?_) this);have h1:=(T s a).2;have J:=(T t ht).2;rw[e]at h1;rcases h1 with ⟨i,e1,a1,a2⟩|⟨i,e1,a1,a2⟩|⟨i,e1⟩<;>rcases J with ⟨j,e2,b1,b2⟩|⟨j,e2,b1,b2⟩|⟨j,e2⟩<;>rw[e1]at e2<;>simp only[Prod.mk.injEq]at e2
  .obtain⟨_,rfl,_⟩:=e2;omega
  .omega
  .omega
  .omega
  .obtain⟨_,rfl,_⟩:=e2;omega
  .omega
  .omega
  .omega
  .obtain⟨_,K,h4⟩:=e2;obtain rfl:i=j:=by omega
   have h5:=u (s-cb i+n);have h6:=u (t-cb i+n);rw[h4]at h5;omega
 have:=Vf aA λx hx=>by
  obtain⟨s,a,rfl⟩:=List.mem_map.1 hx;exact(T s a).1
 rw[List.length_map,bD,nS]at this;exact this
def gV{n k m ps:Nat}(n0:1<=n)(n1:n<=10)(hm:m<=20)(h:k*(512/n)<=2*m+ps*(64/n+2)):k<=ps:=by
 refine Nat.le_of_not_lt λa=> ?_;have h1:(ps+1)*(512/n)<=2*m+ps*(64/n+2):=Nat.le_trans (Nat.mul_le_mul_right _ a) h;rcases(by omega:n=1∨n=2∨n=3∨n=4∨n=5∨n=6∨n=7∨n=8∨n=9∨n=10)with rfl|rfl|rfl|rfl|rfl|rfl|rfl|rfl|rfl|rfl<;>omega
def HInv.arenas{S:HS}(hI:HInv S no){n:Nat}(n0:1<=n)(n1:n<=10)(O: ∀q,¬MZ S.T.fr q (n:Int)){ids:List Int}(hl:ids.length<=20)(aB: ∀id x,S.sp id=some x->id∈ids/\x.2.AD=(n:Int))
  {ps:Nat}(v: ∀i,i<64-> ∀p,(S.ca i).own p=true->i<ps){ks:List Int}(K:ks.Nodup)(aE: ∀c∈ks,mem S.ks c):ks.length<=ps:=by
 refine gV n0 n1 hl (nT (I:=ids) (b:=λid=>match S.sp id with|some x=>x.2.base/8192|none=>0) (cb:=λi=>(S.ca i).base) n0 K λc hc j hj=> ?_);have hw:=gU n0 hj;have e:=O (512*c+(n:Int)*j);obtain⟨p,Y⟩: ∃p,¬(512*c+(n:Int)*j<=p->p<512*c+(n:Int)*j+n->S.T.fr p=true):=Classical.byContradiction λhn=>e λp h0 h1=>Classical.byContradiction λhf=>hn ⟨p,λh=>hf (h h0 h1)⟩;have h0:512*c+(n:Int)*j<=p:=Classical.byContradiction λh=>Y λu=>absurd u h;have h1:p<512*c+(n:Int)*j+n:=Classical.byContradiction λh=>Y λ_ u=>absurd u h;have hf: ¬S.T.fr p=true:=λh=>Y λ_ _=>h;refine⟨p,h0,h1,?_⟩;have aC:p/512=c:=by omega
 have J:S.T.Lt p=true:=(hI.ks p).1 (by grind);rcases hI.cv p J with h|h|h|h
 .grind
 .unfold HS.NU at h;obtain⟨i,hi,h⟩: ∃i,i<64/\(S.ca i).own p=true:=by grind
  refine .inr ⟨i,v i hi p h,?_⟩;unfold CS.own inr at h
  grind
 .obtain⟨_,_,_,x,hx,a,b⟩:=hI.ow p h
  grind
 .exact absurd h (by unfold no;decide)
section
variable{E:Env}{w:World}{Rs Z:List Pr}
end
section
variable{S S2 S':HS}{n page x y b next:Int}{i:Nat}
end
section
variable{E:Env}{w:World}{Z:List Pr}{h pb tp:Nat}{S:HS}{x y b r:Int}
variable(hE:EnvA E)
include hE
end
noncomputable def Pl(S:HS)(r:Int):Int:=
 if u64 (cP S.T.Lt-cP S.gone)<=LI S.AD (timesV S.AD r)then 0 else u64 (u64 (cP S.T.Lt-cP S.gone)-LI S.AD (timesV S.AD r))
def nU(S:HS)(r:Int):0<=Pl S r/\Pl S r<18446744073709551616:=by
 unfold Pl;split
 .decide
 .rw[KI];omega
structure MM(S S':HS):Prop where
 Lt:S'.T.Lt=S.T.Lt
 fr:S'.T.fr=S.T.fr
 ca:S'.ca=S.ca
 ks:S'.ks=S.ks
 own:S'.own=S.own
 fx:S'.fx=S.fx
 sp:S'.sp=S.sp
 hint:S'.hint=S.hint
 AD:S'.AD=S.AD
 rf:S'.V.rf=S.V.rf
 pl:S'.V.pl=S.V.pl
 laid:S'.V.laid=S.V.laid
def Oi.EB{S S':HS}{n m:Int}(h:Oi S n S' m):MM S S':=by
 induction h with
 | stop _=>exact⟨rfl,rfl,rfl,rfl,rfl,rfl,rfl,rfl,rfl,rfl,rfl,rfl⟩
 | step _ _ ih=>exact⟨ih.Lt,ih.fr,ih.ca,ih.ks,ih.own,ih.fx,ih.sp,ih.hint,ih.AD,ih.rf,ih.pl,ih.laid⟩
def tU(h pb:Nat)(r:Int)(w:World):Prop:=w.cell? (Addr.mk pb 0 none)=some (.pointer (sM h))/\w.cell? ((Addr.mk pb 0 none).add 1)=some (.int .u64 r)
section
variable{E:Env}{w:World}{R:List Pr}{h pb:Nat}{S:HS}{r:Int}
def TP(H:Sat (Ax E h S::R) w)(v: ∀w',Sat R w'->tU h pb r w')(hI:HInv S no){K:Int->World->Prop}
  (J: ∀w',Sat (Ax E h S::R) w'->K (Pl S r) w'):F.DJ E (sM pb) K w:=by
 unfold F.DJ T0.DJ;refine AG ⟨_,(v w H.tail).1,TE H hI λO u=>AG ⟨_,(v O u.tail).2,?_⟩⟩;refine Na u λj e=> ?_;have a:=J j e;unfold Pl at a;refine AE (λg=> ?_) λg=> ?_
 .rw[if_pos g]at a;exact a
 .rw[if_neg g]at a;exact a
variable(hE:EnvA E)
include hE
theorem bF(H:Sat (Ax E h S::R) w)(j: ∀w',Sat R w'->tU h pb r w')(hI:HInv S no){mI:Int}(m0:0<=mI){K:Int->World->Prop}
  (J: ∀S' m w',Oi S (PR (Pl S r) mI) S' m->HInv S' no->Sat (Ax E h S'::R) w'->K m w'):F.EU E (sM pb) mI K w:=by
 unfold F.EU T0.EU;refine AG ⟨_,(j _ H.drew.tail).1,TP H.drew j hI λT u=>⟨(j T u.tail).1,?_⟩⟩;have hw:=nU S r;have e:0<=PR (Pl S r) mI/\PR (Pl S r) mI<18446744073709551616:=by unfold PR;omega
 exact fV hE u hI e.1 e.2 λS' m O _ _ a Y v=>J S' m Y O a v
end
def Whole(b t:Nat)(vs:List Value):Pr where
 holds D w:=(∀k,D k↔k=b)/\w.heap[b]? =some (.cells ⟨vs⟩ t)
 loc h he hS:=⟨h.1,he.obj h.2 (hS _ ((h.1 _).2 rfl))⟩
 lt h hk:=by have:=(h.1 _).1 hk;grind
section
variable{b t:Nat}{vs:List Value}{F:List Pr}{w:World}
def Sat.whole(H:Sat (Whole b t vs::F) w):Sat (Cells b t vs::F) w:=
 let⟨D,D1,D2,h1,h2,h3⟩:=H
 ⟨D,D1,D2,OG h1.1 h1.2,h2,h3⟩
def Sat.wholeAt(H:Sat (Whole b t vs::F) w):w.heap[b]? =some (.cells ⟨vs⟩ t):=let⟨_,h⟩:=H.head;h.2
def Sat.zK(H:Sat (Whole b t vs::F) w):okA w ⟨b,0,none⟩:=by
 have h:=H.wholeAt;refine⟨t,vs.length,?_,?_,?_⟩
 .simp[World.shape?,h]
 .simp[World.frozen?,h]
 .simp[World.frozen?,h]
def tV(H:Sat F w){K:Nat->World->Prop}(a: ∀b w',Sat (Whole b t vs::F) w'->K b w'):AL (.cells ⟨vs⟩ t) w K:=
 A4 λw1 e u he=>a _ w1 (H.new (D:=λk=>k=w.heap.size) he ⟨λ_=>Iff.rfl,e⟩ λk j=>by rw[j];exact Nat.le_refl _)
def tW(H:Sat (Whole b t vs::F) w){m:Nat}{v:Value}(ho:v.oneCell'=true)(u:m<vs.length){K:World->Prop}(a: ∀w',Sat (Whole b t (vs.set m v)::F) w'->K w'):
  stCells ((Addr.mk b 0 none).add m) 0 [v] w K:=by
 obtain⟨D,h,J⟩:=H.step;rw[add_eq,Nat.zero_add];refine HL [v] b m 0 ⟨vs⟩ w _ h.2 (by simp;omega) (by simpa using ho) λw' he O e=>a w' ?_;refine J w' D _ (he.mono λi _ hi=>(h.1 i).2 hi) ⟨h.1,?_⟩ λk j=>.inl j;rw[e];have:vs.take m++v::vs.drop (m+1)=vs.set m v:=(List.set_eq_take_append_cons_drop ..).symm▸by rw[if_pos u]
 simp only[Nat.add_zero,List.length_singleton,List.append_assoc,List.singleton_append];rw[this]
end
abbrev pv(b:Nat):Value:=.pointer (some ⟨b,0,none⟩)
def PL{α:Type}(tp:Nat)(R:Nat->α->Pr)(s:AY)(L:List (Nat×α)):Pr:=Kx [Row tp 1 s (L.map λx=>pv x.1),Aj (λx=>R x.1 x.2) L]
section
variable{α:Type}{tp:Nat}{R:Nat->α->Pr}{s:AY}{L:List (Nat×α)}{Z:List Pr}{w:World}
def Sat.pl:Sat (PL tp R s L::Z) w↔Sat (Row tp 1 s (L.map λx=>pv x.1)::Aj (λx=>R x.1 x.2) L::Z) w:=Sat.star
def Sat.tX(H:Sat Z w)(tp:Nat)(R:Nat->α->Pr):Sat (PL tp R ⟨none,0,0⟩ []::Z) w:=Sat.pl.2 ((H.NI _).nil tp 1)
def Sat.Jp(H:Sat (PL tp R s L::Z) w):L.length=s.len:=by
 have:=(Sat.pl.1 H).CK;rw[List.length_map,Nat.mul_one]at this;exact this
def Sat.Kw(H:Sat (PL tp R s L::Z) w){i:Nat}{x:Nat×α}(j:L[i]? =some x): ∃a,s.base=some a/\w.cell? (a.add i)=some (pv x.1):=by
 have u:=H.Jp;obtain⟨b,e⟩:=(Sat.pl.1 H).own.G7 (by have:=(List.getElem?_eq_some_iff.1 j).1;omega);exact⟨_,e,(Sat.pl.1 H).own.cell e (by rw[List.getElem?_map,j];rfl)⟩
def Sat.zL(H:Sat (PL tp R s L::Z) w){i:Nat}{x:Nat×α}(a:L[i]? =some x): ∃Q,Sat (R x.1 x.2::Q) w/\(∀{w'},Sat Q w'->Sat Z w')/\ ∀{y w'},Sat (R x.1 y::Q) w'->Sat (PL tp R s (L.set i (x.1,y))::Z) w':=by
 have u:=(List.getElem?_eq_some_iff.1 a).1;have h1:=((Sat.pl.1 H).front 1 rfl).FQ a;refine⟨_,h1,λh=>h.tail.tail,λ{y w'} h'=> ?_⟩;have v:=(Sat.Xk (R:=λx:Nat×α=>R x.1 x.2) (y:=(x.1,y)) h' u).perm (.swap _ _ _);refine Sat.pl.2 ?_;have e:(L.set i (x.1,y)).map (λx=>pv x.1)=L.map λx=>pv x.1:=by
  rw[List.map_set];refine List.ext_getElem? λj=> ?_;rw[List.getElem?_set];split
  .rename_i e;subst e;rw[List.getElem?_map,a];simp[u]
  .rfl
 rw[e];exact v
def Vh{β:Type}{l:List β}{i:Nat}{x:β}(h:l[i]? =some x):l.set i x=l:=by
 refine List.ext_getElem? λj=> ?_;rw[List.getElem?_set]
 grind
def Sat.zM(H:Sat (PL tp R s L::Z) w){i:Nat}{x:Nat×α}(a:L[i]? =some x): ∃Q,Sat (R x.1 x.2::Q) w/\ ∀{w'},Sat (R x.1 x.2::Q) w'->Sat (PL tp R s L::Z) w':=by
 obtain⟨Q,h1,_,e⟩:=H.zL a;refine⟨Q,h1,λh=> ?_⟩;have:=e h;rwa[Vh a]at this
def gW{b b1:Nat}{y:α}{zs:Array Value}(H:Sat (Cells b1 tp [pv b]::R b y::PL tp R s L::Z) w)(hz:zs.size=1)(u:s.len<=1099511627776){K:AY->World->Prop}
  (j: ∀s' w',Sat (PL tp R s' (L++[(b,y)])::Z) w'->K s' w'):APP tp 1 8 zs s ⟨some (Addr.mk b1 0 none),1,1⟩ w K:=by
 have h1:Sat (Cells b1 tp [pv b]::Row tp 1 s (L.map λx=>pv x.1)::Aj (λx:Nat×α=>R x.1 x.2) L::R b y::Z) w:=(Sat.pl.1 (H.front 2 rfl)).front 2 rfl;refine GH h1 hz rfl (by intro v a;simp at a;subst a;rfl) (by omega) (by omega) λs' w' e _=>j s' w' ?_;refine Sat.pl.2 ?_;rw[List.map_append];exact((e.front 2 rfl).BQ 1 rfl|>.UX (R:=λx:Nat×α=>R x.1 x.2) (x:=(b,y))).perm (.swap _ _ _)
end
def Nt(t:Nat)(s:AY)(vs:List Value):Pr where
 holds D w:=(∀k,D k↔PS s k)/\(vs.length=s.len/\s.len<=s.cap/\s.cap<9223372036854775808)/\((s.base=none/\s.cap=0)∨ ∃b o cs,s.base=some ⟨b,o,none⟩/\w.heap[b]? =some (.cells cs t)/\o+s.cap<=cs.size/\(cs.toList.drop o).take s.len=vs)
 loc h he hS:=⟨h.1,h.2.1,h.2.2.imp (λg=>g) λ⟨b,o,cs,g1,g2,g3⟩=>⟨b,o,cs,g1,he.obj g2 (hS _ ((h.1 _).2 ⟨_,g1,rfl⟩)),g3⟩⟩
 lt h hk:=by
  obtain⟨a,e,rfl⟩:=(h.1 _).1 hk;rcases h.2.2 with ⟨g,_⟩|⟨b,o,cs,g1,g2,_⟩
  .rw[g]at e;cases e
  .rw[g1]at e;cases e;have:=(Array.getElem?_eq_some_iff.1 g2).1;exact this
section
variable{t:Nat}{s:AY}{vs:List Value}{F:List Pr}{w:World}
def Sat.zN(H:Sat (Nt t s vs::F) w):(vs.length=s.len/\s.len<=s.cap/\s.cap<9223372036854775808)/\((s.base=none/\s.cap=0)∨ ∃b o cs,s.base=some ⟨b,o,none⟩/\w.heap[b]? =some (.cells cs t)/\o+s.cap<=cs.size/\(cs.toList.drop o).take s.len=vs):=let⟨_,h⟩:=H.head;h.2
def Sat.zO(H:Sat F w)(t:Nat):Sat (Nt t ⟨none,0,0⟩ []::F) w:=
 H.new (D:=λ_=>False) (Ext.refl _ _) ⟨λk=>⟨λf=>f.elim,λ⟨a,ha,_⟩=>by cases ha⟩,⟨rfl,Nat.le_refl _,by decide⟩,.inl ⟨rfl,rfl⟩⟩ λk f=>f.elim
def Sat.bG(H:Sat (Nt t s vs::F) w){j:Nat}{v:Value}(e:vs[j]? =some v): ∃a,s.base=some a/\w.cell? (a.add j)=some v:=by
 obtain⟨⟨h1,u,J⟩,h⟩:=H.zN;have K:=(List.getElem?_eq_some_iff.1 e).1;rcases h with ⟨g,g2⟩|⟨b,o,cs,g1,g2,g3,rfl⟩
 .omega
 .refine⟨_,g1,?_⟩;rw[add_eq,AS g2];rw[List.getElem?_take,if_pos (by omega),List.getElem?_drop]at e;simpa using e
def Sat.tY{v:Value}(H:Sat (Nt t s (v::vs)::F) w):Sat (Nt t ⟨KE s.base s.cap 1 1,s.len-1,s.cap-1⟩ vs::F) w:=by
 obtain⟨D,h,u⟩:=H.step;obtain⟨⟨h1,J,K⟩,a⟩:=h.2;rw[List.length_cons]at h1;refine u w D _ (Ext.refl _ _) ⟨λk=>(h.1 k).trans ?_,⟨by show vs.length=s.len-1;omega,by show s.len-1<=s.cap-1;omega,by show s.cap-1<_;omega⟩,?_⟩ λk j=>.inl j
 .exact(Xj (b:=s.base) (c:=s.cap) (m:=1) (z:=1)).symm
 .rcases a with ⟨g,g2⟩|⟨b,o,cs,g1,g2,g3,g4⟩
  .omega
  .refine .inr ?_;have e:((cs.toList.drop (o+1)).take (s.len-1))=vs:=by
    have:(cs.toList.drop o).take s.len=v::vs:=g4;rw[<-List.drop_drop,<-List.drop_take,this];rfl
   by_cases hc:s.cap=1
   .refine⟨b,o,cs,by unfold KE;rw[if_pos hc];exact g1,g2,by show o+(s.cap-1)<=_;omega,?_⟩;have:s.len-1=0:=by omega
    show(cs.toList.drop o).take (s.len-1)=vs;rw[this]at e⊢;simpa using e
   .exact⟨b,o+1,cs,by unfold KE;rw[if_neg hc,g1];rfl,g2,by show o+1+(s.cap-1)<=_;omega,e⟩
def tZ{b1 bytes:Nat}{v:Value}{zs:Array Value}(H:Sat (Cells b1 t [v]::Nt t s vs::F) w)(hz:zs.size=1)(ho:v.oneCell'=true)(hb:(s.len+1)*bytes<=140737488355328)(aB:s.len+1<=9223372036854775807){K:AY->World->Prop}
  (hK: ∀s' w',Sat (Nt t s' (vs++[v])::F) w'->K s' w'):APP t 1 bytes zs s ⟨some (Addr.mk b1 0 none),1,1⟩ w K:=by
 have Y: ∀x∈[v],x.oneCell'=true:=by intro x hx;simp at hx;rw[hx];exact ho
 obtain⟨D,h,hs⟩:=H.tail.step;obtain⟨⟨h1,h2,h3⟩,h4⟩:=h.2;refine⟨[v],⟨rfl,λj u hj=>H.cell (by rw[Nat.zero_add];exact hj)⟩,λJ=> ?_,λaD=>⟨hb,aB,vs,?_,λcap O T=> ?_⟩⟩
 .rcases h4 with ⟨g,g2⟩|⟨b,o,cs,g1,g2,g3,g4⟩
  .exact absurd (show s.len+1<=s.cap from J) (by omega)
  .rw[g1];have J:s.len+1<=s.cap:=J;show stCells ((Addr.mk b o none).add (s.len*1)) 0 [v] w _;rw[add_eq,Nat.mul_one];refine HL [v] b (o+s.len) 0 cs w _ g2 (by simp;omega) Y λw' he aO aC=>hK _ w' ?_;refine hs w' D _ (he.mono λi _ hi=>(h.1 i).2 ⟨_,g1,hi⟩) ⟨λk=>(h.1 k).trans (by show _↔ ∃a,some _=some a/\_;unfold PS;rw[g1]),⟨by simp[h1],J,h3⟩,.inr ⟨b,o,_,rfl,aC,?_,?_⟩⟩ λk hk=>.inl hk
   .simp;omega
   .show List.take (s.len+1) (List.drop o _)=_;simp only[Nat.add_zero,List.length_singleton];have hl:(cs.toList.take (o+s.len)).length=o+s.len:=by simp;omega
    rw[List.append_assoc,List.drop_append,hl,show o-(o+s.len)=0 by omega,List.drop_zero,List.drop_take,show o+s.len-o=s.len by omega,g4,List.take_append,h1,show s.len+1-s.len=1 by omega,List.take_of_length_le (by omega)];rfl
 .show rowAt w s.base (s.len*1) vs;rw[Nat.mul_one];rcases h4 with ⟨g,g2⟩|⟨b,o,cs,g1,g2,g3,g4⟩
  .rw[g];exact List.eq_nil_of_length_eq_zero (by omega)
  .rw[g1];refine⟨h1,λj u hj=> ?_⟩;obtain⟨a,ha,hc⟩:=H.tail.bG hj;rw[g1]at ha;cases ha;exact hc
 .have O:s.len+1<=cap:=O;refine hK _ _ (hs _ (λk=>k=w.heap.size) _ (((Ext.drew AN w).trans' (Ext.alloc AN w.drew _)).mono λi _ f=>False.elim f) ⟨λk=>⟨λe=>⟨_,rfl,e⟩,λ⟨a,ha,e⟩=>by cases ha;exact e⟩,⟨by simp[h1],O,T⟩,.inr ⟨w.heap.size,0,_,rfl,heap_alloc_new w.drew _,?_,?_⟩⟩ λk hk=>.inr (by rw[hk];exact Nat.le_refl _))
  .simp only[Array.size_append,List.size_toArray,Builtin.zeroCells,Array.size_map,Array.size_range,h1,hz,List.length_singleton];show 0+cap<=s.len+1+(cap-(s.len+1))*1;omega
  .show List.take (s.len+1) _=_;simp only[Array.toList_append,List.drop_zero];rw[List.take_append_of_le_length (by simp[h1]),List.take_of_length_le (by simp[h1])]
end
structure Tk where
 n:Int
 ask:Int
 step:Int
 tr:Int
 cls:Int
 np:Bool
 ti:Bool
 pg:Int
 sw:Int
structure Ak where
 op:Int
 p:Int
 n:Int
 set:AY
 ad:Int
 nn:Int
 co:Int
 done:Bool
def MN(t:Tk):List Value:=[.int .i64 t.n,.int .i64 t.ask,.int .i64 t.step,.int .i64 t.tr,.int .i64 t.cls,.bool t.np,.bool t.ti,.int .u64 t.pg,.int .u64 t.sw]
def Nb(a:Ak):List Value:=[.int .i64 a.op,.int .i64 a.p,.int .u64 a.n,.int .u64 0,.int .i64 0,.int .u64 0,.bool false,.int .i64 0,.slice none 0 0,FI a.set,.int .u64 a.ad,.int .u64 a.nn,.int .i64 a.co,.bool a.done]
structure Nu where
 a:vE
 pa:Option Addr
 sm:Nat
 ts:AY
 qs:AY
 ks:AY
 os:AY
structure B4 where
 T:List (Nat×Tk)
 Q:List (AY×List Int)
 L:List (Nat×Ak)
 ord:List Int
 ho:Int
 wo:Int
 W:SW
 C:List (Nat×KS)
 ma:Int
 cy:Int
 o0:Bool
 o1:Bool
 pc:Option Nat
def Ib(g:Nu)(ho wo:Int)(o0 o1:Bool):List Value:=[pv g.a.m,.pointer g.pa,FI g.ts,FI g.qs,FI g.ks,FI g.os,.int .i64 ho,.int .i64 wo,.bool o0,.bool o1,.map (some g.sm)]
def QL(E:Env)(s:AY)(Q:List (AY×List Int)):Pr:=Kx [Row E.I3 1 s (Q.map λx=>FI x.1),Aj (λx:AY×List Int=>Nt E.Ar x.1 (ints .i64 x.2)) Q]
def Jq(E:Env):List (Int×Nat):=[(1,E.Hw),(2,E.HM),(4,E.Hx),(6,E.Fu),(7,E.Hy),(8,E.IP),(10,E.Gq),(11,E.Ir),(12,E.Hz),(13,E.IA),(14,E.HO),(16,E.IB)]
def Rb(E:Env)(q:Nat):Pr:=Ex λg:Int->Option Value=>Jt (∀p∈Jq E,g p.1=some (.func (.func p.2) #[] #[])) (CM q .i64 g)
def TQ:Int:=4607632778762754458
def Ov(E:Env)(sk h:Nat):Pr:=Ex λvs:List Value=>Cells sk E.Jc (pv h::vs)
def zP(E:Env)(g:Nu):Option Nat->Pr
 | none=>dD
 | some pb=>Jt (g.pa=some ⟨pb,0,none⟩) (Kx [Cells pb E.El [pv g.a.h,.int .u64 TQ],Ov E g.a.sk g.a.h])
abbrev TkL(E:Env):=PL (α:=Tk) E.CR λb t=>Whole b E.LR (MN t)
abbrev AkL(E:Env):=PL (α:=Ak) E.LS λb a=>Cells b E.Mo (Nb a)
abbrev gX(E:Env)(cb:Nat):=PL (α:=KS) E.Gn λc C=>Ej E c cb C
def AA(E:Env)(rb:Nat)(g:Nu)(S:B4):List Pr:=[Cells rb E.Ee (Ib g S.ho S.wo S.o0 S.o1),TkL E g.ts S.T,QL E g.qs S.Q,AkL E g.ks S.L,Row E.Ar 1 g.os (ints .i64 S.ord),Kx [Rb E g.sm,zP E g S.pc],
 Ou E g.a false S.ma S.cy,gX E g.a.cb g.a.cs S.C,Ex λe=>CM g.a.d .i64 e,Iz E g.a.mq,Cells g.a.cb E.A5 [pv g.a.b],AQ E g.a.b g.a.h g.a.s g.a.r S.W]
structure F5(S:B4):Prop where
 tn:S.T.length=S.Q.length+2
 ti: ∀(i:Nat) x,S.T[i]? =some x->x.2.n=(i:Int)
 qa: ∀(i:Nat) x,S.Q[i]? =some x-> ∀a∈x.2,0<=a/\a<S.L.length
 Nx:S.T.length<1000000/\S.L.length<1000000
 pw:S.o1=true->S.pc≠none/\HInv S.W.S no
def Ic(op:Int):Int:=if op=1 then 1 else if op=4∨op=5 then 9 else if op=7 then 10 else if op=6 then 12 else 6
def opOf(S:B4)(a:Int):Int:=match S.L[a.toNat]? with
 | some y=>y.2.op
 | none=>0
def TR(S:B4)(b:Nat)(x:Nat×Tk):Bool:= !(x.1==b)&&(x.2.step !=0||(decide (0<x.2.tr)||S.ho==x.2.n))
def Kt(S:B4)(b:Nat)(st:Int):Bool:=if st=6 then S.ho != -1 else if st=13 then S.T.any (TR S b)else false
noncomputable def enB(S:B4)(i:Nat)(x:Nat×Tk):Bool:=if x.2.step≠0 then !Kt S x.1 x.2.step else if S.wo≠ -1 then false else match S.Q[i]? with
 | some (_,a::_)=> !Kt S x.1 (Ic (opOf S a))
 | some (_,[])=>false
 | none=>if i=S.Q.length then S.o0&&S.W.L.any (λz=> !z.Ei)else S.o1&&(decide (0<Pl S.W.S TQ)&& !Kt S x.1 6)
noncomputable def enI(S:B4)(i:Nat):Bool:=match S.T[i]? with
 | some x=>enB S i x
 | none=>false
noncomputable def Ow(S:B4):List Nat:=(List.range S.T.length).filter (enI S)
section
variable{E:Env}{rb:Nat}{g:Nu}{S:B4}{Z:List Pr}{w:World}
def MO{A:vE}{ma cy:Int}(H:Sat (Ou E A false ma cy::Z) w){K:Bool->World->Prop}(a:K false w):F.BE E (sM A.m) K w:=by
 unfold F.BE;exact AG ⟨_,H.cell rfl,a⟩
def Vi{op:Int}{K:Int->World->Prop}(a:K (Ic op) w):F.HX E op K w:=by
 unfold F.HX;unfold Ic at a;refine C6 (λe=>by rw[if_pos e]at a;exact a) λe=> ?_;rw[if_neg e]at a;refine Ad (C6 (λu j=>Aa (by grind) (by rw[if_pos (.inl u)]at a;exact a)) λu j=>C6 (λv=>by rw[if_pos (.inr v)]at a;exact a) λv=> ?_);rw[if_neg (by omega)]at a;refine C6 (λe=>by rw[if_pos e]at a;exact a) λe=> ?_;rw[if_neg e]at a;refine C6 (λe=>by rw[if_pos e]at a;exact a) λe=> ?_;rw[if_neg e]at a;exact a
def Sat.plOk{α:Type}{tp:Nat}{s:AY}{L:List (Nat×α)}{t:Nat}{cells:α->List Value}(H:Sat (PL tp (λb y=>Whole b t (cells y)) s L::Z) w){i:Nat}{x:Nat×α}(a:L[i]? =some x):Go.Sh.okA w ⟨x.1,0,none⟩:=by
 obtain⟨Q,h,_⟩:=H.zL a;exact h.zK
def Sat.plNe{α:Type}{tp:Nat}{s:AY}{L:List (Nat×α)}{t:Nat}{cells:α->List Value}(H:Sat (PL tp (λb y=>Whole b t (cells y)) s L::Z) w){i j:Nat}{x y:Nat×α}(T:L[i]? =some x)(hy:L[j]? =some y)(J:i≠j):x.1≠y.1:=by
 intro e;have h1:=((Sat.pl.1 H).front 1 rfl).FQ T;have K: ∃k:Nat,(L.eraseIdx i)[k]? =some y:=by
  rcases Nat.lt_or_ge j i with c|c
  .exact⟨j,by grind⟩
  .exact⟨j-1,by grind⟩
 obtain⟨k,O⟩:=K;obtain⟨D,Y,D2,u,⟨D3,D4,v,_,_,a⟩,hd,_⟩:=((h1.front 1 rfl).FQ O).front 2 rfl;exact hd x.1 ((u.1 _).2 rfl) ((a _).2 (.inl ((v.1 _).2 e)))
def uA{a b:Nat}{K:Bool->Prop}(h:a=b∨(okA w ⟨a,0,none⟩/\okA w ⟨b,0,none⟩))(e:K (a==b)):oB (sM a) (sM b) w K:=by
 refine⟨h,?_⟩;have:peqB (sM a) (sM b)=(a==b):=by
  show((⟨a,0,none⟩:Addr)==⟨b,0,none⟩)=(a==b)
  grind
 grind
end
section
variable{E:Env}{rb:Nat}{g:Nu}{S:B4}{Z:List Pr}{w:World}
def Yd(H:Sat (AA E rb g S++Z) w):Sat (TkL E g.ts S.T::(AA E rb g S++Z).eraseIdx 1) w:=H.front 1 rfl
def K8(H:Sat (AA E rb g S++Z) w){i:Nat}{x:Nat×Tk}(a:S.T[i]? =some x){k:Nat}{v:Value}(e:(MN x.2)[k]? =some v):w.cell? ((Addr.mk x.1 0 none).add k)=some v:=by
 obtain⟨Q,h,_⟩:=(Yd H).zM a;exact h.whole.cell (by grind)
def Kg(H:Sat (AA E rb g S++Z) w){i:Nat}{x:Nat×Tk}(a:S.T[i]? =some x):w.cell? (Addr.mk x.1 0 none)=some (.int .i64 x.2.n):=by
 obtain⟨Q,h,_⟩:=(Yd H).zM a;exact h.whole.AW rfl
def Lv(H:Sat (AA E rb g S++Z) w){k:Nat}{v:Value}(a:(Ib g S.ho S.wo S.o0 S.o1)[k]? =some v):w.cell? ((Addr.mk rb 0 none).add k)=some v:=
 Sat.cell (F:=(AA E rb g S++Z).eraseIdx 0) H (by grind)
def Gx(H:Sat (AA E rb g S++Z) w):w.cell? (Addr.mk rb 0 none)=some (pv g.a.m):=
 Sat.AW (F:=(AA E rb g S++Z).eraseIdx 0) H rfl
def K9(H:Sat (AA E rb g S++Z) w){k:Nat}{v:Value}(e:(K7 g.a false S.ma S.cy)[k]? =some v):w.cell? ((Addr.mk g.a.m 0 none).add k)=some v:=
 Sat.cell (F:=(AA E rb g S++Z).eraseIdx 6) (H.front 6 rfl) (by grind)
def Ox(H:Sat (AA E rb g S++Z) w){i j:Nat}{x y:Nat×Tk}(e:S.T[i]? =some x)(u:S.T[j]? =some y){K:Bool->Prop}(a:K (x.1==y.1)):oB (sM x.1) (sM y.1) w K:=
 uA (.inr ⟨(Yd H).plOk e,(Yd H).plOk u⟩) a
def bH(H:Sat (AA E rb g S++Z) w){i j:Nat}{x y:Nat×Tk}(a:S.T[i]? =some x)(e:S.T[j]? =some y)(h:i≠j):(x.1==y.1)=false:=beq_eq_false_iff_ne.2 ((Yd H).plNe a e h)
def Nc(H:Sat (AA E rb g S++Z) w)(hI:F5 S){i:Nat}{x:Nat×Tk}(hx:S.T[i]? =some x){st:Int}{K:Bool->World->Prop}(J: ∀w',Sat (AA E rb g S++Z) w'->K (Kt S x.1 st) w'):
  F.KK E (sM rb) (sM x.1) st K w:=by
 unfold F.KK;unfold Kt at J;refine C6 (λe=> ?_) λe=> ?_
 .rw[if_pos e]at J;exact AG ⟨_,Lv H (k:=6) rfl,J w H⟩
 rw[if_neg e]at J;refine C6 (λe=> ?_) λe=>by rw[if_neg e]at J;exact J w H
 rw[if_pos e]at J;have hl:=(Yd H).Jp;refine AG ⟨_,Lv H (k:=2) rfl,AM (λst w'=> ∃k:Nat,st.1=(k:Int)/\(∀j y,S.T[j]? =some y->j<k->TR S x.1 y=false)/\k<=S.T.length/\Sat (AA E rb g S++Z) w') (λst _=>((S.T.length:Int)-st.1).toNat) ⟨0,rfl,λ_ _ _ c=>by omega,Nat.zero_le _,H⟩ ?_⟩;rintro⟨k',u⟩ _ w2 ⟨k,hk,hb,aH,H2⟩;dsimp only at hk⊢;subst hk;refine AE (λaI=> ?_) λaF=> ?_
 .have aA:k<S.T.length:=by omega
  obtain⟨y,Y⟩: ∃y,S.T[k]? =some y:=⟨_,List.getElem?_eq_getElem aA⟩;obtain⟨a,ha,hc⟩:=(Yd H2).Kw Y;have O:=H2.drew;have v:TR S x.1 y=true->K true w2.drew:=λc=>by
   have:=J _ O
   grind
  have nx:TR S x.1 y=false->(∃k1:Nat,i64 ((k:Int)+1)=(k1:Int)/\(∀j y,S.T[j]? =some y->j<k1->TR S x.1 y=false)/\k1<=S.T.length/\Sat (AA E rb g S++Z) w2.drew)/\((S.T.length:Int)-i64 ((k:Int)+1)).toNat<((S.T.length:Int)-(k:Int)).toNat:=λc=>by
   have hf:=hI.Nx;rw[AI];refine⟨⟨k+1,rfl,λj z hz hj=> ?_,by omega,O⟩,by omega⟩
   grind
  rw[ha];refine AG ⟨⟨by omega,by omega⟩,_,by grind,Ad (Ox O Y hx ?_)⟩;unfold TR at v nx;cases e1:(y.1==x.1)with
  | true=>exact AR rfl λj=>AR rfl (nx (by grind))
  | false=>
   rw[e1]at v nx;refine Aa rfl (AG ⟨_,K8 O Y (k:=2) rfl,Gm (λc j=>Aa rfl (v (by simp[c]))) λc=>AG ⟨_,K8 O Y (k:=3) rfl,AE (λc2 j=>Aa rfl (v (by simp_all))) λc2=>AG ⟨_,Lv O (k:=6) rfl,AG ⟨_,Kg O Y,λj=>AX (λc3=>v ?_) λc3=>nx ?_⟩⟩⟩⟩)
   .grind
   grind
 .have:=J w2 H2;rwa[List.any_eq_false.2 λy Y=>by
   obtain⟨j,hj⟩:=List.mem_iff_getElem?.1 Y
   grind]at this
def Oy(H:Sat (AA E rb g S++Z) w):S.Q.length=g.qs.len:=by
 have h:Sat (Row E.I3 1 g.qs (S.Q.map λx=>FI x.1)::_) w:=Sat.star.1 (H.front 2 rfl:Sat (QL E g.qs S.Q::_) w);have:=h.CK
 grind
def Ye(H:Sat (AA E rb g S++Z) w){i:Nat}{x:AY×List Int}(j:S.Q[i]? =some x): ∃a,g.qs.base=some a/\w.cell? (a.add i)=some (FI x.1):=by
 have h:Sat (Row E.I3 1 g.qs (S.Q.map λx=>FI x.1)::_) w:=Sat.star.1 (H.front 2 rfl:Sat (QL E g.qs S.Q::_) w);obtain⟨b,e⟩:=h.own.G7 (by have:=Oy H;grind);exact⟨_,e,h.own.cell e (by grind)⟩
def rnQat(H:Sat (AA E rb g S++Z) w){i:Nat}{x:AY×List Int}(a:S.Q[i]? =some x): ∃R,Sat (Nt E.Ar x.1 (ints .i64 x.2)::R) w:=by
 have h:=(Sat.star.1 (H.front 2 rfl:Sat (QL E g.qs S.Q::_) w)).front 1 rfl;exact⟨_,Sat.FQ (R:=λx:AY×List Int=>Nt E.Ar x.1 (ints .i64 x.2)) h a⟩
def Yf(H:Sat (AA E rb g S++Z) w){i:Nat}{s:AY}{a:Int}{l:List Int}(e:S.Q[i]? =some (s,a::l)):s.len=l.length+1/\ ∃p,s.base=some p/\w.cell? (p.add 0)=some (.int .i64 a):=by
 obtain⟨R,h⟩:=rnQat H e;have h1:=h.zN.1.1;rw[ints,List.length_map]at h1;obtain⟨p,v,u⟩:=h.bG (j:=0) rfl
 grind
def rnQnil(H:Sat (AA E rb g S++Z) w){i:Nat}{s:AY}(a:S.Q[i]? =some (s,[])):s.len=0:=by
 obtain⟨R,h⟩:=rnQat H a;exact h.zN.1.1.symm
def Gy(H:Sat (AA E rb g S++Z) w){x:Nat×Tk}(j:S.T[S.Q.length]? =some x){K:Option Addr->World->Prop}(u: ∀w',Sat (AA E rb g S++Z) w'->K (sM x.1) w'):F.FG E (sM rb) K w:=by
 unfold F.FG;have e:=H.drew;have hl:=(Yd H).Jp;have O:=Oy H;have J:=(List.getElem?_eq_some_iff.1 j).1;obtain⟨a,v,Y⟩:=(Yd e).Kw j;refine AG ⟨_,Lv e (k:=2) rfl,AG ⟨_,Lv e (k:=3) rfl,?_⟩⟩
 try dsimp only
 rw[v,<-O];exact AG ⟨⟨by omega,by omega⟩,_,by grind,u _ e⟩
def MP(H:Sat (AA E rb g S++Z) w)(hI:F5 S){x:Nat×Tk}(j:S.T[S.Q.length+1]? =some x){K:Option Addr->World->Prop}(u: ∀w',Sat (AA E rb g S++Z) w'->K (sM x.1) w'):F.FD E (sM rb) K w:=by
 unfold F.FD;have e:=H.drew;have hl:=(Yd H).Jp;have O:=Oy H;have hf:=hI.Nx;have J:=(List.getElem?_eq_some_iff.1 j).1;obtain⟨a,v,Y⟩:=(Yd e).Kw j;refine AG ⟨_,Lv e (k:=2) rfl,AG ⟨_,Lv e (k:=3) rfl,?_⟩⟩
 try dsimp only
 rw[v,<-O,AI];exact AG ⟨⟨by omega,by omega⟩,_,by grind,u _ e⟩
end
def Ij{b:Option Addr}{a:Addr}{K:Addr->Prop}(h:b=some a)(e:K a):NC b K:=by subst h;exact AG e
section
variable{E:Env}{rb:Nat}{g:Nu}{S:B4}{Z:List Pr}{w:World}
def gY(H:Sat (AA E rb g S++Z) w):Sat (AkL E g.ks S.L::(AA E rb g S++Z).eraseIdx 3) w:=H.front 3 rfl
def QS(H:Sat (AA E rb g S++Z) w){i:Nat}{x:Nat×Ak}(a:S.L[i]? =some x){k:Nat}{v:Value}(e:(Nb x.2)[k]? =some v):w.cell? ((Addr.mk x.1 0 none).add k)=some v:=by
 obtain⟨Q,h,_⟩:=(gY H).zM a;exact h.cell (by grind)
def rnAk0(H:Sat (AA E rb g S++Z) w){i:Nat}{x:Nat×Ak}(a:S.L[i]? =some x):w.cell? (Addr.mk x.1 0 none)=some (.int .i64 x.2.op):=by
 obtain⟨Q,h,_⟩:=(gY H).zM a;exact h.AW rfl
def Yg(H:Sat (AA E rb g S++Z) w){K:Int->Bool->World->Prop}(j: ∀a w',Sat (AA E rb g S++Z) w'->K a (S.W.L.any λz=> !z.Ei) w'):F.GD E (sM g.a.s) K w:=by
 obtain⟨R,h1,O,J⟩:=(H.front 11 rfl:Sat (AQ E g.a.b g.a.h g.a.s g.a.r S.W::_) w).QM;have bk: ∀{w'},Sat (F8 E g.a.s S.W.L::R) w'->Sat (AA E rb g S++Z) w':=λh=>Sat.back (Ps:=AA E rb g S++Z) 11 (J (L':=S.W.L) h) (by simp[AA]);refine RY h1 (λu w' e=> ?_) λx v w' e=> ?_
 .have:=j 0 w' (bk e)
  grind
 .have:=j x.id w' (bk e);rw[List.any_eq_true.2 ⟨x,v.1,by rw[v.2.1];rfl⟩]at this
  simp_all
def rnpac(K:S.pc≠none): ∃pb,∀w',Sat ((AA E rb g S++Z).eraseIdx 11) w'->g.pa=some ⟨pb,0,none⟩/\tU g.a.h pb TQ w':=by
 obtain⟨pb,j⟩:=Option.ne_none_iff_exists'.1 K;refine⟨pb,λw' h=> ?_⟩;have u:=Sat.star.1 (h.front 5 rfl:Sat (Kx [Rb E g.sm,zP E g S.pc]::_) w');rw[j]at u;obtain⟨e,J⟩:=Sat.where.1 (u.front 1 rfl:Sat (Jt (g.pa=some ⟨pb,0,none⟩) (Kx [Cells pb E.El [pv g.a.h,.int .u64 TQ],Ov E g.a.sk g.a.h])::_) w');have v:Sat (Cells pb E.El [pv g.a.h,.int .u64 TQ]::_) w':=Sat.star.1 J;exact⟨e,v.AW rfl,v.cell rfl⟩
def bI(H:Sat (AA E rb g S++Z) w)(O:S.pc≠none)(hI:HInv S.W.S no){K:Int->World->Prop}(J: ∀w',Sat (AA E rb g S++Z) w'->K (Pl S.W.S TQ) w'):F.DJ E g.pa K w:=by
 obtain⟨pb,hz⟩:=rnpac (E:=E) (rb:=rb) (g:=g) (Z:=Z) O;have H1:Sat (AQ E g.a.b g.a.h g.a.s g.a.r S.W::(AA E rb g S++Z).eraseIdx 11) w:=H.front 11 rfl;obtain⟨R,v,j,e⟩:=H1.GA;rw[(hz w H1.tail).1];exact TP v (λw' h=>(hz w' (j h)).2) hI λw' u=>J w' (Sat.back (Ps:=AA E rb g S++Z) 11 (e (S':=S.W.S) u) (by simp[AA]))
def Vj(H:Sat (AA E rb g S++Z) w)(hI:F5 S){i:Nat}{x:Nat×Tk}(u:S.T[i]? =some x){K:Bool->World->Prop}(e: ∀w',Sat (AA E rb g S++Z) w'->K (enB S i x) w'):
  F.ER E (sM rb) (sM x.1) K w:=by
 unfold F.ER T0.ER;unfold enB at e;have hf:=hI.Nx;have hn:=hI.tn;have aP:=(List.getElem?_eq_some_iff.1 u).1;refine AG ⟨_,K8 H u (k:=2) rfl,Gm (λc=>AG ⟨_,K8 H u (k:=2) rfl,Nc H hI u λw1 H1=> ?_⟩) λc=> ?_⟩
 .rw[if_pos c]at e;exact e w1 H1
 rw[if_neg (λd=>d c)]at e;refine AG ⟨_,Lv H (k:=7) rfl,Gm (λc=>by rw[if_pos c]at e;exact e w H) λc=> ?_⟩;rw[if_neg (λd=>d c)]at e;obtain⟨y,Y⟩: ∃y,S.T[S.Q.length]? =some y:=⟨_,List.getElem?_eq_getElem (by omega)⟩;obtain⟨z,hz⟩: ∃z,S.T[S.Q.length+1]? =some z:=⟨_,List.getElem?_eq_getElem (by omega)⟩;refine Gy H Y λw1 H1=>Ox H1 u Y ?_;by_cases e1:i=S.Q.length
 .subst e1;obtain rfl:x=y:=Option.some.inj (u.symm.trans Y);rw[List.getElem?_eq_none (Nat.le_refl _)]at e;dsimp only at e;rw[if_pos rfl]at e;refine Aa (by simp) (AG ⟨_,Gx H1,AG ⟨_,K9 H1 (k:=1) rfl,Yg H1 λa w2 J=>AG ⟨⟨by decide,by decide⟩,_,by rw[add_add];exact Lv J (k:=8) rfl,AX (λc=> ?_) λc=> ?_⟩⟩⟩)
  .rw[c,Bool.true_and]at e;exact e w2 J
  .rw[c,Bool.false_and]at e;exact e w2 J
 refine AR (bH H1 u Y e1) (MP H1 hI hz λw2 J=>Ox J u hz ?_);by_cases e2:i=S.Q.length+1
 .subst e2;obtain rfl:x=z:=Option.some.inj (u.symm.trans hz);rw[List.getElem?_eq_none (Nat.le_succ _)]at e;dsimp only at e;rw[if_neg (by omega)]at e;refine Aa (by simp) (AG ⟨⟨by decide,by decide⟩,_,by rw[add_add];exact Lv J (k:=9) rfl,AX (λc=> ?_) λc=> ?_⟩)
  .obtain⟨hp,hH⟩:=hI.pw c;rw[c,Bool.true_and]at e;refine AG ⟨_,Lv J (k:=1) rfl,bI J hp hH λw3 H3=>AE (λhw=> ?_) λhw=> ?_⟩
   .rw[decide_eq_true hw,Bool.true_and]at e;exact Nc H3 hI u λw4 H4=>e w4 H4
   .rw[decide_eq_false hw,Bool.false_and]at e;exact e w3 H3
  .rw[c,Bool.false_and]at e;exact e w2 J
 have hq:i<S.Q.length:=by omega
 obtain⟨q,v⟩: ∃q,S.Q[i]? =some q:=⟨_,List.getElem?_eq_getElem hq⟩;rw[v]at e;have j:=J.drew;have aS:=Oy j;obtain⟨a,ha,hc⟩:=Ye j v;have aC:=hI.ti i x u;refine AR (bH J u hz e2) (AG ⟨_,Lv j (k:=3) rfl,AG ⟨_,Kg j u,?_⟩⟩);rw[ha,aC];refine AG ⟨⟨by omega,by omega⟩,q.1,by rw[aD,Int.toNat_natCast,Nat.mul_one];exact hc,?_⟩;obtain⟨s,l⟩:=q;cases l with
 | nil=>
  have:=rnQnil j v;exact AR (by grind) (e _ j.drew)
 | cons n l=>
  obtain⟨aT,p,hp,aM⟩:=Yf j.drew v;obtain⟨n0,n1⟩:=hI.qa i _ v n (List.mem_cons_self ..);obtain⟨m,rfl⟩: ∃m:Nat,n=m:=⟨n.toNat,by omega⟩;obtain⟨k,hk⟩: ∃k,S.L[m]? =some k:=⟨_,List.getElem?_eq_getElem (by omega)⟩;have aO:=(gY H).Jp;obtain⟨b,hb,aN⟩:=(gY j.drew).Kw hk;have aE:opOf S (m:Int)=k.2.op:=by unfold opOf;grind
  refine Aa (decide_eq_true (by grind)) (AG ⟨_,Lv j.drew (k:=4) rfl,?_⟩);have rd: ∀{w'},Sat (AA E rb g S++Z) w'->w'.cell? (b.add (Int.toNat (m:Int)*1))=some (pv k.1)/\w'.cell? (p.add (Int.toNat 0*1))=some (.int .i64 (m:Int)):=λh=>by
   obtain⟨_,p',aQ,h0⟩:=Yf h v;obtain⟨b',aK,h1⟩:=(gY h).Kw hk
   grind
  refine Ij (b:=s.base) hp ⟨⟨by decide,by grind⟩,_,(rd j.drew).2,Ij hb ⟨⟨by omega,by omega⟩,_,(rd j.drew).1,AG ⟨_,rnAk0 j.drew hk,Vi ⟨(rd j.drew).1,(rd j.drew).2,Lv j.drew (k:=4) rfl,?_⟩⟩⟩⟩;refine Nc j.drew hI u λw5 O=>⟨(rd O).1,(rd O).2,Lv O (k:=4) rfl,?_⟩;rw[<-aE];exact e w5 O
def Oz(H:Sat (AA E rb g S++Z) w)(hI:F5 S){K:AY->World->Prop}(hK: ∀s w',Sat (Row E.Ar 1 s (ints .i64 ((Ow S).map λi:Nat=>(i:Int)))::(AA E rb g S++Z)) w'->K s w'):
  F.Bh E (sM rb) K w:=by
 unfold F.Bh T0.Bh;have hl:=(Yd H).Jp;have hf:=hI.Nx;refine AG ⟨_,Lv H (k:=2) rfl,AM (λst w'=> ∃k:Nat,st.2.1=(k:Int)/\k<=S.T.length/\Sat (Row E.Ar 1 st.1 (ints .i64 (((List.range k).filter (enI S)).map λi:Nat=>(i:Int)))::(AA E rb g S++Z)) w') (λst _=>((S.T.length:Int)-st.2.1).toNat) ⟨0,rfl,Nat.zero_le _,H.nil E.Ar 1⟩ ?_⟩;rintro⟨s,k',u⟩ _ w2 ⟨k,hk,aL,e⟩;dsimp only at hk e⊢;subst hk;refine AE (λaM=> ?_) λaK=> ?_
 .have J:k<S.T.length:=by omega
  obtain⟨x,O⟩: ∃x,S.T[k]? =some x:=⟨_,List.getElem?_eq_getElem J⟩;obtain⟨a,ha,hc⟩:=(Yd (Z:=Row E.Ar 1 s _::Z) (e.perm (List.perm_middle (l₁:=AA E rb g S) (l₂:=Z)).symm)).Kw O;have Y:=e.perm (List.perm_middle (l₁:=AA E rb g S) (l₂:=Z)).symm;have v:enI S k=enB S k x:=by unfold enI;rw[O]
  rw[ha];refine AG ⟨⟨by omega,by omega⟩,_,by rw[aD,Int.toNat_natCast,Nat.mul_one];exact hc,?_⟩;refine Ad (AG ⟨_,Gx Y,MO (Y.front 6 rfl) (Aa rfl (Vj Y hI O λw4 H4 j=> ?_))⟩);have aN:((List.range k).filter (enI S)).length=s.len:=by
   have:=e.CK;rw[ints,List.length_map,List.length_map,Nat.mul_one]at this
   simp_all
  have hle:((List.range k).filter (enI S)).length<=k:=Nat.le_trans (List.length_filter_le ..) (by rw[List.length_range];exact Nat.le_refl _);have aB:=hI.ti k x O;have ei:i64 ((k:Int)+1)=((k+1:Nat):Int):=by rw[AI];rfl
  refine AX (λc=> ?_) λc=> ?_
  .have c:enB S k x=true:=c;refine AG ⟨_,Kg H4 O,AJ (vs:=[.int .i64 x.2.n]) (H4.perm (List.perm_middle (l₁:=AA E rb g S) (l₂:=Z))) λb5 w5 H5 _=>GH (news:=[.int .i64 x.2.n]) H5 rfl rfl (by simp[Value.oneCell']) (by omega) (by omega) λs6 w6 H6 _=> ?_⟩;rw[ei];refine⟨⟨k+1,rfl,by omega,?_⟩,by omega⟩;rw[List.range_succ,List.filter_append];rw[List.filter_cons,v,c,List.filter_nil];rw[aB]at H6;rw[if_pos rfl,List.map_append,ints,List.map_append];exact H6
  .have c:enB S k x=false:=c;rw[ei];refine⟨⟨k+1,rfl,by omega,?_⟩,by omega⟩;rw[List.range_succ,List.filter_append];rw[List.filter_cons,v,c,List.filter_nil];rw[if_neg (by decide),List.append_nil];exact H4.perm (List.perm_middle (l₁:=AA E rb g S) (l₂:=Z))
 .obtain rfl:k=S.T.length:=by omega
  exact hK s w2 e
end
end Go.Sh

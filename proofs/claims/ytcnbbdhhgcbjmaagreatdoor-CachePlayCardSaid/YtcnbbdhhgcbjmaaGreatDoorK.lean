/- What the law's functions do. No further condition. -/
import Derived.Test.YtcnbbdhhgcbjmaaGreatDoorL
import Derived.Test.YtcnbbdhhgcbjmaaGreatDoorH
import Derived.Test.YtcnbbdhhgcbjmaaGreatDoorA
import Derived.Test.YtcnbbdhhgcbjmaaGreatDoorC
import Derived.Test.YtcnbbdhhgcbjmaaGreatDoorS
import Derived.Test.YtcnbbdhhgcbjmaaGreatDoorF
import Derived.Test.YtcnbbdhhgcbjmaaGreatDoorQ
import Derived.Test.YtcnbbdhhgcbjmaaGreatDoorM
import Derived.Test.YtcnbbdhhgcbjmaaGreatDoorY
import Derived.Test.YtcnbbdhhgcbjmaaGreatDoorR
set_option linter.all false
set_option maxRecDepth 50000
set_option maxHeartbeats 4000000
namespace Go.Sh
def AF{a:Addr}{K:Addr->Prop}(h:K a):NC (some a) K:=by rw[AH];exact h
def E3(U:Nat->Bool)(k:Nat):Int:=W λi=>U (64*k+i)
def EX(U:Nat->Bool)(n:Nat):List Int:=(List.range n).map (E3 U)
def L4(uw:List Int)(U:Nat->Bool):Prop:=uw=EX U uw.length/\ ∀i,64*uw.length<=i->U i=false
def F4(U:Nat->Bool)(n:Nat):(EX U n).length=n:=by simp[EX]
def QM{U:Nat->Bool}{n k:Nat}(h:k<n):(EX U n)[k]? =some (E3 U k):=by simp[EX,h]
def mV{uw:List Int}{U:Nat->Bool}(h:L4 uw U){k:Nat}(hk:k<uw.length):(ints .u64 uw)[k]? =some (.int .u64 (E3 U k)):=by
 rw[h.1];exact Od (QM hk)
def RQ{U:Nat->Bool}{n:Nat}(h: ∀i,64*n<=i->U i=false):L4 (EX U n) U:=by
 refine⟨by rw[F4],?_⟩;rw[F4];exact h
def SK{U:Nat->Bool}(h: ∀i,U i=false):L4 [] U:=⟨rfl,λi _=>h i⟩
def YC{U V:Nat->Bool}{n:Nat}(h: ∀i,i<64*n->U i=V i):EX U n=EX V n:=by
 unfold EX E3;refine List.map_congr_left λk hk=> ?_;rw[List.mem_range]at hk;exact Hf λi j=>h _ (by omega)
def VN{U V:Nat->Bool}{n k:Nat}(h: ∀i,i/64≠k->U i=V i):(EX U n).set k (E3 V k)=EX V n:=by
 apply List.ext_getElem?;intro j;rw[List.getElem?_set];by_cases hj:j<n
 .rw[QM hj,QM hj,F4];by_cases e:k=j
  .grind
  .rw[if_neg e];unfold E3;congr 1;exact Hf λi v=>h _ (by omega)
 .rw[List.getElem?_eq_none (l:=EX V n) (by rw[F4];omega),List.getElem?_eq_none (l:=EX U n) (by rw[F4];omega),F4]
  grind
def aN{U:Nat->Bool}{n:Nat}(h: ∀i,64*n<=i->U i=false):EX U n++[0]=EX U (n+1):=by
 unfold EX;rw[List.range_succ,List.map_append];congr 1;have:E3 U n=0:=by
  unfold E3;exact Gn.2 λi _=>h _ (by omega)
 grind
def gdiv{n:Nat}:Int.fdiv (n:Int) (2^(min (Int.toNat 6) (IntKind.bits .i64)))=((n/64:Nat):Int):=by
 rw[show(2:Int)^(min (Int.toNat 6) (IntKind.bits .i64))=64 by decide,Int.fdiv_eq_ediv_of_nonneg _ (by decide)];omega
def gmod{n:Nat}(h:n<9223372036854775808):GC .i64 0 (n:Int) 63=((n %64:Nat):Int):=by
 show IntKind.wrap .i64 ((BitVec.ofInt 64 (n:Int)&&&BitVec.ofInt 64 63).toNat:Int)=_;have j:(BitVec.ofInt 64 (n:Int)).toNat=n:=by
  rw[BitVec.toNat_ofInt];omega
 have v:(BitVec.ofInt 64 63).toNat=63:=by decide
 rw[BitVec.toNat_and,j,v,show(63:Nat)=2^6-1 from rfl,Nat.and_two_pow_sub_one_eq_mod];have:n %2^6<64:=Nat.mod_lt _ (by decide);exact AM
def gshl{n:Nat}(h:n<1099511627776):i64 ((n:Int)*2^(min (Int.toNat 6) (IntKind.bits .i64)))=((64*n:Nat):Int):=by
 rw[show(2:Int)^(min (Int.toNat 6) (IntKind.bits .i64))=64 by decide,AM];omega
section
variable{E:Env}{w:World}{Z:List Pr}{s:Ac}{uw:List Int}{U:Nat->Bool}
def Hm(H:Sat (Row E.AD 1 s (ints .u64 uw)::Z) w):uw.length=s.len/\s.len<=s.cap/\s.cap<9223372036854775808:=by
 have j:=H.EA;simp only[ints,List.length_map]at j;exact⟨by omega,H.own.cap,H.own.top⟩
def Jm(H:Sat (Row E.AD 1 s (ints .u64 uw)::Z) w)(v:L4 uw U){k:Nat}(hk:k<uw.length): ∃b,s.base=some ⟨b,0,none⟩/\w.cell? ((Addr.mk b 0 none).add (k*1))=some (.int .u64 (E3 U k)):=by
 have h:=Hm H;obtain⟨b,j⟩:=H.own.Gf (by omega);exact⟨b,j,by rw[Nat.mul_one];exact H.own.cell j (mV v hk)⟩
def VO(H:Sat (Row E.AD 1 s (ints .u64 uw)::Z) w)(v:L4 uw U){n:Nat}(T:n<1099511627776){K:Bool->World->Prop}(j:K (U n) w):F.JQ E s n K w:=by
 unfold F.JQ;have O:=Hm H;rw[gdiv,gmod (by omega)];refine⟨by decide,AB (λg=>⟨by decide,?_⟩) λg=> ?_⟩
 .obtain⟨b,y,J⟩:=Jm H v (k:=n/64) (by omega);rw[y,Int.toNat_natCast];simp only[AH];refine⟨⟨by omega,by omega⟩,_,J,by omega,?_⟩;unfold E3;rw[W_get _ (by omega) (by omega),Int.toNat_natCast,show 64*(n/64)+n %64=n by omega];cases hu:U n
  .rw[hu]at j;exact j
  .rw[hu]at j;exact j
 .rw[v.2 n (by omega)]at j;exact j
def aO(hT:Em E.AG w)(H:Sat (Row E.AD 1 s (ints .u64 uw)::Z) w)(T:L4 uw U){n:Nat}(hn:n<1099511627776)(hs:s.len<1099511627776){K:Int->World->Prop}
  (O: ∀r:Nat,n<=r->U r=false->(∀i,n<=i->i<r->U i=true)->K r w):F.Fe E s n K w:=by
 unfold F.Fe T0.Fe;have hl:=Hm H;rw[gdiv,gmod (by omega),fT (by omega)];refine⟨by decide,Am λk hk=> ?_⟩;subst hk;refine AJ (λst w'=>w'=w/\ ∃k:Nat,st.1=(k:Int)/\n/64<=k/\(k<=uw.length∨k=n/64)/\ ∀i,n<=i->i<64*k->U i=true) (λst _=>((uw.length:Int)-st.1).toNat) ⟨rfl,n/64,rfl,Nat.le_refl _,.inr rfl,λi h1 h2=>by omega⟩ ?_;rintro⟨k',u⟩ _ w3 ⟨rfl,k,hk,k1,k2,k3⟩;dsimp only at hk⊢;subst hk;refine AB (λg=> ?_) λg=>⟨by decide,Am λt y=> ?_⟩
 .obtain⟨b,hb,hc⟩:=Jm H T (k:=k) (by omega);rw[hb];simp only[AH];refine⟨⟨by omega,by omega⟩,_,by rw[Int.toNat_natCast];exact hc,?_⟩;have main: ∀V:Nat->Bool,(∀i,i<64->(V i=true↔U (64*k+i)=true∨64*k+i<n))->CND (W V !=18446744073709551615)
    ((0:Int)<=6/\F.Bm E (GC .u64 2 18446744073709551615 (W V)) (λaC aD=>Kj (i64 ((i64 ((k:Int)*2^(min (Int.toNat 6) (IntKind.bits .i64))))+aC):Int) λt13=>K t13 aD) w3)
    (((w3=w3/\ ∃v:Nat,i64 ((k:Int)+1)=(v:Int)/\n/64<=v/\(v<=uw.length∨v=n/64)/\ ∀i,n<=i->i<64*v->U i=true)/\((uw.length:Int)-i64 ((k:Int)+1)).toNat<((uw.length:Int)-(k:Int)).toNat)):=λV hV=>by
   refine Ca (λY=>⟨by decide,?_⟩) λhe=> ?_
   .rw[W_not];refine SF hT (λJ=> ?_) λr hr h1 h2=>Am λt y=> ?_
    .exfalso;refine Y ?_;rw[<-Xo];refine Hf λi hi=> ?_;have:=J i hi
     grind
    .have:t=((64*k+r:Nat):Int):=by
      rw[y,gshl (by omega),AM];omega
     rw[this];have aH: ¬(U (64*k+r)=true∨64*k+r<n):=λh=>by grind
     have aA:U (64*k+r)=false:=by
      cases e:U (64*k+r)with
      | false=>rfl
      | true=>grind
     refine O _ (by omega) aA λi i1 i2=> ?_;by_cases e:i<64*k
     .exact k3 i i1 e
     .have h4:V (i-64*k)=true:=by
       have:=h2 (i-64*k) (by omega)
       grind
      rcases(hV _ (by omega)).1 h4 with q|q
      .rwa[show 64*k+(i-64*k)=i by omega]at q
      .omega
   .rw[show i64 ((k:Int)+1)=((k+1:Nat):Int) by rw[AM];rfl];refine⟨⟨rfl,k+1,rfl,by omega,.inl (by omega),λi i1 i2=> ?_⟩,by omega⟩;by_cases e:i<64*k
    .exact k3 i i1 e
    .rw[<-Xo]at he;have:=xP he (i:=i-64*k) (by omega);rcases(hV _ (by omega)).1 this with q|q
     .rwa[show 64*k+(i-64*k)=i by omega]at q
     .omega
  refine AU ⟨by decide,BI (λe=>⟨by omega,Am λt y j=> ?_⟩) λe j=> ?_⟩
  .unfold E3 at y;rw[oX]at y
   grind
  .refine main (λi=>U (64*k+i)) λi hi=>⟨.inl,λh=> ?_⟩;rcases h with h|h
   .exact h
   .omega
 .rw[<-hl.1,gshl (by omega)]at y;unfold TQ at y;by_cases e:64*uw.length<=n
  .have:t=(n:Int):=by rw[y];omega
   rw[this];exact O n (Nat.le_refl _) (T.2 n e) λi i1 i2=>by omega
  .have:t=((64*uw.length:Nat):Int):=by rw[y];omega
   rw[this];exact O _ (by omega) (T.2 _ (Nat.le_refl _)) λi i1 i2=>k3 i i1 (by omega)
def rowBt_setS{b t:Nat}{cs:List Value}{o:Nat}(aQ:o<cs.length)(H:Sat (Cells b t (cs.set o (GJ s))::Row E.AD 1 s (ints .u64 uw)::Z) w)(hU:L4 uw U)(hs:uw.length<1099511627776){n:Nat}(hn:n<1099511627776){K:World->Prop}
  (hK: ∀s' y w',L4 y (λi=>U i||i==n)->y.length=max uw.length (n/64+1)->Sat (Cells b t (cs.set o (GJ s'))::Row E.AD 1 s' (ints .u64 y)::Z) w'->K w'):F.KU E (some ((Addr.mk b 0 none).add o)) n K w:=by
 unfold F.KU;rw[gdiv,gmod (by omega),yE (by omega)];refine AJ (λ_ w'=> ∃s y,L4 y U/\(y.length=uw.length∨(uw.length<=y.length/\y.length<=n/64+1))/\Sat (Cells b t (cs.set o (GJ s))::Row E.AD 1 s (ints .u64 y)::Z) w') (λ_ w'=>match w'.cell? ((Addr.mk b 0 none).add o)with|some (.slice _ l _)=>n/64+1-l|_=>0) ⟨s,uw,hU,.inl rfl,H⟩ ?_;rintro u _ w2 ⟨s,O,J,hlen,H2⟩;have hc: ∀{s:Ac},(cs.set o (GJ s))[0+o]? =some (GJ s):=λ{s}=>by grind
 have Ch: ∀{s:Ac} {w'} {Y},Sat (Cells b t (cs.set o (GJ s))::Y) w'->w'.cell? ((Addr.mk b 0 none).add o)=some (.slice s.base s.len s.cap):=λh=>h.cell hc;have hl:=Hm (H2.front 1 rfl);have hm: ∀{s:Ac} {w'} {Y},Sat (Cells b t (cs.set o (GJ s))::Y) w'->(match w'.cell? ((Addr.mk b 0 none).add o)with|some (.slice _ l _)=>n/64+1-l|_=>0:Nat)=n/64+1-s.len:=λh=>by grind
 simp only[AH];refine⟨by decide,s,Ch H2,AB (λg=> ?_) λg=> ?_⟩
 .refine⟨s,Ch H2,AQ (vs:=[.int .u64 0]) H2 λb8 w9 H9 _=> ?_⟩;refine GD (zs:= #[.int .u64 0]) (bytes:=8) (H9.FP 1 rfl) rfl rfl (by simp[Value.oneCell']) (by omega) (by omega) λFJ aR aC aI=> ?_;refine AV (aC.front 1 rfl) (v:=GJ FJ) (o:=0) (m:=o) rfl (by grind) λaS T=> ?_;rw[Nat.zero_add,List.set_set]at T;have e:ints .u64 O++[.int .u64 0]=ints .u64 (EX U (O.length+1)):=by
   rw[<-aN J.2,<-J.1];simp[ints]
  rw[e]at T;refine⟨⟨FJ,EX U (O.length+1),RQ λi hi=>J.2 i (by omega),by rw[F4];omega,T⟩,?_⟩
  grind
 .have H3:=H2.drew;refine⟨s,Ch H3,by decide,?_⟩;obtain⟨a,ha,aE⟩:=Jm (H3.front 1 rfl) J (k:=n/64) (by omega);rw[ha,Int.toNat_natCast];simp only[AH];refine⟨⟨by omega,by omega⟩,_,aE,by omega,⟨by omega,by omega⟩,?_⟩;have ew:GC .u64 1 (E3 U (n/64)) (W λi=>i==n %64)=E3 (λi=>U i||i==n) (n/64):=by
   unfold E3;rw[oX]
   grind
  rw[ew,Nat.mul_one];refine Il (H3.front 1 rfl) (j:=n/64) rfl (by simp[ints];omega) ha λaG aA=> ?_;have e2:(ints .u64 O).set (n/64) (.int .u64 (E3 (λi=>U i||i==n) (n/64)))=ints .u64 (EX (λi=>U i||i==n) O.length):=by
   rw[J.1,F4,<-VN (U:=U) (k:=n/64) (V:=λi=>U i||i==n) λi hi=>by
    have:(i==n)=false:=by grind
    grind]
   simp only[ints,List.map_set]
  rw[e2]at aA;refine hK s _ aG (RQ λi hi=> ?_) (by rw[F4];omega) (aA.front 1 rfl);have:(i==n)=false:=by grind
  rw[J.2 i hi,this];rfl
end
def Tw{U:Nat->Bool}{n:Nat}(h: ∀i,n<=i->U i=false): ∀m,cN U (n+m)=cN U n
 | 0=>rfl
 | m+1=>by
  show cN U (n+m)+(U (n+m)).toNat=_;rw[Tw h m,h _ (by omega)];rfl
def cN_any{U:Nat->Bool}{n m:Nat}(h1: ∀i,n<=i->U i=false)(h2: ∀i,m<=i->U i=false):cN U n=cN U m:=by
 rcases Nat.le_total n m with h|h
 .have:=Tw h1 (m-n);grind
 .have:=Tw h2 (n-m);grind
structure SL(S:SI)(U M:Nat->Bool):Prop where
 uw:L4 S.uw U
 mw:L4 S.mw M
 lu:(S.uw.length:Int)*64<=S.AK+63
 lm:(S.mw.length:Int)*64<=S.AK+63
 Kl: ∀i:Nat,U i=true->(i:Int)<S.AK
 mlim: ∀i:Nat,M i=true->(i:Int)<S.AK
 sl:0<=S.AK/\S.AK<=137438953472
 cnt:S.used=(cN U S.AK.toNat:Nat)
 look:0<=S.look/\S.look<=S.AK/\ ∀i:Nat,(i:Int)<S.look->U i=true
def SL.out{S:SI}{U M:Nat->Bool}(h:SL S U M)(i:Nat)(j:S.AK.toNat<=i):U i=false:=by
 cases e:U i with
 | false=>rfl
 | true=>have:=h.Kl i e;omega
def SL.next{S:SI}{U M:Nat->Bool}(h:SL S U M){n:Nat}(y:(n:Int)<S.AK)(hu:U n=false)(K: ∀i,i<n->U i=true){j:List Int}(h1:L4 j λi=>U i||i==n)(h2:j.length=max S.uw.length (n/64+1)):
  SL {S with uw:=j,used:=S.used+1,look:=(n:Int)+1} (λi=>U i||i==n) M:=by
 have hs:=h.sl;have J:=h.lu;refine⟨h1,h.mw,by grind,h.lm,λi v=> ?_,h.mlim,h.sl,?_,⟨by grind,by grind,λi v=> ?_⟩⟩
 .rw[Bool.or_eq_true,beq_iff_eq]at v;rcases v with v|rfl
  .exact h.Kl i v
  .exact y
 .show S.used+1=_;rw[qT hu,if_pos (by show n<S.AK.toNat;omega),h.cnt];rfl
 grind
def SL.mark{S:SI}{U M:Nat->Bool}(h:SL S U M){n:Nat}(v:(n:Int)<S.AK){mw':List Int}(h1:L4 mw' λi=>M i||i==n)(h2:mw'.length=max S.mw.length (n/64+1)):
  SL {S with mw:=mw'} U (λi=>M i||i==n):=by
 have hs:=h.sl;have y:=h.lm;refine⟨h.uw,h1,h.lu,by grind,h.Kl,λi j=> ?_,h.sl,h.cnt,h.look⟩;rw[Bool.or_eq_true,beq_iff_eq]at j;rcases j with j|rfl
 .exact h.mlim i j
 .exact v
def SL.jS{S:SI}{U M:Nat->Bool}(h:SL S U M):0<=S.used/\S.used<=S.AK:=by
 have:=Oh U S.AK.toNat;have:=h.sl;rw[h.cnt];omega
section
variable{E:Env}{w:World}{Z:List Pr}{b:Nat}{S:SI}{U M:Nat->Bool}
def YD(hT:Em E.AG w)(H:Sat (DF E b S::Z) w)(y:SL S U M)(aD:S.state≠0){K:Int->Int->World->Prop}
  (aA:(∀i:Nat,(i:Int)<S.AK->U i=true)-> ∀w',Sat (DF E b S::Z) w'->K 0 30 w')
  (aB: ∀(n:Nat) j,(n:Int)<S.AK->U n=false->(∀i,i<n->U i=true)->SL {S with uw:=j,used:=S.used+1,look:=(n:Int)+1} (λi=>U i||i==n) M->
   ∀w',Sat (DF E b {S with uw:=j,used:=S.used+1,look:=(n:Int)+1}::Z) w'->K n 0 w'):F.Er E (some ⟨b,0,none⟩) K w:=by
 obtain⟨J,sm,H⟩:=Sat.span.1 H;unfold F.Er T0.Er;simp only[AH];have hs:=y.sl;obtain⟨l0,l1,l2⟩:=y.look;obtain⟨k,hk⟩:=Int.eq_ofNat_of_zero_le l0;have v:Sat (aF E b S J sm++Z) w.drew:=H.drew;refine⟨_,H.cell rfl,BI (λe=>absurd e aD) λ_=>⟨J,v.cell rfl,_,v.cell rfl,?_⟩⟩;rw[hk];have aK:=y.lu;have aL:=Hm (v.front 1 rfl);refine aO (hT.ext (Ext.drew _ _)) (v.front 1 rfl) y.uw (by omega) (by omega) λr r1 r2 r4=>⟨_,v.cell rfl,?_⟩;have below: ∀i,i<r->U i=true:=λi hi=>by
  by_cases e:i<k
  .exact l2 i (by omega)
  .exact r4 i (by omega) hi
 refine AB (λg=>aA (λi hi=>below i (by omega)) _ (Sat.span.2 ⟨J,sm,v⟩)) λg=> ?_;have hr:(r:Int)<S.AK:=by omega
 have H1:Sat (Cells b E.Fc ((Gh S J sm).set 11 (GJ J))::Row E.AD 1 J (ints .u64 S.uw)::Row E.AD 1 sm (ints .u64 S.mw)::Z) w.drew:=v;refine rowBt_setS (by simp[Gh]) H1 y.uw (by omega) (by omega) λs' j aP hB aC O=> ?_;have aM:=y.jS;refine⟨S.used,O.cell rfl,?_⟩;rw[AM (n:=S.used+1),AM (n:=(r:Int)+1)];refine AV O (o:=0) (m:=7) rfl (by simp[Gh]) λaQ T=>AV T (o:=0) (m:=13) rfl (by simp[Gh]) λaE Y=> ?_;exact aB r j hr r2 below (y.next hr r2 below hB aC) aE (Sat.span.2 ⟨s',sm,Y⟩)
def Mn(H:Sat (DF E b S::Z) w){i:Int}{K:Bool->World->Prop}(h1:0<=i/\i<S.AK->K true w)(h2: ¬(0<=i/\i<S.AK)->K false w):F.E7 E (some ⟨b,0,none⟩) i K w:=by
 refine RP H ?_;by_cases g:0<=i/\i<S.AK
 .rw[decide_eq_true g];exact h1 g
 .rw[decide_eq_false g];exact h2 g
def aP(H:Sat (DF E b S::Z) w)(j:SL S U M){n:Nat}(O:(n:Int)<S.AK){K:Bool->World->Prop}(y:K (U n) w):F.Fi E (some ⟨b,0,none⟩) n K w:=by
 have v:=H;obtain⟨J,sm,H⟩:=Sat.span.1 H;unfold F.Fi T0.Fi;simp only[AH];have hs:=j.sl;refine Mn v (λ_=>AS rfl ⟨J,H.cell rfl,?_⟩) λg=>absurd (by omega) g;exact VO (H.front 1 rfl) j.uw (by omega) y
def WI(H:Sat (DF E b S::Z) w)(j:SL S U M){n:Nat}(J:(n:Int)<S.AK){K:Bool->World->Prop}(y:K (M n) w):F.Ed E (some ⟨b,0,none⟩) n K w:=by
 have v:=H;obtain⟨O,sm,H⟩:=Sat.span.1 H;unfold F.Ed T0.Ed;simp only[AH];have hs:=j.sl;refine Mn v (λ_=>AS rfl ⟨sm,H.cell rfl,?_⟩) λg=>absurd (by omega) g;exact VO (H.front 2 rfl) j.mw (by omega) y
def Sy(H:Sat (DF E b S::Z) w)(j:SL S U M)(J:S.state=1){n:Nat}(hn:(n:Int)<S.AK){K:Int->World->Prop}
  (hK: ∀mw',SL {S with mw:=mw'} U (λi=>M i||i==n)-> ∀w',Sat (DF E b {S with mw:=mw'}::Z) w'->K 0 w'):F.Ew E (some ⟨b,0,none⟩) n K w:=by
 have Y:=H;obtain⟨O,sm,H⟩:=Sat.span.1 H;unfold F.Ew T0.Ew;simp only[AH];have hs:=j.sl;have aC:=j.lm;refine⟨_,H.cell rfl,Ca (λg=>absurd J g) λ_=>Mn Y (λ_=>AO rfl ?_) λg=>absurd (by omega) g⟩;have H1:Sat (Cells b E.Fc ((Gh S O sm).set 12 (GJ sm))::Row E.AD 1 sm (ints .u64 S.mw)::Row E.AD 1 O (ints .u64 S.uw)::Z) w:=H.perm (.cons _ (.swap _ _ _));refine rowBt_setS (by simp[Gh]) H1 j.mw (by omega) (by omega) λs' mw' T hB y v=> ?_;exact hK mw' (j.mark hn hB y) T (Sat.span.2 ⟨O,s',v.perm (.cons _ (.swap _ _ _))⟩)
def rA{V:Nat->Bool}{k i:Nat}:E3 V k=0->i/64=k->V i=false:=λh j=>by
 have:=Gn.1 h (i %64) (by omega)
 grind
def Pp(H:Sat (DF E b S::Z) w)(y:SL S U M){K:Bool->World->Prop}(aC:(∃i,M i=true/\U i=false)->K true w)(aB:(∀i,M i=true->U i=true)->K false w):F.HJ E (some ⟨b,0,none⟩) K w:=by
 obtain⟨su,sm,H⟩:=Sat.span.1 H;unfold F.HJ;simp only[AH];have hs:=y.sl;have aK:=y.lu;have aJ:=y.lm;have l1:=Hm (H.front 1 rfl);have l2:=Hm (H.front 2 rfl);refine⟨sm,H.cell rfl,?_⟩;refine AJ (λst w'=>w'=w/\ ∃k:Nat,st.1=(k:Int)/\ ∀i,i<64*k->M i=true->U i=true) (λst _=>((S.mw.length:Int)-st.1).toNat) ⟨rfl,0,rfl,λi J=>by omega⟩ ?_;rintro⟨k',u⟩ _ w3 ⟨rfl,k,hk,k1⟩;dsimp only at hk⊢;subst hk;refine AB (λg=> ?_) λg=>aB λi J=> ?_
 .obtain⟨c,hc,Y⟩:=Jm (H.front 2 rfl) y.mw (k:=k) (by omega);rw[hc];simp only[AH];refine⟨⟨by omega,by omega⟩,_,by rw[Int.toNat_natCast];exact Y,?_⟩;have main: ∀v:Int,v=E3 (λi=>M i&& !U i) k->CND (v !=0) (K true w3) ((w3=w3/\ ∃T:Nat,i64 ((k:Int)+1)=(T:Int)/\ ∀i,i<64*T->M i=true->U i=true)/\((S.mw.length:Int)-i64 ((k:Int)+1)).toNat<((S.mw.length:Int)-(k:Int)).toNat):=λv hv=>by
   refine Ca (λO=> ?_) λhe=> ?_
   .obtain⟨c,c1,c2,_⟩:=aI (by rw[hv]at O;exact O);rw[Bool.and_eq_true,Bool.not_eq_true']at c2;exact aC ⟨_,c2⟩
   .rw[show i64 ((k:Int)+1)=((k+1:Nat):Int) by rw[AM];rfl];refine⟨⟨rfl,k+1,rfl,λi J hm=> ?_⟩,by omega⟩;by_cases e:i<64*k
    .exact k1 i e hm
    .have:=rA (hv▸he) (show i/64=k by omega)
     grind
  refine AU ⟨su,H.cell rfl,AB (λg2=> ?_) λg2 j=>main _ ?_⟩
  .obtain⟨d,hd,aA⟩:=Jm (H.front 1 rfl) y.uw (k:=k) (by omega);refine⟨su,H.cell rfl,?_⟩;rw[hd];refine AF ⟨⟨by omega,by omega⟩,_,by rw[Int.toNat_natCast];exact aA,λj=>main _ ?_⟩;unfold E3;rw[Og]
  .unfold E3;refine Hf λi J=> ?_;show M _=(M _&& !U _);rw[y.uw.2 _ (by omega)];simp
 .by_cases e:i<64*k
  .exact k1 i e J
  .rw[y.mw.2 i (by omega)]at J;cases J
def jT(S:SI):Prop:=0<=S.M6/\S.M6<4294967296/\(0<S.M6->S.AK*S.elem<4294967296/\ ∀off:Int,0<=off->off<S.AK*S.elem->off*S.M6/4294967296=off/S.elem)
def WJ(H:Sat (DF E b S::Z) w)(hm:jT S)(he:0<S.elem)(Y:S.elem<=2199023255552)(hs:0<=S.AK/\S.AK<=1048576)(hb:0<=S.base/\S.base<=281474976710656){a:Int}(ha:0<=a/\a<18446744073709551616){K:Int->Int->World->Prop}
  (J: ¬(S.base<=a/\a<S.base+S.AK*S.elem)-> ∀w',Sat (DF E b S::Z) w'->K 0 10 w')(aA:S.base<=a->a<S.base+S.AK*S.elem-> ∀w',Sat (DF E b S::Z) w'->K ((a-S.base)/S.elem) 0 w'):F.E9 E (some ⟨b,0,none⟩) a K w:=by
 obtain⟨su,sm,H⟩:=Sat.span.1 H;unfold F.E9 T0.E9;simp only[AH];have v:Sat (aF E b S su sm++Z) w.drew:=H.drew;have y:Sat (DF E b S::Z) w.drew:=Sat.span.2 ⟨su,sm,v⟩;have h2:S.AK*S.elem<=1048576*2199023255552:=Int.mul_le_mul hs.2 Y (by omega) (by decide);have h3:0<=S.AK*S.elem:=Int.mul_nonneg hs.1 (by omega);have e1:u64 (u64 S.AK*u64 S.elem)=S.AK*S.elem:=by rw[AI (n:=S.AK),AI (n:=S.elem),AI]
 refine AU ⟨_,v.Aa rfl,AB (λg j=>AS rfl (J (λh=>by omega) _ y)) λg1=>⟨_,v.Aa rfl,_,v.cell rfl,_,v.cell rfl,λj=> ?_⟩⟩;rw[e1,AI (n:=a-S.base)];refine AB (λg=>J (λh=>by omega) _ y) λg2=>⟨_,v.Aa rfl,_,v.cell rfl,?_⟩;have hq:0<=(a-S.base)/S.elem/\(a-S.base)/S.elem<=a-S.base:=⟨Int.ediv_nonneg (by omega) (by omega),Int.ediv_le_self _ (by omega)⟩;rw[AI (n:=a-S.base)];refine AB (λg=>⟨_,v.cell rfl,?_⟩) λg=>⟨_,v.cell rfl,?_⟩
 .obtain⟨m0,m1,m2⟩:=hm;obtain⟨m3,m4⟩:=m2 g;unfold F.Ul;refine⟨by decide,Am λt T=> ?_⟩;have O: ∀{n:Int},0<=n->n<4294967296->IntKind.wrap .u32 n=n:=λ{n} h0 h1=>by
   show n %_=n;exact Int.emod_eq_of_lt h0 h1
  have hx:0<=(a-S.base)*S.M6/\(a-S.base)*S.M6<18446744073709551616:=by
   refine⟨Int.mul_nonneg (by omega) m0,?_⟩
   grind
  rw[O (n:=a-S.base) (by omega) (by omega),AI (n:=a-S.base),AI (n:=S.M6),AI hx.1 hx.2,
   show(2:Int)^(min (Int.toNat 32) (IntKind.bits .u64))=4294967296 by decide,Int.fdiv_eq_ediv_of_nonneg _ (by decide),m4 _ (by omega) (by omega),O (by omega) (by omega)]at T
  rw[T];show K (i64 _) 0 _;rw[AM];exact aA (by omega) (by omega) _ y
 .rw[AI (n:=S.elem),Int.tdiv_eq_ediv_of_nonneg (by omega)];refine⟨by omega,Am λt T=> ?_⟩;have:t=(a-S.base)/S.elem:=by rw[T,AI,AM]
  grind
end
def Ek(F:Nat->Bool)(m:Nat):List Int:=((List.range m).filter F).map λi:Nat=>(i:Int)
def L5(F:Nat->Bool): ∀m,(Ek F m).length=cN F m
 | 0=>rfl
 | m+1=>by
  have j:=L5 F m;unfold Ek at j⊢;rw[List.length_map]at j⊢;rw[List.range_succ,List.filter_append,List.length_append,j];show _=cN F m+(F m).toNat
  grind
def LQ{F:Nat->Bool}{m:Nat}: ∀{n:Nat},(∀i,m<=i->i<m+n->F i=false)->Ek F (m+n)=Ek F m
 | 0,_=>rfl
 | n+1,h=>by
  have j:=LQ (F:=F) (m:=m) (n:=n) λi h1 h2=>h i h1 (by omega);unfold Ek at j⊢;rw[show m+(n+1)=m+n+1 by omega,List.range_succ,List.filter_append,List.map_append,j,List.filter_cons_of_neg (by grind)];simp
def VP{F:Nat->Bool}{m n:Nat}(j:m<=n)(h: ∀i,m<=i->i<n->F i=false)(v:F n=true):Ek F (n+1)=Ek F m++[(n:Int)]:=by
 have e:=LQ (F:=F) (m:=m) (n:=n-m) λi h1 h2=>h i h1 (by omega);rw[show m+(n-m)=n by omega]at e;unfold Ek at e⊢;rw[List.range_succ,List.filter_append,List.map_append,e,List.filter_cons_of_pos v];simp
def aQ(U M:Nat->Bool): ∀n,cN U n=cN (λi=>U i&&M i) n+cN (λi=>U i&& !M i) n
 | 0=>rfl
 | n+1=>by
  show cN U n+(U n).toNat=cN _ n+(U n&&M n).toNat+(cN _ n+(U n&& !M n).toNat);have:=aQ U M n;cases U n<;>cases M n<;>simp<;>omega
def VQ(S:SI)(j:List Int)(U M:Nat->Bool):SI:={S with uw:=j,mw:=[],used:=(cN (λi=>U i&&M i) S.AK.toNat:Nat),look:=0}
def SL.EO{S:SI}{U M:Nat->Bool}(h:SL S U M){j:List Int}(h1:L4 j λi=>U i&&M i)(h2:j.length=S.uw.length):SL (VQ S j U M) (λi=>U i&&M i) (λ_=>false):=by
 have:=h.lu;have:=h.sl;refine⟨h1,SK λ_=>rfl,by show(j.length:Int)*64<=S.AK+63;omega,by show((0:Nat):Int)*64<=S.AK+63;omega,λi v=> ?_,λi v=>(by cases v),h.sl,rfl,⟨Int.le_refl 0,h.sl.1,λi v=> ?_⟩⟩
 .rw[Bool.and_eq_true]at v;exact h.Kl i v.1
 .have v:(i:Int)<0:=v;omega
section
variable{E:Env}{w:World}{Z:List Pr}{b:Nat}{S:SI}{U M:Nat->Bool}
def YE(hT: ∀w',Sat Z w'->Em E.AG w')(H:Sat (DF E b S::Z) w)(T:SL S U M)(bE:S.state=1){K:Ac->Int->World->Prop}(bC:(∃i,M i=true/\U i=false)->K ⟨none,0,0⟩ 40 w)
  (hk:(∀i,M i=true->U i=true)-> ∀aS s,SL (VQ S aS U M) (λi=>U i&&M i) (λ_=>false)->s.len=cN (λi=>U i&& !M i) S.AK.toNat->
   ∀w',Sat (Row E.Ep 1 s (ints .i64 (Ek (λi=>U i&& !M i) (64*S.uw.length)))::DF E b (VQ S aS U M)::Z) w'->K s 0 w'):F.Ct E (some ⟨b,0,none⟩) K w:=by
 have H0:=H;obtain⟨J,sm,H⟩:=Sat.span.1 H;unfold F.Ct T0.Ct;refine AF ⟨_,H.cell rfl,Ca (λg=>absurd bE g) λ_=>Pp H0 T (λh=>AS rfl (bC h)) λhz=>AO rfl (AF ⟨J,H.cell rfl,?_⟩)⟩;have hs:=T.sl;have b6:=T.lu;have b5:=T.lm;have l1:=Hm (H.front 1 rfl);have l2:=Hm (H.front 2 rfl)
 let G:Nat->Bool:=λi=>U i&& !M i
 let Uk:Nat->Nat->Bool:=λk i=>if i<64*k then U i&&M i else U i
 have hn:S.uw.length<=2147483649:=by omega
 have a8: ∀k,L4 (EX (Uk k) S.uw.length) (Uk k):=λk=>RQ λi hi=>by
  show(if i<64*k then U i&&M i else U i)=false;rw[T.uw.2 i hi];grind
 have e0:EX (Uk 0) S.uw.length=S.uw:=by
  have:Uk 0=U:=by funext i;show(if i<64*0 then _ else _)=_;rw[if_neg (by omega)]
  rw[this];exact T.uw.1.symm
 have fl: ∀m,(Ek G m).length<=m:=λm=>by rw[L5];exact Oh G m
 refine AJ (λst w'=> ∃k:Nat,st.2.1=(k:Int)/\k<=S.uw.length/\Sat (Row E.Ep 1 st.1 (ints .i64 (Ek G (64*k)))::Cells b E.Fc (Gh S J sm)::Row E.AD 1 J (ints .u64 (EX (Uk k) S.uw.length))::Row E.AD 1 sm (ints .u64 S.mw)::Z) w') (λst _=>((S.uw.length:Int)-st.2.1).toNat) ⟨0,rfl,Nat.zero_le _,by rw[e0];exact H.nil E.Ep 1⟩ ?_;rintro⟨fr,k',u⟩ _ w8 ⟨k,aO,b4,H8⟩;dsimp only at aO H8⊢;subst aO;refine AB (λg=> ?_) λg=> ?_
 .have bB:k<S.uw.length:=by omega
  have hg:k<(EX (Uk k) S.uw.length).length:=by rw[F4];exact bB
  obtain⟨a,ha,aH⟩:=Jm (H8.front 2 rfl) (a8 k) hg;have ew:E3 (Uk k) k=E3 U k:=Hf λi hi=>by show(if 64*k+i<64*k then _ else _)=_;rw[if_neg (by omega)]
  rw[ew]at aH;have cu: ∀{w'} {vs:List Value} {Y},Sat (Row E.Ep 1 fr vs::Cells b E.Fc (Gh S J sm)::Y) w'->w'.cell? ((Addr.mk b 0 none).add 11)=some (.slice J.base J.len J.cap)/\w'.cell? ((Addr.mk b 0 none).add 12)=some (.slice sm.base sm.len sm.cap):=λh=>⟨(h.front 1 rfl).cell rfl,(h.front 1 rfl).cell rfl⟩;have aD:=cu H8;refine AF ⟨J,aD.1,?_⟩
  try dsimp only
  rw[ha];refine AF ⟨⟨by omega,by omega⟩,_,by rw[Int.toNat_natCast];exact aH,?_⟩;have main: ∀v:Int,v=E3 G k-> ∀(y:Ac×Int×Unit->World->Prop),(∀st w',(∃k:Nat,st.2.1=(k:Int)/\k<=S.uw.length/\Sat (Row E.Ep 1 st.1 (ints .i64 (Ek G (64*k)))::Cells b E.Fc (Gh S J sm)::Row E.AD 1 J (ints .u64 (EX (Uk k) S.uw.length))::Row E.AD 1 sm (ints .u64 S.mw)::Z) w')/\((S.uw.length:Int)-st.2.1).toNat<((S.uw.length:Int)-(k:Int)).toNat->y st w')->
    NC (some (Addr.mk b 0 none)) λbF=> ∃O:Ac,w8.cell? (bF.add 11)=some (.slice O.base O.len O.cap)/\NC O.base λbG=>((0:Int)<=(k:Int)/\((k:Int):Int)<(O.len:Nat))/\ ∃aY:Int,w8.cell? (bG.add (Int.toNat (k:Int)*1))=some (.int .u64 aY)/\NC O.base λbH=>((0:Int)<=(k:Int)/\((k:Int):Int)<(O.len:Nat))/\
     stCells (bH.add (Int.toNat (k:Int)*1)) 0 [.int .u64 (GC .u64 3 aY v)] w8 λaT=>
      A9 (Ac×Int×Unit) (fr,v,()) aT λKD _ aC aE=>
       CND ((KD.2.1:Int) !=0) (
        (0:Int)<=6/\
        F.Bm E KD.2.1 (λbI bJ=>
        AL (.cells ⟨[.int .i64 (i64 ((i64 ((k:Int)*2^(min (Int.toNat 6) (IntKind.bits .i64))))+bI))]⟩ E.Ep) bJ λaL aU=>
        APP E.Ep 1 8 #[.int .i64 0] KD.1 ⟨(some (Addr.mk aL 0 none)),1,1⟩ aU λQv aV=>
        Kj (GC .u64 0 KD.2.1 (u64 (KD.2.1-1)):Int) λaX=>
        aE (Qv,aX,()) aV
        ) aC
       ) (
        y (KD.1,i64 ((k:Int)+1),()) aC
       ):=λv hv y aI=>by
   refine AF ⟨J,aD.1,?_⟩;rw[ha];refine AF ⟨⟨by omega,by omega⟩,_,by rw[Int.toNat_natCast];exact aH,AF ⟨⟨by omega,by omega⟩,?_⟩⟩;subst hv;have e1:GC .u64 3 (E3 U k) (E3 G k)=E3 (Uk (k+1)) k:=by
    unfold E3;rw[Og];refine Hf λi hi=> ?_;show(U _&& !(U _&& !M _))=if 64*k+i<64*(k+1)then _ else _
    grind
   rw[e1,Int.toNat_natCast,Nat.mul_one];refine Il (H8.front 2 rfl) (j:=k) rfl (by simp[ints,F4];omega) ha λaT aJ=> ?_;have e2:(ints .u64 (EX (Uk k) S.uw.length)).set k (.int .u64 (E3 (Uk (k+1)) k))=ints .u64 (EX (Uk (k+1)) S.uw.length):=by
    rw[<-VN (U:=Uk k) (V:=Uk (k+1)) (k:=k) λi hi=>by
     show(if i<64*k then _ else _)=if i<64*(k+1)then _ else _
     grind]
    simp only[ints,List.map_set]
   rw[e2]at aJ;have a0:=aJ.front 1 rfl;refine AJ (λst w'=> ∃c:Nat,c<=64/\st.2.1=W (λi=>G (64*k+i)&&decide (c<=i))/\Sat (Row E.Ep 1 st.1 (ints .i64 (Ek G (64*k+c)))::Row E.AD 1 J (ints .u64 (EX (Uk (k+1)) S.uw.length))::Cells b E.Fc (Gh S J sm)::Row E.AD 1 sm (ints .u64 S.mw)::Z) w') (λst _=>64*(k+1)-st.1.len) ⟨0,by omega,Hf λi hi=>by simp,a0⟩ ?_;rintro⟨a7,v2,u2⟩ _ aC ⟨c,hc,aR,aB⟩;dsimp only at aR aB⊢;subst aR;have hlen:=aB.EA;simp only[ints,List.length_map,Nat.mul_one]at hlen;have aN:=fl (64*k+c);refine Ca (λbD=>⟨by decide,?_⟩) λhe=> ?_
   .refine SF (hT aC aB.tail.tail.tail.tail) (λaM=>absurd (Gn.2 aM) bD) λr hr h1 h2=> ?_;rw[Bool.and_eq_true,decide_eq_true_eq]at h1;have h3: ∀i,64*k+c<=i->i<64*k+r->G i=false:=λi i1 i2=>by
     have:=h2 (i-64*k) (by omega)
     grind
    rw[gshl (by omega),AM (n:=((64*k:Nat):Int)+(r:Int))];refine AQ (vs:=[.int .i64 (((64*k:Nat):Int)+(r:Int))]) aB λaL aU a1 _=>GD (zs:= #[.int .i64 0]) (bytes:=8) a1 rfl rfl (by simp[Value.oneCell']) (by omega) (by omega) λQv aV bP bM=>Am λt ht=> ?_;have eb:=fL (u:=λi=>G (64*k+i)&&decide (c<=i)) hr (by grind) h2;rw[eb]at ht;have ef:=VP (F:=G) (m:=64*k+c) (n:=64*k+r) (by omega) h3 h1.1;refine⟨⟨r+1,by omega,?_,?_⟩,?_⟩
    .show t=_;rw[ht]
     grind
    .rw[show 64*k+(r+1)=64*k+r+1 by omega,ef];have:ints .i64 (Ek G (64*k+c))++[.int .i64 (((64*k:Nat):Int)+(r:Int))]=ints .i64 (Ek G (64*k+c)++[((64*k+r:Nat):Int)]):=by
      simp[ints]
     grind
    omega
   .rw[show i64 ((k:Int)+1)=((k+1:Nat):Int) by rw[AM];rfl];refine aI _ _ ⟨⟨k+1,rfl,by omega,?_⟩,by grind⟩;have e3:Ek G (64*(k+1))=Ek G (64*k+c):=by
     rw[show 64*(k+1)=64*k+c+(64-c) by omega];refine LQ λi i1 i2=> ?_;have:=Gn.1 he (i-64*k) (by omega)
     grind
    show Sat (Row E.Ep 1 a7 (ints .i64 (Ek G (64*(k+1))))::_) aC;rw[e3];exact aB.perm (.cons _ (.swap _ _ _))
  refine AU (AF ⟨sm,aD.2,AB (λg2=>AF ⟨sm,aD.2,?_⟩) λg2 j=>main _ ?_ _ λ_ _ h=>h⟩)
  .obtain⟨d,hd,bA⟩:=Jm (H8.front 3 rfl) T.mw (k:=k) (by omega);rw[hd];refine AF ⟨⟨by omega,by omega⟩,_,by rw[Int.toNat_natCast];exact bA,λj=>main _ ?_ _ λ_ _ h=>h⟩;unfold E3;rw[Og]
  .unfold E3;refine Hf λi hi=> ?_;show U _=(U _&& !M _);rw[T.mw.2 _ (by omega)];simp
 .have aP:k=S.uw.length:=by omega
  have Cd:=H8.front 1 rfl;have hlen:=H8.EA;simp only[ints,List.length_map,Nat.mul_one]at hlen;have e4:cN G (64*S.uw.length)=cN G S.AK.toNat:=cN_any (λi hi=>by show(U i&& !M i)=false;rw[T.uw.2 i hi];rfl) λi hi=>by show(U i&& !M i)=false;rw[T.out i hi];rfl
  have aN:fr.len=cN G S.AK.toNat:=by rw[<-hlen,L5,aP,e4]
  have aZ:=aQ U M S.AK.toNat;have bL:=T.cnt;have b8:=T.jS;have hle:=Oh U S.AK.toNat;have eu:i64 (S.used-((fr.len:Nat):Int))=(cN (λi=>U i&&M i) S.AK.toNat:Nat):=by
   have:cN G S.AK.toNat=cN (λi=>U i&& !M i) S.AK.toNat:=rfl;rw[AM];omega
  refine AF ⟨_,Cd.cell rfl,AF ?_⟩;rw[eu];refine AV Cd (o:=0) (m:=7) rfl (by simp[Gh]) λcA a2=>AF (AV a2 (o:=0) (m:=12) (v:=GJ ⟨none,0,0⟩) rfl (by simp[Gh]) λcB a3=>AF (AV a3 (o:=0) (m:=13) rfl (by simp[Gh]) λaW aK=> ?_));have e5:EX (Uk k) S.uw.length=EX (λi=>U i&&M i) S.uw.length:=YC λi hi=>by
   show(if i<64*k then _ else _)=_
   grind
  rw[e5,aP]at aK;refine hk hz (EX (λi=>U i&&M i) S.uw.length) fr (T.EO (RQ λi hi=>by show(U i&&M i)=false;rw[T.uw.2 i hi];rfl) (F4 _ _)) aN aW ?_;have a4:=((aK.front 3 rfl).tail.nil E.AD 1);have a5:Sat (aF E b (VQ S (EX (λi=>U i&&M i) S.uw.length) U M) J ⟨none,0,0⟩++Row E.Ep 1 fr (ints .i64 (Ek G (64*S.uw.length)))::Z) aW:=
   (((a4.front 0 rfl).front 3 rfl).front 2 rfl)
  have a6:=Sat.span.2 ⟨J,⟨none,0,0⟩,a5⟩;exact a6.perm (.swap _ _ _)
end
def Sat.mW{F:List Pr}{w:World}{t:Nat}{s:Ac}{vs us:List Value}(H:Sat (Row t 1 s (vs++us)::F) w):Sat (Row t 1 ⟨s.base,vs.length,s.cap⟩ vs::F) w:=by
 obtain⟨D,h,hs⟩:=H.step;have j:=h.2;have O:vs.length+us.length=s.len:=by have:=j.len;grind
 refine hs w D _ (Ext.refl _ _) ⟨h.1,⟨by simp,by have:=j.cap;grind,j.top,?_⟩⟩ λ_ hk=>.inl hk;rcases j.row with ⟨h1,h2⟩|⟨b,cs,h1,h2,v,y,J⟩
 .grind
 .refine .inr ⟨b,cs,h1,h2,v,y,?_⟩;have K:((cs.toList.take (s.len*1)).take (vs.length*1))=vs:=by
   rw[J,List.take_left' (by omega)]
  grind
def CPY_up{F:List Pr}{w:World}{t:Nat}{s:Ac}{vs:List Value}{v:Value}(H:Sat (Row t 1 s (vs++[v])::F) w)(ho: ∀u∈vs,u.oneCell'=true){i:Nat}(Y:i<=vs.length){K:Nat->World->Prop}
  (O: ∀n w' u,Sat (Row t 1 s (vs.take i++u::vs.drop i)::F) w'->K n w'):
  CPY 1 ⟨HU s.base s.cap (i+1) 1,s.len-(i+1),s.cap-(i+1)⟩ ⟨HU s.base s.cap i 1,s.len-i,s.cap-i⟩ w K:=by
 have hl:=H.EA;simp at hl;have y:=H.own.cap;have J:Nat.min (s.len-i) (s.len-(i+1))=vs.length-i:=by grind
 obtain⟨b,T⟩:=H.own.Gf (by omega);have h1:=Jf (z:=1) H.KN rfl (k:=i) (by omega) y H.EA;have hd:(vs++[v]).drop (i*1)=vs.drop i++[v]:=by grind
 rw[hd]at h1;have h2:=Lw h1 (m:=vs.length-i) (by omega) (by simp;omega);rw[List.take_left' (by simp)]at h2;unfold CPY;simp only[J];refine⟨vs.drop i,by simpa using h2,?_⟩;have j:HU s.base s.cap (i+1) 1=some (if s.cap=i+1 then(Addr.mk b 0 none)else(Addr.mk b 0 none).add (i+1)):=by
  rw[T];unfold HU
  grind
 rw[j];simp only;by_cases hc:s.cap=i+1
 .have:vs.drop i=[]:=List.drop_eq_nil_iff.2 (by omega);rw[if_pos hc,this];refine O _ w v ?_;have e:vs.take i=vs:=List.take_of_length_le (by omega)
  grind
 .rw[if_neg hc];obtain⟨u,hu⟩: ∃u,(vs++[v])[i]? =some u:=⟨_,List.getElem?_eq_getElem (by simp;omega)⟩;refine Tt (vs.drop i) (i+1) 0 H (by simp;omega) (λx hx=>ho x (List.mem_of_mem_drop hx)) T λw' H'=>O _ w' u ?_;have e1:(vs++[v]).take (i+1+0)=vs.take i++[u]:=by
   rw[Nat.add_zero,List.take_succ,hu,List.take_append_of_le_length Y];rfl
  have e2:(vs++[v]).drop (i+1+0+(vs.drop i).length)=[]:=List.drop_eq_nil_iff.2 (by simp;omega)
  grind
def wD{F:List Pr}{w:World}{t bytes:Nat}{s:Ac}{vs:List Value}{zs:Array Value}(H:Sat (Row t 1 s vs::F) w)(T: ∀u∈vs,u.oneCell'=true){i:Nat}(hi:i<vs.length){K:Ac->World->Prop}
  (J: ∀s' w',Sat (Row t 1 s' (vs.eraseIdx i)::F) w'->K s' w'):
  APP t 1 bytes zs ⟨HU s.base s.cap 0 1,i,s.cap⟩ ⟨HU s.base s.cap (i+1) 1,s.len-(i+1),s.cap-(i+1)⟩ w K:=by
 have O:=H.EA;simp at O;have j:=H.own.cap;obtain⟨b,v⟩:=H.own.Gf (by omega);have h1:=Jf (z:=1) H.KN rfl (k:=i+1) (by omega) j H.EA;rw[Mr];refine⟨vs.drop (i+1),by simpa using h1,λ_=> ?_,λg=> ?_⟩
 .rw[v];simp only;rw[show i*1=i by omega];refine Tt (vs.drop (i+1)) i 0 H (by simp;omega) (λx Y=>T x (List.mem_of_mem_drop Y)) v λw' y=> ?_;rw[show i+(s.len-(i+1))=(vs.eraseIdx i).length by grind,<-v];refine J _ w' (Sat.mW (us:=vs.drop (i+0+(vs.drop (i+1)).length)) ?_);rw[List.eraseIdx_eq_take_drop_succ];simpa using y
 grind
structure DW where
 Gk:Nat
 id:Int
 base:Int
 kd:Kd
abbrev DW.EO(x:DW):Bool:=x.kd.2.2.2
def JU(x:DW):Value:=.pointer (some ⟨x.Gk,0,none⟩)
def DE(x:DW):List Value:=[.int .i64 x.id,.int .u64 x.base,.int .i64 x.kd.1,.bool x.kd.2.1,.bool x.kd.2.2.1,.bool x.kd.2.2.2]
def aR(E:Env)(x:DW):Pr:=Cells x.Gk E.Im (DE x)
def Gi(f:DW->Int)(L:List DW):Int->Option Value:=λi=>(L.find? λx=>f x==i).map JU
def Ej(L:List DW)(k:Kd):List DW:=L.filter λx=>decide (x.kd=k)
def JG(L:List DW)(x:DW):List DW:=L.take (pos (·.base) L x.base)++x::L.drop (pos (·.base) L x.base)
def EY(L:List DW)(id:Int):List DW:=L.filter λx=>decide (x.id≠id)
def JH.ext{α:Type}{key:α->Int}: ∀{A B:List α},JH key A->JH key B->(∀x,x∈A↔x∈B)->A=B
 | [],[],_,_,_=>rfl
 | [],b::s,_,_,h=>by have:=(h b).2 List.mem_cons_self;cases this
 | a::r,[],_,_,h=>by have:=(h a).1 List.mem_cons_self;cases this
 | a::r,b::s,hA,hB,h=>by
  have v:=List.pairwise_cons.1 hA;have j:=List.pairwise_cons.1 hB;have e:a=b:=by
   rcases List.mem_cons.1 ((h a).1 List.mem_cons_self)with e|h1
   .exact e
   .rcases List.mem_cons.1 ((h b).2 List.mem_cons_self)with e|h2
    .exact e.symm
    .have:=j.1 a h1;grind
  subst e;rw[JH.ext v.2 j.2 λx=> ?_]
  grind
def Jv(L:List DW)(x:DW):(JG L x).Perm (x::L):=by
 unfold JG;exact List.perm_middle.trans (by rw[List.take_append_drop])
def LR{L:List DW}{x y:DW}:y∈JG L x↔y=x∨y∈L:=by rw[(Jv L x).mem_iff,List.mem_cons]
def RR{L:List DW}{x:DW}(hs:JH (·.base) L)(v: ∀y∈L,y.base≠x.base):JH (·.base) (JG L x):=by
 unfold JG;have:=JH.tO (L:=L.take (pos (·.base) L x.base)) (M:=[x]) (N:=L.drop (pos (·.base) L x.base)) (hs.take _) (by simp[JH]) (hs.drop _) (a:=x.base) (b:=x.base+1) (by omega) (λc j=>(Lk j).2) (λc j=>by grind) λc j=>by
  have h1:=Ll hs j
  grind
 grind
def Ds{L:List DW}{id:Int}{y:DW}:y∈EY L id↔y∈L/\y.id≠id:=by simp[EY]
def EU{L:List DW}{k:Kd}{y:DW}:y∈Ej L k↔y∈L/\y.kd=k:=by simp[Ej]
def LD{L:List DW}(hs:JH (·.base) L)(k:Kd):JH (·.base) (Ej L k):=hs.filter _
def rC{L:List DW}(hs:JH (·.base) L)(id:Int):JH (·.base) (EY L id):=hs.filter _
def fV{L:List DW}{x:DW}{k:Kd}(hs:JH (·.base) L)(j: ∀y∈L,y.base≠x.base)(h:x.kd≠k):Ej (JG L x) k=Ej L k:=
 JH.ext (LD (RR hs j) k) (LD hs k) λy=>by
  rw[EU,EU,LR]
  grind
def wE{L:List DW}{x:DW}(hs:JH (·.base) L)(j: ∀y∈L,y.base≠x.base):Ej (JG L x) x.kd=JG (Ej L x.kd) x:=
 JH.ext (LD (RR hs j) _) (RR (LD hs _) λy v=>j y (EU.1 v).1) λy=>by
  rw[EU,LR,LR,EU]
  grind
def Nj{α β:Type}{f:α->β}: ∀{L:List α},(L.map f).Nodup->L.Nodup
 | [],_=>.nil
 | x::r,h=>by
  rw[List.map_cons,List.nodup_cons]at h;rw[List.nodup_cons];exact⟨λj=>h.1 (List.mem_map.2 ⟨x,j,rfl⟩),Nj h.2⟩
def map_inj{α β:Type}{f:α->β}: ∀{L:List α},(L.map f).Nodup-> ∀{x y},x∈L->y∈L->f x=f y->x=y
 | [],_,x,y,j,_,_=>by cases j
 | a::r,h,x,y,j,v,e=>by
  rw[List.map_cons,List.nodup_cons]at h;rcases List.mem_cons.1 j with h1|j
  .rcases List.mem_cons.1 v with h2|v
   .rw[h1,h2]
   .exact absurd (List.mem_map.2 ⟨y,v,by rw[<-e,h1]⟩) h.1
  .rcases List.mem_cons.1 v with h2|v
   .exact absurd (List.mem_map.2 ⟨x,j,by rw[e,h2]⟩) h.1
   .exact map_inj h.2 j v e
def XD{α:Type}{key:α->Int}{L:List α}(hs:JH key L):(L.map key).Nodup:=List.Pairwise.map _ (λa b h=>by omega) hs
def NB{f:DW->Int}{L:List DW}{i:Int}:Gi f L i=none↔ ∀x∈L,f x≠i:=by
 unfold Gi;rw[Option.map_eq_none_iff,List.find?_eq_none];simp
def mX{f:DW->Int}{L:List DW}(j:(L.map f).Nodup){x:DW}(v:x∈L):Gi f L (f x)=some (JU x):=by
 unfold Gi;cases h:L.find? λy=>f y==f x with
 | none=>grind
 | some y=>
  have h1:=List.find?_some h;have h2:=List.mem_of_find?_eq_some h;rw[map_inj j h2 v (by simpa using h1)];rfl
def RS{f:DW->Int}{L:List DW}{i:Int}{v:Value}(h:Gi f L i=some v): ∃x∈L,f x=i/\v=JU x:=by
 unfold Gi at h;rw[Option.map_eq_some_iff]at h
 grind
def XE{f:DW->Int}{L L':List DW}(j:(L.map f).Nodup)(hp:L.Perm L'):Gi f L=Gi f L':=by
 funext i;cases h:Gi f L' i with
 | none=>rw[NB]at h⊢;grind
 | some v=>
  obtain⟨x,y,rfl,rfl⟩:=RS h;exact mX j (hp.mem_iff.2 y)
def PT{f:DW->Int}{L:List DW}{x:DW}:Gi f (x::L)=λi=>if i=f x then some (JU x)else Gi f L i:=by
 funext i;unfold Gi
 grind
def aS{f:DW->Int}{L:List DW}{x:DW}(j:(L.map f).Nodup)(v: ∀y∈L,f y≠f x):Gi f (JG L x)=λi=>if i=f x then some (JU x)else Gi f L i:=by
 rw[<-PT];refine XE ?_ (Jv L x);rw[((Jv L x).map f).nodup_iff,List.map_cons,List.nodup_cons]
 grind
def YF: ∀{L:List DW} (v:(L.map (·.id)).Nodup) {j:Nat} {x:DW},L[j]? =some x->EY L x.id=L.eraseIdx j
 | a::r,v,0,x,h=>by
  have h:a=x:=Option.some.inj h;subst h;rw[List.map_cons,List.nodup_cons]at v;unfold EY;rw[List.filter_cons,if_neg (by simp),List.eraseIdx_cons_zero];exact List.filter_eq_self.2 λy O=>by grind
 | a::r,v,j+1,x,h=>by
  rw[List.map_cons,List.nodup_cons]at v;have h:r[j]? =some x:=by grind
  have J:=List.mem_of_getElem? h;have ne:a.id≠x.id:=λe=>v.1 (List.mem_map.2 ⟨x,J,e.symm⟩);have K:=YF v.2 h;unfold EY at K⊢
  grind
def ND{L:List DW}(y:(L.map (·.id)).Nodup){x:DW}(J:x∈L):L.Perm (x::EY L x.id):=by
 obtain⟨j,v⟩:=List.mem_iff_getElem?.1 J;rw[YF y v];exact DV v
def aT{f:DW->Int}{L:List DW}{x:DW}(j:(L.map (·.id)).Nodup)(v:(L.map f).Nodup)(y:x∈L):Gi f (EY L x.id)=λi=>if i=f x then none else Gi f L i:=by
 have hp:=ND j y;rw[XE v hp,PT];funext i;by_cases e:i=f x
 .rw[if_pos e,NB]
  grind
 grind
structure Km(L:List DW):Prop where
 IJ:JH (·.base) L
 nd:(L.map (·.id)).Nodup
 JI:L.length<=1099511627776
structure nW where
 bi:Nat
 bb:Nat
 bm:Nat
 kinds:List Kd
 sl:Kd->Ac
def SM(ks:List Kd)(sl:Kd->Ac):Kd->Option Value:=λk=>if k∈ks then some (GJ (sl k))else none
def V4(E:Env)(sl:Kd->Ac)(L:List DW)(k:Kd):Pr:=Row E.Dy 1 (sl k) ((Ej L k).map JU)
def LF(g:nW):List Value:=[.map (some g.bi),.map (some g.bb),.map (some g.bm)]
def N9(E:Env)(b:Nat)(L:List DW)(g:nW):List Pr:=
 [Cells b E.Fb (LF g),EJ g.bi .i64 (Gi (·.id) L),EJ g.bb .u64 (Gi (·.base) L),MapK g.bm (SM g.kinds g.sl),Ad (V4 E g.sl L) g.kinds,Ad (aR E) L]
structure wF(L:List DW)(g:nW):Prop where
 inv:Km L
 kn:g.kinds.Nodup
 ks: ∀x∈L,x.kd∈g.kinds
def HO(E:Env)(b:Nat)(L:List DW):Pr:=Ex λg:nW=>Kk (wF L g) (NR (N9 E b L g))
section
variable{E:Env}{w:World}{Z:List Pr}{b:Nat}{L:List DW}{g:nW}
def Sat.EC:Sat (HO E b L::Z) w↔ ∃g,wF L g/\Sat (N9 E b L g++Z) w:=by
 unfold HO;rw[Sat.ex];constructor
 .rintro⟨g,h⟩;rw[Sat.where,Sat.star]at h
  grind
 .rintro⟨g,h1,h2⟩;refine⟨g,?_⟩;rw[Sat.where,Sat.star]
  grind
def Sat.wG(H:Sat (HO E b L::Z) w):Km L:=let⟨_,h,_⟩:=Sat.EC.1 H;h.inv
def fW(H:Sat Z w){K:Option Addr->World->Prop}(hK: ∀b w',Sat (HO E b []::Z) w'->K (some ⟨b,0,none⟩) w'):F.Qu E K w:=by
 unfold F.Qu;refine Xl H .i64 λb1 w2 y _=>Xl y .u64 λj w4 J _=>iR J λv w6 O _=> ?_;refine AQ (vs:=[.map (some b1),.map (some j),.map (some v)]) O λY w8 T _=>hK Y w8 (Sat.EC.2 ⟨⟨b1,j,v,[],λ_=>⟨none,0,0⟩⟩,⟨⟨.nil,.nil,by decide⟩,.nil,λ_ h=>(by cases h)⟩,?_⟩);have h2:=((T.MQ (V4 E (λ_=>⟨none,0,0⟩) [])).front 0 rfl).MQ (aR E);exact((((h2.front 1 rfl).front 3 rfl).front 4 rfl).front 5 rfl).front 5 rfl
end
structure EnvW(E:Env):Prop extends EnvA E where
 rD: ∀i p1 p2 (R:Value->World->Prop) w,F.IX E i p1 p2 (λr w'=>R (.bool r) w') w->E.call E.JE #[.int .i64 i,.pointer p1,.pointer p2] w R Lp
section
variable{E:Env}(hE:EnvW E){w:World}
include hE
theorem RT{p:Addr}{bm:Nat}{k:Kd}{a:Int}{s:Ac}{l:List DW}{G:Kd->Option Value}{Z:List Pr}(hc:w.cell? (p.add 2)=some (.map (some bm)))(H:Sat (MapK bm G::Z) w)(v:(G k).getD (.slice none 0 0)=GJ s)
  (hr:rowAt w s.base s.len (l.map JU))(hl:l.length=s.len)(aU:s.len<4611686018427387904)(hi: ∀x∈l,w.cell? ⟨x.Gk,1,none⟩=some (.int .u64 x.base))(hs:JH (·.base) l){K:Int->World->Prop}
  (hK: ∀w',Ext AR w w'->K ((pos (·.base) l a:Nat):Int) w'):F.ES E (some p) k.1 k.2.1 k.2.2.1 k.2.2.2 a K w:=by
 unfold F.ES T0.ES;refine AQ (vs:=OG k) (Sat.start w) λb1 w2 H2 e2=>AQ (vs:=[.int .u64 a]) H2 λb3 w4 H4 e4=> ?_;simp only[AH];have H5:=H4.drew;have e5:=H5.PG 2 rfl;have c5:=H5.front 1 rfl;refine⟨some bm,e5.cell hc (λf=>f),k.1,c5.cell rfl,k.2.1,c5.cell rfl,k.2.2.1,c5.cell rfl,k.2.2.2,c5.cell rfl,?_⟩;refine Xr (n:=k) (H.nothing e5) λes aB=>⟨s,v,?_⟩;refine AQ (vs:=[.slice none 0 0]) H5 λaH aW T aI=> ?_;have aJ:=T.PG 3 rfl;have y:=T.front 2 rfl;obtain⟨c,aB⟩:=aB;refine⟨⟨c,aI.obj aB (λf=>f)⟩,⟨y.cell rfl,y.cell rfl,y.cell rfl,y.cell rfl,trivial⟩,aJ.cell hc (λf=>f),?_⟩;refine Gm (news:=[GJ s]) T rfl (by simp[GJ,Value.oneCell']) λaX Y=> ?_;refine⟨s,Y.Aa rfl,?_⟩;have aK:=Y.PG 3 rfl;have hp:=Nf (key:=λx:DW=>x.base) l a;refine Sl (λi=>match l[i.toNat]? with|some x=>decide (x.base≥a)|none=>true) (by omega) (by omega) ?_ (pos (λx:DW=>x.base) l a:Nat) (by omega) (by omega) ?_ ?_ λw' O=>hK w' (aK.trans' O)
 .intro i w' aC aT O K' aE;have j:i.toNat<l.length:=by omega
  have v:=List.getElem?_eq_getElem j;simp only[v]at aE;have aA:=(Y.nothing O).drew;refine hE.rD i (some ⟨aH,0,none⟩) (some ⟨b3,0,none⟩) K' w' ?_;unfold F.IX;simp only[AH];refine⟨s,aA.Aa rfl,?_⟩;have aD:=aA.PG 3 rfl;have J:rowAt w'.drew s.base s.len (l.map JU):=Wj hr aD λ_ _ _ f=>f;cases hb:s.base with
  | none=>rw[hb]at J;have:l.map JU=[]:=J;simp at this;grind
  | some q=>
   rw[hb]at J;simp only[AH];refine⟨⟨aC,by omega⟩,some ⟨l[i.toNat].Gk,0,none⟩,by rw[Nat.mul_one];exact J.2 _ _ (by rw[List.getElem?_map,v];rfl),?_⟩;simp only[AH];refine⟨l[i.toNat].base,?_,a,(aA.front 1 rfl).Aa rfl,?_⟩
   .rw[add_eq];exact aD.cell (hi _ (List.getElem_mem j)) λf=>f
   .exact aE _ (O.trans' (Ext.drew _ _))
 .intro i aC hi;have j:i.toNat<l.length:=by omega
  have v:=List.getElem?_eq_getElem j;simp only[v];have:=Hj (key:=λx:DW=>x.base) v (n:=a) (by omega)
  grind
 .intro i aC hi;have j:i.toNat<l.length:=by omega
  have v:=List.getElem?_eq_getElem j;simp only[v];have:=SG hs v (n:=a) (by omega)
  grind
end
def wH(g:nW)(k:Kd):Ac:=if k∈g.kinds then g.sl k else⟨none,0,0⟩
def Oy(g:nW)(k:Kd):(SM g.kinds g.sl k).getD (.slice none 0 0)=GJ (wH g k):=by
 unfold SM wH;split<;>rfl
def rE{L:List DW}{k:Kd}(h: ∀x∈L,x.kd≠k):Ej L k=[]:=by
 unfold Ej;rw[List.filter_eq_nil_iff]
 grind
def YG(L:List DW)(k:Kd):(Ej L k).length<=L.length:=List.length_filter_le _ _
def aU(l:List DW): ∀v∈l.map JU,v.oneCell'=true:=by
 intro v j;obtain⟨x,_,rfl⟩:=List.mem_map.1 j;rfl
section
variable{E:Env}{w:World}{Z:List Pr}{b:Nat}{L:List DW}{g:nW}
def Iw{Y:List Pr}(H:Sat (Cells b E.Fb (LF g)::Y) w):w.cell? (Addr.mk b 0 none)=some (.map (some g.bi))/\w.cell? ((Addr.mk b 0 none).add 1)=some (.map (some g.bb))/\w.cell? ((Addr.mk b 0 none).add 2)=some (.map (some g.bm)):=
 ⟨H.Aa rfl,H.cell rfl,H.cell rfl⟩
def Mo{Y:List Pr}(H:Sat (Ad (aR E) L::Y) w){x:DW}(J:x∈L){j:Nat}{v:Value}(K:(DE x)[j]? =some v):w.cell? ((Addr.mk x.Gk 0 none).add j)=some v:=by
 obtain⟨i,y⟩:=List.mem_iff_getElem?.1 J;exact(H.HA y).cell (by grind)
def Sat.rF(hI:wF L g)(H:Sat (N9 E b L g++Z) w)(k:Kd):
  Sat (Row E.Dy 1 (wH g k) ((Ej L k).map JU)::Ad (V4 E g.sl L) (g.kinds.erase k)::Cells b E.Fb (LF g)::EJ g.bi .i64 (Gi (·.id) L)::EJ g.bb .u64 (Gi (·.base) L)::MapK g.bm (SM g.kinds g.sl)::Ad (aR E) L::Z) w:=by
 by_cases hk:k∈g.kinds
 .have H1:=(H.front 4 rfl).KO (List.perm_cons_erase hk);have j:=Sat.KP.1 H1;have e:V4 E g.sl L k=Row E.Dy 1 (wH g k) ((Ej L k).map JU):=by unfold V4 wH;grind
  rw[e]at j;exact j
 .have e:wH g k=⟨none,0,0⟩:=by unfold wH;grind
  rw[e,rE (k:=k) λx v h=>hk (by rw[<-h];exact hI.ks x v),List.erase_of_not_mem hk];exact(H.front 4 rfl).nil E.Dy 1
def Sat.rG{L':List DW}{s:Ac}{k:Kd}(hI:wF L g)(O:Km L')(aA: ∀j,j≠k->Ej L' j=Ej L j)(Y: ∀x∈L',x.kd=k∨x.kd∈g.kinds)
  (H:Sat (Row E.Dy 1 s ((Ej L' k).map JU)::Ad (V4 E g.sl L) (g.kinds.erase k)::Cells b E.Fb (LF g)::EJ g.bi .i64 (Gi (·.id) L')::EJ g.bb .u64 (Gi (·.base) L')::MapK g.bm (λi=>if i=k then some (GJ s)else SM g.kinds g.sl i)::Ad (aR E) L'::Z) w):
  Sat (HO E b L'::Z) w:=by
 have v:k∉g.kinds.erase k:=λh=>((hI.kn.mem_erase_iff).1 h).1 rfl;refine Sat.EC.2 ⟨{g with kinds:=k::g.kinds.erase k,sl:=λj=>if j=k then s else g.sl j},⟨O,List.nodup_cons.2 ⟨v,hI.kn.erase k⟩,λx hx=> ?_⟩,?_⟩
 .grind
 .have y:(λi=>if i=k then some (GJ s)else SM g.kinds g.sl i)=SM (k::g.kinds.erase k) (λj=>if j=k then s else g.sl j):=by
   funext i;unfold SM
   grind
  have J:Ad (V4 E g.sl L) (g.kinds.erase k)=Ad (V4 E (λj=>if j=k then s else g.sl j) L') (g.kinds.erase k):=Ad.congr λj T=>by
   have:j≠k:=λe=>v (e▸T);unfold V4
   grind
  have K:Row E.Dy 1 s ((Ej L' k).map JU)=V4 E (λj=>if j=k then s else g.sl j) L' k:=by unfold V4;grind
  rw[y,J,K]at H;have h2:=Sat.KP.2 H;exact(((h2.front 4 rfl).front 4 rfl).front 4 rfl).front 4 rfl|>.perm (by
   refine List.Perm.refl _)
def rH{x:DW}(h:Km L)(h1: ∀y∈L,y.id≠x.id/\y.base≠x.base)(h2:L.length<1099511627776):Km (JG L x):=by
 refine⟨RR h.IJ λy j=>(h1 y j).2,?_,?_⟩
 .rw[((Jv L x).map _).nodup_iff,List.map_cons,List.nodup_cons];refine⟨λhm=> ?_,h.nd⟩
  grind
 .rw[(Jv L x).length_eq,List.length_cons];omega
def aV(h:Km L)(id:Int):Km (EY L id):=
 ⟨rC h.IJ id,List.Nodup.sublist (List.filter_sublist.map _) h.nd,Nat.le_trans (List.length_filter_le _ _) h.JI⟩
def OA(id c:Int):Prop:=id<1∨c<0∨68<=c
variable(hE:EnvW E)
include hE
theorem fX(H:Sat (HO E b L::Z) w){id base c:Int}{np full sw:Bool}(hf:L.length<1099511627776){K:Int->World->Prop}
  (aH:OA id c->K 1 w)(aP: ¬OA id c->(∃x∈L,x.id=id∨x.base=base)->K 34 w)
  (a8: ¬OA id c->(∀x∈L,x.id≠id/\x.base≠base)-> ∀Gk w',Sat (HO E b (JG L ⟨Gk,id,base,(c,np,full,sw)⟩)::Z) w'->K 0 w'):
  F.GN E (some ⟨b,0,none⟩) id base c np full sw K w:=by
 obtain⟨g,hI,H⟩:=Sat.EC.1 H;unfold F.GN T0.GN;simp only[AH,add_add];refine AU (AB (λh j=>AS rfl (aH (.inl h))) λn1=>AB (λh j=>AS rfl (aH (.inr (.inl h)))) λn2 j=>AB (λh=>aH (.inr (.inr h))) λn3=> ?_);have nb: ¬OA id c:=λh=>by rcases h with h|h|h<;>omega
 have hc:=Iw H;refine AU ⟨_,hc.1,UZ (H.front 1 rfl) λes _=> ?_⟩;cases e1:Gi (·.id) L id with
 | some v=>
  obtain⟨x,T,h1,rfl⟩:=RS e1;exact⟨some ⟨x.Gk,0,none⟩,rfl,AS rfl λj=>AS rfl (aP nb ⟨x,T,.inl h1⟩)⟩
 | none=>
 refine⟨none,rfl,AO rfl ⟨_,hc.2.1,UZ (H.front 2 rfl) λes _=> ?_⟩⟩;cases e2:Gi (·.base) L base with
 | some v=>
  obtain⟨x,T,h1,rfl⟩:=RS e2;exact⟨some ⟨x.Gk,0,none⟩,rfl,λj=>AS rfl (aP nb ⟨x,T,.inr h1⟩)⟩
 | none=>
 refine⟨none,rfl,λj=>AO rfl ?_⟩;have bA: ∀x∈L,x.id≠id/\x.base≠base:=λx T=>⟨NB.1 e1 x T,NB.1 e2 x T⟩;have H0:=H.rF hI (c,np,full,sw);refine AQ (vs:=[.int .i64 id,.int .u64 base,.int .i64 c,.bool np,.bool full,.bool sw]) H0 λO bO aW _=> ?_;have aJ:=aW.drew;have aO:=Iw (aJ.front 3 rfl);refine⟨_,aO.1,_,aO.2.1,?_⟩;refine iS (aJ.front 4 rfl) λbP aK=> ?_;have aC:=Sat.back (Ps:=_::_::_::_::_::_::_::_::Z) 4 aK;refine iS (aC.front 5 rfl) λbQ aL=> ?_;have J:=Sat.back (Ps:=_::_::_::_::_::_::_::_::Z) 5 aL;simp only[List.set_cons_succ,List.set_cons_zero]at J;clear aK aC aL;obtain⟨x,T⟩: ∃x:DW,x=⟨O,id,base,(c,np,full,sw)⟩:=⟨_,rfl⟩;have hk:x.kd=(c,np,full,sw):=by rw[T]
 have m1:(λi=>if i=id then some (Value.pointer (some (Addr.mk O 0 none)))else Gi (·.id) L i)=Gi (·.id) (JG L x):=by
  rw[aS hI.inv.nd (by grind),T];rfl
 have m2:(λi=>if i=base then some (Value.pointer (some (Addr.mk O 0 none)))else Gi (·.base) L i)=Gi (·.base) (JG L x):=by
  rw[aS (XD hI.inv.IJ) (by grind),T];rfl
 rw[m1,m2]at J;refine⟨c,J.cell rfl,np,J.cell rfl,full,J.cell rfl,sw,J.cell rfl,?_⟩;have hlen: ∀{w':World} {Y:List Pr} {s:Ac},Sat (Row E.Dy 1 s ((Ej L (c,np,full,sw)).map JU)::Y) w'->(Ej L (c,np,full,sw)).length=s.len:=λh=>by simpa using h.EA
 have a9:=hlen (J.front 1 rfl);have bL:=YG L (c,np,full,sw);have bE:=(J.front 1 rfl).own.cap;refine RT (k:=(c,np,full,sw)) hE (Iw (J.front 3 rfl)).2.2 (J.front 6 rfl) (Oy _ _) (by simpa using(J.front 1 rfl).KN) a9 (by omega) (λy hy=> ?_) (LD hI.inv.IJ _) λbR a4=> ?_
 .have:=Mo (J.front 7 rfl) (EU.1 hy).1 (j:=1) rfl;rwa[add_eq]at this
 have hp:=Nf (key:=λx:DW=>x.base) (Ej L (c,np,full,sw)) base;generalize hpp:pos (λx:DW=>x.base) (Ej L (c,np,full,sw)) base=i at *
 have aB:=(J.nothing a4).drew;have a2:=Iw (aB.front 3 rfl);have d38: ∀{Y:List Pr} {w':World},Sat (Cells O E.Im [.int .i64 id,.int .u64 base,.int .i64 c,.bool np,.bool full,.bool sw]::Y) w'->w'.cell? ((Addr.mk O 0 none).add (2+0))=some (.int .i64 c)/\w'.cell? ((Addr.mk O 0 none).add (2+1))=some (.bool np)/\w'.cell? ((Addr.mk O 0 none).add (2+2))=some (.bool full)/\w'.cell? ((Addr.mk O 0 none).add (2+3))=some (.bool sw):=
  λh=>⟨h.cell rfl,h.cell rfl,h.cell rfl,h.cell rfl⟩
 obtain⟨d0,d1,d2,d3⟩:=d38 aB;refine⟨_,a2.2.2,c,d0,np,d1,full,d2,sw,d3,Xr (n:=(c,np,full,sw)) (aB.front 6 rfl) λes aG=>⟨_,Oy _ _,?_⟩⟩;refine AQ (vs:=[.pointer none]) aB λbH bS aD a5=> ?_;obtain⟨cc,aG⟩:=aG;obtain⟨d0,d1,d2,d3⟩:=d38 (aD.front 1 rfl);refine⟨⟨cc,a5.obj aG λf=>f⟩,⟨d0,d1,d2,d3,trivial⟩,(Iw (aD.front 4 rfl)).2.2,?_⟩;refine GD (aD.FP 1 rfl) rfl rfl (by simp[Value.oneCell']) (by omega) (by omega) λSB bT aA bF=> ?_;obtain⟨d0,d1,d2,d3⟩:=d38 (aA.front 1 rfl);have aX:=aA.drew;have aT:=aA.own.cap;have aV:=aA.own.top;rw[show i64 ((i:Int)+1)=((i+1:Nat):Int) by rw[AM];rfl,Int.toNat_natCast,Int.toNat_natCast];refine⟨⟨d0,d1,d2,d3,trivial⟩,(Iw (aA.front 3 rfl)).2.2,⟨by omega,by omega⟩,⟨by omega,by omega⟩,?_⟩;refine CPY_up aX (aU _) (by simpa using hp) λbN bU u aM=> ?_;obtain⟨bb,aF⟩:=aM.own.Gf (by omega);rw[aF];simp only[AH];refine⟨⟨by omega,by omega⟩,?_⟩;rw[show i*1=i by omega];refine Il aM (j:=i) rfl (by simp;omega) aF λbV aY=> ?_;have aE:=aY.drew;have a3:=Iw (aE.front 3 rfl);obtain⟨d0,d1,d2,d3⟩:=d38 (aE.front 1 rfl);refine⟨_,a3.2.2,c,d0,np,d1,full,d2,sw,d3,?_⟩
 try rw[<-aF]
 refine Xs (n:=(c,np,full,sw)) (aE.front 6 rfl) λaI aZ=> ?_;have aN:=Sat.back (Ps:=_::_::_::_::_::_::_::_::Z) 6 aZ;simp only[List.set_cons_succ,List.set_cons_zero]at aN;refine a8 nb bA O aI ?_;rw[<-T];have hb: ∀y∈L,y.base≠x.base:=by grind
 have er:(List.take i ((Ej L (c,np,full,sw)).map JU)++u::List.drop i ((Ej L (c,np,full,sw)).map JU)).set i (JU x)=(Ej (JG L x) (c,np,full,sw)).map JU:=by
  rw[<-hk,wE hI.inv.IJ hb];unfold JG;rw[hk,show x.base=base by rw[T],hpp,List.map_append,List.map_cons,List.map_take,List.map_drop,List.set_append_right _ _ (by simp;omega)];congr 1;rw[show i-(List.take i ((Ej L (c,np,full,sw)).map JU)).length=0 by simp;omega];rfl
 have a0:Sat (Row E.Dy 1 SB ((Ej (JG L x) (c,np,full,sw)).map JU)::aR E x::Ad (V4 E g.sl L) (g.kinds.erase (c,np,full,sw))::Cells b E.Fb (LF g)::EJ g.bi .i64 (Gi (·.id) (JG L x))::EJ g.bb .u64 (Gi (·.base) (JG L x))::MapK g.bm (λi=>if i=(c,np,full,sw)then some (GJ SB)else SM g.kinds g.sl i)::Ad (aR E) L::Z) aI:=by
  have a7:aR E x=Cells O E.Im [.int .i64 id,.int .u64 base,.int .i64 c,.bool np,.bool full,.bool sw]:=by rw[T];rfl
  have a6:JU x= .pointer (some ⟨O,0,none⟩):=by rw[T];rfl
  rw[<-er,a7,a6];exact aN
 have a1:Sat (Ad (aR E) (JG L x)::Row E.Dy 1 SB ((Ej (JG L x) (c,np,full,sw)).map JU)::Ad (V4 E g.sl L) (g.kinds.erase (c,np,full,sw))::Cells b E.Fb (LF g)::EJ g.bi .i64 (Gi (·.id) (JG L x))::EJ g.bb .u64 (Gi (·.base) (JG L x))::MapK g.bm (λi=>if i=(c,np,full,sw)then some (GJ SB)else SM g.kinds g.sl i)::Z) aI:=
  (Sat.KP.2 ((a0.front 7 rfl).front 2 rfl)).KO (Jv L x).symm
 refine Sat.rG (s:=SB) (k:=(c,np,full,sw)) hI (rH hI.inv (by grind) hf) (λj hj=>fV hI.inv.IJ hb (by rw[hk];exact Ne.symm hj)) (λy hy=> ?_) (a1.perm ?_)
 .rcases LR.1 hy with rfl|hy
  .grind
  .exact .inr (hI.ks y hy)
 .exact(List.perm_middle (a:=Ad (aR E) (JG L x)) (l₁:=[_,_,_,_,_,_]) (l₂:=Z)).symm
end
def fY{L:List DW}{x:DW}{k:Kd}(v:(L.map (·.id)).Nodup)(J:x∈L)(h:x.kd≠k):Ej (EY L x.id) k=Ej L k:=by
 unfold Ej EY;rw[List.filter_filter];refine List.filter_congr λy K=> ?_;by_cases e:y.kd=k
 .have:y.id≠x.id:=λj=>h (by rw[<-e,map_inj v K J j])
  grind
 .simp[e]
def wI{L:List DW}{x:DW}(hs:JH (·.base) L)(j:(L.map (·.id)).Nodup)(v:x∈L):Ej (EY L x.id) x.kd=(Ej L x.kd).eraseIdx (pos (·.base) (Ej L x.kd) x.base):=by
 have h1:Ej (EY L x.id) x.kd=EY (Ej L x.kd) x.id:=by
  unfold Ej EY;rw[List.filter_filter,List.filter_filter]
  grind
 rw[h1];have hm:x∈Ej L x.kd:=EU.2 ⟨v,rfl⟩;exact YF (List.Nodup.sublist (List.filter_sublist.map _) j) (Ng (LD hs _) hm rfl)
section
variable{E:Env}{w:World}{Z:List Pr}{b:Nat}{L:List DW}{g:nW}(hE:EnvW E)
include hE
theorem VR(H:Sat (HO E b L::Z) w){id:Int}{K:Int->World->Prop}(aQ:(∀x∈L,x.id≠id)->K 35 w)(aP: ∀x∈L,x.id=id-> ∀w',Sat (HO E b (EY L id)::Z) w'->K 0 w'):
  F.D6 E (some ⟨b,0,none⟩) id K w:=by
 obtain⟨g,hI,H⟩:=Sat.EC.1 H;unfold F.D6 T0.D6;simp only[AH,add_add];have hc:=Iw H;refine⟨_,hc.1,UZ (H.front 1 rfl) λes _=> ?_⟩;cases e1:Gi (·.id) L id with
 | none=>exact⟨none,rfl,AS rfl (aQ (NB.1 e1))⟩
 | some v=>
 obtain⟨x,J,T7,rfl⟩:=RS e1;subst T7;refine⟨some ⟨x.Gk,0,none⟩,rfl,AO rfl ⟨_,hc.1,?_⟩⟩;simp only[AH];have H0:=H.rF hI x.kd;refine Xm (H0.front 3 rfl) λw9 H9=> ?_;have aA:=(Sat.back (Ps:=_::_::_::_::_::_::_::Z) 3 H9).drew;have ic: ∀{w':World} {Y:List Pr},Sat (Ad (aR E) L::Y) w'->w'.cell? ((Addr.mk x.Gk 0 none).add 1)=some (.int .u64 x.base)/\w'.cell? ((Addr.mk x.Gk 0 none).add (2+0))=some (.int .i64 x.kd.1)/\w'.cell? ((Addr.mk x.Gk 0 none).add (2+1))=some (.bool x.kd.2.1)/\w'.cell? ((Addr.mk x.Gk 0 none).add (2+2))=some (.bool x.kd.2.2.1)/\w'.cell? ((Addr.mk x.Gk 0 none).add (2+3))=some (.bool x.kd.2.2.2):=
  λh=>⟨Mo h J rfl,Mo h J rfl,Mo h J rfl,Mo h J rfl,Mo h J rfl⟩
 obtain⟨i1,_⟩:=ic (aA.front 6 rfl);refine⟨_,(Iw (aA.front 2 rfl)).2.1,x.base,i1,Xm (aA.front 4 rfl) λbA aJ=> ?_⟩;have O:=Sat.back (Ps:=_::_::_::_::_::_::_::Z) 4 aJ;simp only[List.set_cons_succ,List.set_cons_zero]at O;clear H9 aA aJ i1;have m1:(λi=>if i=x.id then none else Gi (·.id) L i)=Gi (·.id) (EY L x.id):=(aT (f:=(·.id)) hI.inv.nd hI.inv.nd J).symm;have m2:(λi=>if i=x.base then none else Gi (·.base) L i)=Gi (·.base) (EY L x.id):=(aT (f:=(·.base)) hI.inv.nd (XD hI.inv.IJ) J).symm;rw[m1,m2]at O;obtain⟨j1,j2,j3,j4,j5⟩:=ic (O.front 6 rfl);refine⟨_,j2,_,j3,_,j4,_,j5,_,j1,?_⟩;have aS:(Ej L x.kd).length=(wH g x.kd).len:=by simpa using O.EA
 have a7:=YG L x.kd;have a2:=hI.inv.JI;have T:=O.drew;refine RT (k:=x.kd) hE (Iw (T.front 2 rfl)).2.2 (T.front 5 rfl) (Oy _ _) (by simpa using T.KN) aS (by omega) (λy hy=> ?_) (LD hI.inv.IJ _) λbB aN=> ?_
 .have:=Mo (T.front 6 rfl) (EU.1 hy).1 (j:=1) rfl;rwa[add_eq]at this
 have hm:x∈Ej L x.kd:=EU.2 ⟨J,rfl⟩;have aO:=Ng (LD hI.inv.IJ x.kd) hm (n:=x.base) rfl;have hp:=(List.getElem?_eq_some_iff.1 aO).1;have aW:=wI hI.inv.IJ hI.inv.nd J;generalize hpp:pos (λx:DW=>x.base) (Ej L x.kd) x.base=i at *
 have aB:=(T.nothing aN).drew;obtain⟨_,j2,j3,j4,j5⟩:=ic (aB.front 6 rfl);refine⟨_,(Iw (aB.front 2 rfl)).2.2,_,j2,_,j3,_,j4,_,j5,Xr (n:=x.kd) (aB.front 5 rfl) λes a5=>⟨_,Oy _ _,?_⟩⟩;have aC:=aB.drew;obtain⟨_,j2,j3,j4,j5⟩:=ic (aC.front 6 rfl);have a1:=aC.own.cap;rw[show i64 ((i:Int)+1)=((i+1:Nat):Int) by rw[AM];rfl,Int.toNat_natCast,Int.toNat_natCast];refine⟨_,(Iw (aC.front 2 rfl)).2.2,_,j2,_,j3,_,j4,_,j5,⟨by omega,by omega⟩,⟨by omega,by omega⟩,?_⟩;refine wD aC (aU _) (by simpa using hp) λLb bC aD=> ?_;obtain⟨_,j2,j3,j4,j5⟩:=ic (aD.front 6 rfl);refine⟨⟨j2,j3,j4,j5,trivial⟩,(Iw (aD.front 2 rfl)).2.2,Xs (n:=x.kd) (aD.front 5 rfl) λaY aL=> ?_⟩;have aE:=Sat.back (Ps:=_::_::_::_::_::_::_::Z) 5 aL;simp only[List.set_cons_succ,List.set_cons_zero]at aE;refine aP x J rfl aY ?_;have er:((Ej L x.kd).map JU).eraseIdx i=(Ej (EY L x.id) x.kd).map JU:=by rw[aW,JM]
 rw[er]at aE;have aM:=(Sat.KP.1 ((aE.front 6 rfl).KO (ND hI.inv.nd J))).tail;refine Sat.rG (s:=Lb) (k:=x.kd) hI (aV hI.inv x.id) (λj hj=>fY hI.inv.nd J (Ne.symm hj)) (λy hy=>.inr (hI.ks y (Ds.1 hy).1)) (aM.perm ?_);exact(List.perm_middle (a:=Ad (aR E) (EY L x.id)) (l₁:=[_,_,_,_,_,_]) (l₂:=Z)).symm
theorem Sz(H:Sat (HO E b L::Z) w){k:Kd}{K:Int->Bool->World->Prop}(T:Ej L k=[]->K 0 false w)(Y: ∀x r,Ej L k=x::r-> ∀w',Sat (HO E b (EY L x.id)::Z) w'->K x.id true w'):
  F.Ez E (some ⟨b,0,none⟩) k.1 k.2.1 k.2.2.1 k.2.2.2 K w:=by
 have HS:=H;obtain⟨g,hI,H⟩:=Sat.EC.1 H;unfold F.Ez T0.Ez;simp only[AH];have O:=H.rF hI k;have J:(Ej L k).length=(wH g k).len:=by simpa using O.EA
 refine⟨_,(Iw H).2.2,Xr (n:=k) (H.front 3 rfl) λes aE=>⟨_,Oy _ _,BI (λe=> ?_) λe=> ?_⟩⟩
 .exact T (List.eq_nil_of_length_eq_zero (by omega))
 .cases hr:Ej L k with
  | nil=>grind
  | cons x r=>
   have hx:x∈L:=(EU.1 (by rw[hr];exact List.mem_cons_self:x∈Ej L k)).1;rw[hr]at O J;simp at J;refine O.tX (j:=0) (v:=JU x) rfl λa ha hc=>⟨⟨by omega,by omega⟩,some ⟨x.Gk,0,none⟩,hc,?_⟩;simp only[AH];have hi:=Mo (H.front 5 rfl) hx (j:=0) rfl;rw[add_zero]at hi;refine⟨x.id,hi,VR hE HS (λh=>absurd rfl (h x hx)) λy hy he w' H'=>Y x r hr w' H'⟩
end
def YH{k:Kd}{K:nR (.agg [.int .i64,.bool,.bool,.bool])->Prop}(h:K (k.1,k.2.1,k.2.2.1,k.2.2.2,())):unVT (.agg [.int .i64,.bool,.bool,.bool]) (.agg ⟨OG k⟩) K:=h
def YI{s:Ac}{K:Ac->Prop}(h:K s):tR (GJ s) K:=h
def TZ(L:List DW)(sw:Bool)(done:List Kd):Nat:=(done.map λk=>if k.2.2.2=sw then(Ej L k).length else 0).sum
def MH(L:List DW)(sw:Bool):Nat:=(L.filter λx=>x.EO==sw).length
def rJ(L:List DW)(sw:Bool)(d:List Kd)(k:Kd):TZ L sw (d++[k])=TZ L sw d+if k.2.2.2=sw then(Ej L k).length else 0:=by simp[TZ]
def SN(x:DW)(L:List DW)(sw:Bool): ∀(d:List Kd),d.Nodup->TZ (x::L) sw d=TZ L sw d+if x.kd∈d/\x.EO=sw then 1 else 0
 | [],_=>by simp[TZ]
 | k::d,hn=>by
  rw[List.nodup_cons]at hn;have j:=SN x L sw d hn.2;have e:Ej (x::L) k=if x.kd=k then x::Ej L k else Ej L k:=by
   unfold Ej
   grind
  unfold TZ at j⊢
  grind
def SQ(sw:Bool): ∀d:List Kd,TZ [] sw d=0
 | []=>rfl
 | k::d=>by
  have:=SQ sw d;unfold TZ at this⊢;rw[List.map_cons,List.sum_cons,this];split<;>rfl
def aW: ∀{L:List DW} {sw:Bool} {d:List Kd},d.Nodup->(∀x∈L,x.kd∈d)->TZ L sw d=MH L sw
 | [],sw,d,_,_=>SQ sw d
 | x::L,sw,d,hn,h=>by
  have v:=aW (L:=L) (sw:=sw) hn λy j=>h y (List.mem_cons_of_mem _ j);rw[SN x L sw d hn,v];unfold MH
  grind
def wJ(L:List DW)(sw:Bool){d:List Kd}(j:d.Nodup):TZ L sw d<=L.length:=by
 induction L with
 | nil=>rw[SQ];omega
 | cons x L ih=>
  rw[SN x L sw d j,List.length_cons]
  grind
section
variable{E:Env}{w:World}{Z:List Pr}{b:Nat}{L:List DW}{g:nW}
def RU(H:Sat (HO E b L::Z) w){sw:Bool}{K:Int->World->Prop}(hK: ∀w',Sat (HO E b L::Z) w'->K ((MH L sw:Nat):Int) w'):F.Hv E (some ⟨b,0,none⟩) sw K w:=by
 obtain⟨g,hI,H⟩:=Sat.EC.1 H;unfold F.Hv;simp only[AH];have aK:=hI.inv.JI;refine⟨_,(Iw H).2.2,Xt (H.front 3 rfl) λr4 N w5 H5=> ?_⟩;refine AJ (λst w'=> ∃cur done N',st.1=(TZ L sw done:Nat)/\Sat (PZ r4 g.bm (SM g.kinds g.sl) cur done N'::(N9 E b L g++Z).eraseIdx 3) w') (λ_ w'=>NW r4 g.bm w') ⟨none,[],N,rfl,H5⟩ ?_;rintro⟨n,u⟩ _ w7 ⟨cur,done,N',hn,H7⟩;dsimp only at hn⊢;subst hn;rw[H7.Mw];refine AU (R6 H7 (λaG Y aA j=>AU (AO rfl ?_)) λk v aX N2 aQ aS hN T j=>AU (AS rfl λj2=>Ug T λv' S' y=> ?_))
 .rw[aW Y.Zg.1 λx hx=>(aA _).2 (by unfold SM;rw[if_pos (hI.ks x hx)];grind)];exact hK aG (Sat.EC.2 ⟨g,hI,Sat.back (Ps:=N9 E b L g++Z) 3 Y.iT (by simp[N9])⟩)
 .have hk:k∈g.kinds:=by
   unfold SM at y;by_cases h:k∈g.kinds
   .exact h
   .rw[if_neg h]at y;cases y
  have aE:v'=GJ (g.sl k):=by unfold SM at y;rw[if_pos hk]at y;exact(Option.some.inj y).symm
  subst aE;have hlen:(Ej L k).length=(g.sl k).len:=by
   obtain⟨i,hi⟩:=List.mem_iff_getElem?.1 hk;have:=((H.front 4 rfl).HA hi).EA
   grind
  refine YH (YI (AQ (vs:=[.int .i64 0,.bool false,.bool false,.bool false]) T λaN aY aC _=> ?_));refine Gm (news:=OG k) aC rfl (by simp[OG,Value.oneCell']) λaH O=>⟨k.2.2.2,O.cell rfl,?_⟩;have aB:(done++[k]).Nodup:=T.Zg.1;have hle:=wJ L sw aB;have J:=rJ L sw done k;have hm:NW r4 g.bm aH<N':=by rw[(O.front 1 rfl).Mw];exact hN
  by_cases e:k.2.2.2=sw
  .rw[if_pos e]at J;refine AS (by simp[e]) (Am λt ht=>⟨⟨some k,done++[k],N2,?_,O.tail⟩,hm⟩);show t=_;rw[ht,J,AM];omega
  .rw[if_neg e]at J;refine AO (by grind) ⟨⟨some k,done++[k],N2,?_,O.tail⟩,hm⟩;omega
end
def LS(k:Kd):Kd:=(k.1,k.2.1,k.2.2.1,false)
def NF(k:Kd):Kd:=(k.1,k.2.1,k.2.2.1,true)
def DW.flip(x:DW):DW:={x with kd:=LS x.kd}
def XF{L:List DW}{sw:Bool}(h:MH L sw=0): ∀x∈L,x.EO≠sw:=by
 intro x j e;unfold MH at h;rw[List.length_eq_zero_iff,List.filter_eq_nil_iff]at h
 grind
def Nk(L:List DW)(x:DW):Prop:=x∈L/\x.EO=false/\ ∀y∈L,y.EO=false->x.base<=y.base
def jU(L:List DW)(done:List Kd)(p:Option Addr):Prop:=
 (p=none/\ ∀k∈done,k.2.2.2=false->Ej L k=[])∨ ∃x∈L,p=some ⟨x.Gk,0,none⟩/\x.EO=false/\ ∀k∈done,k.2.2.2=false-> ∀y∈Ej L k,x.base<=y.base
section
variable{E:Env}{w:World}{Z:List Pr}{b:Nat}{L:List DW}{g:nW}
def rK{Y:List Pr}(H:Sat (Ad (V4 E g.sl L) g.kinds::Y) w){k:Kd}(hk:k∈g.kinds):rowAt w (g.sl k).base (g.sl k).len ((Ej L k).map JU)/\(Ej L k).length=(g.sl k).len:=by
 obtain⟨i,j⟩:=List.mem_iff_getElem?.1 hk;have h:=H.HA j;exact⟨by simpa using h.KN,by simpa using h.EA⟩
def jV{q:List DW}{s:Ac}(h:rowAt w s.base s.len (q.map JU)){i:Nat}{x:DW}(j:q[i]? =some x): ∃a,s.base=some a/\w.cell? (a.add (i*1))=some (JU x):=by
 cases hb:s.base with
 | none=>rw[hb]at h;have:q.map JU=[]:=h;simp at this;grind
 | some a=>rw[hb]at h;exact⟨a,rfl,by rw[Nat.mul_one];exact h.2 i _ (by grind)⟩
def jW{k:Kd}{v:Value}(h:SM g.kinds g.sl k=some v):k∈g.kinds/\v=GJ (g.sl k):=by
 unfold SM at h
 grind
def kdM_ne{k:Kd}(h:k∈g.kinds):SM g.kinds g.sl k≠none:=by unfold SM;grind
def YJ(H:Sat (HO E b L::Z) w){K:Int->Bool->World->Prop}(aS:(∀x∈L,x.EO=true)-> ∀w',Sat (HO E b L::Z) w'->K 0 false w')(aT: ∀x,Nk L x-> ∀w',Sat (HO E b L::Z) w'->K x.id true w'):
  F.Ja E (some ⟨b,0,none⟩) K w:=by
 obtain⟨g,hI,H⟩:=Sat.EC.1 H;unfold F.Ja;simp only[AH];refine⟨_,(Iw H).2.2,Xt (H.front 3 rfl) λr4 N w5 H5=> ?_⟩;refine AJ (λst w'=> ∃cur done N',jU L done st.1/\Sat (PZ r4 g.bm (SM g.kinds g.sl) cur done N'::(N9 E b L g++Z).eraseIdx 3) w') (λ_ w'=>NW r4 g.bm w') ⟨none,[],N,.inl ⟨rfl,λk hk=>by cases hk⟩,H5⟩ ?_;rintro⟨p,u⟩ _ w7 ⟨cur,done,N',hp,H7⟩;dsimp only at hp⊢;rw[H7.Mw];have aC: ∀{w'} {cur done N},Sat (PZ r4 g.bm (SM g.kinds g.sl) cur done N::(N9 E b L g++Z).eraseIdx 3) w'-> ∀{x},x∈L->w'.cell? (Addr.mk x.Gk 0 none)=some (.int .i64 x.id)/\w'.cell? ((Addr.mk x.Gk 0 none).add 1)=some (.int .u64 x.base):=λh x O=>
  ⟨by have:=Mo (h.front 5 rfl) O (j:=0) rfl;rwa[add_zero]at this,Mo (h.front 5 rfl) O (j:=1) rfl⟩
 refine AU (R6 H7 (λaD aG aJ j=>AU (AO rfl ?_)) λk v bD N2 a8 bA hN aH j=>AU (AS rfl λj2=>Ug aH λv' S' aV=> ?_))
 .have hb:Sat (HO E b L::Z) aD:=Sat.EC.2 ⟨g,hI,Sat.back (Ps:=N9 E b L g++Z) 3 aG.iT (by simp[N9])⟩;have hd: ∀x∈L,x.kd∈done:=λx O=>(aJ _).2 (kdM_ne (hI.ks x O));rcases hp with ⟨rfl,h0⟩|⟨x,O,rfl,h1,h2⟩
  .refine AS rfl (aS (λx O=> ?_) aD hb);cases e:x.EO with
   | true=>rfl
   | false=>
    have:=h0 _ (hd x O) e;have h3:x∈Ej L x.kd:=EU.2 ⟨O,rfl⟩
    grind
  .refine AO rfl ?_;simp only[AH];exact⟨x.id,(aC aG O).1,aT x ⟨O,h1,λy T e=>h2 _ (hd y T) e y (EU.2 ⟨T,rfl⟩)⟩ aD hb⟩
 .obtain⟨hk,rfl⟩:=jW aV;refine YH (YI (AQ (vs:=[.int .i64 0,.bool false,.bool false,.bool false]) aH λa5 bE aO _=> ?_));refine Gm (news:=OG k) aO rfl (by simp[OG,Value.oneCell']) λY aP=> ?_;have aI:=aP.drew;have J:=aI.tail;obtain⟨aK,hlen⟩:=rK (J.front 4 rfl) hk;have hm: ∀w',w'=Y.drew->NW r4 g.bm w'<N':=λw' e=>by rw[e,J.Mw];exact hN
  refine AU ⟨k.2.2.2,aI.cell rfl,?_⟩;have Cr:(k.2.2.2=false->Ej L k=[]∨ ∃x∈L,p=some ⟨x.Gk,0,none⟩/\ ∀y∈Ej L k,x.base<=y.base)->jU L (done++[k]) p:=λhq=>by
   rcases hp with ⟨h0,h1⟩|⟨x,O,h0,h1,h2⟩
   .refine .inl ⟨h0,λk' aB e=> ?_⟩
    grind
   .refine .inr ⟨x,O,h0,h1,λk' aB e y T=> ?_⟩
    grind
  cases hs:k.2.2.2 with
  | true=>exact AO rfl λj=>AO rfl ⟨⟨_,_,N2,Cr (λh=>by grind),J⟩,hm _ rfl⟩
  | false=>
  refine AS rfl (AB (λa1=> ?_) λbB=> ?_)
  .obtain⟨x,r,hr⟩: ∃x r,Ej L k=x::r:=by
    cases h:Ej L k with
    | nil=>grind
    | cons x r=>grind
   have aM:=EU.1 (show x∈Ej L k by rw[hr];exact List.mem_cons_self);have a0: ∀y∈Ej L k,x.base<=y.base:=λy T=>by
    have aL:=LD hI.inv.IJ k;rw[hr]at T aL;rcases List.mem_cons.1 T with rfl|T
    .omega
    .exact Int.le_of_lt ((List.pairwise_cons.1 aL).1 y T)
   obtain⟨a,ha,hc⟩:=jV aK (i:=0) (x:=x) (by grind);have take:(∀y,p=some (Addr.mk y 0 none)-> ∀z∈L,z.Gk=y->x.base<z.base)->jU L (done++[k]) (some ⟨x.Gk,0,none⟩):=λhq=>by
    refine .inr ⟨x,aM.1,rfl,by grind,λk' aB e y T=> ?_⟩;rcases List.mem_append.1 aB with h|h
    .rcases hp with ⟨h0,h1⟩|⟨z,hz,h0,h1,h2⟩
     .grind
     grind
    grind
   have aA:(∀y,p=some (Addr.mk y 0 none)-> ∀z∈L,z.Gk=y->x.base<z.base)-> ∀j:Nat->Value,CND true
     (NC (g.sl k).base λaW=>((0:Int)<=0/\(0:Int)<((g.sl k).len:Nat))/\ ∃aN:Option Addr,Y.drew.cell? (aW.add (Int.toNat 0*1))=some (.pointer aN)/\((∃cur done N',jU L done aN/\Sat (PZ r4 g.bm (SM g.kinds g.sl) cur done N'::(N9 E b L g++Z).eraseIdx 3) Y.drew)/\NW r4 g.bm Y.drew<N')) False:=λhq j=>by
    refine AS rfl ?_;rw[ha];simp only[AH];exact⟨⟨by decide,by omega⟩,_,hc,⟨_,_,N2,take hq,J⟩,hm _ rfl⟩
   rcases hp with ⟨rfl,h1⟩|⟨z,hz,rfl,h1,h2⟩
   .exact AS rfl λj=>aA (λy T=>by cases T) j
   .refine AO rfl ?_;rw[ha];simp only[AH];refine⟨⟨by decide,by omega⟩,_,hc,?_⟩;simp only[AH];refine⟨_,(aC J aM.1).2,_,(aC J hz).2,λj=>AB (λa9=> ?_) λa7=> ?_⟩
    .have:=aA (λy T z' bC e=>by grind) j;rw[ha]at this;simpa only[oQ,AH]using this
    grind
  .refine λj=>AO rfl ⟨⟨_,_,N2,Cr (λ_=>.inl (List.eq_nil_of_length_eq_zero (by omega))),J⟩,hm _ rfl⟩
end
def aX{α:Type}: ∀{l:List α} {i:Nat} {x:α},l.Nodup->l[i]? =some x->x∉l.eraseIdx i
 | [],i,x,_,h=>by simp at h
 | y::l,0,x,hn,h=>by grind
 | y::l,i+1,x,hn,h=>by
  have h:l[i]? =some x:=by grind
  rw[List.eraseIdx_cons_succ];have h1:=List.nodup_cons.1 hn;intro hm;rcases List.mem_cons.1 hm with e|hm
  .grind
  .exact aX h1.2 h hm
def Ib(L:List DW):List DW:=L.map DW.flip
def dK(E:Env)(c:DW->Bool)(x:DW):Pr:=aR E (if c x=true then x.flip else x)
def rL{L:List DW}(h:JH (·.base) L):JH (·.base) (Ib L):=List.Pairwise.map _ (λa b h=>h) h
def rM{L:List DW}(h:Km L):Km (Ib L):=⟨rL h.IJ,by
 have:(Ib L).map (·.id)=L.map (·.id):=by unfold Ib;rw[List.map_map];rfl
 rw[this];exact h.nd,by unfold Ib;rw[List.length_map];exact h.JI⟩
def SR{f:DW->Int}(hf: ∀x:DW,f x.flip=f x): ∀L:List DW,Gi f (Ib L)=Gi f L
 | []=>rfl
 | x::L=>by
  show Gi f (x.flip::Ib L)=_;rw[PT,PT,SR hf L,hf];rfl
def Ls{k:Kd}(h:k.2.2.2=true):NF (LS k)=k:=by
 obtain⟨a,b,c,d⟩:=k;have:d=true:=h;subst this;rfl
def SS{k:Kd}(h:k.2.2.2=false):LS (NF k)=k:=by
 obtain⟨a,b,c,d⟩:=k;have:d=false:=h;subst this;rfl
def rN{L:List DW}(hs: ∀x∈L,x.EO=true){k:Kd}(hk:k.2.2.2=false):(Ej (Ib L) k).map JU=(Ej L (NF k)).map JU:=by
 unfold Ej Ib;rw[List.filter_map,List.map_map];have:L.filter ((λx=>decide (x.kd=k))∘DW.flip)=L.filter λx=>decide (x.kd=NF k):=by
  refine List.filter_congr λx j=> ?_;show decide (LS x.kd=k)=decide (x.kd=NF k);refine decide_eq_decide.2 ⟨λe=> ?_,λe=> ?_⟩
  .rw[<-e,Ls (hs x j)]
  .rw[e,SS hk]
 rw[this];rfl
def mY(L:List DW)(sl:Kd->Ac)(done:List Kd):Kd->Option Value:=λk=>if k.2.2.2=false/\NF k∈done/\Ej L (NF k)≠ []then some (GJ (sl (NF k)))else none
def rO{L:List DW}{sl:Kd->Ac}{done:List Kd}{k:Kd}(h:k.2.2.2=false∨Ej L k=[]):mY L sl (done++[k])=mY L sl done:=by
 funext j;unfold mY;by_cases e:NF j=k
 .have: ¬(j.2.2.2=false/\NF j∈done++[k]/\Ej L (NF j)≠ []):=λ⟨_,_,q⟩=>by
   rcases h with h|h
   .rw[<-e]at h;cases h
   grind
  grind
 .simp[e]
def wK{L:List DW}{sl:Kd->Ac}{done:List Kd}{k:Kd}(h1:k.2.2.2=true)(h2:Ej L k≠ []):(λj=>if j=LS k then some (GJ (sl k))else mY L sl done j)=mY L sl (done++[k]):=by
 funext j;unfold mY;by_cases e:j=LS k
 .rw[if_pos e];have:NF j=k:=by rw[e,Ls h1]
  rw[this,if_pos ⟨by rw[e];rfl,by simp,h2⟩]
 .rw[if_neg e];by_cases hj:j.2.2.2=false
  .have:NF j≠k:=λh=>e (by rw[<-h,SS hj]);simp[this]
  grind
section
variable{E:Env}{w:World}{Z:List Pr}{b:Nat}{L:List DW}{g:nW}
def aY(H:Sat (HO E b L::Z) w){K:Int->World->Prop}(bD:0<MH L false-> ∀w',Sat (HO E b L::Z) w'->K 33 w')(bC:(∀x∈L,x.EO=true)-> ∀w',Sat (HO E b (Ib L)::Z) w'->K 0 w'):
  F.Fj E (some ⟨b,0,none⟩) K w:=by
 unfold F.Fj T0.Fj;refine RU H λw2 H2=>AB (λh=>bD (by omega) w2 H2) λh=> ?_;have aG: ∀x∈L,x.EO=true:=λx O=>by
  have:=XF (L:=L) (sw:=false) (by omega) x O
  grind
 obtain⟨g,hI,H⟩:=Sat.EC.1 H2;refine iR H λb3 w4 H4 _=> ?_;simp only[AH];refine⟨_,(Iw (H4.front 1 rfl)).2.2,Xt (H4.front 4 rfl) λr8 N w9 H9=> ?_⟩;have a8:=Nj hI.inv.nd;have e0:mY L g.sl []=λ_=>none:=by funext k;unfold mY;simp
 have e1:Ad (aR E) L=Ad (dK E λx=>decide (x.kd∈([]:List Kd))) L:=Ad.congr λx _=>by simp[dK]
 refine AJ (λ_ w'=> ∃cur done N',Sat (PZ r8 g.bm (SM g.kinds g.sl) cur done N'::MapK b3 (mY L g.sl done)::Cells b E.Fb (LF g)::EJ g.bi .i64 (Gi (·.id) L)::EJ g.bb .u64 (Gi (·.base) L)::Ad (V4 E g.sl L) g.kinds::Ad (dK E λx=>decide (x.kd∈done)) L::Z) w') (λ_ w'=>NW r8 g.bm w') ⟨none,[],N,by rw[e0,<-e1];exact H9⟩ ?_;rintro _ _ cE ⟨cur,done,N',aJ⟩;rw[aJ.Mw];refine AU (R6 aJ (λcF a0 aS j=>AU (AO rfl ?_)) λk v cG N2 b5 b8 hN aK j=>AU (AS rfl λj2=>Ug aK λv' S' bG=> ?_))
 .have hd: ∀k,k∈done↔k∈g.kinds:=λk=>by
   rw[aS k];unfold SM
   grind
  refine AV (a0.front 2 rfl) (o:=0) (m:=2) rfl (by simp[LF]) λaZ a1=>bC aG aZ ?_
  let P:Kd->Bool:=λk=>k.2.2.2&& !(Ej L k).isEmpty
  have hP: ∀k,P k=true↔k.2.2.2=true/\Ej L k≠ []:=λk=>by simp[P]
  refine Sat.EC.2 ⟨{g with bm:=b3,kinds:=(g.kinds.filter P).map LS,sl:=λk=>g.sl (NF k)},⟨rM hI.inv,?_,?_⟩,?_⟩
  .refine List.Pairwise.map _ (λa c a9=> ?_) (List.Pairwise.and_mem.1 (hI.kn.filter P));obtain⟨ha,hc,aA⟩:=a9;intro e;have ha:=((hP a).1 (List.mem_filter.1 ha).2).1;have hc:=((hP c).1 (List.mem_filter.1 hc).2).1;exact aA (by rw[<-Ls ha,e,Ls hc])
  .intro x O;obtain⟨y,T,rfl⟩:=List.mem_map.1 O;refine List.mem_map.2 ⟨y.kd,List.mem_filter.2 ⟨hI.ks y T,(hP _).2 ⟨aG y T,λh=> ?_⟩⟩,rfl⟩;have:y∈Ej L y.kd:=EU.2 ⟨T,rfl⟩
   grind
  .have q1:mY L g.sl done=SM ((g.kinds.filter P).map LS) (λk=>g.sl (NF k)):=by
    funext k;unfold mY SM;have:(k.2.2.2=false/\NF k∈done/\Ej L (NF k)≠ [])↔k∈(g.kinds.filter P).map LS:=by
     rw[List.mem_map];constructor
     .rintro⟨h1,h2,h3⟩;exact⟨NF k,List.mem_filter.2 ⟨(hd _).1 h2,(hP _).2 ⟨rfl,h3⟩⟩,SS h1⟩
     .rintro⟨k',h1,rfl⟩;obtain⟨h2,h3⟩:=List.mem_filter.1 h1;obtain⟨h3,h4⟩:=(hP _).1 h3;rw[Ls h3];exact⟨rfl,(hd _).2 h2,h4⟩
    grind
   have q2:Ad (dK E λx=>decide (x.kd∈done)) L=Ad (aR E) (Ib L):=by
    unfold Ib Ad;rw[List.map_map];congr 1;refine List.map_congr_left λx O=> ?_;show aR E _=aR E x.flip;rw[if_pos (by simpa using(hd _).2 (hI.ks x O))]
   have q3:Ad (V4 E g.sl L) (g.kinds.filter P)=Ad (V4 E (λk=>g.sl (NF k)) (Ib L)) ((g.kinds.filter P).map LS):=by
    unfold Ad;rw[List.map_map];congr 1;refine List.map_congr_left λk hk=> ?_;have:=((hP k).1 (List.mem_filter.1 hk).2).1;show V4 E g.sl L k=V4 E (λk=>g.sl (NF k)) (Ib L) (LS k);unfold V4;rw[rN aG (k:=LS k) rfl];simp only[Ls this]
   have aL:=Sat.back (Ps:=_::_::_::_::_::_::_::Z) 2 a1;simp only[List.set_cons_succ,List.set_cons_zero]at aL;have aM:Sat (Ad (V4 E g.sl L) (g.kinds.filter P)::MapK b3 (mY L g.sl done)::Cells b E.Fb ((LF g).set 2 (.map (some b3)))::EJ g.bi .i64 (Gi (·.id) L)::EJ g.bb .u64 (Gi (·.base) L)::Ad (dK E λx=>decide (x.kd∈done)) L::Z) aZ:=by
    have h1:=(aL.tail.front 4 rfl).KO (L':=g.kinds.filter P++g.kinds.filter λk=> !P k) (List.filter_append_perm P g.kinds).symm;have h2:=Sat.iQ.1 h1;exact(h2.front 1 rfl).tail
   rw[q1,q2,q3]at aM;unfold N9;rw[SR (f:=(·.id)) (λ_=>rfl),SR (f:=(·.base)) (λ_=>rfl)];exact((((aM.front 0 rfl).front 1 rfl).front 4 rfl).front 4 rfl).front 4 rfl
 .obtain⟨hk,rfl⟩:=jW bG;refine YH (YI (AQ (vs:=[.int .i64 0,.bool false,.bool false,.bool false]) aK λa6 cI a2 _=> ?_));refine Gm (news:=OG k) a2 rfl (by simp[OG,Value.oneCell']) λcJ a3=> ?_;refine AV a3 (o:=0) (m:=3) rfl (by simp[OG]) λcK aE=> ?_;have hlen:=(rK (aE.front 6 rfl) hk).2;have bF:=YG L k;have bM:=hI.inv.JI;have e2:(λx:DW=>decide (x.kd∈done))=λx=>decide (x.kd∈done)||decide (x.id∈((Ej L k).take 0).map (·.id)):=by grind
  rw[e2]at aE;refine AJ (λst w'=> ∃i:Nat,st.1=(i:Int)/\i<=(Ej L k).length/\Sat (Cells a6 E.Js (OG (LS k))::PZ r8 g.bm (SM g.kinds g.sl) (some k) (done++[k]) N2::MapK b3 (mY L g.sl done)::Cells b E.Fb (LF g)::EJ g.bi .i64 (Gi (·.id) L)::EJ g.bb .u64 (Gi (·.base) L)::Ad (V4 E g.sl L) g.kinds::Ad (dK E λx=>decide (x.kd∈done)||decide (x.id∈((Ej L k).take i).map (·.id))) L::Z) w') (λst _=>((Ej L k).length-st.1).toNat)
   ⟨0,rfl,Nat.zero_le _,aE⟩ ?_
  rintro⟨i',u⟩ _ cL ⟨i,hi,b6,J⟩;dsimp only at hi⊢;subst hi;obtain⟨aV,_⟩:=rK (J.front 6 rfl) hk;refine AB (λb7=> ?_) λb4=> ?_
  .obtain⟨x,O⟩: ∃x,(Ej L k)[i]? =some x:=⟨_,List.getElem?_eq_getElem (by omega)⟩;obtain⟨a,ha,hc⟩:=jV aV O;have aH:=EU.1 (List.mem_of_getElem? O);rw[ha];simp only[AH];refine⟨⟨by omega,by omega⟩,some ⟨x.Gk,0,none⟩,hc,_,J.cell rfl,_,J.cell rfl,_,J.cell rfl,_,J.cell rfl,?_⟩;simp only[AH];obtain⟨jj,hj⟩:=List.mem_iff_getElem?.1 aH.1;have aD:((Ej L k).map (·.id)).Nodup:=List.Nodup.sublist (List.filter_sublist.map _) hI.inv.nd;have bP:x.id∉((Ej L k).take i).map (·.id):=λhm=>by
    obtain⟨y,T,e⟩:=List.mem_map.1 hm;obtain⟨n,hn⟩:=List.mem_iff_getElem?.1 T;rw[List.getElem?_take]at hn;split at hn
    .rename_i hni;have e2:=map_inj aD (List.mem_of_getElem? hn) (List.mem_of_getElem? O) e;subst e2;have n1:=(List.getElem?_eq_some_iff.1 hn);have n2:=(List.getElem?_eq_some_iff.1 O);have:=(List.getElem_inj (h₀:=n1.1) (h₁:=n2.1) (Nj aD)).1 (by grind);omega
    .cases hn
   have aB:=(J.front 7 rfl).HA hj;have ei:dK E (λx=>decide (x.kd∈done)||decide (x.id∈((Ej L k).take i).map (·.id))) x=Cells x.Gk E.Im (DE x):=by
    unfold dK;rw[if_neg]
    .rfl
    grind
   rw[ei]at aB;rw[add_eq];refine Xj [.int .i64 (LS k).1,.bool (LS k).2.1,.bool (LS k).2.2.1,.bool (LS k).2.2.2] (0+2) 0 aB (by simp[DE]) (by simp[Value.oneCell']) λcM aF=> ?_;have ec:List.take (0+2+0) (DE x)++[.int .i64 (LS k).1,.bool (LS k).2.1,.bool (LS k).2.2.1,.bool (LS k).2.2.2]++List.drop (0+2+0+[Value.int .i64 (LS k).1,.bool (LS k).2.1,.bool (LS k).2.2.1,.bool (LS k).2.2.2].length) (DE x)=DE x.flip:=by
    rw[<-aH.2];rfl
   rw[ec]at aF;have e3:Cells x.Gk E.Im (DE x.flip)=dK E (λx=>decide (x.kd∈done)||decide (x.id∈((Ej L k).take (i+1)).map (·.id))) x:=by
    unfold dK;rw[if_pos]
    .rfl
    .rw[FW O];simp
   have e4:Ad (dK E λx=>decide (x.kd∈done)||decide (x.id∈((Ej L k).take i).map (·.id))) (L.eraseIdx jj)=Ad (dK E λx=>decide (x.kd∈done)||decide (x.id∈((Ej L k).take (i+1)).map (·.id))) (L.eraseIdx jj):=Ad.congr λy T=>by
    have bH:y∈L:=List.mem_of_mem_eraseIdx T;have aA:y.id≠x.id:=λe=>aX a8 hj (map_inj hI.inv.nd bH aH.1 e▸T);unfold dK;rw[FW O,List.map_append];simp[aA]
   rw[e3,e4]at aF;have aN:=Sat.back (Ps:=_::_::_::_::_::_::_::_::Z) 7 (aF.JN hj);simp only[List.set_cons_succ,List.set_cons_zero]at aN;refine⟨⟨i+1,by rw[AM];rfl,by omega,aN⟩,?_⟩;rw[AM];omega
  .have bA:i=(Ej L k).length:=by omega
   have e5:Ad (dK E λx=>decide (x.kd∈done)||decide (x.id∈((Ej L k).take i).map (·.id))) L=Ad (dK E λx=>decide (x.kd∈done++[k])) L:=Ad.congr λx O=>by
    unfold dK;rw[bA,List.take_length];have:(decide (x.kd∈done)||decide (x.id∈(Ej L k).map (·.id)))=decide (x.kd∈done++[k]):=by
     have bO:x.id∈(Ej L k).map (·.id)↔x.kd=k:=by
      rw[List.mem_map];constructor
      .rintro⟨y,T,e⟩;have T:=EU.1 T;rw[<-map_inj hI.inv.nd T.1 O e];exact T.2
      .intro e;exact⟨x,EU.2 ⟨O,e⟩,rfl⟩
     grind
    grind
   rw[e5]at J;have hm: ∀{w'} {Y},Sat (PZ r8 g.bm (SM g.kinds g.sl) (some k) (done++[k]) N2::Y) w'->NW r8 g.bm w'<N':=λh=>by rw[h.Mw];exact hN
   refine AB (λbQ=> ?_) λb9=> ?_
   .have aA:Ej L k≠ []:=λh=>by grind
    have bE:k.2.2.2=true:=by
     cases hq:Ej L k with
     | nil=>grind
     | cons x r=>
      have O:=EU.1 (show x∈Ej L k by rw[hq];exact List.mem_cons_self)
      grind
    refine⟨_,J.cell rfl,_,J.cell rfl,_,J.cell rfl,_,J.cell rfl,Xs (n:=LS k) (J.front 2 rfl) λcN a4=> ?_⟩;have aC:=Sat.back (Ps:=_::_::_::_::_::_::_::_::Z) 2 a4;simp only[List.set_cons_succ,List.set_cons_zero]at aC;have et:=wK (sl:=g.sl) (done:=done) bE aA;unfold GJ at et;rw[et]at aC;exact⟨⟨_,_,_,aC.tail⟩,hm aC.tail⟩
   .have he:Ej L k=[]:=List.eq_nil_of_length_eq_zero (by omega);have aB:=J.tail;rw[<-rO (sl:=g.sl) (done:=done) (.inr he)]at aB
    grind
end
def L6{p:Nat->Prop}(h: ∃n,p n): ∃n,p n/\ ∀m,p m->n<=m:=by
 obtain⟨n,j⟩:=h
 induction n using Nat.strongRecOn with
 | _ n ih=>grind
def Nl{σ:Type}{s0:σ}{w0:World}{body:σ->(Nat->Value)->World->(σ->World->Prop)->Prop}(I:Nat->σ->World->Prop)(y:Nat)(h0:I y s0 w0)
  (h: ∀n s j w,I n s w->body s j w λs' w'=> ∃v,v<n/\I v s' w'):A9 σ s0 w0 body:=by
 classical
 let m:σ->World->Nat:=λs w=>if g: ∃n,I n s w then(L6 g).choose else 0
 refine AJ (λs w=> ∃n,I n s w) m ⟨y,h0⟩ λs j w g=> ?_;have hm:I (m s w) s w:=by
  show I (if g: ∃n,I n s w then(L6 g).choose else 0) s w;rw[dif_pos g];exact(L6 g).choose_spec.1
 have J:=h (m s w) s j w hm;have e:(λs' w'=> ∃v,v<m s w/\I v s' w')=λs' w'=>(∃n,I n s' w')/\m s' w'<m s w:=by
  funext s' w';refine propext ⟨λ⟨v,h1,h2⟩=>⟨⟨v,h2⟩,?_⟩,λ⟨h1,h2⟩=>⟨m s' w',h2,?_⟩⟩
  .show(if g: ∃n,I n s' w' then(L6 g).choose else 0)<_;rw[dif_pos ⟨v,h2⟩];exact Nat.lt_of_le_of_lt ((L6 ⟨v,h2⟩).choose_spec.2 _ h2) h1
  .show I (if g: ∃n,I n s' w' then(L6 g).choose else 0) s' w';rw[dif_pos h1];exact(L6 h1).choose_spec.1
 grind
structure Rc where
 Gk:Nat
 addr:Int
 kind:Int
 data:Int
def Rc.key(x:Rc):Int:=4*x.addr+x.kind
def G6(x:Rc):Option Addr:=some ⟨x.Gk,0,none⟩
def Fq:List Rc->Option Addr->Option Addr
 | [],p=>p
 | x::_,_=>G6 x
def fZ(E:Env)(x:Rc)(p:Option Addr):Pr:=Cells x.Gk E.Mx [.int .u64 x.addr,.int .i64 x.kind,.int .u64 x.data,.pointer p]
def GK(E:Env):List Rc->Option Addr->List Pr
 | [],_=>[]
 | x::r,p=>fZ E x (Fq r p)::GK E r p
def slotOf(b:Nat)(A:List Rc):Addr:=match A.getLast? with
 | none=>⟨b,0,none⟩
 | some x=>(Addr.mk x.Gk 0 none).add 3
def PU(A B:List Rc)(p:Option Addr):Fq (A++B) p=Fq A (Fq B p):=by cases A<;>rfl
def Nm(E:Env): ∀(A B:List Rc) (p:Option Addr),GK E (A++B) p=GK E A (Fq B p)++GK E B p
 | [],B,p=>rfl
 | x::A,B,p=>by
  show fZ E x (Fq (A++B) p)::GK E (A++B) p=fZ E x (Fq A (Fq B p))::(GK E A (Fq B p)++GK E B p);rw[PU,Nm E A B p]
def DX{a:Addr}{K:Addr->Prop}(h:K a):NC (some a) K:=by rw[AH];exact h
structure OB(R:List Rc):Prop where
 IJ:JH Rc.key R
 kd: ∀x∈R,1<=x.kind/\x.kind<=3/\0<=x.addr/\x.addr<18446744073709551616
 JI:R.length<=1099511627776
def F5(E:Env)(b:Nat)(A:List Rc)(p:Option Addr)(n:Int):List Pr:=Cells b E.Dj [.pointer (Fq A p),.int .i64 n]::GK E A p
def Jw(E:Env)(b:Nat)(R:List Rc):Pr:=Kk (OB R) (NR (F5 E b R none R.length))
section
variable{E:Env}{w:World}{Z:List Pr}{b:Nat}{R:List Rc}
def Sat.spec:Sat (Jw E b R::Z) w↔OB R/\Sat (F5 E b R none R.length++Z) w:=by
 unfold Jw;rw[Sat.where,Sat.star]
def aZ(H:Sat Z w){K:Option Addr->World->Prop}(v: ∀b w',Sat (Jw E b []::Z) w'->K (some ⟨b,0,none⟩) w'):F.MS E K w:=by
 unfold F.MS;refine AQ (vs:=[.pointer none,.int .i64 0]) H λb w' j _=>v b w' (Sat.spec.2 ⟨⟨.nil,λx y=>(by cases y),by decide⟩,j⟩)
def Oz(A:List Rc)(x:Rc):slotOf b (A++[x])=(Addr.mk x.Gk 0 none).add 3:=by
 unfold slotOf
 grind
def a7(A:List Rc)(x:Rc)(p:Option Addr):GK E (A++[x]) p=GK E A (G6 x)++[fZ E x p]:=by rw[Nm];rfl
def gA(A:List Rc)(x:Rc)(p:Option Addr):Fq (A++[x]) p=Fq A (G6 x):=by rw[PU];rfl
def VU{α:Type}(A:List α):A=[]∨ ∃j x,A=j++[x]:=by
 rcases List.eq_nil_or_concat A with h|⟨j,x,h⟩
 .grind
 grind
def Sat.YK{A:List Rc}{x:Rc}{p:Option Addr}{n:Int}:Sat (F5 E b (A++[x]) p n++Z) w↔Sat (fZ E x p::(F5 E b A (G6 x) n++Z)) w:=by
 unfold F5;rw[a7,gA];have hp:(Cells b E.Dj [.pointer (Fq A (G6 x)),.int .i64 n]::(GK E A (G6 x)++[fZ E x p])++Z).Perm (fZ E x p::(Cells b E.Dj [.pointer (Fq A (G6 x)),.int .i64 n]::GK E A (G6 x)++Z)):=by
  rw[List.cons_append,List.cons_append,List.append_assoc];exact(List.Perm.cons _ List.perm_middle).trans (.swap _ _ _)
 exact⟨λh=>h.perm hp,λh=>h.perm hp.symm⟩
def NG{A:List Rc}{p:Option Addr}{n:Int}(H:Sat (F5 E b A p n++Z) w):w.cell? (slotOf b A)=some (.pointer p):=by
 rcases VU A with rfl|⟨j,x,rfl⟩
 .exact H.Aa rfl
 .rw[Oz];exact(Sat.YK.1 H).cell rfl
def rQ{A:List Rc}{p q:Option Addr}{n:Int}(H:Sat (F5 E b A p n++Z) w){K:World->Prop}(v: ∀w',Sat (F5 E b A q n++Z) w'->K w'):stCells (slotOf b A) 0 [.pointer q] w K:=by
 rcases VU A with rfl|⟨y,x,rfl⟩
 .exact DZ H (o:=0) rfl (by simp) λw' j=>v w' j
 .rw[Oz];exact AV (Sat.YK.1 H) (o:=0) (m:=3) rfl (by simp) λw' j=>v w' (Sat.YK.2 j)
def Sat.YL{A B:List Rc}{y:Rc}{p:Option Addr}{n:Int}:Sat (F5 E b (A++y::B) p n++Z) w↔Sat (fZ E y (Fq B p)::(F5 E b A (G6 y) n++(GK E B p++Z))) w:=by
 unfold F5;rw[Nm,PU];show Sat (Cells b E.Dj [.pointer (Fq A (G6 y)),.int .i64 n]::(GK E A (G6 y)++fZ E y (Fq B p)::GK E B p)++Z) w↔_;have hp:(Cells b E.Dj [.pointer (Fq A (G6 y)),.int .i64 n]::(GK E A (G6 y)++fZ E y (Fq B p)::GK E B p)++Z).Perm (fZ E y (Fq B p)::(Cells b E.Dj [.pointer (Fq A (G6 y)),.int .i64 n]::GK E A (G6 y)++(GK E B p++Z))):=by
  rw[List.cons_append,List.cons_append,List.append_assoc,List.cons_append];exact(List.Perm.cons _ List.perm_middle).trans (.swap _ _ _)
 exact⟨λh=>h.perm hp,λh=>h.perm hp.symm⟩
def Jx{A B:List Rc}{p:Option Addr}{n:Int}:Sat (F5 E b (A++B) p n++Z) w↔Sat (F5 E b A (Fq B p) n++(GK E B p++Z)) w:=by
 unfold F5;rw[Nm,PU,List.cons_append,List.cons_append,List.append_assoc]
def Nn(H:Sat (Jw E b R::Z) w){a k:Int}(hk:0<=k/\k<=3){K:Option Addr->World->Prop}
  (hK: ∀A B,R=A++B->(∀x∈A,x.key<4*a+k)->(∀x∈B,4*a+k<=x.key)->K (some (slotOf b A)) w):F.EB E (some ⟨b,0,none⟩) a k K w:=by
 obtain⟨hI,H⟩:=Sat.spec.1 H;unfold F.EB;simp only[AH];refine Nl (λn st w'=>w'=w/\ ∃A B,st.1=some (slotOf b A)/\R=A++B/\(∀x∈A,x.key<4*a+k)/\n=B.length) R.length ⟨rfl,[],R,rfl,rfl,λx v=>(by cases v),rfl⟩ ?_;rintro n ⟨p,u⟩ _ w3 ⟨rfl,A,B,hp,hR,hA,hn⟩;dsimp only at hp⊢;subst hp;subst hR;have hs:=Jx.1 H;have J:=NG hs;have done:(∀x∈B,4*a+k<=x.key)->K (some (slotOf b A)) w3:=λT=>hK A B rfl hA T;refine AU ?_;simp only[AH];cases B with
 | nil=>exact⟨none,J,AO rfl (done λx v=>by cases v)⟩
 | cons y B=>
  have hy:=Sat.YL.1 H;have y0:w3.cell? (Addr.mk y.Gk 0 none)=some (.int .u64 y.addr):=hy.Aa rfl;have y1:w3.cell? ((Addr.mk y.Gk 0 none).add 1)=some (.int .i64 y.kind):=hy.cell rfl;have aJ:=hI.kd y (by simp);have O:=(List.pairwise_append.1 hI.IJ).2.1;have T:4*a+k<=y.key-> ∀x∈y::B,4*a+k<=x.key:=λh x v=>by
   rcases List.mem_cons.1 v with rfl|v
   .exact h
   .have:=(List.pairwise_cons.1 O).1 x v;omega
  have go:y.key<4*a+k-> ∃n',n'<n/\True/\ ∃Y B',some ((Addr.mk y.Gk 0 none).add 3)=some (slotOf b Y)/\A++y::B=Y++B'/\(∀x∈Y,x.key<4*a+k)/\n'=B'.length:=λh=>by
   refine⟨B.length,by rw[hn];grind,trivial,A++[y],B,by rw[Oz],by simp,λx v=> ?_,rfl⟩
   grind
  have aB:y.key=4*y.addr+y.kind:=rfl;refine⟨G6 y,J,AS rfl ⟨G6 y,J,DX ⟨y.addr,y0,AB (λg=> ?_) λg=>⟨G6 y,J,DX ⟨y.addr,y0,BI (λe=>⟨G6 y,J,DX ⟨y.kind,y1,AB (λg2=> ?_) λg2=>done (T (by omega))⟩⟩) λe=>done (T (by omega))⟩⟩⟩⟩⟩
  .exact λj=>⟨G6 y,J,DX (go (by omega))⟩
  .exact λj=>⟨G6 y,J,DX (go (by omega))⟩
end
def KH(x:Rc):List Value:=[.int .u64 x.addr,.int .i64 x.kind,.int .u64 x.data]
def Kf(x:Rc):(KH x).length=3:=rfl
def Md(x:Rc): ∀v∈KH x,v.oneCell'=true:=by intro v j;simp[KH]at j;rcases j with rfl|rfl|rfl<;>rfl
def a8{A B:List Rc}{a:Int}(hI:OB (A++B))(v: ∀x∈A,x.key<4*a+0)(y: ∀x∈B,4*a+0<=x.key):(∀x∈A,x.addr<a)/\ ∀x∈B,a<=x.addr:=by
 refine⟨λx j=> ?_,λx j=> ?_⟩
 .have:=v x j;have:=hI.kd x (by simp[j]);unfold Rc.key at *;omega
 .have:=y x j;have:=hI.kd x (by simp[j]);unfold Rc.key at *;omega
def a9{y:Rc}{B:List Rc}(hk: ∀x∈y::B,1<=x.kind/\x.kind<=3)(hs:JH Rc.key (y::B)): ∀x∈B,y.addr<=x.addr:=λx j=>by
 have:=(List.pairwise_cons.1 hs).1 x j;have h1:=hk y (by simp);have h2:=hk x (by simp[j]);unfold Rc.key at this;omega
def XG{a:Int}: ∀{B:List Rc},JH Rc.key B->(∀x∈B,1<=x.kind/\x.kind<=3)->(∀x∈B,a<=x.addr)->B.takeWhile (λy=>y.addr==a)=B.filter (λy=>y.addr==a)/\B.dropWhile (λy=>y.addr==a)=B.filter λy=> !(y.addr==a)
 | [],_,_,_=>⟨rfl,rfl⟩
 | y::B,hs,hk,ha=>by
  have v:=XG (a:=a) (List.pairwise_cons.1 hs).2 (λx j=>hk x (by simp[j])) λx j=>ha x (by simp[j]);by_cases e:y.addr=a
  .have K:(y.addr==a)=true:=by grind
   rw[List.takeWhile_cons_of_pos (by omega),List.filter_cons_of_pos (by omega),List.dropWhile_cons_of_pos (by omega),List.filter_cons_of_neg (by simp[e]),v.1,v.2]
   grind
  .have h1:=a9 hk hs;have h2:=ha y (by simp);have J: ∀x∈y::B,x.addr≠a:=λx j=>by
    rcases List.mem_cons.1 j with rfl|j
    .exact e
    .have:=h1 x j;omega
   rw[List.takeWhile_cons_of_neg (by grind),List.dropWhile_cons_of_neg (by grind)];refine⟨(List.filter_eq_nil_iff.2 λx j=> ?_).symm,(List.filter_eq_self.2 λx j=> ?_).symm⟩
   .grind
   grind
section
variable{E:Env}{w:World}{Z:List Pr}{b:Nat}{R:List Rc}
def gB{A B:List Rc}{n:Int}(H:Sat (F5 E b (A++B) none n++Z) w){a k:Int}{K:Bool->World->Prop}(h1: ∀y B',B=y::B'->y.addr=a->y.kind=k->K true w)(h0:(∀y B',B=y::B'-> ¬(y.addr=a/\y.kind=k))->K false w):
  F.NY E (some (slotOf b A)) a k K w:=by
 unfold F.NY;have j:=NG (Jx.1 H);simp only[AH];cases B with
 | nil=>exact⟨none,j,AO rfl (h0 λy B' h=>by cases h)⟩
 | cons y B=>
  have v:=Sat.YL.1 H;have J:w.cell? (Addr.mk y.Gk 0 none)=some (.int .u64 y.addr):=v.Aa rfl;have O:w.cell? ((Addr.mk y.Gk 0 none).add 1)=some (.int .i64 y.kind):=v.cell rfl;have no: ¬(y.addr=a/\y.kind=k)->K false w:=λh=>h0 λT B' e=>by grind
  refine⟨G6 y,j,AS rfl ⟨G6 y,j,DX ⟨y.addr,J,BI (λe=>⟨G6 y,j,DX ⟨y.kind,O,?_⟩⟩) λe=>no λh=>e h.1⟩⟩⟩
  try dsimp only
  by_cases g:y.kind=k
  .rw[show(y.kind==k)=true by grind];exact h1 y B rfl e g
  .rw[show(y.kind==k)=false by grind];exact no λh=>g h.2
def XH{A:List Rc}{p:Option Addr}{n m:Int}(H:Sat (F5 E b A p n++Z) w){K:World->Prop}(v: ∀w',Sat (F5 E b A p m++Z) w'->K w'):stCells ((Addr.mk b 0 none).add 1) 0 [.int .i64 m] w K:=
 AV H (o:=0) (m:=1) rfl (by simp) λw' j=>v w' j
def wL{A B:List Rc}{a k:Int}(hI:OB (A++B))(hk:1<=k/\k<=3)(O: ∀x∈A,x.key<4*a+k)(T: ∀x∈B,4*a+k<=x.key)(h: ∀y B',B=y::B'-> ¬(y.addr=a/\y.kind=k)): ∀x∈A++B,¬(x.addr=a/\x.kind=k):=by
 rintro x j ⟨J,K⟩;have v:x.key=4*a+k:=by unfold Rc.key;rw[J,K]
 rcases List.mem_append.1 j with j|j
 .grind
 .cases B with
  | nil=>cases j
  | cons y B=>
   rcases List.mem_cons.1 j with rfl|j
   .grind
   .have:=(List.pairwise_cons.1 (List.pairwise_append.1 hI.IJ).2.1).1 x j
    grind
def bA(H:Sat (Jw E b R::Z) w){a k:Int}(hk:1<=k/\k<=3){K:Int->Int->World->Prop}(T:(∀x∈R,¬(x.addr=a/\x.kind=k))->K 0 35 w)
  (Y: ∀A B y,R=A++y::B->y.addr=a->y.kind=k-> ∀w',Sat (Jw E b (A++B)::Z) w'->K y.data 0 w'):F.CE E (some ⟨b,0,none⟩) a k K w:=by
 have HS:=H;unfold F.CE T0.CE;refine Nn HS (by omega) λA B hR hA hB=> ?_;obtain⟨hI,H⟩:=Sat.spec.1 H;subst hR;refine gB H (λy B' e e1 e2=>AO rfl ?_) λaB=>AS rfl (T (wL hI hk hA hB aB));subst e;have hm:=Sat.YL.1 H;have hs:=Jx.1 H;simp only[AH];refine⟨G6 y,NG hs,DX ⟨Fq B' none,hm.cell rfl,?_⟩⟩;have aA:Sat (F5 E b A (G6 y) ((A++y::B').length:Int)++(fZ E y (Fq B' none)::(GK E B' none++Z))) w:=hm.perm List.perm_middle.symm;refine rQ aA λaC v=>⟨_,(show Sat (Cells b _ _::_) aC from v).cell rfl,XH v λO j=>DX ⟨y.data,?_,?_⟩⟩
 .exact(show Sat (fZ E y (Fq B' none)::_) O from j.perm List.perm_middle).cell rfl
 .refine Y A B' y rfl e1 e2 O (Sat.spec.2 ⟨⟨hI.IJ.sublist (by simp),λx J=>hI.kd x ?_,?_⟩,?_⟩)
  .rcases List.mem_append.1 J with J|J
   .simp[J]
   .simp[J]
  .have:=hI.JI;grind
  .have hf:=hI.JI;have e:i64 (((A++y::B').length:Int)-1)=((A++B').length:Int):=by
    rw[AM]
    grind
   rw[e]at j;exact Jx.2 (j.perm List.perm_middle).tail
def RV{A B:List Rc}{n:Int}(t:Int->Bool)(H:Sat (F5 E b (A++B) none n++Z) w)(hf:(A++B).length<=1099511627776){K:Ac->World->Prop}
  (hK: ∀s w',s.len=(B.takeWhile λy=>t y.addr).length->Sat (Row E.AN 3 s (Ao KH (B.takeWhile λy=>t y.addr))::(F5 E b (A++B) none n++Z)) w'->K s w'):
  A9 (Ac×(Option Addr)×Unit) (⟨none,0,0⟩,Fq B none,()) w λs5 _ J T=>
  CND (!s5.2.1.isNone) (
   NC s5.2.1 λp8=>
   ∃x9:Int,J.cell? p8=some (.int .u64 x9)/\
   CND (t x9) (
    NC s5.2.1 λY=>
    ∃aC:Int,J.cell? (Y.add 0)=some (.int .u64 aC)/\
    ∃aD:Int,J.cell? (Y.add 1)=some (.int .i64 aD)/\
    ∃aE:Int,J.cell? (Y.add 2)=some (.int .u64 aE)/\
    AL (.cells ⟨[.int .u64 aC,.int .i64 aD,.int .u64 aE]⟩ E.AN) J λaB aF=>
    APP E.AN 3 24 #[.int .u64 0,.int .i64 0,.int .u64 0] s5.1 ⟨(some (Addr.mk aB 0 none)),1,1⟩ aF λTq aA=>
    NC s5.2.1 λaL=>
    ∃aG:(Option Addr),aA.cell? (aL.add 3)=some (.pointer aG)/\
    T (Tq,aG,()) aA
   ) (
    K s5.1 J
   )
  ) (
   K s5.1 J
  ):=by
 refine Nl (λn' st w'=> ∃C D,st.2.1=Fq D none/\B=C++D/\(∀x∈C,t x.addr=true)/\n'=D.length/\Sat (Row E.AN 3 st.1 (Ao KH C)::(F5 E b (A++B) none n++Z)) w') B.length ⟨[],B,rfl,rfl,λx j=>(by cases j),rfl,H.nil E.AN 3⟩ ?_;rintro n' ⟨s,p,u⟩ _ J ⟨C,D,hp,hB,hC,hn,H6⟩;dsimp only at hp H6⊢;subst hp;have hl:=H6.Gb (by decide) Kf;have fin:(∀y D',D=y::D'->t y.addr=false)->K s J:=λh=>by
  have:B.takeWhile (λy=>t y.addr)=C:=by
   rw[hB,List.takeWhile_append_of_pos λx j=>hC x j];cases D with
   | nil=>simp
   | cons y D=>rw[List.takeWhile_cons_of_neg (by grind),List.append_nil]
  grind
 cases D with
 | nil=>exact AO rfl (fin λy D' h=>by cases h)
 | cons y D=>
  have eR:A++B=(A++C)++y::D:=by grind
  have hm: ∀{w':World} {v:List Value} {s':Ac},Sat (Row E.AN 3 s' v::(F5 E b (A++B) none n++Z)) w'->w'.cell? ((Addr.mk y.Gk 0 none).add 0)=some (.int .u64 y.addr)/\w'.cell? ((Addr.mk y.Gk 0 none).add 1)=some (.int .i64 y.kind)/\w'.cell? ((Addr.mk y.Gk 0 none).add 2)=some (.int .u64 y.data)/\w'.cell? ((Addr.mk y.Gk 0 none).add 3)=some (.pointer (Fq D none)):=λh=>by
   have h:=h.tail;rw[eR]at h;have h:=Sat.YL.1 h;exact⟨h.cell rfl,h.cell rfl,h.cell rfl,h.cell rfl⟩
  obtain⟨m0,m1,m2,_⟩:=hm H6;have hlen:C.length+1<=1099511627776:=by grind
  refine AS rfl (DX ⟨y.addr,by have:=m0;rwa[add_zero]at this,AP (λht=>DX ⟨_,m0,_,m1,_,m2,?_⟩) λht=>fin λy' D' e=>by cases e;exact ht⟩);refine AQ (vs:=KH y) H6 λaB aF aJ _=> ?_;refine GD (news:=KH y) (zs:= #[.int .u64 0,.int .i64 0,.int .u64 0]) (bytes:=24) aJ rfl rfl (Md y) (by omega) (by omega) λTq aA O _=>DX ⟨_,(hm O).2.2.2,?_⟩;refine⟨D.length,by rw[hn];grind,C++[y],D,rfl,by rw[hB];simp,λx j=> ?_,rfl,?_⟩
  .rcases List.mem_append.1 j with j|j
   .exact hC x j
   .simp at j;subst j;exact ht
  .rw[show Ao KH C++KH y=Ao KH (C++[y]) by rw[F9];simp[Ao]]at O;exact O
def Ta(H:Sat (Jw E b R::Z) w){x y:Int}{K:Ac->World->Prop}(Y: ∀s l w',l.length=s.len->(s.len=0↔ ∀z∈R,¬(x<=z.addr/\z.addr<y))->Sat (Row E.AN 3 s (Ao KH l)::Jw E b R::Z) w'->K s w'):
  F.Bx E (some ⟨b,0,none⟩) x y K w:=by
 have HS:=H;unfold F.Bx T0.Bx;refine Nn HS (by omega) λA B hR O T=> ?_;obtain⟨hI,H⟩:=Sat.spec.1 H;subst hR;refine DX ⟨Fq B none,NG (Jx.1 H),?_⟩;refine RV (λz=>decide (z<y)) H hI.JI λs w' v J=>Y s _ w' v.symm ?_ (((Sat.spec.2 ⟨hI,J.perm List.perm_middle.symm⟩)).perm (.swap _ _ _));obtain⟨h1,h2⟩:=a8 hI O T;have j:=(List.pairwise_append.1 hI.IJ).2.1;rw[v];cases B with
 | nil=>exact⟨λ_ z hz h=>by grind,λ_=>rfl⟩
 | cons q B=>
  have h3:=a9 (λz hz=>(hI.kd z (by simp;grind)).imp id λh=>h.1) j;have h4:=h2 q (by simp);by_cases e:q.addr<y
  .rw[List.takeWhile_cons_of_pos (by grind)]
   grind
  .rw[List.takeWhile_cons_of_neg (by grind)]
   grind
def QX(R:List Rc)(a:Int):List Rc:=R.filter λy=>y.addr==a
def QN(R:List Rc)(a:Int):List Rc:=R.filter λy=> !(y.addr==a)
def rR{A B:List Rc}{a:Int}(hI:OB (A++B))(K: ∀x∈A,x.key<4*a+0)(O: ∀x∈B,4*a+0<=x.key):B.takeWhile (λy=>y.addr==a)=QX (A++B) a/\A++B.dropWhile (λy=>y.addr==a)=QN (A++B) a:=by
 obtain⟨h1,h2⟩:=a8 hI K O;obtain⟨v,J⟩:=XG (a:=a) (List.pairwise_append.1 hI.IJ).2.1 (λx j=>(hI.kd x (by simp[j])).imp id λh=>h.1) h2;unfold QX QN;rw[List.filter_append,List.filter_append,v,J];have T:A.filter (λy=>y.addr==a)=[]:=List.filter_eq_nil_iff.2 λx j=>by grind
 have Y:A.filter (λy=> !(y.addr==a))=A:=List.filter_eq_self.2 λx j=>by grind
 grind
def gC(H:Sat (Jw E b R::Z) w){a:Int}{K:Ac->World->Prop}(O: ∀s w',s.len=(QX R a).length->Sat (Row E.AN 3 s (Ao KH (QX R a))::Jw E b R::Z) w'->K s w'):
  F.DQ E (some ⟨b,0,none⟩) a K w:=by
 have HS:=H;unfold F.DQ T0.DQ;refine Nn HS (by omega) λA B T y J=> ?_;obtain⟨hI,H⟩:=Sat.spec.1 H;subst T;refine DX ⟨Fq B none,NG (Jx.1 H),?_⟩;have e:=(rR hI y J).1;refine RV (λz=>z==a) H hI.JI λs w' v j=> ?_;rw[e]at v j;exact O s w' v (((Sat.spec.2 ⟨hI,j.perm List.perm_middle.symm⟩)).perm (.swap _ _ _))
def YM(H:Sat (Jw E b R::Z) w){a:Int}{K:Ac->World->Prop}(hK: ∀s w',s.len=(QX R a).length->Sat (Row E.AN 3 s (Ao KH (QX R a))::Jw E b (QN R a)::Z) w'->K s w'):
  F.Cn E (some ⟨b,0,none⟩) a K w:=by
 unfold F.Cn T0.Cn;refine gC H λs w2 hs H2=> ?_;have H3:=H2.front 1 rfl;refine Nn H3 (by omega) λA B hR hA hB=> ?_;obtain⟨hI,H3⟩:=Sat.spec.1 H3;subst hR;obtain⟨e1,e2⟩:=rR hI hA hB;have O:B=QX (A++B) a++B.dropWhile (λy=>y.addr==a):=by rw[<-e1,List.takeWhile_append_dropWhile]
 generalize hT:QX (A++B) a=T at *
 generalize hD:B.dropWhile (λy=>y.addr==a)=D at *
 have J:=hI.JI;have H4:Sat (F5 E b A (Fq B none) ((A++B).length:Int)++(GK E B none++(Row E.AN 3 s (Ao KH T)::Z))) w2:=Jx.1 H3;have aP:B.length=T.length+D.length:=by grind
 simp only[List.length_append]at J;refine AJ (λst w'=> ∃i:Nat,st.1=(i:Int)/\i<=T.length/\Sat (F5 E b A (Fq (B.drop i) none) ((A++B).length:Int)++(GK E (B.drop i) none++(Row E.AN 3 s (Ao KH T)::Z))) w') (λst _=>((T.length:Int)-st.1).toNat) ⟨0,rfl,Nat.zero_le _,H4⟩ ?_;rintro⟨i',u⟩ _ w6 ⟨i,hi,aT,j⟩;dsimp only at hi⊢;subst hi;rw[hs];refine AB (λg=> ?_) λg=> ?_
 .obtain⟨y,hy⟩: ∃y,B.drop i=y::B.drop (i+1):=⟨B[i]'(by omega),List.drop_eq_getElem_cons (by omega)⟩;rw[hy]at j;have hc:w6.cell? ((Addr.mk y.Gk 0 none).add 3)=some (.pointer (Fq (B.drop (i+1)) none)):=
   (show Sat (fZ E y (Fq (B.drop (i+1)) none)::_) w6 from j.perm List.perm_middle).cell rfl
  have H7:Sat (F5 E b A (G6 y) ((A++B).length:Int)++(GK E (B.drop (i+1)) none++(Row E.AN 3 s (Ao KH T)::Z))) w6:=(show Sat (fZ E y (Fq (B.drop (i+1)) none)::_) w6 from j.perm List.perm_middle).tail;simp only[AH];refine⟨G6 y,NG H7,DX ⟨_,hc,rQ H7 λaV aC=>⟨⟨i+1,by rw[AM];rfl,by omega,aC⟩,?_⟩⟩⟩;rw[AM];omega
 .have aE:i=T.length:=by omega
  have aD:B.drop i=D:=by rw[O,aE,List.drop_left]
  rw[aD]at j;simp only[AH];refine⟨_,(show Sat (Cells b _ _::_) w6 from j).cell rfl,XH j λaF v=>hK s aF hs ?_⟩;have en:i64 (((A++B).length:Int)-((T.length:Nat):Int))=((A++D).length:Int):=by
   rw[AM (by omega) (by grind)]
   grind
  rw[en]at v;rw[<-e2];have hIn:OB (A++D):=⟨hI.IJ.sublist (by grind),λx Y=>hI.kd x ?_,by grind⟩
  .exact(Sat.spec.2 ⟨hIn,Jx.2 v⟩).perm (.swap _ _ _)
  .rcases List.mem_append.1 Y with Y|Y
   .simp[Y]
   .rw[O];simp[Y]
end
structure SW where
 S:HS
 L:List DW
 R:List Rc
 em:List Rc
 OC:Int
 K6:Int
 BG:Int
 Dg:Int
def Ic(h s r:Nat)(em:Ac)(W:SW):List Value:=[.pointer (some ⟨h,0,none⟩),.pointer (some ⟨s,0,none⟩),.pointer (some ⟨r,0,none⟩),GJ em,.int .u64 W.OC,.int .u64 W.K6,.int .u64 W.BG,.int .u64 W.Dg]
def OD(E:Env)(b h s r:Nat)(W:SW)(em:Ac):List Pr:=[Cells b E.Dt (Ic h s r em W),B2 E h W.S,HO E s W.L,Jw E r W.R,Row E.AN 3 em (Ao KH W.em)]
def Ap(E:Env)(b h s r:Nat)(W:SW):Pr:=Ex λem:Ac=>NR (OD E b h s r W em)
structure Tb(x:SI):Prop where
 st:x.state=1
 cls:0<=x.cls/\x.cls<68
 el:x.elem=if x.cls=0 then x.AA*8192 else(AX x.cls).1
 slo:x.AK=if x.cls=0 then 1 else(AX x.cls).2.2.1
 mg:x.M6=(AX x.cls).2.2.2
 pg:1<=x.AA/\x.AA<=134217728/\(0<x.cls->x.AA=(AX x.cls).2.1)
 ba:0<=x.base/\x.base %8192=0/\x.base+x.AA*8192<=281474976710656
abbrev Af:=Int->Nat->Bool
def Af.set(U:Af)(id:Int)(u:Nat->Bool):Af:=λi=>if i=id then u else U i
structure BO(W:SW)(U M:Af):Prop where
 hI:BS W.S no
 sp: ∀id x,W.S.sp id=some x->Tb x.2/\SL x.2 (U id) (M id)
 it: ∀x∈W.L,∃y,W.S.sp x.id=some y/\y.2.base=x.base
def mZ:(LP.all λc=>decide (0<=c.1)&&(decide (0<=c.2.2.1)&&(decide (c.2.2.1<=1024)&&(decide (c.1*c.2.2.1<=c.2.1*8192)&&(decide (0<=c.2.2.2)&&(decide (c.2.2.2<4294967296)&&(decide (c.2.2.2=0)||(decide (8<=c.1)&&(decide (c.1<=32768)&&(decide (4294967296<=c.2.2.2*c.1)&&(decide ((c.2.2.2*c.1-4294967296)*c.2.2.1<c.2.2.2)&&(decide (1<=c.2.2.1)&&decide (1<=c.2.1)))))))))))))=true:=by decide+kernel
def wM:((LP.drop 1).all λc=>decide (8<=c.1)&&(decide (c.1<=32768)&&(decide (1<=c.2.2.1)&&(decide (1<=c.2.1)&&(decide (c.1 %8=0)&&decide (0<c.2.2.2))))))=true:=by decide+kernel
def cls0:AX 0=(0,0,0,0):=by decide+kernel
def L7{c:Int}(h0:0<c)(h1:c<68):8<=(AX c).1/\(AX c).1<=32768/\1<=(AX c).2.2.1/\1<=(AX c).2.1/\(AX c).1 %8=0/\0<(AX c).2.2.2:=by
 have h:=K4 (c:=c) (by omega) h1;have h2:(LP.drop 1)[c.toNat-1]? =some (AX c):=by grind
 have:=List.all_eq_true.1 wM _ (List.mem_of_getElem? h2)
 grind
def VV{c:Int}(h0:0<=c)(h1:c<68):0<=(AX c).1/\0<=(AX c).2.2.1/\(AX c).2.2.1<=1024/\(AX c).1*(AX c).2.2.1<=(AX c).2.1*8192/\0<=(AX c).2.2.2/\(AX c).2.2.2<4294967296/\
  ((AX c).2.2.2=0∨(8<=(AX c).1/\(AX c).1<=32768/\4294967296<=(AX c).2.2.2*(AX c).1/\((AX c).2.2.2*(AX c).1-4294967296)*(AX c).2.2.1<(AX c).2.2.2/\1<=(AX c).2.2.1/\1<=(AX c).2.1)):=by
 have:=List.all_eq_true.1 mZ _ (List.mem_of_getElem? (K4 h0 h1))
 grind
def Tb.size{x:SI}(h:Tb x):0<x.elem/\x.elem<=1099511627776/\1<=x.AK/\x.AK<=1024/\x.elem*x.AK<=x.AA*8192:=by
 have j:=h.cls;have hp:=h.pg;by_cases e:x.cls=0
 .have h1:=h.el;have h2:=h.slo
  grind
 .have h1:=h.el;have h2:=h.slo;rw[if_neg e]at h1 h2;have v:=L7 (c:=x.cls) (by omega) j.2;have y:=VV j.1 j.2
  grind
def Tb.jT{x:SI}(h:Tb x):jT x:=by
 have O:=h.cls;have hm:=h.mg;have K:=VV O.1 O.2;have hs:=h.size;refine⟨by omega,by omega,λg=> ?_⟩;have y:x.cls≠0:=λe=>by rw[e,cls0]at hm;grind
 have h1:=h.el;have h2:=h.slo;rw[if_neg y]at h1 h2;rcases K.2.2.2.2.2.2 with q|⟨q1,q2,q3,q4,q5,q6⟩
 .omega
 .rw[hm,h1,h2];generalize (AX x.cls).1=s at *
  generalize (AX x.cls).2.2.1=n at *
  generalize (AX x.cls).2.2.2=m at *
  have hn:n<=1024:=K.2.2.1;have aE:n*s<=1024*32768:=Int.mul_le_mul hn q2 (by omega) (by decide);refine⟨by omega,λoff o0 o1=> ?_⟩;have hr:=Int.emod_nonneg off (show s≠0 by omega);have aH:=Int.emod_lt_of_pos off (show 0<s by omega);have v:=Int.mul_ediv_add_emod off s;have J:0<=off/s:=Int.ediv_nonneg o0 (by omega);have aF:off/s<n:=Int.ediv_lt_of_lt_mul (by omega) o1;generalize off/s=q at *
  generalize off %s=r at *
  have T:off=s*q+r:=v.symm;obtain⟨e,he⟩: ∃e,e=m*s-4294967296:=⟨_,rfl⟩;have j:0<=e:=by omega
  have aC:m*s=4294967296+e:=by omega
  have e1:off*m=q*4294967296+(q*e+r*m):=by grind
  have h6:0<=q*e:=Int.mul_nonneg J j;have h7:0<=r*m:=Int.mul_nonneg hr (by omega);have h8:r*m<=(s-1)*m:=Int.mul_le_mul_of_nonneg_right (by omega) (by omega);have h9:(s-1)*m=m*s-m:=by grind
  have Y:(q+1)*e<=n*e:=Int.mul_le_mul_of_nonneg_right (by omega) j;have aA:(q+1)*e=q*e+e:=by grind
  have aB:e*n<m:=by rw[he];exact q4
  grind
def Tb.LL{x y:SI}(h:Tb x)(h1:y.base=x.base)(h2:y.AA=x.AA)(v:y.state=x.state)(j:y.cls=x.cls)(J:y.elem=x.elem)(K:y.AK=x.AK)(O:y.M6=x.M6):Tb y:=by
 refine⟨by rw[v];exact h.st,by rw[j];exact h.cls,by rw[J,j,h2];exact h.el,by rw[K,j];exact h.slo,by rw[O,j];exact h.mg,by rw[h2,j];exact h.pg,by rw[h1,h2];exact h.ba⟩
def wO{page n c:Int}{np:Bool}(h0:0<=page)(h1:page+n<=34359738368)(v: ¬Gl 0 n c)(K:0<=n):Tb (Gx page n c np):=by
 unfold Gl at v;have j:0<=c/\c<68:=by omega
 have y:=Ia j.1 j.2;have hp:0<c->n=(AX c).2.1:=λh=>Classical.byContradiction λg=>v (.inr (.inr (.inr (.inr (.inr (.inr ⟨h,g⟩))))));have J:n<=134217728:=by
  by_cases e:c=0
  .omega
  .have:=hp (by omega);omega
 refine⟨rfl,j,rfl,rfl,rfl,⟨by show 1<=n;omega,by show n<=_;omega,hp⟩,by show 0<=page*8192/\page*8192 %8192=0/\page*8192+n*8192<=_;omega⟩
def spOf_g{page n c:Int}{np:Bool}(h:Tb (Gx page n c np)):SL (Gx page n c np) (λ_=>false) λ_=>false:=by
 have hs:=h.size;refine⟨SK λ_=>rfl,SK λ_=>rfl,by show((0:Nat):Int)*64<=_;omega,by show((0:Nat):Int)*64<=_;omega,λi j=>(by cases j),λi j=>(by cases j),by omega,?_,⟨Int.le_refl 0,by show(0:Int)<=_;omega,λi j=> ?_⟩⟩
 .show(0:Int)=_;have:cN (λ_=>false) (Gx page n c np).AK.toNat=0:=by
   generalize (Gx page n c np).AK.toNat=m
   induction m with
   | zero=>rfl
   | succ m ih=>show cN _ m+0=0;rw[ih]
  omega
 .have j:(i:Int)<0:=j;omega
section
variable{E:Env}{w:World}{Z:List Pr}{b h s r:Nat}{W:SW}{U M:Af}
def Sat.Jy:Sat (Ap E b h s r W::Z) w↔ ∃em,Sat (OD E b h s r W em++Z) w:=by
 unfold Ap;rw[Sat.ex];exact⟨λ⟨g,h⟩=>⟨g,Sat.star.1 h⟩,λ⟨g,h⟩=>⟨g,Sat.star.2 h⟩⟩
def No{em:Ac}(H:Sat (OD E b h s r W em++Z) w):w.cell? (Addr.mk b 0 none)=some (.pointer (some ⟨h,0,none⟩))/\w.cell? ((Addr.mk b 0 none).add 1)=some (.pointer (some ⟨s,0,none⟩))/\w.cell? ((Addr.mk b 0 none).add 2)=some (.pointer (some ⟨r,0,none⟩))/\
  w.cell? ((Addr.mk b 0 none).add 3)=some (.slice em.base em.len em.cap)/\w.cell? ((Addr.mk b 0 none).add 4)=some (.int .u64 W.OC)/\w.cell? ((Addr.mk b 0 none).add 5)=some (.int .u64 W.K6)/\w.cell? ((Addr.mk b 0 none).add 6)=some (.int .u64 W.BG)/\w.cell? ((Addr.mk b 0 none).add 7)=some (.int .u64 W.Dg):=
 have H:Sat (Cells b E.Dt (Ic h s r em W)::_) w:=H
 ⟨H.Aa rfl,H.cell rfl,H.cell rfl,H.cell rfl,H.cell rfl,H.cell rfl,H.cell rfl,H.cell rfl⟩
def Sat.Ix(H:Sat (Ap E b h s r W::Z) w): ∃R,Sat (B2 E h W.S::R) w/\(∀{w'},Sat R w'->Sat Z w')/\ ∀{S' w'},Sat (B2 E h S'::R) w'->Sat (Ap E b h s r {W with S:=S'}::Z) w':=by
 obtain⟨em,H⟩:=Sat.Jy.1 H;exact⟨_,H.front 1 rfl,λh=>h.tail.tail.tail.tail,λ{S' w'} h'=>Sat.Jy.2 ⟨em,Sat.back (Ps:=OD E b h s r W em++Z) 1 h' (by simp[OD])⟩⟩
def Sat.O0(H:Sat (Ap E b h s r W::Z) w): ∃R,Sat (HO E s W.L::R) w/\(∀{w'},Sat R w'->Sat Z w')/\ ∀{L' w'},Sat (HO E s L'::R) w'->Sat (Ap E b h s r {W with L:=L'}::Z) w':=by
 obtain⟨em,H⟩:=Sat.Jy.1 H;exact⟨_,H.front 2 rfl,λh=>h.tail.tail.tail.tail,λ{S' w'} h'=>Sat.Jy.2 ⟨em,Sat.back (Ps:=OD E b h s r W em++Z) 2 h' (by simp[OD])⟩⟩
def Sat.rT(H:Sat (Ap E b h s r W::Z) w): ∃Q,Sat (Jw E r W.R::Q) w/\(∀{w'},Sat Q w'->Sat Z w')/\ ∀{R' w'},Sat (Jw E r R'::Q) w'->Sat (Ap E b h s r {W with R:=R'}::Z) w':=by
 obtain⟨em,H⟩:=Sat.Jy.1 H;exact⟨_,H.front 3 rfl,λh=>h.tail.tail.tail.tail,λ{S' w'} h'=>Sat.Jy.2 ⟨em,Sat.back (Ps:=OD E b h s r W em++Z) 3 h' (by simp[OD])⟩⟩
def Sat.OE(H:Sat (Ap E b h s r W::Z) w):w.cell? (Addr.mk b 0 none)=some (.pointer (some ⟨h,0,none⟩))/\w.cell? ((Addr.mk b 0 none).add 1)=some (.pointer (some ⟨s,0,none⟩))/\w.cell? ((Addr.mk b 0 none).add 2)=some (.pointer (some ⟨r,0,none⟩)):=by
 obtain⟨em,H⟩:=Sat.Jy.1 H;exact⟨(No H).1,(No H).2.1,(No H).2.2.1⟩
def SW.new(S:HS):SW:=⟨S,[],[],[],0,0,0,0⟩
def gE{S:HS}(H:Sat (Jw E r []::HO E s []::B2 E h S::Z) w){K:Option Addr->World->Prop}(v: ∀b w',Sat (Ap E b h s r (SW.new S)::Z) w'->K (some ⟨b,0,none⟩) w'):F.PN E (some ⟨h,0,none⟩) (some ⟨s,0,none⟩) (some ⟨r,0,none⟩) K w:=by
 unfold F.PN;refine AQ (vs:=Ic h s r ⟨none,0,0⟩ (SW.new S)) H λb1 y j _=>v b1 y (Sat.Jy.2 ⟨⟨none,0,0⟩,?_⟩);have h1:=j.nil E.AN 3;exact((((h1.front 0 rfl).front 2 rfl).front 3 rfl).front 4 rfl).front 4 rfl
def Me(H:Sat (Ap E b h s r W::Z) w){K:Option Addr->World->Prop}(j:K (some ⟨h,0,none⟩) w):F.EW E (some ⟨b,0,none⟩) K w:=by
 unfold F.EW;exact AF ⟨_,H.OE.1,j⟩
def S4(H:Sat (Ap E b h s r W::Z) w){K:Option Addr->World->Prop}(j:K (some ⟨s,0,none⟩) w):F.GZ E (some ⟨b,0,none⟩) K w:=by
 unfold F.GZ;exact AF ⟨_,H.OE.2.1,j⟩
def Ko:List Value:=[.int .u64 0,.int .i64 0,.int .i64 0,.int .i64 0,.bool false,.int .i64 0,.int .i64 0,.int .i64 0,.bool false,.bool false]
def Jz(x:SI):List Value:=[.int .u64 x.base,.int .i64 x.AA,.int .i64 x.state,.int .i64 x.cls,.bool x.G5,.int .i64 x.elem,.int .i64 x.AK,.int .i64 x.used,.bool x.f8,.bool x.f9]
def QO(H:Sat (Ap E b h s r W::Z) w)(hI:BO W U M){id:Int}{K:Option Addr->Int->Int->Int->Int->Bool->Int->Int->Int->Bool->Bool->Int->World->Prop}
  (aC:W.S.sp id=none-> ∀w',Sat (Ap E b h s r W::Z) w'->K none 0 0 0 0 false 0 0 0 false false 35 w')
  (aD: ∀x,W.S.sp id=some x->Tb x.2->SL x.2 (U id) (M id)-> ∀w',Sat (Ap E b h s r W::Z) w'->K (some ⟨x.1,0,none⟩) x.2.base x.2.AA x.2.state x.2.cls x.2.G5 x.2.elem x.2.AK x.2.used x.2.f8 x.2.f9 0 w'):
  F.BQ E (some ⟨b,0,none⟩) id K w:=by
 unfold F.BQ T0.BQ;refine AQ (vs:=Ko) H λb1 w2 O _=>AF ⟨_,(O.front 1 rfl).OE.1,?_⟩;obtain⟨R,HH,_,hb⟩:=(O.front 1 rfl:Sat (Ap E b h s r W::Cells b1 E.Bl Ko::Z) w2).Ix;refine U9 HH (λhn=> ?_) λx hx=> ?_
 .refine AS rfl ?_;refine Gm (news:=Ko) O rfl (by simp[Ko,Value.oneCell']) λw8 y=> ?_;exact⟨0,y.cell rfl,0,y.cell rfl,0,y.cell rfl,0,y.cell rfl,false,y.cell rfl,0,y.cell rfl,0,y.cell rfl,0,y.cell rfl,false,y.cell rfl,false,y.cell rfl,aC hn w8 y.tail⟩
 .obtain⟨Au,hg⟩:=hI.sp id x hx;obtain⟨R2,aE,aB⟩:=HH.M7 hx;refine AO rfl (Ma aE λaG T=> ?_);have Y:Sat (Ap E b h s r W::Cells b1 E.Bl Ko::Z) aG:=hb (aB T);refine AQ (vs:=Ko) Y λaJ aO aA _=> ?_;refine Gm (news:=Jz x.2) aA rfl (by simp[Jz,Value.oneCell']) λaP J=>⟨x.2.state,J.cell rfl,?_⟩;rw[Au.st];refine AO rfl ?_;have j:=J.drew;refine⟨_,j.cell rfl,_,j.cell rfl,_,j.cell rfl,_,j.cell rfl,_,j.cell rfl,_,j.cell rfl,_,j.cell rfl,_,j.cell rfl,_,j.cell rfl,_,j.cell rfl,?_⟩;refine Gm (news:=Jz x.2) (j.front 2 rfl) rfl (by simp[Jz,Value.oneCell']) λaH v=> ?_;exact⟨_,v.cell rfl,_,v.cell rfl,_,v.cell rfl,_,v.cell rfl,_,v.cell rfl,_,v.cell rfl,_,v.cell rfl,_,v.cell rfl,_,v.cell rfl,_,v.cell rfl,aD x hx Au hg aH v.tail.tail⟩
end
def bB{S:HS}{fl:Int->Bool}(hI:BS S fl){id:Int}{x:Nat×SI}(j:S.sp id=some x){p:Int}(h1:x.2.base/8192<=p)(h2:p<x.2.base/8192+x.2.AA):S.own p=id:=(hI.sp id x j).2.2.2.2 p h1 h2
def bC{S:HS}{fl:Int->Bool}(hI:BS S fl){i j:Int}{x y:Nat×SI}(v:S.sp i=some x)(J:S.sp j=some y)(h:x.2.base=y.2.base):i=j:=by
 have h1:=(hI.sp i x v).2.2.1;have h2:=(hI.sp j y J).2.2.1;rw[<-bB hI v (Int.le_refl _) (by omega),<-bB hI J (p:=x.2.base/8192) (by omega) (by omega)]
section
variable{E:Env}{w:World}{Z:List Pr}{b h s r:Nat}{W:SW}{U M:Af}
def BO.ofL(hI:BO W U M){L:List DW}(j: ∀x∈L,∃y,W.S.sp x.id=some y/\y.2.base=x.base):BO {W with L:=L} U M:=⟨hI.hI,hI.sp,j⟩
variable(hE:EnvW E)
include hE
theorem VW(H:Sat (Ap E b h s r W::Z) w)(hI:BO W U M){id:Int}{sw:Bool}(hf:W.L.length<1099511627776){K:Int->World->Prop}
  (aF:W.S.sp id=none-> ∀w',Sat (Ap E b h s r W::Z) w'->K 35 w')(aG:W.S.sp id≠none->(∃x∈W.L,x.id=id)-> ∀w',Sat (Ap E b h s r W::Z) w'->K 34 w')
  (aH: ∀x,W.S.sp id=some x->(∀y∈W.L,y.id≠id)-> ∀Gk,BO {W with L:=JG W.L ⟨Gk,id,x.2.base,(x.2.cls,x.2.G5,x.2.used==x.2.AK,sw)⟩} U M-> ∀w',
   Sat (Ap E b h s r {W with L:=JG W.L ⟨Gk,id,x.2.base,(x.2.cls,x.2.G5,x.2.used==x.2.AK,sw)⟩}::Z) w'->K 0 w'):F.Bd E (some ⟨b,0,none⟩) id sw K w:=by
 unfold F.Bd T0.Bd;refine QO H hI (λhn w' H'=> ?_) λx hx Au hg w' H'=> ?_
 .refine AQ (vs:=Ko) H' λaD aM O _=> ?_;refine Gm (news:=Ko) O rfl (by simp[Ko,Value.oneCell']) λaB T=>AS rfl (aF hn aB T.tail)
 .refine AQ (vs:=Ko) H' λaD aM O _=> ?_;refine Gm (news:=Jz x.2) O rfl (by simp[Jz,Value.oneCell']) λaB T=>AO rfl (AF ?_);have j:=T.drew;have Y:=j.front 1 rfl;refine⟨_,Y.OE.2.1,_,j.Aa rfl,_,j.cell rfl,_,j.cell rfl,_,j.cell rfl,_,j.cell rfl,?_⟩;obtain⟨R,HH,hz,hb⟩:=Y.O0;have aO:=(hI.hI.sp id x hx).1;have hc:=Au.cls;refine fX hE HH hf (λhb=> ?_) (λ_ hex=> ?_) λ_ aI Gk aN aA=> ?_
  .unfold OA at hb;omega
  .refine⟨j.cell rfl,j.cell rfl,aG (by grind) ?_ _ j.tail⟩;obtain⟨y,v,e⟩:=hex;refine⟨y,v,?_⟩;rcases e with e|e
   .exact e
   .obtain⟨z,aK,aL⟩:=hI.it y v;exact bC hI.hI aK hx (by rw[aL,e])
  .have J:=hz aA.tail;refine⟨J.cell rfl,J.cell rfl,aH x hx (λy v=>(aI y v).1) Gk (hI.ofL λy v=> ?_) aN ?_⟩
   .rcases LR.1 v with rfl|v
    .grind
    .exact hI.it y v
   .exact((hb aA).front 1 rfl).tail
end
section
variable{E:Env}{w:World}{Z:List Pr}{b h s r:Nat}{W:SW}{U M:Af}(hE:EnvW E)
include hE
theorem O1(H:Sat (Ap E b h s r W::Z) w)(hI:BO W U M){K:Int->Bool->World->Prop}(T:(∀x∈W.L,x.EO=true)-> ∀w',Sat (Ap E b h s r W::Z) w'->K 0 false w')
  (Y: ∀x,Nk W.L x->BO {W with L:=EY W.L x.id} U M-> ∀w',Sat (Ap E b h s r {W with L:=EY W.L x.id}::Z) w'->K x.id true w'):F.B3 E (some ⟨b,0,none⟩) K w:=by
 unfold F.B3 T0.B3;refine AF ⟨_,H.OE.2.1,?_⟩;obtain⟨R,HH,hz,hb⟩:=H.O0;refine YJ HH (λj w5 v=>AO rfl (T j w5 (hb v))) λx hx w5 v=>AS rfl ?_;have H6:=hb v;refine AF ⟨_,H6.OE.2.1,?_⟩;obtain⟨R2,J,aI,O⟩:=H6.O0;refine VR hE J (λaA=>absurd rfl (aA x hx.1)) λy hy e w9 H9=> ?_;exact Y x hx (hI.ofL λy hy=>hI.it y (Ds.1 hy).1) w9 (O H9)
end
structure QP(S S':HS):Prop where
 rest:S'={S with sp:=S'.sp}
 no: ∀id,S.sp id=none->S'.sp id=none
 sp: ∀id x,S.sp id=some x-> ∃mw,S'.sp id=some (x.1,{x.2 with mw:=mw})
def QP.refl(S:HS):QP S S:=⟨rfl,λ_ h=>h,λid x h=>⟨x.2.mw,h⟩⟩
def QP.put{S S':HS}(h:QP S S'){id:Int}{x:Nat×SI}(j:S'.sp id=some x)(mw:List Int):QP S (S'.put id (x.1,{x.2 with mw:=mw})):=by
 refine⟨?_,λi J=> ?_,λi y K=> ?_⟩
 .have:=h.rest;unfold HS.put;rw[this]
 .show(if i=id then _ else S'.sp i)=none;by_cases e:i=id
  .subst e;rw[h.no i J]at j;cases j
  .rw[if_neg e];exact h.no i J
 .obtain⟨v,h0⟩:=h.sp i y K;by_cases e:i=id
  .subst e;rw[j]at h0;have h0:=Option.some.inj h0;subst h0;exact⟨mw,HS.IQ⟩
  .exact⟨v,(HS.Ni e).trans h0⟩
def QP.own{S S':HS}(h:QP S S'):S'.own=S.own:=by rw[h.rest]
def mkOf(S:HS)(a:Int):Option (Int×Nat):=match S.sp (S.own (a/8192))with
 | none=>none
 | some x=>if x.2.base<=a/\a<x.2.base+x.2.AK*x.2.elem then some (S.own (a/8192),((a-x.2.base)/x.2.elem).toNat)else none
def YN{S S':HS}(h:QP S S')(a:Int):mkOf S' a=mkOf S a:=by
 unfold mkOf;rw[h.own];cases e:S.sp (S.own (a/8192))with
 | none=>rw[h.no _ e]
 | some x=>
  obtain⟨mw,h1⟩:=h.sp _ x e;rw[h1]
def Af.mark(M:Af)(S:HS)(j:List Int):Af:=λid k=>M id k||j.any λa=>decide (mkOf S a=some (id,k))
def BO.mark{W:SW}{U M:Af}(hI:BO W U M){id:Int}{x:Nat×SI}(J:W.S.sp id=some x){n:Nat}{mw:List Int}(O:SL {x.2 with mw:=mw} (U id) (λi=>M id i||i==n)):
  BO {W with S:=W.S.put id (x.1,{x.2 with mw:=mw})} U (λj i=>M j i||(decide (j=id)&&i==n)):=by
 obtain⟨Au,_⟩:=hI.sp id x J;refine⟨hI.hI.put J rfl rfl (by show x.2.state≠0;rw[Au.st];decide),λj y v=> ?_,λit dB=> ?_⟩
 .by_cases e:j=id
  .subst e;have v:(W.S.put j (x.1,{x.2 with mw:=mw})).sp j=some y:=v;rw[HS.IQ]at v;cases v;refine⟨Au.LL rfl rfl rfl rfl rfl rfl rfl,?_⟩;have:(λi=>M j i||(decide (j=j)&&i==n))=λi=>M j i||i==n:=by grind
   grind
  .have v:(W.S.put id (x.1,{x.2 with mw:=mw})).sp j=some y:=v;rw[HS.Ni e]at v;have:=hI.sp j y v;have K:(λi=>M j i||(decide (j=id)&&i==n))=M j:=by funext i;simp[e]
   grind
 .obtain⟨y,h1,h2⟩:=hI.it it dB;by_cases e:it.id=id
  .rw[e,J]at h1;cases h1;exact⟨(x.1,{x.2 with mw:=mw}),by rw[e];exact HS.IQ,h2⟩
  .exact⟨y,(HS.Ni e).trans h1,h2⟩
section
variable{E:Env}{w:World}{Z:List Pr}{b h s r:Nat}{W:SW}{U M:Af}(hE:EnvW E)
include hE
theorem bD(H:Sat (Ap E b h s r W::Z) w)(hI:BO W U M){a1:Ac}{v:List Int}(hA: ∀w',Sat Z w'->rowAt w' a1.base a1.len (ints .u64 v))(hl:v.length=a1.len)(bT:a1.len<=1099511627776)(has: ∀a∈v,0<=a/\a<18446744073709551616)
  {K:Int->World->Prop}(a4:0<MH W.L false-> ∀w',Sat (Ap E b h s r W::Z) w'->K 33 w')
  (a3:(∀x∈W.L,x.EO=true)-> ∀S',QP W.S S'->BO {W with S:=S',L:=Ib W.L} U (M.mark W.S v)-> ∀w',Sat (Ap E b h s r {W with S:=S',L:=Ib W.L}::Z) w'->K 0 w'):
  F.B4 E (some ⟨b,0,none⟩) a1 K w:=by
 unfold F.B4 T0.B4;refine AF ⟨_,H.OE.2.1,?_⟩;obtain⟨R,HH,hz,hb⟩:=H.O0;refine RU HH λw4 H4=>AB (λg=>a4 (by omega) w4 (hb H4)) λg=> ?_;have H5:=hb H4;have e0:M.mark W.S (v.take 0)=M:=by funext i k;simp[Af.mark]
 refine AJ (λst w'=> ∃(i:Nat) (S':HS),st.1=(i:Int)/\i<=v.length/\QP W.S S'/\BO {W with S:=S'} U (M.mark W.S (v.take i))/\Sat (Ap E b h s r {W with S:=S'}::Z) w') (λst _=>((v.length:Int)-st.1).toNat) ⟨0,W.S,rfl,Nat.zero_le _,QP.refl _,by rw[e0];exact hI,H5⟩ ?_;rintro⟨i',u⟩ _ w6 ⟨i,S',hi,bS,J,O,H6⟩;dsimp only at hi⊢;subst hi;refine AB (λbU=> ?_) λbR=> ?_
 .obtain⟨a,ha⟩: ∃a,v[i]? =some a:=⟨_,List.getElem?_eq_getElem (by omega)⟩;have aD:=has a (List.mem_of_getElem? ha);obtain⟨q,hq,a7⟩: ∃q,a1.base=some q/\w6.cell? (q.add (Int.toNat (i:Int)*1))=some (.int .u64 a):=by
   have hr:=hA w6 H6.tail;cases hb1:a1.base with
   | none=>rw[hb1]at hr;have:ints .u64 v=[]:=hr;simp[ints]at this;grind
   | some q=>rw[hb1]at hr;exact⟨q,rfl,by rw[Int.toNat_natCast,Nat.mul_one];exact hr.2 i _ (Od ha)⟩
  rw[hq];refine AF ⟨⟨by omega,by omega⟩,a,a7,AF ⟨_,H6.OE.1,?_⟩⟩;have a0:i64 ((i:Int)+1)=((i+1:Nat):Int):=by rw[AM];rfl
  rw[a0];have aV:v.take (i+1)=v.take i++[a]:=FW ha;obtain⟨R2,aB,bA,aC⟩:=H6.Ix;have skip:mkOf W.S a=none-> ∀w',Sat (Ap E b h s r {W with S:=S'}::Z) w'->((∃(aE:Nat) (S':HS),((i+1:Nat):Int)=(aE:Int)/\aE<=v.length/\QP W.S S'/\BO {W with S:=S'} U (M.mark W.S (v.take aE))/\Sat (Ap E b h s r {W with S:=S'}::Z) w')/\((v.length:Int)-((i+1:Nat):Int)).toNat<((v.length:Int)-(i:Int)).toNat):=λhn w' H'=>by
   refine⟨⟨i+1,S',rfl,by omega,J,?_,H'⟩,by omega⟩;have:M.mark W.S (v.take (i+1))=M.mark W.S (v.take i):=by
    funext j k;unfold Af.mark
    grind
   grind
  refine qM aB aD.1 aD.2 λbY aO=> ?_;refine QO (aC aO) O (λhn w' H'=> ?_) λx T Au hg w' H'=> ?_
  .refine AQ (vs:=Ko) H' λaU bB Y _=> ?_;refine Gm (news:=Ko) Y rfl (by simp[Ko,Value.oneCell']) λaL aA=>AS rfl ?_;refine skip ?_ aL aA.tail;rw[<-YN J];unfold mkOf
   grind
  .have T:S'.sp (S'.own (a/8192))=some x:=T;refine AQ (vs:=Ko) H' λaU bB Y _=> ?_;refine Gm (news:=Jz x.2) Y rfl (by simp[Jz,Value.oneCell']) λaL aA=>AO rfl ?_;obtain⟨R3,aS,bX,aX⟩:=aA.tail.Ix;obtain⟨R4,a8,aH⟩:=aS.jQ T;have aK:=Au.size;have bI:=Au.ba;have bV:=Au.pg;have aN: ∀{S:HS} {id:Int} {y:Nat×SI},S.sp id=some y->S.put id y=S:=λ{S id y} hy=>by
    unfold HS.put;have:(λi=>if i=id then some y else S.sp i)=S.sp:=by grind
    rw[this]
   refine WJ a8 Au.jT aK.1 (by omega) (by omega) (by omega) aD (λbH w' Hs=> ?_) λh1 h2 w' Hs=> ?_
   .refine AO rfl (skip ?_ w' ?_)
    .rw[<-YN J];unfold mkOf
     grind
    .have:=aH Hs
     grind
   .have a6:0<=(a-x.2.base)/x.2.elem:=Int.ediv_nonneg (by omega) (by omega);have aJ:(a-x.2.base)/x.2.elem<x.2.AK:=Int.ediv_lt_of_lt_mul aK.1 (by omega);obtain⟨n,hn⟩:=Int.eq_ofNat_of_zero_le a6;refine AS rfl ?_;rw[hn]at aJ⊢;refine Sy Hs hg Au.st aJ λmw' aZ bZ aP=> ?_;have aQ:=aX (aH aP);refine⟨⟨i+1,S'.put (S'.own (a/8192)) (x.1,{x.2 with mw:=mw'}),rfl,by omega,J.put T mw',?_,aQ⟩,by omega⟩;have hIn:=O.mark (W:={W with S:=S'}) T aZ;have em:M.mark W.S (v.take (i+1))=λj k=>M.mark W.S (v.take i) j k||(decide (j=S'.own (a/8192))&&k==n):=by
     funext j k;unfold Af.mark;rw[aV,List.any_append,<-Bool.or_assoc];congr 1;simp only[List.any_cons,List.any_nil,Bool.or_false];have:mkOf W.S a=some (S'.own (a/8192),n):=by
      rw[<-YN J];unfold mkOf;rw[T]
      grind
     grind
    grind
 .have a2:i=v.length:=by omega
  refine AF ⟨_,H6.OE.2.1,?_⟩;obtain⟨R2,aB,bA,aC⟩:=H6.O0;refine aY aB (λaI=>absurd aI (by grind)) λa9 bC aR=> ?_;rw[a2,List.take_length]at O;refine a3 a9 S' J (O.ofL λx T=> ?_) bC (aC aR);obtain⟨y,hy,rfl⟩:=List.mem_map.1 T;exact O.it y hy
end
structure gF where
 R:List Rc
 m:Nat->Bool
 em:List Rc
def Kq(a:Int)(y:Rc):Bool:=y.addr==a&&y.kind==1
def rU(R:List Rc)(a:Int):List Rc:=R.filter λy=> !Kq a y
def spStep(u:Nat->Bool)(base elem:Int)(k:Nat)(t:gF):gF:=
 if u k=true/\t.m k=false then
  match t.R.find? (Kq (base+k*elem))with
  | some y=>⟨rU t.R (base+k*elem),λi=>t.m i||i==k,t.em++[⟨0,base+k*elem,1,y.data⟩]⟩
  | none=>⟨QN t.R (base+k*elem),t.m,t.em++QX t.R (base+k*elem)⟩
 else t
def Mf(u:Nat->Bool)(base elem:Int):Nat->gF->gF
 | 0,t=>t
 | n+1,t=>spStep u base elem n (Mf u base elem n t)
def bE{u:Nat->Bool}{base elem:Int}{k:Nat}{t:gF}(h: ∀y∈t.R,y.addr≠base+k*elem):spStep u base elem k t=t:=by
 unfold spStep;split
 .have h1:t.R.find? (Kq (base+k*elem))=none:=by
   rw[List.find?_eq_none];intro y j;unfold Kq
   grind
  have h2:QN t.R (base+k*elem)=t.R:=List.filter_eq_self.2 λy j=>by grind
  have v:QX t.R (base+k*elem)=[]:=List.filter_eq_nil_iff.2 λy j=>by grind
  rw[h1];simp only;rw[h2,v,List.append_nil]
 .rfl
def VX{u:Nat->Bool}{base elem:Int}{t:gF}: ∀{n:Nat},(∀k,k<n-> ∀y∈t.R,y.addr≠base+(k:Int)*elem)->Mf u base elem n t=t
 | 0,_=>rfl
 | n+1,h=>by
  show spStep u base elem n (Mf u base elem n t)=t;rw[VX λk hk=>h k (by omega),bE (h n (by omega))]
def rcF{A B:List Rc}{y:Rc}{a:Int}(hI:OB (A++y::B))(h1:y.addr=a)(h2:y.kind=1):(A++y::B).find? (Kq a)=some y/\rU (A++y::B) a=A++B:=by
 have hs:=List.pairwise_append.1 hI.IJ;have O:Kq a y=true:=by unfold Kq;grind
 have v: ∀x,x.key≠y.key->Kq a x=false:=λx j=>by
  cases e:Kq a x with
  | false=>rfl
  | true=>
   unfold Kq at e;rw[Bool.and_eq_true,beq_iff_eq,beq_iff_eq]at e;exact absurd (by unfold Rc.key;omega) j
 have J: ∀x∈A,Kq a x=false:=λx j=>v x (by have:=hs.2.2 x j y (by simp);omega);have K: ∀x∈B,Kq a x=false:=λx j=>v x (by have:=(List.pairwise_cons.1 hs.2.1).1 x j;omega);constructor
 .grind
 .unfold rU;rw[List.filter_append,List.filter_cons_of_neg (by grind),List.filter_eq_self.2 λx j=>by grind,List.filter_eq_self.2 λx j=>by grind]
def rcN{R:List Rc}{a:Int}(h: ∀x∈R,¬(x.addr=a/\x.kind=1)):R.find? (Kq a)=none:=by
 rw[List.find?_eq_none];intro x j e;unfold Kq at e
 grind
def gG(R:List Rc)(a:Int):(QX R a).length+(QN R a).length=R.length:=by
 unfold QX QN
 induction R with
 | nil=>rfl
 | cons y R ih=>grind
def wP{R:List Rc}{a:Int}{y:Rc}(h:R.find? (Kq a)=some y):(rU R a).length+1<=R.length:=by
 have h1:=List.find?_some h;have h2:=List.mem_of_find?_eq_some h;unfold rU;have:(R.filter λy=> !Kq a y).length<R.length:=by
  refine Nat.lt_of_le_of_ne (List.length_filter_le _ _) λe=> ?_;have:=List.length_filter_eq_length_iff.1 e y h2
  grind
 omega
def gH{u:Nat->Bool}{base elem:Int}{k:Nat}{t:gF}:(spStep u base elem k t).em.length+(spStep u base elem k t).R.length<=t.em.length+t.R.length:=by
 unfold spStep;split
 .cases h:t.R.find? (Kq (base+k*elem))with
  | some y=>have:=wP h;grind
  | none=>have:=gG t.R (base+k*elem);grind
 omega
def PV{u:Nat->Bool}{base elem:Int}{t:gF}: ∀n,(Mf u base elem n t).em.length+(Mf u base elem n t).R.length<=t.em.length+t.R.length
 | 0=>Nat.le_refl _
 | n+1=>Nat.le_trans gH (PV n)
def rV{u:Nat->Bool}{base elem:Int}{k:Nat}{t:gF}(h: ∀i,t.m i=true->u i=true): ∀i,(spStep u base elem k t).m i=true->u i=true:=by
 unfold spStep
 grind
def YO{u:Nat->Bool}{base elem:Int}{t:gF}(h: ∀i,t.m i=true->u i=true): ∀n i,(Mf u base elem n t).m i=true->u i=true
 | 0=>h
 | n+1=>rV (YO h n)
def HS.Tx(S:HS)(id:Int)(a c:Nat×SI):(S.put id a).put id c=S.put id c:=by
 unfold HS.put
 grind
def HS.bF{S:HS}{id:Int}{x:Nat×SI}(j:S.sp id=some x):S.put id x=S:=by
 unfold HS.put;have:(λi=>if i=id then some x else S.sp i)=S.sp:=by grind
 rw[this]
section
variable{E:Env}{w:World}{Z:List Pr}{b h s r:Nat}{W:SW}{U M:Af}
def BO.rc(hI:BO W U M)(R:List Rc)(em:List Rc)(f d p c:Int):BO {W with R:=R,em:=em,OC:=f,Dg:=d,BG:=p,K6:=c} U M:=⟨hI.hI,hI.sp,hI.it⟩
def RW{F:List Pr}{t z bytes:Nat}{zs:Array Value}{s1 s2:Ac}{vs us:List Value}{K:Ac->World->Prop}(H:Sat (Row t z s1 vs::Row t z s2 us::F) w)(hz:zs.size=z)(T: ∀v∈us,v.oneCell'=true)
  (O:(s1.len+s2.len)*bytes<=140737488355328)(j:s1.len+s2.len<=9223372036854775807)(J: ∀s' w',Sat (Row t z s' (vs++us)::Row t z s2 us::F) w'->K s' w'):APP t z bytes zs s1 s2 w K:=
 Gq H hz (H.front 1 rfl).KN (H.front 1 rfl).EA T O j λs' w' y _=>J s' w' y
def Tc(H:Sat (Ap E b h s r W::Z) w)(hI:BO W U M){id:Int}{x:Nat×SI}(hx:W.S.sp id=some x)(cY:W.em.length+W.R.length<=1099511627776){K:World->Prop}{Kp:Value->World->Prop}
  (b8:(∃i,M id i=true/\U id i=false)-> ∀w',Sat (Ap E b h s r W::Z) w'->Kp (.iface E.HF (.agg ⟨[]⟩)) w')
  (hk:(∀i,M id i=true->U id i=true)-> ∀t,t=Mf (U id) x.2.base x.2.elem x.2.AK.toNat ⟨W.R,M id,W.em⟩-> ∀mw,BO {W with S:=W.S.put id (x.1,{x.2 with mw:=mw}),R:=t.R,em:=t.em} U (M.set id t.m)->
   ∀w',Sat (Ap E b h s r {W with S:=W.S.put id (x.1,{x.2 with mw:=mw}),R:=t.R,em:=t.em}::Z) w'->K w'):
  F.BD E (some ⟨b,0,none⟩) (some ⟨x.1,0,none⟩) x.2.base x.2.AA x.2.state x.2.cls x.2.G5 x.2.elem x.2.AK x.2.used x.2.f8 x.2.f9 K Kp w:=by
 unfold F.BD T0.BD;obtain⟨Au,hg⟩:=hI.sp id x hx;have cD:=Au.size;have cX:=Au.ba;have c9:=Au.pg;have J:W.S.put id (x.1,{x.2 with mw:=x.2.mw})=W.S:=HS.bF hx;have aV:M.set id (M id)=M:=by funext i;unfold Af.set;split;rename_i e;rw[e];rfl
 refine AQ (vs:=Jz x.2) H λb1 w2 H2 _=> ?_;obtain⟨R2,bL,dB,bT⟩:=(H2.front 1 rfl:Sat (Ap E b h s r W::Cells b1 E.Bl (Jz x.2)::Z) w2).Ix;obtain⟨R3,aN,bU⟩:=bL.M7 hx;have T: ∀{w'},Sat (DF E x.1 x.2::R3) w'->Sat (Ap E b h s r W::Cells b1 E.Bl (Jz x.2)::Z) w':=λh'=>bT (bU h');refine Pp aN hg (λhz=>AS rfl (b8 hz w2 ((T aN).front 1 rfl).tail)) λcB=>AO rfl (AF ?_);have H4:=(T aN).drew;have c4:=H4.front 1 rfl;refine⟨_,H4.OE.2.2,_,c4.Aa rfl,_,c4.Aa rfl,_,c4.cell rfl,?_⟩;rw[AI (n:=x.2.AA),AI (n:=x.2.AA*8192),AI (n:=x.2.base+x.2.AA*8192)];obtain⟨Q,bN,dD,bW⟩:=H4.rT;refine Ta bN λFJ l a2 cI aY a6=> ?_;have aG:=bW a6.tail;have aL:=aG.front 1 rfl;refine⟨aL.cell rfl,aL.Aa rfl,BI (λe0=> ?_) λe0=>⟨x.2.AK,aL.cell rfl,?_⟩⟩
 .-- no record
  have aW:=aY.1 (by omega);have aF:Mf (U id) x.2.base x.2.elem x.2.AK.toNat ⟨W.R,M id,W.em⟩=⟨W.R,M id,W.em⟩:=VX λk hk y hy e=>aW y hy (by
   have h1:0<=(k:Int)*x.2.elem:=Int.mul_nonneg (by omega) (by omega);have h2:((k:Int)+1)*x.2.elem<=x.2.AK*x.2.elem:=Int.mul_le_mul_of_nonneg_right (by omega) (by omega)
   grind)
  refine hk cB _ rfl x.2.mw ?_ a2 ?_
  .rw[aF,J,aV];exact hI
  .rw[aF,J];exact(aG.front 1 rfl).tail
 .-- slot for slot
  let tk:Nat->gF:=λk=>Mf (U id) x.2.base x.2.elem k ⟨W.R,M id,W.em⟩
  let Wk:Nat->List Int->SW:=λk mw=>{W with S:=W.S.put id (x.1,{x.2 with mw:=mw}),R:=(tk k).R,em:=(tk k).em}
  refine AJ (λst w'=> ∃(k:Nat) (mw:List Int),st.1=(k:Int)/\k<=x.2.AK.toNat/\BO (Wk k mw) U (M.set id (tk k).m)/\Sat (Ap E b h s r (Wk k mw)::Z) w') (λst _=>(x.2.AK-st.1).toNat) ⟨0,x.2.mw,rfl,Nat.zero_le _,?_,?_⟩ ?_
  .show BO {W with S:=W.S.put id (x.1,{x.2 with mw:=x.2.mw}),R:=W.R,em:=W.em} U (M.set id (M id));rw[J,aV];exact hI
  .show Sat (Ap E b h s r {W with S:=W.S.put id (x.1,{x.2 with mw:=x.2.mw}),R:=W.R,em:=W.em}::Z) a2;rw[J];exact(aG.front 1 rfl).tail
  rintro⟨k',u⟩ _ dG ⟨k,mw,aZ,c2,aC,aH⟩;dsimp only at aZ⊢;subst aZ;refine AB (λc5=> ?_) λc0=> ?_
  .have b7:i64 ((k:Int)+1)=((k+1:Nat):Int):=by rw[AM];rfl
   rw[b7];have aE:(Wk k mw).S.sp id=some (x.1,{x.2 with mw:=mw}):=HS.IQ;obtain⟨a1,aD⟩:=aC.sp id _ aE;have aU:(M.set id (tk k).m) id=(tk k).m:=if_pos rfl;rw[aU]at aD;have Y:=PV (u:=U id) (base:=x.2.base) (elem:=x.2.elem) (t:=⟨W.R,M id,W.em⟩) k;have Y:(tk k).em.length+(tk k).R.length<=W.em.length+W.R.length:=Y;have aQ: ∀{t':gF} {mw':List Int} {w'},spStep (U id) x.2.base x.2.elem k (tk k)=t'->BO {W with S:=W.S.put id (x.1,{x.2 with mw:=mw'}),R:=t'.R,em:=t'.em} U (M.set id t'.m)->Sat (Ap E b h s r {W with S:=W.S.put id (x.1,{x.2 with mw:=mw'}),R:=t'.R,em:=t'.em}::Z) w'->
     (∃(aA:Nat) (mw:List Int),((k+1:Nat):Int)=(aA:Int)/\aA<=x.2.AK.toNat/\BO (Wk aA mw) U (M.set id (tk aA).m)/\Sat (Ap E b h s r (Wk aA mw)::Z) w')/\(x.2.AK-((k+1:Nat):Int)).toNat<(x.2.AK-(k:Int)).toNat:=λ{t' mw' w'} ht hIn hS=>by
    refine⟨⟨k+1,mw',rfl,by omega,?_,?_⟩,by omega⟩
    .have:tk (k+1)=t':=ht
     grind
    .have:tk (k+1)=t':=ht
     grind
   have same: ∀{w'},¬(U id k=true/\(tk k).m k=false)->Sat (Ap E b h s r (Wk k mw)::Z) w'->_:=λ{w'} aM hS=>aQ (t':=tk k) (mw':=mw) (w':=w') (by unfold spStep;rw[if_neg aM]) aC hS;obtain⟨R4,bM,dC,bV⟩:=aH.Ix;obtain⟨R5,aO,aX⟩:=bM.M7 aE;refine aP aO aD (by omega) ?_;cases hu:U id k with
   | false=>exact AS rfl (same (by grind) aH)
   | true=>
   refine AO rfl (WI aO aD (by omega) ?_);cases hm:(tk k).m k with
   | true=>exact AS rfl (same (by grind) aH)
   | false=>
   have b0:U id k=true/\(tk k).m k=false:=⟨hu,hm⟩;refine AO rfl (Sx aO (by omega) (by omega) λcF a7=> ?_);have aI:Sat (Ap E b h s r (Wk k mw)::Z) cF:=bV (aX a7);have c6:0<=(k:Int)*x.2.elem:=Int.mul_nonneg (by omega) (by omega);have c7:((k:Int)+1)*x.2.elem<=x.2.AK*x.2.elem:=Int.mul_le_mul_of_nonneg_right (by omega) (by omega);have c8:((k:Int)+1)*x.2.elem=k*x.2.elem+x.2.elem:=by grind
   have cA:=cD.2.2.2.2;rw[Int.mul_comm x.2.elem]at cA;have ea:u64 (x.2.base+u64 (u64 (k:Int)*u64 x.2.elem))=x.2.base+k*x.2.elem:=by
    rw[AI (n:=(k:Int)),AI (n:=x.2.elem),AI (n:=(k:Int)*x.2.elem),AI]
   have bQ:u64 (({x.2 with mw:=mw}:SI).base+u64 (u64 (k:Int)*u64 ({x.2 with mw:=mw}:SI).elem))=x.2.base+k*x.2.elem:=ea;rw[bQ];generalize hA:x.2.base+(k:Int)*x.2.elem=A at *
   refine AF ⟨_,aI.OE.2.2,?_⟩;obtain⟨Q6,aT,dE,bX⟩:=aI.rT;refine bA aT (by decide) (λaM=> ?_) λA1 B1 y hR ey ek cG a8=> ?_
   .-- no finalizer
    refine AO rfl ?_;have aJ:=aI.drew;obtain⟨em,O⟩:=Sat.Jy.1 aJ;have aB:=No O;refine AF ⟨em,aB.2.2.2.1,AF ⟨_,aB.2.2.1,?_⟩⟩;have b5:(tk k).R.find? (Kq A)=none:=rcN aM;refine YM (O.front 3 rfl) λLb a4 a0 bI=> ?_;have bJ:Sat ((OD E b h s r (Wk k mw) em++Row E.AN 3 Lb (Ao KH (QX (tk k).R A))::Z).set 3 (Jw E r (QN (tk k).R A))) a4:=by
     have h1:=bI.front 1 rfl;exact Sat.back (Ps:=OD E b h s r (Wk k mw) em++Row E.AN 3 Lb (Ao KH (QX (tk k).R A))::Z) 3 (h1.perm (by
      refine .cons _ ?_;exact(List.perm_middle (l₁:=[_,_,_,_]) (l₂:=Z)).symm)) (by simp[OD])
    have aK:Sat (Row E.AN 3 em (Ao KH (tk k).em)::Row E.AN 3 Lb (Ao KH (QX (tk k).R A))::Cells b E.Dt (Ic h s r em (Wk k mw))::B2 E h (Wk k mw).S::HO E s W.L::Jw E r (QN (tk k).R A)::Z) a4:=(bJ.front 5 rfl).front 5 rfl;have b9:(tk k).em.length=em.len:=(aK.Gb (by decide) Kf).1;have c3:Lb.len=(QX (tk k).R A).length:=a0;have cJ:=gG (tk k).R A;refine⟨(aK.front 2 rfl).cell rfl,?_⟩;refine RW (bytes:=24) aK rfl (IE Md _) (by omega) (by omega) λuX dK bK=>AF ?_;refine AV (bK.front 2 rfl) (o:=0) (m:=3) (v:=GJ uX) rfl (by simp[Ic]) λcH aS=> ?_;have et:spStep (U id) x.2.base x.2.elem k (tk k)=⟨QN (tk k).R A,(tk k).m,(tk k).em++QX (tk k).R A⟩:=by
     unfold spStep
     grind
    refine aQ (mw':=mw) et ?_ ?_
    .exact aC.rc (QN (tk k).R A) ((tk k).em++QX (tk k).R A) W.OC W.Dg W.BG W.K6
    .refine Sat.Jy.2 ⟨uX,?_⟩;rw[<-F9]at aS;have h1:Sat (Row E.AN 3 uX (Ao KH ((tk k).em++QX (tk k).R A))::Cells b E.Dt (Ic h s r uX (Wk k mw))::B2 E h (Wk k mw).S::HO E s W.L::Jw E r (QN (tk k).R A)::Z) cH:=by
      have h0:=(aS.front 2 rfl).tail;exact h0.front 0 rfl|>.perm (.swap _ _ _)|>.perm (.swap _ _ _)|>.perm (.swap _ _ _)
     exact h1.perm (List.perm_middle (l₁:=[_,_,_,_]) (l₂:=Z)).symm
   .-- a finalizer
    have hR:(tk k).R=A1++y::B1:=hR;have bS:OB (tk k).R:=(Sat.spec.1 aT).1;obtain⟨b3,b4⟩:=rcF (hR▸bS) ey ek;rw[<-hR]at b3 b4;have aJ:Sat (Ap E b h s r {Wk k mw with R:=A1++B1}::Z) cG:=bX a8;obtain⟨em,O⟩:=Sat.Jy.1 aJ;have aB:=No O;refine AS rfl (AF ⟨em,aB.2.2.2.1,?_⟩);refine AQ (vs:=KH ⟨0,A,1,y.data⟩) O λcO dH a9 _=> ?_;have aR:=a9.FP 4 rfl;have b9:(tk k).em.length=em.len:=((aR.front 1 rfl).Gb (by decide) Kf).1;refine GD (news:=KH ⟨0,A,1,y.data⟩) (bytes:=24) aR rfl rfl (Md _) (by omega) (by omega) λZj dI bB _=>AF ?_;refine AV (bB.front 1 rfl) (o:=0) (m:=3) (v:=GJ Zj) rfl (by simp[Ic]) λa3 bC=> ?_;have er:Ao KH (tk k).em++KH ⟨0,A,1,y.data⟩=Ao KH ((tk k).em++[⟨0,A,1,y.data⟩]):=by rw[F9];simp[Ao]
    have bD:Sat (Cells b E.Dt (Ic h s r Zj (Wk k mw))::Row E.AN 3 Zj (Ao KH ((tk k).em++[⟨0,A,1,y.data⟩]))::B2 E h (Wk k mw).S::HO E s W.L::Jw E r (A1++B1)::Z) a3:=by rw[<-er];exact bC
    have bE:Sat (Ap E b h s r {Wk k mw with R:=A1++B1,em:=(tk k).em++[⟨0,A,1,y.data⟩]}::Z) a3:=Sat.Jy.2 ⟨Zj,bD.perm (.cons _ (List.perm_middle (l₁:=[_,_,_]) (l₂:=Z)).symm)⟩;obtain⟨R7,bO,dF,bY⟩:=bE.Ix;obtain⟨R8,cC,bZ⟩:=bO.jQ aE;refine Sy cC aD a1.st (by omega) λmw' b6 dJ bH=> ?_;have cM:=bY (bZ bH);have et:spStep (U id) x.2.base x.2.elem k (tk k)=⟨A1++B1,λi=>(tk k).m i||i==k,(tk k).em++[⟨0,A,1,y.data⟩]⟩:=by
     unfold spStep
     grind
    refine aQ (mw':=mw') et ?_ ?_
    .have h1:=(aC.mark aE (n:=k) (mw:=mw') (by rw[aU];exact b6)).rc (A1++B1) ((tk k).em++[⟨0,A,1,y.data⟩]) W.OC W.Dg W.BG W.K6;have e1:(λj i=>M.set id (tk k).m j i||(decide (j=id)&&i==k))=M.set id λi=>(tk k).m i||i==k:=by
      funext j i;unfold Af.set;by_cases e:j=id
      .simp[e]
      .simp[e]
     rw[e1]at h1;have e2:(Wk k mw).S.put id (x.1,{x.2 with mw:=mw'})=W.S.put id (x.1,{x.2 with mw:=mw'}):=HS.Tx _ _ _ _
     grind
    .have e2:(Wk k mw).S.put id (x.1,{x.2 with mw:=mw'})=W.S.put id (x.1,{x.2 with mw:=mw'}):=HS.Tx _ _ _ _
     grind
  .have c1:k=x.2.AK.toNat:=by omega
   grind
end
section
variable{E:Env}{h:Nat}{S:HS}{Z:List Pr}{w:World}
def Sat.bG(H:Sat (B2 E h S::Z) w){id:Int}{x:Nat×SI}(y:S.sp id=some x): ∃R:List Pr,Sat (DF E x.1 x.2::R) w/\(∀{w'},Sat R w'->Sat Z w')/\ ∀{I:SI} {w'},Sat (DF E x.1 I::R) w'->Sat (B2 E h (S.put id (x.1,I))::Z) w':=by
  obtain⟨g,hI,H⟩:=Sat.heap.1 H;have hm:id∈g.ids:=(hI.mem id).2 (by grind);obtain⟨i,v⟩:=List.mem_iff_getElem?.1 hm;have H1:=(H.front 6 rfl).HA v;have e:spR E S.sp id=DF E x.1 x.2:=by unfold spR;rw[y]
  rw[e]at H1;refine⟨_,H1,λh=>h.tail.tail.tail.tail.tail.tail.tail.tail,λ{I w'} h'=>Sat.heap.2 ⟨g,⟨hI.nd,λj=> ?_⟩,?_⟩⟩
  . rw[hI.mem];show _↔(if j=id then some (x.1,I)else S.sp j)≠none
    grind
  . have J:spR E (S.put id (x.1,I)).sp id=DF E x.1 I:=by unfold spR;rw[HS.IQ]
    have K:Ad (spR E S.sp) (g.ids.eraseIdx i)=Ad (spR E (S.put id (x.1,I)).sp) (g.ids.eraseIdx i):=Ad.congr λj Y=>by
      have:j≠id:=λe=>Ox hI.nd v (e▸Y);unfold spR;rw[HS.Ni this]
    rw[<-J,K]at h';have h2:=Sat.JN h' v;have h3:=Sat.back (Ps:=Dd E h S g++Z) 6 h2 (by simp[Dd]);have O:FC S.sp=FC (S.put id (x.1,I)).sp:=by
      funext j;unfold FC;by_cases e:j=id
      . rw[e,HS.IQ,y];rfl
      . rw[HS.Ni e]
    have e4:(Dd E h S g++Z).set 6 (Ad (spR E (S.put id (x.1,I)).sp) g.ids)=Dd E h (S.put id (x.1,I)) g++Z:=by
      show [Cells h E.Al (Cd g S.hint S.AA),DT E g.m S.V,By E g.t S.T,C5 E g.a S.ks S.own,IP E g.f S.fx,EJ g.sm .i64 (FC S.sp),_,_]++Z=_;rw[O];rfl
    grind
end
def J0(x:SI)(uw:List Int)(u:Nat->Bool):SI:={x with uw:=uw,mw:=[],used:=(cN u x.AK.toNat:Nat),look:=0}
def GA:Nat->Bool:=λ_=>false
def O2(W:SW)(U M:Af)(id:Int)(Cr:Bool)(n:Nat)(gone:Bool)(W':SW)(U' M':Af):Prop:=
  ∃(x:Nat×SI) (t:gF) (uw:List Int),W.S.sp id=some x/\(∀i,M id i=true->U id i=true)/\t=Mf (U id) x.2.base x.2.elem x.2.AK.toNat ⟨W.R,M id,W.em⟩/\
    n=cN (λi=>U id i&& !t.m i) x.2.AK.toNat/\U'=U.set id (λi=>U id i&&t.m i)/\M'=M.set id GA/\
    ∃j:SW,j={W with S:=W.S.put id (x.1,J0 x.2 uw λi=>U id i&&t.m i),R:=t.R,em:=t.em,OC:=u64 (W.OC+n),Dg:=u64 (W.Dg+x.2.AA)}/\
    ((Cr=true/\((cN (λi=>U id i&&t.m i) x.2.AK.toNat:Nat):Int)<x.2.AK/\gone=false/\W'=j)∨
     (¬(Cr=true/\((cN (λi=>U id i&&t.m i) x.2.AK.toNat:Nat):Int)<x.2.AK)/\cN (λi=>U id i&&t.m i) x.2.AK.toNat=0/\gone=true/\ ∃a:Nat,id=(a:Int)+1/\W'={j with S:=j.S.free a (x.2.base/8192) x.2.AA})∨
     (¬(Cr=true/\((cN (λi=>U id i&&t.m i) x.2.AK.toNat:Nat):Int)<x.2.AK)/\cN (λi=>U id i&&t.m i) x.2.AK.toNat≠0/\gone=false/\ ∃Gk,W'={j with L:=JG W.L ⟨Gk,id,x.2.base,(x.2.cls,x.2.G5,((cN (λi=>U id i&&t.m i) x.2.AK.toNat:Nat):Int)==x.2.AK,true)⟩}))
section
variable{E:Env}{w:World}{Z:List Pr}{b h s r:Nat}{W:SW}{U M:Af}
def st_nil{a:Addr}{i:Nat}{w:World}{K:World->Prop}(h:K w):stCells a i [] w K:=h
def gI{b1 j v:Nat}{K:World->Prop}(y:K w):F.Cq E (some ⟨b1,0,none⟩) (some ⟨j,0,none⟩) (some ⟨v,0,none⟩) .nilIface K w:=by
  unfold F.Cq;exact⟨rfl,AS rfl y⟩
def rW{b1 y J t1 t3 t5:Nat}{v1 v3 v5:Value}(H:Sat (Cells b1 t1 [v1]::Cells y t3 [v3]::Cells J t5 [v5]::Z) w){K:World->Prop}
    (hK: ∀w',Sat (Cells b1 t1 [.int .i64 0]::Cells y t3 [.bool false]::Cells J t5 [.int .i64 40]::Z) w'->K w'):F.Cq E (some ⟨b1,0,none⟩) (some ⟨y,0,none⟩) (some ⟨J,0,none⟩) (.iface E.HF (.agg ⟨[]⟩)) K w:=by
  unfold F.Cq;refine⟨rfl,AO rfl ?_⟩;unfold TAS;simp only[Nat.beq_refl];have go: ∀K:nR (.agg [])->Prop,K ()->unVT (.agg []) (.agg ⟨[]⟩) K:=λK h=>h;refine go _ ?_;refine AS rfl (AQ (vs:=[]) H λb4 w5 T _=> ?_);refine st_nil (AF (DZ (T.front 1 rfl) (o:=0) rfl (by simp) λw8 Y=>AF (DZ (Y.front 2 rfl) (o:=0) rfl (by simp) λaD j=>AF (DZ (j.front 3 rfl) (o:=0) rfl (by simp) λO v=>hK O ?_))));exact(((v.front 3 rfl).tail).front 1 rfl).front 2 rfl
def Sat.skip{X P:Pr}{F:List Pr}(H:Sat (X::P::F) w):Sat (X::F) w:=(H.front 1 rfl).tail
def Af.set_set(U:Af)(id:Int)(u v:Nat->Bool):(U.set id u).set id v=U.set id v:=by
  funext i;unfold Af.set
  grind
def Af.Np(U:Af)(id:Int)(u:Nat->Bool):(U.set id u) id=u:=if_pos rfl
def Af.O3(U:Af)(id:Int):U.set id (U id)=U:=by
  funext i;unfold Af.set;split
  . rename_i e;rw[e]
  . rfl
def BO.putS{W:SW}{U M:Af}(hI:BO W U M){id:Int}{x:Nat×SI}(J:W.S.sp id=some x){I:SI}{u m:Nat->Bool}(h1:I.base=x.2.base)(h2:I.AA=x.2.AA)(K:I.state=x.2.state)(Y:I.cls=x.2.cls)(h5:I.elem=x.2.elem)(h6:I.AK=x.2.AK)(h7:I.M6=x.2.M6)(hg:SL I u m):
    BO {W with S:=W.S.put id (x.1,I)} (U.set id u) (M.set id m):=by
  obtain⟨Au,_⟩:=hI.sp id x J;refine⟨hI.hI.put J h1 h2 (by rw[K,Au.st];decide),λj y v=> ?_,λit dB=> ?_⟩
  . by_cases e:j=id
    . subst e;have v:(W.S.put j (x.1,I)).sp j=some y:=v;rw[HS.IQ]at v;cases v;rw[Af.Np,Af.Np];exact⟨Au.LL h1 h2 K Y h5 h6 h7,hg⟩
    . have v:(W.S.put id (x.1,I)).sp j=some y:=v;rw[HS.Ni e]at v;have O:U.set id u j=U j:=if_neg e;have T:M.set id m j=M j:=if_neg e;rw[O,T];exact hI.sp j y v
  . obtain⟨y,g1,g2⟩:=hI.it it dB;by_cases e:it.id=id
    . rw[e,J]at g1;cases g1;exact⟨(x.1,I),by rw[e];exact HS.IQ,h1.trans g2⟩
    . exact⟨y,(HS.Ni e).trans g1,g2⟩
variable(hE:EnvW E)
include hE
theorem Nq(hT: ∀w',Sat Z w'->Em E.AG w')(H:Sat (Ap E b h s r W::Z) w)(hI:BO W U M){id:Int}{Cr:Bool}(hf:W.L.length<1099511627776)(b8:W.em.length+W.R.length<=1099511627776)(hL: ∀y∈W.L,y.id≠id)
    {K:Int->Bool->Int->World->Prop}(b9:W.S.sp id=none-> ∀w',Sat (Ap E b h s r W::Z) w'->K 0 false 35 w')
    (cA: ∀x,W.S.sp id=some x->(∃i,M id i=true/\U id i=false)-> ∀w',Sat (Ap E b h s r W::Z) w'->K 0 false 40 w')
    (hk: ∀n gone W' U' M',O2 W U M id Cr n gone W' U' M'->BO W' U' M'-> ∀w',Sat (Ap E b h s r W'::Z) w'->K n gone 0 w'):
    F.BR E (some ⟨b,0,none⟩) id Cr K w:=by
  unfold F.BR T0.BR;refine AQ (vs:=[.int .i64 0]) H λb1 w2 H2 _=>AQ (vs:=[.bool false]) H2 λb3 w4 H4 _=>AQ (vs:=[.int .i64 0]) H4 λb5 w6 H6 _=> ?_;have a5:Sat (Ap E b h s r W::Cells b5 E.CM [.int .i64 0]::Cells b3 E.AY [.bool false]::Cells b1 E.Ep [.int .i64 0]::Z) w6:=H6.front 3 rfl;refine QO a5 hI (λhn w' H'=> ?_) λx hx Au hg w' H'=> ?_
  . refine AQ (vs:=Ko) H' λaB cG aG _=> ?_;refine Gm (news:=Ko) aG rfl (by simp[Ko,Value.oneCell']) λcH aH=> ?_;refine DZ (aH.front 2 rfl) (o:=0) rfl (by simp) λcI O=>⟨35,O.Aa rfl,AS rfl ?_⟩;have aZ:=O.drew;refine⟨35,aZ.Aa rfl,DZ (aZ.front 4 rfl) (o:=0) rfl (by simp) λc5 a0=>⟨(a0.front 1 rfl).Aa rfl,DZ (a0.front 4 rfl) (o:=0) rfl (by simp) λc6 a1=>⟨(a1.front 2 rfl).Aa rfl,DZ (a1.front 2 rfl) (o:=0) rfl (by simp) λcJ aI=> ?_⟩⟩⟩;exact⟨0,(aI.front 2 rfl).Aa rfl,false,(aI.front 1 rfl).Aa rfl,35,aI.Aa rfl,b9 hn cJ aI.tail.tail.tail.tail⟩
  . refine AQ (vs:=Ko) H' λaB cG aG _=> ?_;refine Gm (news:=Jz x.2) aG rfl (by simp[Jz,Value.oneCell']) λcH aH=> ?_;refine DZ (aH.front 2 rfl) (o:=0) rfl (by simp) λcI O=>⟨0,O.Aa rfl,AO rfl ?_⟩;have v:=O.front 1 rfl;refine⟨_,v.cell rfl,_,v.cell rfl,_,v.cell rfl,_,v.cell rfl,_,v.cell rfl,_,v.cell rfl,_,v.cell rfl,_,v.cell rfl,_,v.cell rfl,_,v.cell rfl,?_⟩;have c2:=Au.size;refine Tc (O.front 2 rfl) hI hx b8 (λhz cK aJ=> ?_) λbJ t ht mw hIn cK aJ=> ?_
    . refine rW (((aJ.front 1 rfl).front 3 rfl).front 4 rfl) λcP aO=> ?_;exact⟨0,aO.Aa rfl,false,(aO.front 1 rfl).Aa rfl,40,(aO.front 2 rfl).Aa rfl,cA x hx hz cP aO.tail.tail.tail.skip⟩
    . have cC: ∀i,t.m i=true->U id i=true:=by rw[ht];exact YO bJ _
      obtain⟨R1,a8,cE,bD⟩:=aJ.Ix;have aY:(W.S.put id (x.1,{x.2 with mw:=mw})).sp id=some (x.1,{x.2 with mw:=mw}):=HS.IQ;obtain⟨bK,bF⟩:=hIn.sp id _ aY;rw[Af.Np]at bF;obtain⟨R2,bM,cF,bE⟩:=a8.bG aY;refine YE (λw' h'=>hT w' (cE (cF h')).tail.tail.tail.tail) bM bF bK.st (λ⟨i,h1,h2⟩=>absurd (cC i h1) (by grind)) λ_ uw s43 bH T c7 a2=> ?_;have aS:=bD (bE a2.tail);have bN:VQ {x.2 with mw:=mw} uw (U id) t.m=J0 x.2 uw λi=>U id i&&t.m i:=rfl;rw[bN,HS.Tx]at aS;rw[bN]at bH;have bC:=hIn.putS aY (I:=J0 x.2 uw λi=>U id i&&t.m i) rfl rfl rfl rfl rfl rfl rfl bH;rw[Af.set_set]at bC;have T:s43.len=cN (λi=>U id i&& !t.m i) x.2.AK.toNat:=T;obtain⟨n,hn⟩: ∃n,n=cN (λi=>U id i&& !t.m i) x.2.AK.toNat:=⟨_,rfl⟩;have cT:=Oh (λi=>U id i&& !t.m i) x.2.AK.toNat;rw[<-hn]at T;rw[T];refine DZ (aS.front 4 rfl) (o:=0) rfl (by simp) λcL a3=> ?_;have aA:Sat (Ap E b h s r {W with S:=W.S.put id (x.1,J0 x.2 uw λi=>U id i&&t.m i),R:=t.R,em:=t.em}::Cells b1 E.Ep [.int .i64 (n:Int)]::Cells b5 E.CM [.int .i64 0]::Cells aB E.Bl (Jz x.2)::Cells b3 E.AY [.bool false]::Z) cL.drew:=(a3.drew).front 1 rfl;obtain⟨em,aT⟩:=Sat.Jy.1 aA;have bB:=No aT;refine AF ⟨_,bB.2.2.2.2.1,_,(aA.front 1 rfl).Aa rfl,AF ?_⟩;refine AV (show Sat (Cells b E.Dt _::_) _ from aT) (o:=0) (m:=4) rfl (by simp[Ic]) λc8 a4=> ?_;have aK:=a4.drew;refine AF ⟨_,aK.cell rfl,_,(aK.front 7 rfl).cell rfl,AF (AV aK (o:=0) (m:=7) rfl (by simp[Ic]) λcM aU=> ?_)⟩;rw[AI (n:=(n:Int)),AI (n:=x.2.AA) (by have:=Au.pg;omega) (by have:=Au.pg;omega)]at aU;obtain⟨Y,aD⟩: ∃Y:SW,Y={W with S:=W.S.put id (x.1,J0 x.2 uw λi=>U id i&&t.m i),R:=t.R,em:=t.em,OC:=u64 (W.OC+n),Dg:=u64 (W.Dg+x.2.AA)}:=⟨_,rfl⟩;have bQ:Sat (Ap E b h s r Y::Cells b1 E.Ep [.int .i64 (n:Int)]::Cells b5 E.CM [.int .i64 0]::Cells aB E.Bl (Jz x.2)::Cells b3 E.AY [.bool false]::Z) cM:=Sat.Jy.2 ⟨em,by rw[aD];exact aU⟩;have aC:BO Y (U.set id λi=>U id i&&t.m i) (M.set id GA):=by
        rw[aD];have h1:=bC.rc t.R t.em (u64 (W.OC+n)) (u64 (W.Dg+x.2.AA)) W.BG W.K6;rw[show(W.S.put id (x.1,{x.2 with mw:=mw})).put id (x.1,J0 x.2 uw λi=>U id i&&t.m i)=W.S.put id (x.1,J0 x.2 uw λi=>U id i&&t.m i)from HS.Tx _ _ _ _]at h1;exact h1
      clear aU aK a4 aT aA a3 aS a2 bM bE a8 bD aJ O v aH aG H' a5 H6 H4 H2 bB;have aQ:Y.L=W.L:=by rw[aD]
      have aF:Y.S.sp id=some (x.1,J0 x.2 uw λi=>U id i&&t.m i):=by rw[aD];exact HS.IQ
      have mk: ∀gone W',_->O2 W U M id Cr n gone W' (U.set id λi=>U id i&&t.m i) (M.set id GA):=λgone W' h=>⟨x,t,uw,hx,bJ,ht,hn,rfl,rfl,Y,aD,h⟩;refine Aj (λ_ w'=> ∃gone W',O2 W U M id Cr n gone W' (U.set id λi=>U id i&&t.m i) (M.set id GA)/\BO W' (U.set id λi=>U id i&&t.m i) (M.set id GA)/\ ∃vs,Sat (Cells b1 E.Ep [.int .i64 (n:Int)]::Cells b3 E.AY [.bool gone]::Cells b5 E.CM [.int .i64 0]::Ap E b h s r W'::Cells aB E.Bl vs::Z) w') ?_ ?_
      . obtain⟨R3,bY,c3,b4⟩:=bQ.Ix;obtain⟨R4,cB,b6⟩:=bY.M7 aF;refine Ma cB λdC bS=> ?_;have bT:=b4 (b6 bS);refine Gm (news:=Jz (J0 x.2 uw λi=>U id i&&t.m i)) (bT.front 3 rfl) rfl (by simp[Jz,Value.oneCell']) λbO aL=> ?_;have e1:(J0 x.2 uw λi=>U id i&&t.m i).used=(cN (λi=>U id i&&t.m i) x.2.AK.toNat:Nat):=rfl;have e2:(J0 x.2 uw λi=>U id i&&t.m i).AK=x.2.AK:=rfl;have aM:Sat (Ap E b h s r Y::Cells aB E.Bl (Jz (J0 x.2 uw λi=>U id i&&t.m i))::Cells b1 E.Ep [.int .i64 (n:Int)]::Cells b5 E.CM [.int .i64 0]::Cells b3 E.AY [.bool false]::Z) bO:=aL.front 1 rfl;refine Aj (λst w'=>w'=bO/\(st.1=true↔Cr=true/\((cN (λi=>U id i&&t.m i) x.2.AK.toNat:Nat):Int)<x.2.AK)) ?_ ?_
        . cases aX:Cr with
          | false=>exact AO rfl ⟨rfl,by simp⟩
          | true=>exact AS rfl ⟨_,aL.cell rfl,_,aL.cell rfl,rfl,by grind⟩
        . rintro⟨kp,u⟩ _ dD ⟨rfl,aX⟩;dsimp only at aX⊢;refine AP (λJ=> ?_) λc0=>⟨_,aL.cell rfl,BI (λh0=> ?_) λh0=> ?_⟩
          . have bI:=aX.1 J;exact⟨false,Y,mk _ _ (.inl ⟨bI.1,bI.2,rfl,rfl⟩),aC,_,((aM.front 3 rfl).front 4 rfl).front 4 rfl⟩
          . have aE: ¬(Cr=true/\((cN (λi=>U id i&&t.m i) x.2.AK.toNat:Nat):Int)<x.2.AK):=λh=>by grind
            have aW:cN (λi=>U id i&&t.m i) x.2.AK.toNat=0:=by omega
            refine AF ⟨_,aM.OE.1,?_⟩;obtain⟨R5,bZ,c4,b7⟩:=aM.Ix;refine fQ hE.toEnvA bZ aC.hI (λhn=>by rw[aF]at hn;cases hn) (λy J hu=> ?_) λy a J hu ha aP dE bU=> ?_
            . rw[aF]at J;cases J;rw[e1]at hu;omega
            . rw[aF]at J;cases J;have bV:=b7 bU;refine DZ (bV.front 4 rfl) (o:=0) rfl (by simp) λdF bW=> ?_;refine⟨true,{Y with S:=Y.S.free a (x.2.base/8192) x.2.AA},mk _ _ (.inr (.inl ⟨aE,aW,rfl,a,ha,rfl⟩)),⟨aP,λj y J=> ?_,λit dB=> ?_⟩,Jz (J0 x.2 uw λi=>U id i&&t.m i),?_⟩
              . have J:(if j=(a:Int)+1 then none else Y.S.sp j)=some y:=J;split at J
                . cases J
                . exact aC.sp j y J
              . obtain⟨y,g1,g2⟩:=aC.it it dB;refine⟨y,?_,g2⟩;show(if it.id=(a:Int)+1 then none else Y.S.sp it.id)=some y
                grind
              . exact((bW.front 4 rfl).front 1 rfl).front 4 rfl
          . have aE: ¬(Cr=true/\((cN (λi=>U id i&&t.m i) x.2.AK.toNat:Nat):Int)<x.2.AK):=λh=>by grind
            have aW:cN (λi=>U id i&&t.m i) x.2.AK.toNat≠0:=λh=>h0 (by omega);refine VW hE aM aC (by grind) (λhn=>by grind) (λ_ ⟨y,J,e⟩=>absurd e (hL y (by rw[<-aQ];exact J))) λy J c1 Gk aP dG a6=> ?_;rw[aF]at J;cases J;rw[aQ]at aP a6;refine⟨false,_,mk _ _ (.inr (.inr ⟨aE,aW,rfl,Gk,rfl⟩)),aP,Jz (J0 x.2 uw λi=>U id i&&t.m i),?_⟩;exact((a6.front 3 rfl).front 4 rfl).front 4 rfl
      . rintro _ _ c9 ⟨gone,W',bL,b0,vs,bR⟩;have aV:=bR.drew;refine⟨_,aV.Aa rfl,_,(aV.front 1 rfl).Aa rfl,DZ aV (o:=0) rfl (by simp) λdH a7=>⟨(a7.front 1 rfl).Aa rfl,DZ (a7.front 1 rfl) (o:=0) rfl (by simp) λdI bX=>DZ (bX.front 2 rfl) (o:=0) rfl (by simp) λcO aN=>gI ?_⟩⟩;exact⟨_,(aN.front 2 rfl).Aa rfl,_,(aN.front 1 rfl).Aa rfl,_,aN.Aa rfl,hk n gone W' _ _ bL b0 cO aN.tail.tail.tail.skip⟩
end
section
variable{E:Env}{w:World}{Rs Z:List Pr}
def gJ(H:Sat Z w){n r:Int}{K:Int->World->Prop}(T: ∀w',Sat Z w'->K (timesV n r) w'):F.HY E n r K w:=by
 unfold F.HY T0.HY F.Ea;have main: ∀(x:Nat) w',Sat Z w'->(bif (DY x 4895412794951729152==some .gt||DY x 4895412794951729152==some .eq)then(18446744073709551615:Int)else bif (DY x 4607182418800017408==some .gt||DY x 4607182418800017408==some .eq)then(Rv x).getD 0 else 0)=timesV n r->
   CND ((DY x 4895412794951729152==some .gt||DY x 4895412794951729152==some .eq)) (K 18446744073709551615 w')
    (CND ((DY x 4607182418800017408==some .gt||DY x 4607182418800017408==some .eq)) (∃j:Int,Rv x=some j/\(IntKind.min .u64<=j/\j<=IntKind.max .u64)/\K j w') (K 0 w')):=by
  intro x w' O e;have hk:=T w' O;refine AP (λh2=> ?_) λh2=>AP (λh1=> ?_) λh1=> ?_
  .rw[h2]at e;rw[<-e]at hk;exact hk
  .obtain⟨k,v,Y⟩:=YB h1 (by rw[h2];decide);refine⟨k,v,⟨by show(0:Int)<=k;omega,by show(k:Int)<=18446744073709551615;omega⟩,?_⟩;rw[h2,h1,cond_false,cond_true,v]at e;rw[<-e]at hk;exact hk
  .rw[h2,h1,cond_false,cond_false]at e;rw[<-e]at hk;exact hk
 have key:FRES (JD .mul (Lv n) r.toNat) w λy J=>
   CND ((DY y 4895412794951729152==some .gt||DY y 4895412794951729152==some .eq)) (K 18446744073709551615 J)
    (CND ((DY y 4607182418800017408==some .gt||DY y 4607182418800017408==some .eq)) (∃j:Int,Rv y=some j/\(IntKind.min .u64<=j/\j<=IntKind.max .u64)/\K j J) (K 0 J)):=by
  cases hx:JD .mul (Lv n) r.toNat with
  | some x=>
   refine main x w H ?_;unfold timesV;rw[hx]
  | none=>
   intro t;refine main (kS t) w.drew H.drew ?_;rw[Tv,Tv,Mc hx];rfl
 exact key
end
section
variable{W:SW}{U M:Af}
def BO.Cr(hI:BO W U M){S2:HS}{p n c page id:Int}{np:Bool}{K:Nat}{X:FX}(hf:Found W.S p n page S2)(hX:Next S2 id X)(h0:0<=page)(h1:page+n<=34359738368)(hb: ¬Gl 0 n c)(hn:0<=n)(O:BS (S2.Cr id (K,Gx page n c np) page n X) no):
  BO {W with S:=S2.Cr id (K,Gx page n c np) page n X} (U.set id GA) (M.set id GA)/\W.S.sp id=none:=by
 have es:=hf.same;have v:W.S.sp id=none:=by
  refine Classical.byContradiction λg=> ?_;obtain⟨a,ha,h2,O⟩:=(hI.hI.sf id).1 g;rcases hX with ⟨q1,T,_⟩|⟨b',r',q1,T,_⟩
  .rw[es.fx]at T;omega
  .rw[es.fx]at q1
   grind
 have Au:=wO (np:=np) h0 h1 hb hn;refine⟨⟨O,λj y J=> ?_,λit dB=> ?_⟩,v⟩
 .have J:(if j=id then some (K,Gx page n c np)else S2.sp j)=some y:=J;by_cases e:j=id
  .rw[if_pos e]at J;cases J;subst e;rw[Af.Np,Af.Np];exact⟨Au,spOf_g Au⟩
  .rw[if_neg e,es.sp]at J;have Y:U.set id GA j=U j:=if_neg e;have e2:M.set id GA j=M j:=if_neg e;rw[Y,e2];exact hI.sp j y J
 .obtain⟨y,g1,g2⟩:=hI.it it dB;have:it.id≠id:=λe=>by grind
  refine⟨y,?_,g2⟩;show(if it.id=id then _ else S2.sp it.id)=_;rw[if_neg this,es.sp];exact g1
def BO.new(pl:List Int)(rf:List Bool)(fl:List Int):BO (SW.new (HS.new (MF pl rf fl))) (λ_=>GA) (λ_=>GA):=
 ⟨BS.MF pl rf fl,λid x j=>(by cases j),λx j=>(by cases j)⟩
end
section
variable{E:Env}{w:World}{Z:List Pr}{b h s r:Nat}{W:SW}{U M:Af}
def bH(H:Sat (Ap E b h s r W::Z) w){rt:Int}{K:World->Prop}(J: ∀w',Sat (Ap E b h s r {W with K6:=rt,BG:=0,Dg:=0}::Z) w'->K w'):F.Hh E (some ⟨b,0,none⟩) rt K w:=by
 unfold F.Hh;obtain⟨em,H1⟩:=Sat.Jy.1 H;refine AF (AV (show Sat (Cells b E.Dt _::_) _ from H1) (o:=0) (m:=5) rfl (by simp[Ic]) λT j=>AF (AV j (o:=0) (m:=6) rfl (by simp[Ic]) λY v=>AF (AV v (o:=0) (m:=7) rfl (by simp[Ic]) λO y=>J O (Sat.Jy.2 ⟨em,y⟩))))
def IG(c n:Int):Int:=if 18446744073709551616<=c+n then 18446744073709551615 else c+n
def WK(H:Sat (Ap E b h s r W::Z) w){n:Int}(O:0<=W.BG/\W.BG<18446744073709551616)(T:0<=n/\n<18446744073709551616){K:World->Prop}(J: ∀w',Sat (Ap E b h s r {W with BG:=IG W.BG n}::Z) w'->K w'):F.DC E (some ⟨b,0,none⟩) n K w:=by
 unfold F.DC T0.DC F.Jb;obtain⟨em,H1⟩:=Sat.Jy.1 H;refine AF ⟨_,(No H1).2.2.2.2.2.2.1,⟨O.1,T.1,by decide,by decide⟩,?_⟩;have fin: ∀v:Int,v=IG W.BG n->stCells ((Addr.mk b 0 none).add 6) 0 [.int .u64 v] w K:=λv Y=>by
  rw[Y];exact AV (show Sat (Cells b E.Dt _::_) _ from H1) (o:=0) (m:=6) rfl (by simp[Ic]) λw2 y=>J w2 (Sat.Jy.2 ⟨em,y⟩)
 rw[show W.BG+n+0=W.BG+n by omega];unfold IG at fin;refine AU (AB (λg j=>AF (fin _ ?_)) λg j=>AF (fin _ ?_))
 .rw[if_pos (by omega)]
 .rw[if_neg (by omega),Int.emod_eq_of_lt (by omega) (by omega)]
noncomputable def SW.WL(W:SW):Int:=if timesV W.BG W.K6<W.Dg then 0 else timesV W.BG W.K6-W.Dg
def bI(H:Sat (Ap E b h s r W::Z) w)(hr:0<=W.Dg){K:Int->World->Prop}(Y: ∀w',Sat (Ap E b h s r W::Z) w'->K W.WL w'):F.Dq E (some ⟨b,0,none⟩) K w:=by
 unfold F.Dq T0.Dq;have y:=H.drew;obtain⟨em,H1⟩:=Sat.Jy.1 y;have c1:=No H1;refine AF ⟨_,c1.2.2.2.2.2.2.1,AF ⟨_,c1.2.2.2.2.2.1,gJ y λw6 v=> ?_⟩⟩;obtain⟨T,O⟩:=Sat.Jy.1 v;have J:=No O;have hb:=XC W.BG W.K6;have j:=Y w6 v;unfold SW.WL at j;refine AF ⟨_,J.2.2.2.2.2.2.2,AB (λg=> ?_) λg=>AF ⟨_,J.2.2.2.2.2.2.2,?_⟩⟩
 .rw[if_pos g]at j;exact j
 .rw[if_neg g]at j;rw[AI];exact j
end
def YP{p n:Int}{S2:HS}{page:Int}(hk:KG (HS.new (MF [] [] [])))(y:1<=n)(aC:n<=1000000)(h:Found (HS.new (MF [] [] [])) p n page S2):page=512/\Yy S2 (512+n) (512+IF n)/\EV S2 (512+IF n)/\ ∀j,S2.ca j=CS.nil:=by
 have hu:=YA n;have v: ∀q,(HS.new (MF [] [] [])).T.fr q=false:=λ_=>rfl;obtain⟨O,h1,h2,h3,Y,h5,h6,_⟩:=h.row (EV.new []) hk (Yy.new _) (Int.le_refl _) y (by omega) (λK J=>RN v y J) λK pg J=>fS v (λ_ _ _=>rfl) y J;have e:O=512+IF n:=by omega
 subst e;exact⟨h2,h5,Y,λj=>by rw[h6];rfl⟩
structure First(T:HS)(bl:Nat)(n c:Int)(np:Bool):Prop where
 sp:T.sp 1=some (bl,Gx 512 n c np)
 no: ∀i,i≠1->T.sp i=none
 la:EV T (512+IF n)
 own: ∀p,T.own p=if 512<=p/\p<512+n then 1 else 0
 fx:T.fx=⟨1,[]⟩
 pg:T.AA=n
 fr:Yy T (512+n) (512+IF n)
 ca: ∀j,(T.ca j).empty
section
variable{E:Env}{w:World}{Z:List Pr}{b h s r:Nat}{W:SW}{U M:Af}
variable(hE:EnvW E)
include hE
end
def u2:Nat->Bool:=λi=>((GA i||i==0)||i==1)
def jX:AX 5=(48,1,170,89478486):=by decide+kernel
section
variable{E:Env}{w:World}{Z:List Pr}(hE:EnvW E)
include hE
end
section
variable{E:Env}{w:World}{Z:List Pr}{b h s r:Nat}{W:SW}{U M:Af}
def bJ(hT: ∀w',Sat Z w'->Em E.AG w')(H:Sat (Ap E b h s r W::Z) w)(hI:BO W U M){id:Int}{x:Nat×SI}(O:W.S.sp id=some x){K:Int->Int->World->Prop}
  (aA:(∀i:Nat,(i:Int)<x.2.AK->U id i=true)-> ∀w',Sat (Ap E b h s r W::Z) w'->K 0 30 w')
  (aB: ∀(n:Nat) j,(n:Int)<x.2.AK->U id n=false->(∀i,i<n->U id i=true)->BO {W with S:=W.S.put id (x.1,{x.2 with uw:=j,used:=x.2.used+1,look:=(n:Int)+1})} (U.set id λi=>U id i||i==n) M->
   ∀w',Sat (Ap E b h s r {W with S:=W.S.put id (x.1,{x.2 with uw:=j,used:=x.2.used+1,look:=(n:Int)+1})}::Z) w'->K n 0 w'):F.Er E (some ⟨x.1,0,none⟩) K w:=by
 obtain⟨Au,hg⟩:=hI.sp id x O;obtain⟨R,HH,hz,hb⟩:=H.Ix;obtain⟨R2,J,aC,y⟩:=HH.bG O;refine YD (hT _ (hz (aC J.tail))) J hg (by rw[Au.st];decide) (λv w' T=> ?_) λn j hn hu hl Y w' T=> ?_
 .have:=hb (y T);rw[show W.S.put id (x.1,x.2)=W.S from HS.bF O]at this;exact aA v w' this
 .refine aB n j hn hu hl ?_ w' (hb (y T));have:=hI.putS O (I:={x.2 with uw:=j,used:=x.2.used+1,look:=(n:Int)+1}) rfl rfl rfl rfl rfl rfl rfl Y;rwa[Af.O3]at this
def S5(H:Sat (Ap E b h s r W::Z) w){id:Int}{K:Option Addr->Int->World->Prop}(j:W.S.sp id=none->K none 35 w)(v: ∀x,W.S.sp id=some x->K (some ⟨x.1,0,none⟩) 0 w):F.F3 E (some ⟨h,0,none⟩) id K w:=by
 obtain⟨R,y,hz,J⟩:=H.Ix;exact U9 y j v
def Td(H:Sat (Ap E b h s r W::Z) w)(hI:BO W U M){id:Int}{x:Nat×SI}(J:W.S.sp id=some x){i:Int}(h0:0<=i)(h1:i<x.2.AK){K:Int->Int->World->Prop}(hK: ∀w',Sat (Ap E b h s r W::Z) w'->K (x.2.base+i*x.2.elem) 0 w'):F.EL E (some ⟨x.1,0,none⟩) i K w:=by
 obtain⟨Au,hg⟩:=hI.sp id x J;have y:=Au.size;have aC:=Au.ba;have aD:=Au.pg;obtain⟨R,T,hz,hb⟩:=H.Ix;obtain⟨R2,v,j⟩:=T.M7 J;have h2:0<=i*x.2.elem:=Int.mul_nonneg h0 (by omega);have h3:i*x.2.elem<=x.2.AK*x.2.elem:=Int.mul_le_mul_of_nonneg_right (by omega) (by omega);have Y:=y.2.2.2.2;rw[Int.mul_comm x.2.elem]at Y;refine Sx v h0 h1 λw' O=> ?_;rw[AI (n:=i),AI (n:=x.2.elem),AI (n:=i*x.2.elem),AI (n:=x.2.base+i*x.2.elem)];exact hK w' (hb (j O))
end
def RX{S j:HS}{p n:Int}(h:Iu S p n j):j.sp=S.sp:=by
 rcases h with ⟨_,rfl⟩|⟨i,_,_,_,⟨_,q,_,rfl⟩|⟨_,rfl⟩,_⟩<;>rfl
def got_sp{S S2:HS}{p n page:Int}(h:dJ S p n page S2):S2.sp=S.sp:=by
 rcases h with ⟨v,i,k,y,_,_,⟨_,q,_,rfl⟩|⟨_,rfl⟩,_,_,_,_,rfl⟩|⟨v,j,_,rfl⟩
 .rfl
 .rfl
 .exact(show v.sp=S.sp from RX j)
def bK{S S2:HS}{p n:Int}(h:RM S p n S2):S2.sp=S.sp:=by
 rcases h with ⟨v,j,_,⟨r,_,rfl⟩|⟨_,_,rfl⟩⟩|⟨S1,page,r,y,_,_,rfl⟩
 .exact(show v.sp=S.sp from RX j)
 .exact(show v.sp=S.sp from RX j)
 .rcases y with y|⟨v,J,j,_,⟨_,at_,_,rfl⟩,_,rfl⟩
  .exact(show S1.sp=S.sp from got_sp y)
  .exact(show v.sp=S.sp from RX j)
structure EnvC(E:Env):Prop extends EnvW E where
 rX: ∀a p k n (R:Value->World->Prop) w,F.CA E a p k n (λi b e w'=>R (.tuple ⟨[.int .i64 i,.bool b,.int .i64 e]⟩) w') w->E.call E.Fu #[.pointer a,.agg ⟨[.int .i64 p,.int .i64 k,.bool n]⟩] w R Lp
 bL: ∀a p k n (R:Value->World->Prop) w,F.Bg E a p k n (λi b e w'=>R (.tuple ⟨[.int .i64 i,.bool b,.int .i64 e]⟩) w') w->E.call E.FE #[.pointer a,.agg ⟨[.int .i64 p,.int .i64 k,.bool n]⟩] w R Lp
 yF: ∀a p k n (R:Value->World->Prop) w,F.CY E a p k n (λi b e w'=>R (.tuple ⟨[.int .i64 i,.bool b,.int .i64 e]⟩) w') w->E.call E.GF #[.pointer a,.agg ⟨[.int .i64 p,.int .i64 k,.bool n]⟩] w R Lp
 rY: ∀a p k n (R:Value->World->Prop) w,F.CB E a p k n (λi b e w'=>R (.tuple ⟨[.int .i64 i,.bool b,.int .i64 e]⟩) w') w->E.call E.Fv #[.pointer a,.agg ⟨[.int .i64 p,.int .i64 k,.bool n]⟩] w R Lp
def Ak(E:Env)(cb b h s r:Nat)(W:SW):Pr:=NR [Cells cb E.Bb [.pointer (some ⟨b,0,none⟩)],Ap E b h s r W]
section
variable{E:Env}{w:World}{Z:List Pr}{cb b h s r:Nat}{W:SW}{U M:Af}
def Sat.wQ:Sat (Ak E cb b h s r W::Z) w↔Sat (Cells cb E.Bb [.pointer (some ⟨b,0,none⟩)]::Ap E b h s r W::Z) w:=Sat.star
def Sat.El(H:Sat (Ak E cb b h s r W::Z) w):Sat (Ap E b h s r W::Cells cb E.Bb [.pointer (some ⟨b,0,none⟩)]::Z) w:=(Sat.wQ.1 H).perm (.swap _ _ _)
def Sat.F6(H:Sat (Ap E b h s r W::Cells cb E.Bb [.pointer (some ⟨b,0,none⟩)]::Z) w):Sat (Ak E cb b h s r W::Z) w:=Sat.wQ.2 (H.perm (.swap _ _ _))
def Sat.Nr(H:Sat (Ak E cb b h s r W::Z) w):w.cell? (Addr.mk cb 0 none)=some (.pointer (some ⟨b,0,none⟩)):=(Sat.wQ.1 H).Aa rfl
def gK(H:Sat (Ap E b h s r W::Z) w){K:Option Addr->World->Prop}(v: ∀cb w',Sat (Ak E cb b h s r W::Z) w'->K (some ⟨cb,0,none⟩) w'):F.MT E (some ⟨b,0,none⟩) K w:=by
 unfold F.MT;exact AQ (vs:=[.pointer (some ⟨b,0,none⟩)]) H λb1 y j _=>v b1 y (Sat.wQ.2 j)
def EP(H:Sat (Ak E cb b h s r W::Z) w){K:Option Addr->World->Prop}(j:K (some ⟨b,0,none⟩) w):F.A6 E (some ⟨cb,0,none⟩) K w:=by
 unfold F.A6;exact AF ⟨_,H.Nr,j⟩
def BO.heap(hI:BO W U M){S2:HS}(h1:BS S2 no)(h2:S2.sp=W.S.sp):BO {W with S:=S2} U M:=
 ⟨h1,λid x j=>hI.sp id x (by grind),λx j=>by rw[show({W with S:=S2}:SW).S.sp=W.S.sp from h2];exact hI.it x j⟩
variable(hE:EnvC E)
include hE
theorem bM(H:Sat (Ak E cb b h s r W::Z) w)(hI:BO W U M){id:Int}(hf:W.L.length<1099511627776){K:Int->World->Prop}
  (J:W.S.sp id=none-> ∀w',Sat (Ak E cb b h s r W::Z) w'->K 35 w')(O:W.S.sp id≠none->(∃x∈W.L,x.id=id)-> ∀w',Sat (Ak E cb b h s r W::Z) w'->K 34 w')
  (T: ∀x,W.S.sp id=some x->(∀y∈W.L,y.id≠id)-> ∀Gk,BO {W with L:=JG W.L ⟨Gk,id,x.2.base,(x.2.cls,x.2.G5,x.2.used==x.2.AK,true)⟩} U M-> ∀w',
   Sat (Ak E cb b h s r {W with L:=JG W.L ⟨Gk,id,x.2.base,(x.2.cls,x.2.G5,x.2.used==x.2.AK,true)⟩}::Z) w'->K 0 w'):F.DA E (some ⟨cb,0,none⟩) id K w:=by
 unfold F.DA T0.DA;exact AF ⟨_,H.Nr,VW hE.toEnvW H.El hI hf (λY w' j=>J Y w' j.F6) (λY hx w' j=>O Y hx w' j.F6) λx hx aA Gk v w' j=>T x hx aA Gk v w' j.F6⟩
theorem YQ(H:Sat (Ak E cb b h s r W::Z) w)(hI:BO W U M){p k:Int}{np:Bool}{K:Int->Bool->Int->World->Prop}(J:Ej W.L (k,np,false,true)=[]-> ∀w',Sat (Ak E cb b h s r W::Z) w'->K 0 false 0 w')
  (O: ∀x l,Ej W.L (k,np,false,true)=x::l->BO {W with L:=EY W.L x.id} U M-> ∀w',Sat (Ak E cb b h s r {W with L:=EY W.L x.id}::Z) w'->K x.id true 0 w'):F.CA E (some ⟨cb,0,none⟩) p k np K w:=by
 unfold F.CA T0.CA;refine AQ (vs:=[.int .i64 p,.int .i64 k,.bool np]) H λb1 w2 Y _=>AF ?_;have j:=Y.drew;have v:Sat (Ak E cb b h s r W::Cells b1 E.Cw [.int .i64 p,.int .i64 k,.bool np]::Z) w2.drew:=j.front 1 rfl;refine⟨_,v.Nr,_,j.cell rfl,_,j.cell rfl,S4 v.El ⟨j.cell rfl,j.cell rfl,?_⟩⟩;obtain⟨R,HH,hz,hb⟩:=v.El.O0;refine Sz hE.toEnvW (k:=(k,np,false,true)) HH (λh0=>J h0 _ j.tail) λx l hx w' T=> ?_;exact O x l hx (hI.ofL λy hy=>hI.it y (Ds.1 hy).1) w' ((hb T).F6.front 1 rfl).tail
theorem YR(hT: ∀w',Sat Z w'->Em E.AG w')(H:Sat (Ak E cb b h s r W::Z) w)(hI:BO W U M){p k:Int}{np:Bool}(k0:1<=k)(k1:k<68){K:Int->Bool->Int->World->Prop}
  (aM: ∀S2,RM W.S p (AX k).2.1 S2->BO {W with S:=S2} U M-> ∀w',Sat (Ak E cb b h s r {W with S:=S2}::Z) w'->K 0 false 13 w')
  (aN: ∀page S2 bl id X,Found W.S p (AX k).2.1 page S2->KG W.S->BS S2 (inr page (AX k).2.1)->Next S2 id X->W.S.sp id=none->0<=page->page+(AX k).2.1<=34359738368->BO {W with S:=S2.Cr id (bl,Gx page (AX k).2.1 k np) page (AX k).2.1 X} (U.set id GA) (M.set id GA)->
   ∀w',Sat (Ak E cb b h s r {W with S:=S2.Cr id (bl,Gx page (AX k).2.1 k np) page (AX k).2.1 X}::Z) w'->K id true 0 w'):F.CB E (some ⟨cb,0,none⟩) p k np K w:=by
 unfold F.CB T0.CB;refine AQ (vs:=[.int .i64 p,.int .i64 k,.bool np]) H λb1 w2 H2 _=>AF ?_;have O:=H2.drew;have Hc:Sat (Ak E cb b h s r W::Cells b1 E.Cw [.int .i64 p,.int .i64 k,.bool np]::Z) w2.drew:=O.front 1 rfl;refine⟨_,Hc.Nr,_,O.Aa rfl,_,O.cell rfl,_,O.cell rfl,_,O.cell rfl,Me Hc.El ⟨O.cell rfl,O.cell rfl,O.cell rfl,O.Aa rfl,?_⟩⟩;refine Nh O λaG aP y=> ?_;have hl:=y.Gb (by decide) Ae;rw[IZ]at hl;have T:=y.front 1 rfl;obtain⟨x,hx⟩:=y.FY (by decide) Ae (i:=k.toNat) (by rw[IZ];omega);have cell: ∀{w'} {Y:List Pr},Sat (Row E.At 4 aG (Ao Ig LP)::Y) w'->w'.cell? (((Addr.mk x 0 none).add (Int.toNat k*4)).add 1)=some (.int .i64 (AX k).2.1):=λh=>by
  rw[add_add];exact h.Bp Ae hx (K4 (by omega) k1) (j:=1) rfl
 refine⟨T.cell rfl,T.cell rfl,T.cell rfl,T.Aa rfl,?_⟩;rw[hx];have aY:=Ia (c:=k) (by omega) k1;have aZ:=L7 (c:=k) (by omega) k1;refine AF ⟨⟨by omega,by omega⟩,_,cell y,?_⟩;rw[AI (n:=(AX k).2.1)];have aA: ¬Gl 0 (AX k).2.1 k:=by unfold Gl;omega
 have aF:Sat (Ak E cb b h s r W::Row E.At 4 aG (Ao Ig LP)::Cells b1 E.Cw [.int .i64 p,.int .i64 k,.bool np]::Z) aP:=y.front 2 rfl;have Au:=(aF.El.Ix.choose_spec.1).Au;obtain⟨R,HH,hz,hb⟩:=aF.El.Ix;refine aL hE.toEnvA (λw' h'=>hT w' (hz h').tail.tail.tail) HH hI.hI (by omega) (by omega) (λh=>absurd h aA) (λ_ S2 J aC aE aB=> ?_) λ_ page S2 bl id X hf aC q0 q1 hX aI aE aB=> ?_
 .have aK:S2.sp=W.S.sp:=bK J;have v:=(hb aB).F6;exact⟨cell (v.front 1 rfl),(v.front 2 rfl).cell rfl,aM S2 J (hI.heap aC aK) aE ((v.front 1 rfl).tail.front 1 rfl).tail⟩
 .have v:=(hb aB).F6;obtain⟨aJ,aD⟩:=hI.Cr (np:=np) hf hX q0 q1 aA (by omega) aI;exact⟨cell (v.front 1 rfl),(v.front 2 rfl).cell rfl,aN page S2 bl id X hf Au aC hX aD q0 q1 aJ aE ((v.front 1 rfl).tail.front 1 rfl).tail⟩
end
def HS.at(S:HS)(id:Int):Int:=match S.sp id with
 | some x=>x.2.base
 | none=>0
def HS.jY{S:HS}{id:Int}{x:Nat×SI}(h:S.sp id=some x):S.at id=x.2.base:=by unfold HS.at;rw[h]
def BS.JI{S:HS}{fl:Int->Bool}(hI:BS S fl)(l:List Int)(v:l.Nodup)(j: ∀n∈l,S.sp n≠none):l.length<1099511627776:=by
 have h:=VK S.fx.n l v λn y=>by
  obtain⟨a,e,h1,_⟩:=(hI.sf n).1 (j n y);omega
 have:=hI.fb;omega
structure De(W:SW)(U M:Af):Prop where
 inv:BO W U M
 hk:KG W.S
 se:Km W.L
 em:W.em.length+W.R.length<=1099511627776
def De.JI{W:SW}{U M:Af}(h:De W U M):W.L.length<1099511627776:=by
 have:=h.inv.hI.JI (W.L.map (·.id)) h.se.nd λn j=>by
  obtain⟨x,v,rfl⟩:=List.mem_map.1 j;obtain⟨y,J,_⟩:=h.inv.it x v
  grind
 grind
def O2.len{W W':SW}{U M U' M':Af}{id:Int}{Cr gone:Bool}{n:Nat}(h:O2 W U M id Cr n gone W' U' M'):W'.em.length+W'.R.length<=W.em.length+W.R.length:=by
 obtain⟨x,t,uw,-,-,J,-,-,-,v,j,y⟩:=h;have:=PV (u:=U id) (base:=x.2.base) (elem:=x.2.elem) (t:=⟨W.R,M id,W.em⟩) x.2.AK.toNat
 grind
def De.rem{W:SW}{U M:Af}(h:De W U M)(id:Int):De {W with L:=EY W.L id} U M:=⟨h.inv.ofL λx j=>h.inv.it x (Ds.1 j).1,h.hk,aV h.se id,h.em⟩
inductive ER(k:Int)(np full:Bool):SW->Af->Af->Int->Bool->Int->SW->Af->Af->Prop
 | none {W U M}:Ej W.L (k,np,full,false)=[]->ER k np full W U M 0 false 0 W U M
 | Kg {W U M x r y}:Ej W.L (k,np,full,false)=x::r->W.S.sp x.id=some y->(∃i,M x.id i=true/\U x.id i=false)->ER k np full W U M 0 false 40 {W with L:=EY W.L x.id} U M
 | LN {W U M x r n W' U' M' y}:Ej W.L (k,np,full,false)=x::r->O2 {W with L:=EY W.L x.id} U M x.id true n false W' U' M'->De W' U' M'->W'.S.sp x.id=some y->y.2.used<y.2.AK->ER k np full W U M x.id true 0 W' U' M'
 | go {W U M x r n W1 U1 M1 y id ok e W' U' M'}:Ej W.L (k,np,full,false)=x::r->O2 {W with L:=EY W.L x.id} U M x.id true n false W1 U1 M1->De W1 U1 M1->W1.S.sp x.id=some y->y.2.used=y.2.AK->ER k np full W1 U1 M1 id ok e W' U' M'->ER k np full W U M id ok e W' U' M'
def YS(L:List DW):Nat:=(L.filter λx=> !x.EO).length
def RY{L:List DW}(h:Km L){x:DW}(j:x∈L)(hs:x.EO=false):YS (EY L x.id)+1=YS L:=by
 have:=((ND h.nd j).filter λx=> !x.EO).length_eq;unfold YS
 grind
def jZ{L:List DW}{x:DW}(hs:x.EO=true):YS (JG L x)=YS L:=by
 have:=((Jv L x).filter λx=> !x.EO).length_eq;unfold YS
 grind
def O2.kept{W W':SW}{U M U' M':Af}{id:Int}{gone:Bool}{n:Nat}(h:O2 W U M id true n gone W' U' M')(hI:BO W U M):gone=false/\YS W'.L=YS W.L/\ ∃y,W'.S.sp id=some y/\(y.2.used<y.2.AK∨y.2.used=y.2.AK):=by
 obtain⟨x,t,uw,hx,-,ht,-,-,-,K,j,O⟩:=h;have Y:=(hI.sp id x hx).1.size;have T:=Oh (λi=>U id i&&t.m i) x.2.AK.toNat;have v:K.S.sp id=some (x.1,J0 x.2 uw λi=>U id i&&t.m i):=by rw[j];exact HS.IQ
 rcases O with ⟨_,h2,J,e⟩|⟨h1,h2,_⟩|⟨h1,h2,J,Gk,e⟩
 .rw[e];exact⟨J,by rw[j],_,v,.inl h2⟩
 .grind
 .rw[e];refine⟨J,?_,_,v,.inr ?_⟩
  .exact jZ rfl
  .have: ¬((cN (λi=>U id i&&t.m i) x.2.AK.toNat:Nat):Int)<x.2.AK:=λc=>h1 ⟨rfl,c⟩;show((cN (λi=>U id i&&t.m i) x.2.AK.toNat:Nat):Int)=x.2.AK;omega
section
variable{E:Env}{cb b h s r:Nat}{W:SW}{U M:Af}{Z:List Pr}{w:World}
def Sat.Te{W':SW}{U' M':Af}{Y:List Pr}{w':World}(H:Sat (Ap E b h s r W'::Y) w')(hI:BO W' U' M')(he:W'.em.length+W'.R.length<=1099511627776):De W' U' M':=by
 obtain⟨R,h1,_⟩:=H.Ix;obtain⟨j,h2,_⟩:=H.O0;exact⟨hI,h1.Au,h2.wG,he⟩
variable(hE:EnvC E)
include hE
theorem Pq(hT: ∀w',Sat Z w'->Em E.AG w')(H:Sat (Ak E cb b h s r W::Z) w)(hI:De W U M){p k:Int}{np full:Bool}{K:Int->Bool->Int->World->Prop}
  (hK: ∀id ok e W' U' M',ER k np full W U M id ok e W' U' M'->De W' U' M'-> ∀w',Sat (Ak E cb b h s r W'::Z) w'->K id ok e w'):F.Bf E (some ⟨cb,0,none⟩) p k np full K w:=by
 unfold F.Bf T0.Bf;refine AQ (vs:=[.int .i64 p,.int .i64 k,.bool np]) H λb1 w2 H2 _=> ?_;refine Nl (λn _ w'=> ∃O U1 M1,De O U1 M1/\n=YS O.L/\(∀id ok e W' U' M',ER k np full O U1 M1 id ok e W' U' M'->ER k np full W U M id ok e W' U' M')/\Sat (Cells b1 E.Cw [.int .i64 p,.int .i64 k,.bool np]::Ak E cb b h s r O::Z) w') _ ⟨W,U,M,hI,rfl,λ_ _ _ _ _ _ h=>h,H2⟩ ?_;rintro n _ _ w4 ⟨O,U1,M1,Y,rfl,aB,H4⟩;have H3:=H4.drew;have Hc:Sat (Ak E cb b h s r O::Cells b1 E.Cw [.int .i64 p,.int .i64 k,.bool np]::Z) w4.drew:=H3.front 1 rfl;refine AF ⟨_,Hc.Nr,_,H3.cell rfl,_,H3.cell rfl,S4 Hc.El ⟨H3.cell rfl,H3.cell rfl,?_⟩⟩;obtain⟨R,HH,hz,hb⟩:=Hc.El.O0;refine Sz hE.toEnvW (k:=(k,np,full,false)) HH (λh0=>AS rfl (hK _ _ _ O U1 M1 (aB _ _ _ _ _ _ (.none h0)) Y _ H3.tail)) λx l hx w' H'=>AO rfl ?_;have hm:=EU.1 (show x∈Ej O.L (k,np,full,false) by rw[hx];exact List.mem_cons_self);have aS:x.EO=false:=by grind
 have H5:Sat (Ak E cb b h s r {O with L:=EY O.L x.id}::Cells b1 E.Cw [.int .i64 p,.int .i64 k,.bool np]::Z) w':=(hb H').F6;have J:=Y.rem x.id;have aN: ∀w',Sat (Cells cb E.Bb [.pointer (some ⟨b,0,none⟩)]::Cells b1 E.Cw [.int .i64 p,.int .i64 k,.bool np]::Z) w'->Em E.AG w':=λw' h'=>hT w' h'.tail.tail;have aX:=RY Y.se hm.1 aS;refine AF ⟨_,H5.Nr,Nq hE.toEnvW aN H5.El J.inv J.JI J.em (λz hz=>(Ds.1 hz).2) (λhn=> ?_) (λz hz aU w6 H6=> ?_) λn gone W2 U2 M2 j aK w6 H6=>AO rfl ?_⟩
 .obtain⟨y,hy,_⟩:=Y.inv.it x hm.1
  grind
 .exact AS rfl (hK _ _ _ _ _ _ (aB _ _ _ _ _ _ (.Kg hx hz aU)) J w6 (H6.F6.front 1 rfl).tail)
 .have aA:=H6.Te aK (Nat.le_trans j.len J.em);obtain⟨hg,bB,y,hy,aT⟩:=j.kept J.inv;subst hg;have T:=H6.F6;refine AF ⟨_,T.Nr,Me T.El (S5 T.El (λhn=>by grind) λv hv=> ?_)⟩;rw[hy]at hv;cases hv;refine AU (AS rfl ?_);obtain⟨R3,aI,bC,aO⟩:=T.El.Ix;obtain⟨R4,aR,aP⟩:=aI.M7 hy;refine aM aR λw8 H8=>λ_=> ?_;have H9:=(aO (aP H8)).F6;rcases aT with aQ|heq
  .refine AS ?_ (hK _ _ _ W2 U2 M2 (aB _ _ _ _ _ _ (.LN hx j aA hy aQ)) aA w8 (H9.front 1 rfl).tail)
   grind
  .refine AO (by grind) ⟨_,?_,W2,U2,M2,aA,rfl,λid ok e W' U' M' hc=>aB _ _ _ _ _ _ (.go hx j aA hy heq hc),H9.front 1 rfl⟩
   grind
inductive L8(p k:Int)(np:Bool)(W:SW)(U M:Af):Int->Int->SW->Af->Af->Prop
 | bad: ¬(1<=k/\k<68)->L8 p k np W U M 0 1 W U M
 | EO {x l}:1<=k->k<68->Ej W.L (k,np,false,true)=x::l->L8 p k np W U M x.id 0 {W with L:=EY W.L x.id} U M
 | part {id ok e W' U' M'}:1<=k->k<68->Ej W.L (k,np,false,true)=[]->ER k np false W U M id ok e W' U' M'->(ok=true∨e≠0)->L8 p k np W U M id e W' U' M'
 | full {W1 U1 M1 id ok e W' U' M'}:1<=k->k<68->Ej W.L (k,np,false,true)=[]->ER k np false W U M 0 false 0 W1 U1 M1->De W1 U1 M1->ER k np true W1 U1 M1 id ok e W' U' M'->(ok=true∨e≠0)->L8 p k np W U M id e W' U' M'
 | lost {W1 U1 M1 W2 U2 M2 S2}:1<=k->k<68->Ej W.L (k,np,false,true)=[]->ER k np false W U M 0 false 0 W1 U1 M1->De W1 U1 M1->ER k np true W1 U1 M1 0 false 0 W2 U2 M2->De W2 U2 M2->RM W2.S p (AX k).2.1 S2->L8 p k np W U M 0 13 {W2 with S:=S2} U2 M2
 | new {W1 U1 M1 W2 U2 M2 page S2 bl id X}:1<=k->k<68->Ej W.L (k,np,false,true)=[]->ER k np false W U M 0 false 0 W1 U1 M1->De W1 U1 M1->ER k np true W1 U1 M1 0 false 0 W2 U2 M2->De W2 U2 M2->Found W2.S p (AX k).2.1 page S2->Next S2 id X->W2.S.sp id=none->
   L8 p k np W U M id 0 {W2 with S:=S2.Cr id (bl,Gx page (AX k).2.1 k np) page (AX k).2.1 X} (U2.set id GA) (M2.set id GA)
omit hE in
theorem ER.id0{k:Int}{np full:Bool}{W W':SW}{U M U' M':Af}{id e:Int}{ok:Bool}(h:ER k np full W U M id ok e W' U' M'):ok=false->id=0:=by
 induction h with
 | none=>omega
 | Kg=>omega
 | LN=>grind
 | go _ _ _ _ _ _ ih=>exact ih
def Stage(k:Int)(np:Bool)(W:SW)(U M:Af):Nat->SW->Af->Af->Prop
 | 0,W1,U1,M1=>W1=W/\U1=U/\M1=M
 | 1,W1,U1,M1=>Ej W.L (k,np,false,true)=[]/\W1=W/\U1=U/\M1=M
 | 2,W1,U1,M1=>Ej W.L (k,np,false,true)=[]/\ER k np false W U M 0 false 0 W1 U1 M1
 | _,W1,U1,M1=>Ej W.L (k,np,false,true)=[]/\ ∃W2 U2 M2,ER k np false W U M 0 false 0 W2 U2 M2/\De W2 U2 M2/\ER k np true W2 U2 M2 0 false 0 W1 U1 M1
theorem bN(hT: ∀w',Sat Z w'->Em E.AG w')(H:Sat (Ak E cb b h s r W::Z) w)(hI:De W U M){p k:Int}{np:Bool}{K:Int->Int->World->Prop}
  (hK: ∀id e W' U' M',L8 p k np W U M id e W' U' M'->De W' U' M'-> ∀w',Sat (Ak E cb b h s r W'::Z) w'->K id e w'):F.DS E (some ⟨cb,0,none⟩) p k np K w:=by
 unfold F.DS T0.DS;refine Aj (λst w'=>Sat (Ak E cb b h s r W::Z) w'/\(st.1=true↔ ¬(1<=k/\k<68))) (AB (λg=>⟨H,by simp;omega⟩) λg=>Nh H λr4 w5 H5=> ?_) ?_
 .have hl:=H5.Gb (by decide) Ae;rw[IZ]at hl;refine⟨H5.tail,?_⟩
  grind
 rintro⟨st,u⟩ _ w3 ⟨H3,aO⟩;dsimp only at aO⊢;refine AP (λhq=>hK _ _ _ _ _ (.bad (aO.1 hq)) hI w3 H3) λhq=> ?_;have aT:1<=k/\k<68:=Classical.byContradiction λg=>by grind
 obtain⟨k0,k1⟩:=aT
 let fs:List Value:=[.func (.func E.Fu) #[.pointer (some ⟨cb,0,none⟩)] #[],.func (.func E.FE) #[.pointer (some ⟨cb,0,none⟩)] #[],.func (.func E.GF) #[.pointer (some ⟨cb,0,none⟩)] #[],.func (.func E.Fv) #[.pointer (some ⟨cb,0,none⟩)] #[]]
 refine AQ (vs:=fs) H3 λb6 w7 H7 _=> ?_;refine AJ (λst w'=> ∃(i:Nat) (W1:SW) (U1 M1:Af),st.1=0/\st.2.1=0/\st.2.2.1=(i:Int)/\i<=3/\De W1 U1 M1/\Stage k np W U M i W1 U1 M1/\Sat (Cells b6 E.JP fs::Ak E cb b h s r W1::Z) w') (λst _=>(4-st.2.2.1).toNat) ⟨0,W,U,M,rfl,rfl,rfl,by decide,hI,⟨rfl,rfl,rfl⟩,H7⟩ ?_;rintro⟨z0,z1,i',u⟩ _ w9 ⟨i,W1,U1,M1,rfl,rfl,hi,a3,y,aA,H9⟩;dsimp only at hi⊢;subst hi;refine AB (λ_=>⟨⟨by omega,by omega⟩,?_⟩) λg=>absurd (by omega) g;have Y:Sat (Ak E cb b h s r W1::Cells b6 E.JP fs::Z) w9:=H9.front 1 rfl;have aG: ∀w',Sat (Cells b6 E.JP fs::Z) w'->Em E.AG w':=λw' h'=>hT w' h'.tail;rw[Int.toNat_natCast,Nat.mul_one];have nx:i<3->i64 ((i:Int)+1)=((i+1:Nat):Int):=λ_=>by rw[AM];rfl
 have aS:i=0∨i=1∨i=2∨i=3:=by omega
 rcases aS with rfl|rfl|rfl|rfl
 .obtain⟨rfl,rfl,rfl⟩:=aA;refine⟨_,H9.cell (o:=0) (m:=0) rfl,hE.rX (some ⟨cb,0,none⟩) p k np _ w9 (YQ hE Y hI.inv (λh0 w' J=> ?_) λx l hx v w' J=> ?_)⟩
  .refine⟨0,false,0,rfl,AU (AO rfl λj=>AO rfl ?_)⟩;rw[nx (by decide)];exact⟨⟨1,W1,U1,M1,rfl,rfl,rfl,by decide,hI,⟨h0,rfl,rfl,rfl⟩,J.front 1 rfl⟩,by decide⟩
  .exact⟨x.id,true,0,rfl,AU (AS rfl λj=>AS rfl (hK _ _ _ _ _ (.EO k0 k1 hx) (hI.rem x.id) w' (J.front 1 rfl).tail))⟩
 .obtain⟨h0,rfl,rfl,rfl⟩:=aA;refine⟨_,H9.cell (o:=0) (m:=1) rfl,hE.bL (some ⟨cb,0,none⟩) p k np _ w9 ?_⟩;unfold F.Bg T0.Bg;refine AQ (vs:=[.int .i64 p,.int .i64 k,.bool np]) Y λb1 w2 T _=>⟨_,T.cell rfl,_,T.cell rfl,_,T.cell rfl,Pq hE (λw' h'=>aG w' h'.tail) (T.front 1 rfl) y λid ok e W2 U2 M2 hc v w' J=>⟨id,ok,e,rfl,?_⟩⟩;cases Au:ok with
  | true=>exact AU (AS rfl λj=>AS rfl (hK _ _ _ _ _ (.part k0 k1 h0 hc (.inl Au)) v w' (((J.front 1 rfl).tail.front 1 rfl).tail)))
  | false=>
   refine AU (AO rfl λj=> ?_);by_cases he:e=0
   .have T7:=hc.id0 Au;subst he T7 Au;refine AO rfl ?_;rw[nx (by decide)];exact⟨⟨2,W2,U2,M2,rfl,rfl,rfl,by decide,v,⟨h0,hc⟩,(J.front 1 rfl).tail.front 1 rfl⟩,by decide⟩
   .exact AS (by grind) (hK _ _ _ _ _ (.part k0 k1 h0 hc (.inr he)) v w' (((J.front 1 rfl).tail.front 1 rfl).tail))
 .obtain⟨h0,O⟩:=aA;refine⟨_,H9.cell (o:=0) (m:=2) rfl,hE.yF (some ⟨cb,0,none⟩) p k np _ w9 ?_⟩;unfold F.CY T0.CY;refine AQ (vs:=[.int .i64 p,.int .i64 k,.bool np]) Y λb1 w2 T _=>⟨_,T.cell rfl,_,T.cell rfl,_,T.cell rfl,Pq hE (λw' h'=>aG w' h'.tail) (T.front 1 rfl) y λid ok e W2 U2 M2 hc v w' J=>⟨id,ok,e,rfl,?_⟩⟩;cases Au:ok with
  | true=>exact AU (AS rfl λj=>AS rfl (hK _ _ _ _ _ (.full k0 k1 h0 O y hc (.inl Au)) v w' (((J.front 1 rfl).tail.front 1 rfl).tail)))
  | false=>
   refine AU (AO rfl λj=> ?_);by_cases he:e=0
   .have T7:=hc.id0 Au;subst he T7 Au;refine AO rfl ?_;rw[nx (by decide)];exact⟨⟨3,W2,U2,M2,rfl,rfl,rfl,by decide,v,⟨h0,W1,U1,M1,O,y,hc⟩,(J.front 1 rfl).tail.front 1 rfl⟩,by decide⟩
   .exact AS (by grind) (hK _ _ _ _ _ (.full k0 k1 h0 O y hc (.inr he)) v w' (((J.front 1 rfl).tail.front 1 rfl).tail))
 .obtain⟨h0,W2,U2,M2,O,v,aN⟩:=aA;refine⟨_,H9.cell (o:=0) (m:=3) rfl,hE.rY (some ⟨cb,0,none⟩) p k np _ w9 (YR hE aG Y y.inv k0 k1 (λS2 hl aM w' J=> ?_) λpage S2 bl id X hf Au aM hX aH q0 q1 aR w' J=> ?_)⟩
  .exact⟨0,false,13,rfl,AU (AO rfl λj=>AS rfl (hK _ _ _ _ _ (.lost k0 k1 h0 O v aN y hl) (J.El.Te aM y.em) w' (J.front 1 rfl).tail))⟩
  .exact⟨id,true,0,rfl,AU (AS rfl λj=>AS rfl (hK _ _ _ _ _ (.new k0 k1 h0 O v aN y hf hX aH) (J.El.Te aR y.em) w' (J.front 1 rfl).tail))⟩
end
inductive OI:SW->Af->Af->Int->SW->Af->Af->Prop
 | done {W U M}:W.WL<=0->OI W U M 0 W U M
 | empty {W U M}:0<W.WL->(∀x∈W.L,x.EO=true)->OI W U M 0 W U M
 | Kg {W U M x y}:0<W.WL->Nk W.L x->W.S.sp x.id=some y->(∃i,M x.id i=true/\U x.id i=false)->OI W U M 40 {W with L:=EY W.L x.id} U M
 | go {W U M x n gone W1 U1 M1 e W' U' M'}:0<W.WL->Nk W.L x->O2 {W with L:=EY W.L x.id} U M x.id false n gone W1 U1 M1->De W1 U1 M1->0<=W1.Dg->OI W1 U1 M1 e W' U' M'->OI W U M e W' U' M'
def O2.YS{W W':SW}{U M U' M':Af}{id:Int}{gone Cr:Bool}{n:Nat}(h:O2 W U M id Cr n gone W' U' M'):YS W'.L=YS W.L:=by
 obtain⟨x,t,uw,-,-,-,-,-,-,y,j,v⟩:=h;rcases v with ⟨_,_,_,e⟩|⟨_,_,_,_,_,e⟩|⟨_,_,_,_,e⟩<;>rw[e,j];exact jZ rfl
structure Gd(W:SW):Prop where
 ch:0<=W.BG/\W.BG<18446744073709551616
 rp:0<=W.Dg/\W.Dg<18446744073709551616
def O2.num{W W':SW}{U M U' M':Af}{id:Int}{gone Cr:Bool}{n:Nat}(h:O2 W U M id Cr n gone W' U' M')(j:Gd W):Gd W':=by
 obtain⟨x,t,uw,-,-,-,-,-,-,y,v,K⟩:=h;have J:0<=u64 (W.Dg+x.2.AA)/\u64 (W.Dg+x.2.AA)<18446744073709551616:=by rw[Qh];omega
 have e:W'.BG=W.BG/\W'.Dg=u64 (W.Dg+x.2.AA):=by grind
 exact⟨by rw[e.1];exact j.ch,by omega⟩
section
variable{E:Env}{b h s r:Nat}{W:SW}{U M:Af}{Z:List Pr}{w:World}
variable(hE:EnvC E)
include hE
theorem WM(hT: ∀w',Sat Z w'->Em E.AG w')(H:Sat (Ap E b h s r W::Z) w)(hI:De W U M)(hN:Gd W){K:Int->World->Prop}
  (hK: ∀e W' U' M',OI W U M e W' U' M'->De W' U' M'->Gd W'-> ∀w',Sat (Ap E b h s r W'::Z) w'->K e w'):F.DR E (some ⟨b,0,none⟩) K w:=by
 unfold F.DR T0.DR;refine Nl (λn _ w'=> ∃T U1 M1,De T U1 M1/\Gd T/\n=YS T.L/\(∀e W' U' M',OI T U1 M1 e W' U' M'->OI W U M e W' U' M')/\Sat (Ap E b h s r T::Z) w') _ ⟨W,U,M,hI,hN,rfl,λ_ _ _ _ h=>h,H⟩ ?_;rintro n _ _ w2 ⟨T,U1,M1,J,j,rfl,Y,H2⟩;refine bI H2 j.rp.1 λw5 H5=>AB (λhd=> ?_) λhd=>hK _ T U1 M1 (Y _ _ _ _ (.done (by omega))) J j w5 H5;refine O1 hE.toEnvW H5 J.inv (λaE w8 H8=>AS rfl (hK _ T U1 M1 (Y _ _ _ _ (.empty hd aE)) J j w8 H8)) λx hx aQ w8 H8=>AO rfl ?_;have aM:=RY J.se hx.1 hx.2.1;have O:=J.rem x.id;refine Nq hE.toEnvW hT H8 O.inv O.JI O.em (λz hz=>(Ds.1 hz).2) (λhn=> ?_) (λz hz aK w6 H6=> ?_) λn gone W2 U2 M2 v aI w6 H6=>AO rfl ?_
 .obtain⟨y,hy,_⟩:=J.inv.it x hx.1
  grind
 .exact AS rfl (hK _ _ _ _ (Y _ _ _ _ (.Kg hd hx hz aK)) O ⟨j.ch,j.rp⟩ w6 H6)
 .have aC:=H6.Te aI (Nat.le_trans v.len O.em);have aD:=v.num (W:={T with L:=EY T.L x.id}) ⟨j.ch,j.rp⟩;refine⟨_,?_,W2,U2,M2,aC,aD,rfl,λe W' U' M' hc=>Y _ _ _ _ (.go hd hx v aC aD.rp.1 hc),H6⟩;rw[v.YS]
  grind
end
end Go.Sh
namespace Go.Sh
open Ieee
def wR{x:Nat}(h:((DY x 4895412794951729152==some .gt)||(DY x 4895412794951729152==some .eq))=true):((DY x 4607182418800017408==some .gt)||(DY x 4607182418800017408==some .eq))=true:=by
 rw[Mb,rd64]at h;rw[Mb,rd1];generalize rd x=d at *
 cases d with
 | nan s t=>simp[Datum.order]at h
 | infinity s=>
  cases s
  .simp[Datum.order]
  .simp[Datum.order]at h
 | number s m i=>
  simp only[Datum.order]at h⊢;have q:=qX h;rw[L3]at q;have key:signed false 4503599627370496 (-52-min i (-52)).toNat<=signed s m (i-min i (-52)).toNat:=by
   rw[L3];cases s with
   | true=>
    rw[VL]at q;have:0<4503599627370496*2^(12-min i 12).toNat:=Nat.mul_pos (by decide) (Nat.pow_pos (by decide));omega
   | false=>
    rw[L3]at q⊢;have q:4503599627370496*2^(12-min i 12).toNat<=m*2^(i-min i 12).toNat:=by exact_mod_cast q
    suffices 4503599627370496*2^(-52-min i (-52)).toNat<=m*2^(i-min i (-52)).toNat by exact_mod_cast this
    by_cases h1:i<= -52
    .rw[Int.min_eq_left h1,show(i-i).toNat=0 by omega,Nat.pow_zero,Nat.mul_one];rw[Int.min_eq_left (by omega),show(i-i).toNat=0 by omega,Nat.pow_zero,Nat.mul_one]at q;exact Nat.le_trans (Nat.mul_le_mul_left _ (Nat.pow_le_pow_right (by decide) (by omega))) q
    .rw[Int.min_eq_right (by omega),show(-52- -52:Int).toNat=0 by decide,Nat.pow_zero,Nat.mul_one];by_cases h2:i<=12
     .rw[Int.min_eq_left h2,show(i-i).toNat=0 by omega,Nat.pow_zero,Nat.mul_one]at q;have a1:4503599627370496*1<=4503599627370496*2^(12-i).toNat:=Nat.mul_le_mul_left _ (Nat.pow_pos (by decide));have a2:m*1<=m*2^(i- -52).toNat:=Nat.mul_le_mul_left _ (Nat.pow_pos (by decide));omega
     .rw[Int.min_eq_right (by omega),show(12-12:Int).toNat=0 by decide,Nat.pow_zero,Nat.mul_one]at q;exact Nat.le_trans q (Nat.mul_le_mul_left _ (Nat.pow_le_pow_right (by decide) (by omega)))
  rcases Int.lt_or_eq_of_le key with g|g
  .have:compare (signed s m (i-min i (-52)).toNat) (signed false 4503599627370496 (-52-min i (-52)).toNat)= .gt:=by
    rw[Int.compare_eq_gt];exact g
   rw[this];rfl
  .have:compare (signed s m (i-min i (-52)).toNat) (signed false 4503599627370496 (-52-min i (-52)).toNat)= .eq:=by
    rw[Int.compare_eq_eq];exact g.symm
   rw[this];rfl
end Go.Sh
namespace Go.Sh
section
variable{E:Env}{Z:List Pr}{w:World}
def bO(H:Sat Z w){n r:Int}{K:Int->World->Prop}(T: ∀w',Sat Z w'->K (timesV n r) w'):F.Eb E n r K w:=by
 unfold F.Eb T0.Eb F.Et T0.Et F.Ea;have main: ∀(x:Nat) w',Sat Z w'->(bif (DY x 4895412794951729152==some .gt||DY x 4895412794951729152==some .eq)then(18446744073709551615:Int)else bif (DY x 4607182418800017408==some .gt||DY x 4607182418800017408==some .eq)then(Rv x).getD 0 else 0)=timesV n r->
   CND (!(DY x 4607182418800017408==some .gt||DY x 4607182418800017408==some .eq)) (K 0 w')
    (CND ((DY x 4895412794951729152==some .gt||DY x 4895412794951729152==some .eq)) (K 18446744073709551615 w') (∃j:Int,Rv x=some j/\(IntKind.min .u64<=j/\j<=IntKind.max .u64)/\K j w')):=by
  intro x w' O e;have hk:=T w' O;refine Qn (AP (λh1=>AP (λh2=> ?_) λh2=> ?_) λh1=> ?_)
  .rw[h2]at e;rw[<-e]at hk;exact hk
  .obtain⟨k,v,Y⟩:=YB h1 (by grind);refine⟨k,v,⟨by show(0:Int)<=k;omega,by show(k:Int)<=18446744073709551615;omega⟩,?_⟩;rw[h2,h1,cond_false,cond_true,v]at e;rw[<-e]at hk;exact hk
  .have h2:(DY x 4895412794951729152==some .gt||DY x 4895412794951729152==some .eq)=false:=by
    cases c:(DY x 4895412794951729152==some .gt||DY x 4895412794951729152==some .eq)with
    | false=>rfl
    | true=>rw[wR c]at h1;cases h1
   grind
 have key:FRES (JD .mul (Lv n) r.toNat) w λy J=>
   CND (!(DY y 4607182418800017408==some .gt||DY y 4607182418800017408==some .eq)) (K 0 J)
    (CND ((DY y 4895412794951729152==some .gt||DY y 4895412794951729152==some .eq)) (K 18446744073709551615 J) (∃j:Int,Rv y=some j/\(IntKind.min .u64<=j/\j<=IntKind.max .u64)/\K j J)):=by
  cases hx:JD .mul (Lv n) r.toNat with
  | some x=>
   refine main x w H ?_;unfold timesV;rw[hx]
  | none=>
   intro t;refine main (kS t) w.drew H.drew ?_;rw[Tv,Tv,Mc hx];rfl
 exact key
end
def GP(x:DW):(DE x).length=6:=rfl
def Mg(x:DW): ∀v∈DE x,v.oneCell'=true:=by
 intro v j;simp only[DE,List.mem_cons,List.not_mem_nil,or_false]at j;rcases j with rfl|rfl|rfl|rfl|rfl|rfl<;>rfl
def HP(E:Env)(q:Nat)(L:List DW):Pr:=Ex λx:Ac×List DW=>Kk (x.2.Perm L) (NR [Cells q E.A5 [GJ x.1],Row E.Ah 6 x.1 (Ao DE x.2)])
section
variable{E:Env}{q:Nat}{L l:List DW}{Z:List Pr}{w:World}{s:Ac}
def Sat.Pc:Sat (HP E q L::Z) w↔ ∃s l,l.Perm L/\Sat (Cells q E.A5 [GJ s]::Row E.Ah 6 s (Ao DE l)::Z) w:=by
 unfold HP;rw[Sat.ex];constructor
 .rintro⟨⟨s,l⟩,h⟩;rw[Sat.where,Sat.star]at h
  grind
 .rintro⟨s,l,h1,h2⟩;refine⟨⟨s,l⟩,?_⟩;rw[Sat.where,Sat.star]
  grind
def WN{R:List Pr}(H:Sat (Cells q E.A5 [GJ s]::R) w):w.cell? (Addr.mk q 0 none)=some (.slice s.base s.len s.cap):=H.Aa rfl
def rzSt{s':Ac}{R:List Pr}(H:Sat (Cells q E.A5 [GJ s]::R) w){K:World->Prop}(j: ∀w',Sat (Cells q E.A5 [GJ s']::R) w'->K w'):stCells (Addr.mk q 0 none) 0 [.slice s'.base s'.len s'.cap] w K:=
 DZ H (o:=0) rfl (Nat.zero_lt_one) j
def VY(H:Sat (Row E.Ah 6 s (Ao DE l)::Z) w):l.length=s.len/\s.len<=s.cap/\s.cap<9223372036854775808:=H.Gb (by decide) GP
def WO(H:Sat (Row E.Ah 6 s (Ao DE l)::Z) w){i:Nat}{x:DW}(J:l[i]? =some x): ∃b,s.base=some ⟨b,0,none⟩/\w.cell? ((Addr.mk b 0 none).add (i*6))=some (.int .i64 x.id)/\ ∀j v,(DE x)[j]? =some v->w.cell? (((Addr.mk b 0 none).add (i*6)).add j)=some v:=by
 obtain⟨b,y⟩:=H.FY (by decide) GP (List.getElem?_eq_some_iff.1 J).1;refine⟨b,y,?_,λj v K=> ?_⟩
 .have:=H.Bp GP y J (j:=0) rfl;omega
 .rw[add_add];exact H.Bp GP y J K
def gL(H:Sat (HP E q L::Z) w)(x:DW)(hf:L.length<1099511627776){K:Int->World->Prop}
  (aI:OA x.id x.kd.1-> ∀w',Sat (HP E q L::Z) w'->K 1 w')(aJ: ¬OA x.id x.kd.1->(∃y∈L,y.id=x.id∨y.base=x.base)-> ∀w',Sat (HP E q L::Z) w'->K 34 w')
  (aH: ¬OA x.id x.kd.1->(∀y∈L,y.id≠x.id/\y.base≠x.base)-> ∀w',Sat (HP E q (JG L x)::Z) w'->K 0 w'):
  F.Gt E (some ⟨q,0,none⟩) x.id x.base x.kd.1 x.kd.2.1 x.kd.2.2.1 x.kd.2.2.2 K w:=by
 unfold F.Gt;obtain⟨s,l,hp,H1⟩:=Sat.Pc.1 H;have aV:=hp.length_eq;refine AQ (vs:=DE x) H1 λb1 w2 T _=> ?_;have J:OA x.id x.kd.1->K 1 w2:=λh=>aI h w2 (Sat.Pc.2 ⟨s,l,hp,T.tail⟩);refine AU ⟨x.id,T.Aa rfl,AB (λg j=>AS rfl (J (.inl g))) λg1=>⟨x.kd.1,T.cell rfl,AB (λg j=>AS rfl (J (.inr (.inl g)))) λg2=>⟨x.kd.1,T.cell rfl,λj=>AB (λg=>J (.inr (.inr (by omega)))) λg3=> ?_⟩⟩⟩;have aC: ¬OA x.id x.kd.1:=by unfold OA;omega
 refine AJ (λst w'=>Sat (Cells b1 E.Ah (DE x)::Cells q E.A5 [GJ s]::Row E.Ah 6 s (Ao DE l)::Z) w'/\ ∃i:Nat,st.1=(i:Int)/\i<=l.length/\ ∀(j:Nat) y,j<i->l[j]? =some y->y.id≠x.id/\y.base≠x.base)
  (λst _=>((l.length:Int)-st.1).toNat) ⟨T,0,rfl,Nat.zero_le _,λj y hj=>by omega⟩ ?_
 rintro⟨i',u⟩ _ aK ⟨O,i,hi,aT,aU⟩;dsimp only at hi⊢;subst hi;have hl:=VY (O.front 2 rfl);refine AF ⟨s,WN (O.front 1 rfl),AB (λaB=> ?_) λaS=> ?_⟩
 .have v:=O.drew;obtain⟨y,hy⟩: ∃y,l[i]? =some y:=⟨_,List.getElem?_eq_getElem (by omega)⟩;obtain⟨b,hb,c0,c⟩:=WO (v.front 2 rfl) hy;have aD:y.id=x.id∨y.base=x.base->K 34 aK.drew:=λh=>aJ aC ⟨y,hp.mem_iff.1 (List.mem_of_getElem? hy),h⟩ _ (Sat.Pc.2 ⟨s,l,hp,v.tail⟩);have hq:=WN (v.front 1 rfl);refine AU (AF ⟨s,hq,?_⟩)
  try dsimp only
  rw[hb];refine AF ⟨⟨by omega,aB⟩,y.id,c0,x.id,v.Aa rfl,BI (λe j=>AS rfl (aD (.inl e))) λe1=>AF ⟨s,hq,?_⟩⟩
  try dsimp only
  rw[hb];refine AF ⟨⟨by omega,aB⟩,y.base,c 1 _ rfl,x.base,v.cell rfl,λj=>BI (λe=>aD (.inr e)) λe2=> ?_⟩;rw[AM (n:=(i:Int)+1)];refine⟨⟨v,i+1,by omega,by omega,λj z hj hz=> ?_⟩,by omega⟩
  grind
 .have v:=O.drew;have aA: ∀y∈L,y.id≠x.id/\y.base≠x.base:=λy hy=>by
   obtain⟨j,hj⟩:=List.mem_iff_getElem?.1 (hp.mem_iff.2 hy)
   grind
  refine AF ⟨s,WN (v.front 1 rfl),_,v.cell rfl,_,v.cell rfl,_,v.cell rfl,_,v.cell rfl,_,v.cell rfl,_,v.cell rfl,?_⟩;refine AQ (vs:=DE x) v.tail λaR aW Y _=>⟨WN (Y.front 1 rfl),?_⟩;refine GD (news:=DE x) (Y.FP 1 rfl) rfl rfl (Mg x) (by omega) (by omega) λpC aX aF _=>AF ?_;refine rzSt (s':=pC) (aF.front 1 rfl) λaL aG=>aH aC aA aL (Sat.Pc.2 ⟨pC,l++[x],?_,?_⟩)
  .exact List.perm_append_comm.trans ((List.Perm.cons x hp).trans (Jv L x).symm)
  .rw[F9];exact aG
def VZ(H:Sat (Cells q E.A5 [GJ s]::Row E.Ah 6 s (Ao DE l)::Z) w)(hf:l.length<1099511627777){i:Nat}(Y:i<l.length){K:World->Prop}
  (hK: ∀s' w',Sat (Cells q E.A5 [GJ s']::Row E.Ah 6 s' (Ao DE (l.eraseIdx i))::Z) w'->K w'):F.Ff E (some ⟨q,0,none⟩) i K w:=by
 unfold F.Ff;have hl:=VY (H.front 1 rfl);refine IU (n:=0) (z:=6) H rfl (by decide) λb1 w2 J=>AF ⟨s,WN (J.front 1 rfl),⟨by omega,by omega⟩,?_⟩;rw[Int.toNat_natCast];refine Gq (x:=⟨HU s.base s.cap 0 6,i,s.cap⟩) (news:=Ao DE (l.take i)) J rfl ((J.front 2 rfl).RC (by decide) GP (Nat.le_of_lt Y)) (by rw[D8 GP,List.length_take];grind) (IE Mg _) (by grind) (by grind) λs5 w6 v O=> ?_;rw[List.nil_append]at v;dsimp only at O;rw[AM (n:=(i:Int)+1)];refine AF ⟨s,WN (v.front 1 rfl),⟨by omega,by omega⟩,?_⟩;rw[show Int.toNat ((i:Int)+1)=i+1 by omega];refine Gq (x:=⟨HU s.base s.cap (i+1) 6,s.len-(i+1),s.cap-(i+1)⟩) (news:=Ao DE (l.drop (i+1))) v rfl ((v.front 2 rfl).RD (by decide) GP Y) (by rw[D8 GP,List.length_drop];grind) (IE Mg _) (by grind) (by grind) λs9 aB j _=> ?_;rw[<-F9,<-List.eraseIdx_eq_take_drop_succ]at j;refine AF (rzSt (s':=s9) (j.front 1 rfl) λT y=>hK s9 T (y.front 2 rfl).tail)
def L9(p:DW->Prop)(l:List DW)(i:Nat)(a:Int):Prop:=
 (a= -1/\ ∀(j:Nat) x,j<i->l[j]? =some x-> ¬p x)∨ ∃(m:Nat) (y:DW),a=(m:Int)/\m<i/\l[m]? =some y/\p y/\ ∀(j:Nat) x,j<i->l[j]? =some x->p x->y.base<=x.base
def L9.skip{p:DW->Prop}{i:Nat}{a:Int}(h:L9 p l i a){x:DW}(O:l[i]? =some x)(hp: ¬p x):L9 p l (i+1) a:=by
 have split: ∀(j:Nat) z,j<i+1->l[j]? =some z->(j<i∨z=x):=λj z J hz=>by grind
 rcases h with ⟨e,h⟩|⟨m,y,e,hm,K,h1,h2⟩
 .exact .inl ⟨e,λj z J hz=>(split j z J hz).elim (λg=>h j z g hz) λg=>g▸hp⟩
 .exact .inr ⟨m,y,e,by omega,K,h1,λj z J hz v=>(split j z J hz).elim (λg=>h2 j z g hz v) λg=>absurd (g▸v) hp⟩
def L9.Cr{p:DW->Prop}{i m:Nat}{y:DW}(h:L9 p l i m)(J:l[m]? =some y){x:DW}(Y:l[i]? =some x)(O:y.base<=x.base):L9 p l (i+1) m:=by
 rcases h with ⟨e,h⟩|⟨m',y',e,hm,v,h1,h2⟩
 .omega
 .have e:m=m':=by omega
  subst e;rw[J]at v;cases v;refine .inr ⟨m,y,rfl,by omega,J,h1,λj z T hz K=> ?_⟩
  grind
def L9.take{p:DW->Prop}{i:Nat}{a:Int}(h:L9 p l i a){x:DW}(J:l[i]? =some x)(hp:p x)(K:a<0∨ ∀(m:Nat) y,a=m->l[m]? =some y->x.base<=y.base):L9 p l (i+1) i:=by
 refine .inr ⟨i,x,rfl,by omega,J,hp,λj z O hz v=> ?_⟩;by_cases e:j=i
 .grind
 .rcases h with ⟨_,h⟩|⟨m,y,e,hm,T,h1,h2⟩
  .grind
  grind
def bP(H:Sat (HP E q L::Z) w)(hI:Km L){k:Kd}{K:Int->Bool->World->Prop}(aK:Ej L k=[]-> ∀w',Sat (HP E q L::Z) w'->K 0 false w')
  (aL: ∀x r,Ej L k=x::r-> ∀w',Sat (HP E q (EY L x.id)::Z) w'->K x.id true w'):F.Bk E (some ⟨q,0,none⟩) k.1 k.2.1 k.2.2.1 k.2.2.2 K w:=by
 unfold F.Bk T0.Bk;obtain⟨s,l,hp,H1⟩:=Sat.Pc.1 H;have aY:=hp.length_eq;have aP:=hI.JI;refine AJ (λst w'=>Sat (Cells q E.A5 [GJ s]::Row E.Ah 6 s (Ao DE l)::Z) w'/\ ∃i:Nat,st.2.1=(i:Int)/\i<=l.length/\L9 (λx=>x.kd=k) l i st.1)
  (λst _=>((l.length:Int)-st.2.1).toNat) ⟨H1,0,rfl,Nat.zero_le _,.inl ⟨rfl,λj y hj=>by omega⟩⟩ ?_
 rintro⟨a,i',u⟩ _ w2 ⟨J,i,hi,aX,v⟩;dsimp only at hi v⊢;subst hi;have hl:=VY (J.front 1 rfl);refine AF ⟨s,WN J,AB (λaM=>AF ⟨s,WN J,?_⟩) λaW=> ?_⟩
 .obtain⟨x,O⟩: ∃x,l[i]? =some x:=⟨_,List.getElem?_eq_getElem (by omega)⟩;obtain⟨b,hb,_,c⟩:=WO (J.front 1 rfl) O;rw[hb];refine AF ⟨⟨by omega,aM⟩,_,c 0 _ rfl,_,c 1 _ rfl,_,c 2 _ rfl,_,c 3 _ rfl,_,c 4 _ rfl,_,c 5 _ rfl,?_⟩;refine AQ (vs:=[.int .i64 0,.int .u64 0,.int .i64 0,.bool false,.bool false,.bool false]) J λaT a0 aF _=> ?_;refine Gm (news:=DE x) aF rfl (Mg x) λaN aG=> ?_;have Y:=aG.drew;rw[AM (n:=(i:Int)+1)];have T: ∀{a':Int},L9 (λx=>x.kd=k) l (i+1) a'->(Sat (Cells q E.A5 [GJ s]::Row E.Ah 6 s (Ao DE l)::Z) aN.drew/\ ∃j:Nat,(i:Int)+1=(j:Int)/\j<=l.length/\L9 (λx=>x.kd=k) l j a')/\((l.length:Int)-((i:Int)+1)).toNat<((l.length:Int)-(i:Int)).toNat:=
   λh=>⟨⟨Y.tail,i+1,by omega,by omega,h⟩,by omega⟩
  have no:=λg:x.kd≠k=>T (v.skip O g);refine AU ⟨x.kd.1,Y.cell rfl,BI (λe1=>⟨x.kd.2.1,Y.cell rfl,?_⟩) λg j=>AO rfl (no λe=>g (by rw[e]))⟩;refine AP (λe2=>⟨x.kd.2.2.1,Y.cell rfl,AP (λe3=>⟨x.kd.2.2.2,Y.cell rfl,AP (λe4=> ?_) λg j=>AO rfl (no λe=>by grind)⟩) λg j=>AO rfl (no λe=>by grind)⟩) λg j=>AO rfl (no λe=>by grind);have hk:x.kd=k:=Prod.ext e1 (Prod.ext (by grind) (Prod.ext (by grind) (by grind)));refine AB (λha j=>AS rfl (T (v.take O hk (.inl ha)))) λha=>⟨x.base,Y.cell rfl,AF ⟨s,WN (Y.front 1 rfl),?_⟩⟩;obtain⟨m,y,e,hm,hy,-,-⟩: ∃(m:Nat) (y:DW),a=(m:Int)/\m<i/\l[m]? =some y/\y.kd=k/\True:=by
   rcases v with ⟨e,_⟩|⟨m,y,e,hm,hy,h1,_⟩
   .omega
   grind
  subst e;obtain⟨b',aJ,_,c'⟩:=WO (Y.front 2 rfl) hy;rw[aJ];refine AF ⟨⟨by omega,by omega⟩,y.base,c' 1 _ rfl,λj=>AB (λg=>T (v.take O hk (.inr λm' y' e aZ=> ?_))) λg=>T (v.Cr hy O (by omega))⟩
  grind
 .have e:i=l.length:=by omega
  subst e;refine AB (λha=>aK ?_ w2 (Sat.Pc.2 ⟨s,l,hp,J⟩)) λha=>AF ⟨s,WN J,?_⟩
  .rcases v with ⟨_,h⟩|⟨m,y,e,_⟩
   .refine List.filter_eq_nil_iff.2 λx O=> ?_;obtain⟨j,hj⟩:=List.mem_iff_getElem?.1 (hp.mem_iff.2 O)
    grind
   .omega
  .rcases v with ⟨e,_⟩|⟨m,y,e,hm,hy,h1,h2⟩
   .omega
   subst e;obtain⟨b,hb,c0,_⟩:=WO (J.front 1 rfl) hy;rw[hb];refine AF ⟨⟨by omega,by omega⟩,y.id,c0,VZ J (by omega) hm λs' w' H'=> ?_⟩;have aC:y∈L:=hp.mem_iff.1 (List.mem_of_getElem? hy);have aD:y∈Ej L k:=EU.2 ⟨aC,h1⟩;obtain⟨x,r,aA⟩: ∃x r,Ej L k=x::r:=by
    cases e:Ej L k with
    | nil=>grind
    | cons x r=>grind
   have hs:=LD hI.IJ k;have O:=EU.1 (show x∈Ej L k by rw[aA];exact .head _);have aH:x=y:=by
    rw[aA]at aD hs;rcases List.mem_cons.1 aD with e|g
    .exact e.symm
    .have g1:x.base<y.base:=(List.pairwise_cons.1 hs).1 y g;obtain⟨j,hj⟩:=List.mem_iff_getElem?.1 (hp.mem_iff.2 O.1)
     grind
   subst aH;refine aL x r aA w' (Sat.Pc.2 ⟨s',_,?_,H'⟩);exact(((DV hy).symm.trans hp).trans (ND hI.nd aC)).cons_inv
def gM(H:Sat (HP E q L::Z) w)(hI:Km L){id:Int}{K:Int->World->Prop}(aA:(∀x∈L,x.id≠id)-> ∀w',Sat (HP E q L::Z) w'->K 35 w')(Y: ∀x∈L,x.id=id-> ∀w',Sat (HP E q (EY L id)::Z) w'->K 0 w'):
  F.CC E (some ⟨q,0,none⟩) id K w:=by
 unfold F.CC T0.CC;obtain⟨s,l,hp,H1⟩:=Sat.Pc.1 H;have aJ:=hp.length_eq;have aD:=hI.JI;have hl:=VY (H1.front 1 rfl);refine AJ (λst w'=>w'=w/\ ∃i:Nat,st.1=(i:Int)/\i<=l.length/\ ∀(j:Nat) y,j<i->l[j]? =some y->y.id≠id) (λst _=>((l.length:Int)-st.1).toNat) ⟨rfl,0,rfl,Nat.zero_le _,λj y T=>by omega⟩ ?_;rintro⟨i',u⟩ _ w2 ⟨rfl,i,hi,aI,J⟩;dsimp only at hi⊢;subst hi;refine AF ⟨s,WN H1,AB (λaB=>AF ⟨s,WN H1,?_⟩) λaH=>aA (λx v=> ?_) w2 H⟩
 .obtain⟨x,v⟩: ∃x,l[i]? =some x:=⟨_,List.getElem?_eq_getElem (by omega)⟩;obtain⟨b,hb,c0,_⟩:=WO (H1.front 1 rfl) v;rw[hb];refine AF ⟨⟨by omega,aB⟩,x.id,c0,BI (λe=>VZ H1 (by omega) (by omega) λs' w' H'=> ?_) λe=> ?_⟩
  .have O:x∈L:=hp.mem_iff.1 (List.mem_of_getElem? v);refine Y x O e w' (Sat.Pc.2 ⟨s',_,?_,H'⟩);rw[<-e];exact(((DV v).symm.trans hp).trans (ND hI.nd O)).cons_inv
  .rw[AM (n:=(i:Int)+1)];refine⟨⟨rfl,i+1,by omega,by omega,λj y T hy=> ?_⟩,by omega⟩;by_cases ej:j=i
   .rw[ej,v]at hy;cases hy;exact e
   .exact J j y (by omega) hy
 .obtain⟨j,T⟩:=List.mem_iff_getElem?.1 (hp.mem_iff.2 v);exact J j x (by have:=(List.getElem?_eq_some_iff.1 T).1;omega) T
def YT(H:Sat (HP E q L::Z) w)(hI:Km L){K:Int->Bool->World->Prop}(aF:(∀x∈L,x.EO=true)-> ∀w',Sat (HP E q L::Z) w'->K 0 false w')(aG: ∀x,Nk L x-> ∀w',Sat (HP E q L::Z) w'->K x.id true w'):
  F.GG E (some ⟨q,0,none⟩) K w:=by
 unfold F.GG;obtain⟨s,l,hp,H1⟩:=Sat.Pc.1 H;have aQ:=hp.length_eq;have aJ:=hI.JI;refine AJ (λst w'=>Sat (Cells q E.A5 [GJ s]::Row E.Ah 6 s (Ao DE l)::Z) w'/\ ∃i:Nat,st.2.1=(i:Int)/\i<=l.length/\L9 (λx=>x.EO=false) l i st.1)
  (λst _=>((l.length:Int)-st.2.1).toNat) ⟨H1,0,rfl,Nat.zero_le _,.inl ⟨rfl,λj y hj=>by omega⟩⟩ ?_
 rintro⟨a,i',u⟩ _ w2 ⟨T,i,hi,aP,v⟩;dsimp only at hi v⊢;subst hi;have hl:=VY (T.front 1 rfl);refine AF ⟨s,WN T,AB (λaB=> ?_) λaO=> ?_⟩
 .obtain⟨x,J⟩: ∃x,l[i]? =some x:=⟨_,List.getElem?_eq_getElem (by omega)⟩;have Y:=T.drew;obtain⟨b,hb,_,c⟩:=WO (Y.front 1 rfl) J;rw[AM (n:=(i:Int)+1)];have O: ∀{a':Int},L9 (λx=>x.EO=false) l (i+1) a'->(Sat (Cells q E.A5 [GJ s]::Row E.Ah 6 s (Ao DE l)::Z) w2.drew/\ ∃j:Nat,(i:Int)+1=(j:Int)/\j<=l.length/\L9 (λx=>x.EO=false) l j a')/\((l.length:Int)-((i:Int)+1)).toNat<((l.length:Int)-(i:Int)).toNat:=
   λh=>⟨⟨Y,i+1,by omega,by omega,h⟩,by omega⟩
  refine AU (AF ⟨s,WN Y,?_⟩);have ra:=λ(P:Addr->Prop) (h:P ⟨b,0,none⟩)=>show NC s.base P by rw[hb];exact AF h
  refine ra _ ⟨⟨by omega,aB⟩,x.EO,c 5 _ rfl,AP (λg1=> ?_) λg j=>AO rfl (O (v.skip J λe=>by grind))⟩;have hs:x.EO=false:=by grind
  refine AB (λha j=>AS rfl (O (v.take J hs (.inl ha)))) λha=>AF ⟨s,WN Y,ra _ ⟨⟨by omega,aB⟩,x.base,c 1 _ rfl,AF ⟨s,WN Y,?_⟩⟩⟩;obtain⟨m,y,e,hm,hy⟩: ∃(m:Nat) (y:DW),a=(m:Int)/\m<i/\l[m]? =some y:=by
   rcases v with ⟨e,_⟩|⟨m,y,e,hm,hy,_⟩
   .omega
   grind
  subst e;obtain⟨b',aE,_,c'⟩:=WO (Y.front 1 rfl) hy;rw[aE];refine AF ⟨⟨by omega,by omega⟩,y.base,c' 1 _ rfl,λj=>AB (λg=>O (v.take J hs (.inr λm' y' e aR=> ?_))) λg=>O (v.Cr hy J (by omega))⟩
  grind
 .have e:i=l.length:=by omega
  subst e;refine AB (λha=>aF (λx J=> ?_) w2 (Sat.Pc.2 ⟨s,l,hp,T⟩)) λha=>AF ⟨s,WN T,?_⟩
  .rcases v with ⟨_,h⟩|⟨m,y,e,_⟩
   .obtain⟨j,hj⟩:=List.mem_iff_getElem?.1 (hp.mem_iff.2 J)
    grind
   .omega
  .rcases v with ⟨e,_⟩|⟨m,y,e,hm,hy,h1,h2⟩
   .omega
   subst e;obtain⟨b,hb,c0,_⟩:=WO (T.front 1 rfl) hy;rw[hb];refine AF ⟨⟨by omega,by omega⟩,y.id,c0,aG y ⟨hp.mem_iff.1 (List.mem_of_getElem? hy),h1,λx J h3=> ?_⟩ w2 (Sat.Pc.2 ⟨s,l,hp,T⟩)⟩;obtain⟨j,hj⟩:=List.mem_iff_getElem?.1 (hp.mem_iff.2 J)
   grind
def Va(H:Sat (HP E q L::Z) w)(v:L.length<=1099511627776){sw:Bool}{K:Int->World->Prop}(hK:K ((MH L sw:Nat):Int) w):F.Ey E (some ⟨q,0,none⟩) sw K w:=by
 unfold F.Ey;obtain⟨s,l,hp,H1⟩:=Sat.Pc.1 H;have aB:=hp.length_eq;have hl:=VY (H1.front 1 rfl);have hlen: ∀i,MH (l.take i) sw<=i:=λi=>Nat.le_trans (List.length_filter_le _ _) (by rw[List.length_take];omega);refine AJ (λst w'=>w'=w/\ ∃i:Nat,st.2.1=(i:Int)/\i<=l.length/\st.1=(MH (l.take i) sw:Nat)) (λst _=>((l.length:Int)-st.2.1).toNat) ⟨rfl,0,rfl,Nat.zero_le _,rfl⟩ ?_;rintro⟨n,i',u⟩ _ w2 ⟨rfl,i,y,aA,J⟩;dsimp only at y J⊢;subst y;subst J;refine AF ⟨s,WN H1,AB (λj=>AF ⟨s,WN H1,?_⟩) λY=> ?_⟩
 .obtain⟨x,O⟩: ∃x,l[i]? =some x:=⟨_,List.getElem?_eq_getElem (by omega)⟩;obtain⟨b,T,_,c⟩:=WO (H1.front 1 rfl) O;rw[T];have h1:=hlen i;have e:MH (l.take (i+1)) sw=MH (l.take i) sw+if x.EO==sw then 1 else 0:=by
   unfold MH;rw[List.take_succ,O,List.filter_append,List.length_append]
   grind
  rw[AM (n:=(i:Int)+1),AM (n:=(MH (l.take i) sw:Nat)+1)];refine AF ⟨⟨by omega,j⟩,x.EO,c 5 _ rfl,AP (λg=>⟨⟨rfl,i+1,by omega,by omega,by grind⟩,by omega⟩) λg=>⟨⟨rfl,i+1,by omega,by omega,by grind⟩,by omega⟩⟩
 .have e:MH (l.take i) sw=MH L sw:=by
   rw[List.take_of_length_le (by omega)];exact(hp.filter _).length_eq
  grind
def bQ(H:Sat (HP E q L::Z) w)(T:L.length<=1099511627776){K:Int->World->Prop}(aC:0<MH L false->K 33 w)(aB:(∀x∈L,x.EO=true)-> ∀w',Sat (HP E q (Ib L)::Z) w'->K 0 w'):F.Co E (some ⟨q,0,none⟩) K w:=by
 unfold F.Co T0.Co;refine Va H T (AB (λg=>aC (by omega)) λg=> ?_);have aE: ∀x∈L,x.EO=true:=λx hx=>by simpa using XF (L:=L) (sw:=false) (by omega) x hx
 obtain⟨s,l,hp,H1⟩:=Sat.Pc.1 H;have aJ:=hp.length_eq;refine AJ (λst w'=> ∃i:Nat,st.1=(i:Int)/\i<=l.length/\Sat (Cells q E.A5 [GJ s]::Row E.Ah 6 s (Ao DE ((l.take i).map DW.flip++l.drop i))::Z) w') (λst _=>((l.length:Int)-st.1).toNat) ⟨0,rfl,Nat.zero_le _,H1⟩ ?_;rintro⟨i',u⟩ _ w4 ⟨i,hi,aA,J⟩;dsimp only at hi⊢;subst hi;have hl:=VY (J.front 1 rfl);have hlen:((l.take i).map DW.flip++l.drop i).length=l.length:=by grind
 refine AF ⟨s,WN J,AB (λaD=>AF ⟨s,WN J,?_⟩) λaI=> ?_⟩
 .obtain⟨x,hx⟩: ∃x,l[i]? =some x:=⟨_,List.getElem?_eq_getElem (by omega)⟩;have v:((l.take i).map DW.flip++l.drop i)[i]? =some x:=by grind
  have Y:((l.take i).map DW.flip++l.drop i).set i x.flip=(l.take (i+1)).map DW.flip++l.drop (i+1):=by
   rw[List.set_append_right _ _ (by rw[List.length_map,List.length_take];omega),List.length_map,List.length_take,Nat.min_eq_left aA,Nat.sub_self,List.take_succ,hx,List.map_append,List.append_assoc];congr 1;rw[List.drop_eq_getElem_cons (by omega:i<l.length)];rfl
  obtain⟨b,hb,_,_⟩:=WO (J.front 1 rfl) v;rw[hb];refine AF ⟨⟨by omega,aD⟩,?_⟩;rw[add_add];refine Il (J.front 1 rfl) (j:=i*6+5) rfl (by rw[D8 GP,hlen];omega) hb λaK O=> ?_;rw[JS GP (y:=x.flip) v (by decide) rfl,Y]at O;rw[AM (n:=(i:Int)+1)];exact⟨⟨i+1,by omega,by omega,O.front 1 rfl⟩,by omega⟩
 .have e:i=l.length:=by omega
  subst e;rw[List.take_of_length_le (Nat.le_refl _),List.drop_of_length_le (Nat.le_refl _),List.append_nil]at J;exact aB aE w4 (Sat.Pc.2 ⟨s,_,hp.map _,J⟩)
end
def HQ(E:Env)(r:Nat)(R:List Rc):Pr:=Ex λs:Ac=>Kk (OB R) (NR [Cells r E.BU [GJ s],Row E.AN 3 s (Ao KH R)])
section
variable{E:Env}{q:Nat}{R:List Rc}{Z:List Pr}{w:World}{s:Ac}
def Sat.YU:Sat (HQ E q R::Z) w↔OB R/\ ∃s,Sat (Cells q E.BU [GJ s]::Row E.AN 3 s (Ao KH R)::Z) w:=by
 unfold HQ;rw[Sat.ex];constructor
 .rintro⟨s,h⟩;rw[Sat.where,Sat.star]at h
  grind
 .rintro⟨h1,s,h2⟩;refine⟨s,?_⟩;rw[Sat.where,Sat.star]
  grind
def j0{Y:List Pr}(H:Sat (Cells q E.BU [GJ s]::Y) w):w.cell? (Addr.mk q 0 none)=some (.slice s.base s.len s.cap):=H.Aa rfl
def rcSt{s':Ac}{Y:List Pr}(H:Sat (Cells q E.BU [GJ s]::Y) w){K:World->Prop}(j: ∀w',Sat (Cells q E.BU [GJ s']::Y) w'->K w'):stCells (Addr.mk q 0 none) 0 [.slice s'.base s'.len s'.cap] w K:=
 DZ H (o:=0) rfl (Nat.zero_lt_one) j
def S6(H:Sat (Row E.AN 3 s (Ao KH R)::Z) w):R.length=s.len/\s.len<=s.cap/\s.cap<9223372036854775808:=H.Gb (by decide) Kf
def rZ(H:Sat (Row E.AN 3 s (Ao KH R)::Z) w){i:Nat}{x:Rc}(J:R[i]? =some x): ∃b,s.base=some ⟨b,0,none⟩/\w.cell? ((Addr.mk b 0 none).add (i*3))=some (.int .u64 x.addr)/\ ∀j v,(KH x)[j]? =some v->w.cell? (((Addr.mk b 0 none).add (i*3)).add j)=some v:=by
 obtain⟨b,y⟩:=H.FY (by decide) Kf (List.getElem?_eq_some_iff.1 J).1;refine⟨b,y,?_,λj v K=> ?_⟩
 .have:=H.Bp Kf y J (j:=0) rfl;omega
 .rw[add_add];exact H.Bp Kf y J K
def bR(hI:OB R)(H:Sat (Cells q E.BU [GJ s]::Row E.AN 3 s (Ao KH R)::Z) w){a k:Int}{K:Int->Bool->World->Prop}
  (hK: ∀(i:Nat) (ok:Bool),i<=R.length->(∀(j:Nat) x,j<i->R[j]? =some x->x.addr<a∨x.addr=a/\x.kind<k)->(∀x,R[i]? =some x-> ¬(x.addr<a∨x.addr=a/\x.kind<k))->(ok=true↔ ∃x,R[i]? =some x/\x.addr=a/\x.kind=k)->
   ∀w',Sat (Cells q E.BU [GJ s]::Row E.AN 3 s (Ao KH R)::Z) w'->K i ok w'):F.FG E (some ⟨q,0,none⟩) a k K w:=by
 unfold F.FG;have aE:=hI.JI;have hl:=S6 (H.front 1 rfl);refine AU (AJ (λst w'=>w'=w/\ ∃i:Nat,st.1=(i:Int)/\i<=R.length/\ ∀(j:Nat) x,j<i->R[j]? =some x->x.addr<a∨x.addr=a/\x.kind<k) (λst _=>((R.length:Int)-st.1).toNat) ⟨rfl,0,rfl,Nat.zero_le _,λj x hj=>by omega⟩ ?_);rintro⟨i',u⟩ _ w5 ⟨rfl,i,hi,J,O⟩;dsimp only at hi⊢;subst hi;have v:=H.drew;rw[AM (n:=(i:Int)+1)];refine AU (DX ⟨s,j0 H,AB (λg=>DX ⟨s,j0 H,?_⟩) λg=> ?_⟩)
 .obtain⟨x,hx⟩: ∃x,R[i]? =some x:=⟨_,List.getElem?_eq_getElem (by omega)⟩;obtain⟨b,hb,c0,c⟩:=rZ (H.front 1 rfl) hx;obtain⟨b',aB,d0,d⟩:=rZ (v.front 1 rfl) hx;have ra:=λ(P:Addr->Prop) (h:P ⟨b,0,none⟩)=>show NC s.base P by rw[hb];exact DX h
  have T:=λ(P:Addr->Prop) (h:P ⟨b',0,none⟩)=>show NC s.base P by rw[aB];exact DX h
  have Y:(x.addr<a∨x.addr=a/\x.kind<k)->(w5=w5/\ ∃j:Nat,(i:Int)+1=(j:Int)/\j<=R.length/\ ∀(j':Nat) y,j'<j->R[j']? =some y->y.addr<a∨y.addr=a/\y.kind<k)/\((R.length:Int)-((i:Int)+1)).toNat<((R.length:Int)-(i:Int)).toNat:=λh=>by
   refine⟨⟨rfl,i+1,by omega,by omega,λj y hj hy=> ?_⟩,by omega⟩
   grind
  refine ra _ ⟨⟨by omega,g⟩,x.addr,c0,AB (λh j=>Y (.inl h)) λh1=>DX ⟨s,j0 H,ra _ ⟨⟨by omega,g⟩,x.addr,c0,BI (λe=>DX ⟨s,j0 H,ra _ ⟨⟨by omega,g⟩,x.kind,c 1 _ rfl,AB (λh j=>Y (.inr ⟨e,h⟩)) λh2 j=> ?_⟩⟩) λe j=> ?_⟩⟩⟩
  .refine DX ⟨s,j0 v,AS (by grind) (DX ⟨s,j0 v,T _ ⟨⟨by omega,g⟩,x.addr,d0,AS (by grind) (DX ⟨s,j0 v,T _ ⟨⟨by omega,g⟩,x.kind,d 1 _ rfl,hK i _ J O (λy hy=> ?_) ?_ _ v⟩⟩)⟩⟩)⟩
   .grind
   grind
  .refine DX ⟨s,j0 v,AS (by grind) (DX ⟨s,j0 v,T _ ⟨⟨by omega,g⟩,x.addr,d0,AO (by grind) (hK i _ J O (λy hy=> ?_) ?_ _ v)⟩⟩)⟩
   .grind
   grind
 .refine λj=>DX ⟨s,j0 v,AO (by grind) (hK i _ J O (λy hy=> ?_) ?_ _ v)⟩
  .grind
  grind
def Pt(H:Sat (HQ E q R::Z) w){a k:Int}{K:Int->Int->World->Prop}(aF:(∀x∈R,¬(x.addr=a/\x.kind=k))-> ∀w',Sat (HQ E q R::Z) w'->K 0 35 w')
  (aG: ∀A y B,R=A++y::B->y.addr=a->y.kind=k-> ∀w',Sat (HQ E q (A++B)::Z) w'->K y.data 0 w'):F.Az E (some ⟨q,0,none⟩) a k K w:=by
 unfold F.Az T0.Az;obtain⟨hI,s,H1⟩:=Sat.YU.1 H;have aK:=hI.JI;refine bR hI H1 λi ok aP hb ha Au w3 T=> ?_;have hl:=S6 (T.front 1 rfl);cases ok with
 | false=>
  refine AS rfl (aF (λx hx he=> ?_) w3 (Sat.YU.2 ⟨hI,s,T⟩));obtain⟨j,hj⟩:=List.mem_iff_getElem?.1 hx;have aQ:=(List.getElem?_eq_some_iff.1 hj).1;rcases Nat.lt_trichotomy j i with c|c|c
  .grind
  .grind
  .obtain⟨y,J⟩: ∃y,R[i]? =some y:=⟨_,List.getElem?_eq_getElem (by omega)⟩;have h1:=ha y J;have h2:y.key<x.key:=hI.IJ.lt J hj c;have h3:=hI.kd y (List.mem_of_getElem? J);have h4:=hI.kd x hx;unfold Rc.key at h2;omega
 | true=>
  obtain⟨y,J,e1,e2⟩:=Au.1 rfl;have hi:=(List.getElem?_eq_some_iff.1 J).1;obtain⟨b,aD,_,c⟩:=rZ (T.front 1 rfl) J;refine AO rfl (DX ⟨s,j0 T,?_⟩);have ra:=λ(P:Addr->Prop) (h:P ⟨b,0,none⟩)=>show NC s.base P by rw[aD];exact DX h
  refine ra _ ⟨⟨by omega,by omega⟩,y.data,c 2 _ rfl,IU (n:=0) (z:=3) T rfl (by decide) λb8 w9 H9=>DX ⟨s,j0 (H9.front 1 rfl),⟨by omega,by omega⟩,?_⟩⟩;rw[Int.toNat_natCast];refine Gq (x:=⟨HU s.base s.cap 0 3,i,s.cap⟩) (news:=Ao KH (R.take i)) H9 rfl ((H9.front 2 rfl).RC (by decide) Kf (Nat.le_of_lt hi)) (by rw[D8 Kf,List.length_take];grind) (IE Md _) (by grind) (by grind) λs5 w6 Y aH=> ?_;rw[List.nil_append]at Y;dsimp only at aH;rw[AM (n:=(i:Int)+1)];refine DX ⟨s,j0 (Y.front 1 rfl),⟨by omega,by omega⟩,?_⟩;rw[show Int.toNat ((i:Int)+1)=i+1 by omega];refine Gq (x:=⟨HU s.base s.cap (i+1) 3,s.len-(i+1),s.cap-(i+1)⟩) (news:=Ao KH (R.drop (i+1))) Y rfl ((Y.front 2 rfl).RD (by decide) Kf hi) (by rw[D8 Kf,List.length_drop];grind) (IE Md _) (by grind) (by grind) λs9 aS O _=> ?_;rw[<-F9]at O;have hR:R=R.take i++y::R.drop (i+1):=by
   conv=>lhs;rw[<-List.take_append_drop i R,List.drop_eq_getElem_cons hi]
   grind
  refine DX (rcSt (s':=s9) (O.front 1 rfl) λaI aB=>aG _ y _ hR e1 e2 aI (Sat.YU.2 ⟨?_,s9,(aB.front 2 rfl).tail⟩));have v:List.Sublist (R.take i++R.drop (i+1)) R:=by
   conv=>rhs;rw[hR]
   grind
  exact⟨List.Pairwise.sublist v hI.IJ,λx hx=>hI.kd x (v.subset hx),Nat.le_trans v.length_le hI.JI⟩
def m6(H:Sat (HQ E q R::Z) w){a:Int}{K:Ac->World->Prop}(hK: ∀s w',Sat (Row E.AN 3 s (Ao KH (QX R a))::HQ E q R::Z) w'->K s w'):F.Fx E (some ⟨q,0,none⟩) a K w:=by
 unfold F.Fx;obtain⟨hI,s,H1⟩:=Sat.YU.1 H;have O:=hI.JI;refine AJ (λst w'=> ∃i:Nat,st.2.1=(i:Int)/\i<=R.length/\Sat (Row E.AN 3 st.1 (Ao KH (QX (R.take i) a))::Cells q E.BU [GJ s]::Row E.AN 3 s (Ao KH R)::Z) w') (λst _=>((R.length:Int)-st.2.1).toNat) ⟨0,rfl,Nat.zero_le _,H1.nil E.AN 3⟩ ?_;rintro⟨o,i',u⟩ _ w2 ⟨i,T,aE,j⟩;dsimp only at T j⊢;subst T;have hl:=S6 (j.front 2 rfl);have aF:=S6 j;have J:=j0 (j.front 1 rfl);refine DX ⟨s,J,AB (λg=>DX ⟨s,J,?_⟩) λg=> ?_⟩
 .obtain⟨x,Y⟩: ∃x,R[i]? =some x:=⟨_,List.getElem?_eq_getElem (by omega)⟩;obtain⟨b,hb,c0,c⟩:=rZ (j.front 2 rfl) Y;have ra:=λ(P:Addr->Prop) (h:P ⟨b,0,none⟩)=>show NC s.base P by rw[hb];exact DX h
  have e:QX (R.take (i+1)) a=QX (R.take i) a++if x.addr==a then [x]else []:=by
   unfold QX;rw[List.take_succ,Y,List.filter_append]
   grind
  have aG:(QX (R.take i) a).length<=i:=Nat.le_trans (List.length_filter_le _ _) (by rw[List.length_take];omega);rw[AM (n:=(i:Int)+1)];refine ra _ ⟨⟨by omega,g⟩,x.addr,c0,AP (λht=>DX ⟨s,J,ra _ ⟨⟨by omega,g⟩,_,c 0 _ rfl,_,c 1 _ rfl,_,c 2 _ rfl,?_⟩⟩) λhf=>⟨⟨i+1,by omega,by omega,?_⟩,by omega⟩⟩
  .refine AQ (vs:=KH x) j λaB aI v _=>GD (news:=KH x) v rfl rfl (Md x) (by omega) (by omega) λWp aJ y _=>⟨⟨i+1,by omega,by omega,?_⟩,by omega⟩;rw[e,if_pos ht,F9];rw[show Ao KH [x]=KH x by simp[Ao]];exact y
  .rw[e,if_neg (by grind),List.append_nil];exact j
 .rw[List.take_of_length_le (by omega)]at j;exact hK o w2 ((Sat.YU.2 ⟨hI,s,(j.front 1 rfl).FP 1 rfl⟩).front 1 rfl)
def sA(hI:OB R)(a:Int): ∃A C,R=A++(QX R a++C)/\QN R a=A++C:=by
 have hs: ∃A B,R=A++B/\(∀x∈A,x.key<4*a+0)/\ ∀x∈B,4*a+0<=x.key:=by
  refine⟨R.take (pos Rc.key R (4*a)),R.drop (pos Rc.key R (4*a)),(List.take_append_drop _ _).symm,λx j=> ?_,λx j=> ?_⟩
  .have:=(Lk j).2;omega
  .have:=(Ll hI.IJ j).2;omega
 obtain⟨A,B,O,J,K⟩:=hs;subst O;obtain⟨v,y⟩:=rR hI J K;exact⟨A,_,by rw[<-v,List.takeWhile_append_dropWhile],y.symm⟩
def bS(H:Sat (HQ E q R::Z) w){a:Int}{K:Ac->World->Prop}(hK: ∀s w',Sat (Row E.AN 3 s (Ao KH (QX R a))::HQ E q (QN R a)::Z) w'->K s w'):F.BM E (some ⟨q,0,none⟩) a K w:=by
 unfold F.BM T0.BM;have hI:=(Sat.YU.1 H).1;obtain⟨A,C,hR,hN⟩:=sA hI a;have aA: ∀y∈QX R a,y.addr=a:=λy hy=>by simpa using(List.mem_filter.1 hy).2
 refine m6 H λs w2 H2=> ?_;generalize QX R a=T at *
 rw[hN]at hK;subst hR;have Y:=hI.JI;simp only[List.length_append]at Y;refine AJ (λst w'=> ∃i:Nat,st.1=(i:Int)/\i<=T.length/\Sat (Row E.AN 3 s (Ao KH T)::HQ E q (A++(T.drop i++C))::Z) w') (λst _=>((T.length:Int)-st.1).toNat) ⟨0,rfl,Nat.zero_le _,H2⟩ ?_;rintro⟨i',u⟩ _ w4 ⟨i,hi,aN,v⟩;dsimp only at hi⊢;subst hi;have hl:=S6 v;refine AB (λg=> ?_) λg=> ?_
 .obtain⟨y,hy⟩: ∃y,T[i]? =some y:=⟨_,List.getElem?_eq_getElem (by omega)⟩;obtain⟨b,hb,_,c⟩:=rZ v hy;have ra:=λ(P:Addr->Prop) (h:P ⟨b,0,none⟩)=>show NC s.base P by rw[hb];exact DX h
  have hd:T.drop i=y::T.drop (i+1):=by
   rw[List.drop_eq_getElem_cons (by omega:i<T.length),(List.getElem?_eq_some_iff.1 hy).2]
  have H5:=v.front 1 rfl;rw[hd]at H5;have J:=(Sat.YU.1 H5).1;have aD:y∈A++(y::T.drop (i+1)++C):=by simp
  have ha:=aA y (List.mem_of_getElem? hy);rw[AM (n:=(i:Int)+1)];refine ra _ ⟨⟨by omega,g⟩,y.kind,c 1 _ rfl,Pt H5 (λh=>absurd ⟨ha,rfl⟩ (h y aD)) λA' z B' O h1 h2 aQ j=>⟨⟨i+1,by omega,by omega,?_⟩,by omega⟩⟩;have e:z=y:=J.IJ.inj (by rw[O];simp) aD (by unfold Rc.key;omega);subst e;have aB:=J.IJ;have e2: ∀{A1 B1:List Rc},A++(z::T.drop (i+1)++C)=A1++z::B1->A1++B1=(A++(z::T.drop (i+1)++C)).filter λy=>decide (y.key≠z.key):=λ{A1 B1} h=>by
   rw[h]at aB⊢;have hp:=List.pairwise_append.1 aB;rw[List.filter_append,List.filter_cons_of_neg (by simp),List.filter_eq_self.2,List.filter_eq_self.2]
   .exact λx hx=>by have:=(List.pairwise_cons.1 hp.2.1).1 x hx;simp;omega
   grind
  rw[e2 O,<-e2 (A1:=A) (B1:=T.drop (i+1)++C) rfl]at j;exact j.front 1 rfl
 .rw[show i=T.length by omega,List.drop_length,List.nil_append]at v;exact hK s w4 v
end
def one(c:Int):TV:=TV.nil.grow c 1
section
variable{E:Env}(hE:EnvS E){w:World}{Z:List Pr}
include hE
end
end Go.Sh

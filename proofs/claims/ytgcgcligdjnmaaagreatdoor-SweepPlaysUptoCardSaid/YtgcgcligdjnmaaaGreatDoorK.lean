/- What the law's functions do. No further condition. -/
import Derived.Test.YtgcgcligdjnmaaaGreatDoorL
import Derived.Test.YtgcgcligdjnmaaaGreatDoorH
import Derived.Test.YtgcgcligdjnmaaaGreatDoorA
import Derived.Test.YtgcgcligdjnmaaaGreatDoorC
import Derived.Test.YtgcgcligdjnmaaaGreatDoorS
import Derived.Test.YtgcgcligdjnmaaaGreatDoorF
import Derived.Test.YtgcgcligdjnmaaaGreatDoorQ
import Derived.Test.YtgcgcligdjnmaaaGreatDoorM
import Derived.Test.YtgcgcligdjnmaaaGreatDoorY
import Derived.Test.YtgcgcligdjnmaaaGreatDoorR
set_option linter.all false
set_option maxRecDepth 50000
set_option maxHeartbeats 4000000
namespace Go.Sh
def AF{a:Addr}{K:Addr->Prop}(h:K a):NC (some a) K:=by rw[AG];exact h
def Ec(U:Nat->Bool)(k:Nat):Int:=W λi=>U (64*k+i)
def EF(U:Nat->Bool)(n:Nat):List Int:=(List.range n).map (Ec U)
def LF(uw:List Int)(U:Nat->Bool):Prop:=uw=EF U uw.length/\ ∀i,64*uw.length<=i->U i=false
def Fb(U:Nat->Bool)(n:Nat):(EF U n).length=n:=by simp[EF]
def PI{U:Nat->Bool}{n k:Nat}(h:k<n):(EF U n)[k]? =some (Ec U k):=by simp[EF,h]
def kK{uw:List Int}{U:Nat->Bool}(h:LF uw U){k:Nat}(hk:k<uw.length):(ints .u64 uw)[k]? =some (.int .u64 (Ec U k)):=by
 rw[h.1];exact IF (PI hk)
def QT{U:Nat->Bool}{n:Nat}(h: ∀i,64*n<=i->U i=false):LF (EF U n) U:=by
 refine⟨by rw[Fb],?_⟩;rw[Fb];exact h
def RF{U:Nat->Bool}(h: ∀i,U i=false):LF [] U:=⟨rfl,λi _=>h i⟩
def W7{U V:Nat->Bool}{n:Nat}(h: ∀i,i<64*n->U i=V i):EF U n=EF V n:=by
 unfold EF Ec;refine List.map_congr_left λk hk=> ?_;rw[List.mem_range]at hk;exact HJ λi d=>h _ (by omega)
def UW{U V:Nat->Bool}{n k:Nat}(h: ∀i,i/64≠k->U i=V i):(EF U n).set k (Ec V k)=EF V n:=by
 apply List.ext_getElem?;intro j;rw[List.getElem?_set];by_cases hj:j<n
 .rw[PI hj,PI hj,Fb];by_cases e:k=j
  .grind
  .rw[if_neg e];unfold Ec;congr 1;exact HJ λi d=>h _ (by omega)
 .rw[List.getElem?_eq_none (l:=EF V n) (by rw[Fb];omega),List.getElem?_eq_none (l:=EF U n) (by rw[Fb];omega),Fb]
  grind
def ZE{U:Nat->Bool}{n:Nat}(h: ∀i,64*n<=i->U i=false):EF U n++[0]=EF U (n+1):=by
 unfold EF;rw[List.range_succ,List.map_append];congr 1;have:Ec U n=0:=by
  unfold Ec;exact GN.2 λi _=>h _ (by omega)
 grind
def yL{n:Nat}:Int.fdiv (n:Int) (2^(min (Int.toNat 6) (IntKind.bits .i64)))=((n/64:Nat):Int):=by
 rw[show(2:Int)^(min (Int.toNat 6) (IntKind.bits .i64))=64 by decide,Int.fdiv_eq_ediv_of_nonneg _ (by decide)];omega
def yM{n:Nat}(h:n<9223372036854775808):D5 .i64 0 (n:Int) 63=((n %64:Nat):Int):=by
 show IntKind.wrap .i64 ((BitVec.ofInt 64 (n:Int)&&&BitVec.ofInt 64 63).toNat:Int)=_;have d:(BitVec.ofInt 64 (n:Int)).toNat=n:=by
  rw[BitVec.toNat_ofInt];omega
 have j:(BitVec.ofInt 64 63).toNat=63:=by decide
 rw[BitVec.toNat_and,d,j,show(63:Nat)=2^6-1 from rfl,Nat.and_two_pow_sub_one_eq_mod];have:n %2^6<64:=Nat.mod_lt _ (by decide);exact AE
def yN{n:Nat}(h:n<1099511627776):i64 ((n:Int)*2^(min (Int.toNat 6) (IntKind.bits .i64)))=((64*n:Nat):Int):=by
 rw[show(2:Int)^(min (Int.toNat 6) (IntKind.bits .i64))=64 by decide,AE];omega
section
variable{E:Env}{w:World}{Z:List Pr}{s:Aa}{uw:List Int}{U:Nat->Bool}
def HO(H:Sat (Row E.AJ 1 s (ints .u64 uw)::Z) w):uw.length=s.len/\s.len<=s.cap/\s.cap<9223372036854775808:=by
 have d:=H.Du;simp only[ints,List.length_map]at d;exact⟨by omega,H.own.cap,H.own.top⟩
def JK(H:Sat (Row E.AJ 1 s (ints .u64 uw)::Z) w)(j:LF uw U){k:Nat}(hk:k<uw.length): ∃b,s.base=some ⟨b,0,none⟩/\w.cell? ((Addr.mk b 0 none).add (k*1))=some (.int .u64 (Ec U k)):=by
 have h:=HO H;obtain⟨b,d⟩:=H.own.Eo (by omega);exact⟨b,d,by rw[Nat.mul_one];exact H.own.cell d (kK j hk)⟩
def UX(H:Sat (Row E.AJ 1 s (ints .u64 uw)::Z) w)(j:LF uw U){n:Nat}(O:n<1099511627776){K:Bool->World->Prop}(d:K (U n) w):F.It E s n K w:=by
 unfold F.It;have J:=HO H;rw[yL,yM (by omega)];refine⟨by decide,AB (λg=>⟨by decide,?_⟩) λg=> ?_⟩
 .obtain⟨b,v,y⟩:=JK H j (k:=n/64) (by omega);rw[v,Int.toNat_natCast];simp only[AG];refine⟨⟨by omega,by omega⟩,_,y,by omega,?_⟩;unfold Ec;rw[zR _ (by omega) (by omega),Int.toNat_natCast,show 64*(n/64)+n %64=n by omega];cases hu:U n
  .rw[hu]at d;exact d
  .rw[hu]at d;exact d
 .rw[j.2 n (by omega)]at d;exact d
def ZF(hT:GL E.AN w)(H:Sat (Row E.AJ 1 s (ints .u64 uw)::Z) w)(O:LF uw U){n:Nat}(hn:n<1099511627776)(hs:s.len<1099511627776){K:Int->World->Prop}
  (J: ∀r:Nat,n<=r->U r=false->(∀i,n<=i->i<r->U i=true)->K r w):F.FH E s n K w:=by
 unfold F.FH T0.FH;have hl:=HO H;rw[yL,yM (by omega),dA (by omega)];refine⟨by decide,AY λk hk=> ?_⟩;subst hk;refine AH (λst w'=>w'=w/\ ∃k:Nat,st.1=(k:Int)/\n/64<=k/\(k<=uw.length∨k=n/64)/\ ∀i,n<=i->i<64*k->U i=true) (λst _=>((uw.length:Int)-st.1).toNat) ⟨rfl,n/64,rfl,Nat.le_refl _,.inr rfl,λi h1 h2=>by omega⟩ ?_;rintro⟨k',u⟩ _ w3 ⟨rfl,k,hk,k1,k2,k3⟩;dsimp only at hk⊢;subst hk;refine AB (λg=> ?_) λg=>⟨by decide,AY λt v=> ?_⟩
 .obtain⟨b,hb,hc⟩:=JK H O (k:=k) (by omega);rw[hb];simp only[AG];refine⟨⟨by omega,by omega⟩,_,by rw[Int.toNat_natCast];exact hc,?_⟩;have main: ∀V:Nat->Bool,(∀i,i<64->(V i=true↔U (64*k+i)=true∨64*k+i<n))->CND (W V !=18446744073709551615)
    ((0:Int)<=6/\F.Bo E (D5 .u64 2 18446744073709551615 (W V)) (λaB aC=>Hk (i64 ((i64 ((k:Int)*2^(min (Int.toNat 6) (IntKind.bits .i64))))+aB):Int) λt13=>K t13 aC) w3)
    (((w3=w3/\ ∃d:Nat,i64 ((k:Int)+1)=(d:Int)/\n/64<=d/\(d<=uw.length∨d=n/64)/\ ∀i,n<=i->i<64*d->U i=true)/\((uw.length:Int)-i64 ((k:Int)+1)).toNat<((uw.length:Int)-(k:Int)).toNat)):=λV hV=>by
   refine DM (λT=>⟨by decide,?_⟩) λhe=> ?_
   .rw[W_not];refine RA hT (λy=> ?_) λr hr h1 h2=>AY λt v=> ?_
    .exfalso;refine T ?_;rw[<-Wj];refine HJ λi hi=> ?_;have:=y i hi
     grind
    .have:t=((64*k+r:Nat):Int):=by
      rw[v,yN (by omega),AE];omega
     rw[this];have aG: ¬(U (64*k+r)=true∨64*k+r<n):=λh=>by grind
     have Y:U (64*k+r)=false:=by
      cases e:U (64*k+r)with
      | false=>rfl
      | true=>grind
     refine J _ (by omega) Y λi i1 i2=> ?_;by_cases e:i<64*k
     .exact k3 i i1 e
     .have h4:V (i-64*k)=true:=by
       have:=h2 (i-64*k) (by omega)
       grind
      rcases(hV _ (by omega)).1 h4 with q|q
      .rwa[show 64*k+(i-64*k)=i by omega]at q
      .omega
   .rw[show i64 ((k:Int)+1)=((k+1:Nat):Int) by rw[AE];rfl];refine⟨⟨rfl,k+1,rfl,by omega,.inl (by omega),λi i1 i2=> ?_⟩,by omega⟩;by_cases e:i<64*k
    .exact k3 i i1 e
    .rw[<-Wj]at he;have:=vC he (i:=i-64*k) (by omega);rcases(hV _ (by omega)).1 this with q|q
     .rwa[show 64*k+(i-64*k)=i by omega]at q
     .omega
  refine AV ⟨by decide,BF (λe=>⟨by omega,AY λt v j=> ?_⟩) λe j=> ?_⟩
  .unfold Ec at v;rw[mV]at v
   grind
  .refine main (λi=>U (64*k+i)) λi hi=>⟨.inl,λh=> ?_⟩;rcases h with h|h
   .exact h
   .omega
 .rw[<-hl.1,yN (by omega)]at v;unfold SV at v;by_cases e:64*uw.length<=n
  .have:t=(n:Int):=by rw[v];omega
   rw[this];exact J n (Nat.le_refl _) (O.2 n e) λi i1 i2=>by omega
  .have:t=((64*uw.length:Nat):Int):=by rw[v];omega
   rw[this];exact J _ (by omega) (O.2 _ (Nat.le_refl _)) λi i1 i2=>k3 i i1 (by omega)
def rowBt_setS{b t:Nat}{cs:List Value}{o:Nat}(aO:o<cs.length)(H:Sat (Cells b t (cs.set o (Fo s))::Row E.AJ 1 s (ints .u64 uw)::Z) w)(hU:LF uw U)(hs:uw.length<1099511627776){n:Nat}(hn:n<1099511627776){K:World->Prop}
  (hK: ∀s' d w',LF d (λi=>U i||i==n)->d.length=max uw.length (n/64+1)->Sat (Cells b t (cs.set o (Fo s'))::Row E.AJ 1 s' (ints .u64 d)::Z) w'->K w'):F.Jl E (some ((Addr.mk b 0 none).add o)) n K w:=by
 unfold F.Jl;rw[yL,yM (by omega),vP (by omega)];refine AH (λ_ w'=> ∃s d,LF d U/\(d.length=uw.length∨(uw.length<=d.length/\d.length<=n/64+1))/\Sat (Cells b t (cs.set o (Fo s))::Row E.AJ 1 s (ints .u64 d)::Z) w') (λ_ w'=>match w'.cell? ((Addr.mk b 0 none).add o)with|some (.slice _ l _)=>n/64+1-l|_=>0) ⟨s,uw,hU,.inl rfl,H⟩ ?_;rintro u _ w2 ⟨s,J,y,hlen,H2⟩;have hc: ∀{s:Aa},(cs.set o (Fo s))[0+o]? =some (Fo s):=λ{s}=>by grind
 have Ca: ∀{s:Aa} {w'} {Y},Sat (Cells b t (cs.set o (Fo s))::Y) w'->w'.cell? ((Addr.mk b 0 none).add o)=some (.slice s.base s.len s.cap):=λh=>h.cell hc;have hl:=HO (H2.front 1 rfl);have hm: ∀{s:Aa} {w'} {Y},Sat (Cells b t (cs.set o (Fo s))::Y) w'->(match w'.cell? ((Addr.mk b 0 none).add o)with|some (.slice _ l _)=>n/64+1-l|_=>0:Nat)=n/64+1-s.len:=λh=>by grind
 simp only[AG];refine⟨by decide,s,Ca H2,AB (λg=> ?_) λg=> ?_⟩
 .refine⟨s,Ca H2,AR (vs:=[.int .u64 0]) H2 λb8 w9 H9 _=> ?_⟩;refine EX (zs:= #[.int .u64 0]) (bytes:=8) (H9.DR 1 rfl) rfl rfl (by simp[Value.oneCell']) (by omega) (by omega) λEB aP aB aH=> ?_;refine AZ (aB.front 1 rfl) (v:=Fo EB) (o:=0) (m:=o) rfl (by grind) λaQ O=> ?_;rw[Nat.zero_add,List.set_set]at O;have e:ints .u64 J++[.int .u64 0]=ints .u64 (EF U (J.length+1)):=by
   rw[<-ZE y.2,<-y.1];simp[ints]
  rw[e]at O;refine⟨⟨EB,EF U (J.length+1),QT λi hi=>y.2 i (by omega),by rw[Fb];omega,O⟩,?_⟩
  grind
 .have H3:=H2.drew;refine⟨s,Ca H3,by decide,?_⟩;obtain⟨a,ha,aD⟩:=JK (H3.front 1 rfl) y (k:=n/64) (by omega);rw[ha,Int.toNat_natCast];simp only[AG];refine⟨⟨by omega,by omega⟩,_,aD,by omega,⟨by omega,by omega⟩,?_⟩;have ew:D5 .u64 1 (Ec U (n/64)) (W λi=>i==n %64)=Ec (λi=>U i||i==n) (n/64):=by
   unfold Ec;rw[mV]
   grind
  rw[ew,Nat.mul_one];refine HE (H3.front 1 rfl) (j:=n/64) rfl (by simp[ints];omega) ha λaF T=> ?_;have e2:(ints .u64 J).set (n/64) (.int .u64 (Ec (λi=>U i||i==n) (n/64)))=ints .u64 (EF (λi=>U i||i==n) J.length):=by
   rw[y.1,Fb,<-UW (U:=U) (k:=n/64) (V:=λi=>U i||i==n) λi hi=>by
    have:(i==n)=false:=by grind
    grind]
   simp only[ints,List.map_set]
  rw[e2]at T;refine hK s _ aF (QT λi hi=> ?_) (by rw[Fb];omega) (T.front 1 rfl);have:(i==n)=false:=by grind
  rw[y.2 i hi,this];rfl
end
def S9{U:Nat->Bool}{n:Nat}(h: ∀i,n<=i->U i=false): ∀m,cN U (n+m)=cN U n
 | 0=>rfl
 | m+1=>by
  show cN U (n+m)+(U (n+m)).toNat=_;rw[S9 h m,h _ (by omega)];rfl
def yO{U:Nat->Bool}{n m:Nat}(h1: ∀i,n<=i->U i=false)(h2: ∀i,m<=i->U i=false):cN U n=cN U m:=by
 rcases Nat.le_total n m with h|h
 .have:=S9 h1 (m-n);grind
 .have:=S9 h2 (n-m);grind
structure Qn(S:SI)(U M:Nat->Bool):Prop where
 uw:LF S.uw U
 mw:LF S.mw M
 lu:(S.uw.length:Int)*64<=S.AM+63
 lm:(S.mw.length:Int)*64<=S.AM+63
 Ja: ∀i:Nat,U i=true->(i:Int)<S.AM
 yP: ∀i:Nat,M i=true->(i:Int)<S.AM
 sl:0<=S.AM/\S.AM<=137438953472
 cnt:S.used=(cN U S.AM.toNat:Nat)
 look:0<=S.look/\S.look<=S.AM/\ ∀i:Nat,(i:Int)<S.look->U i=true
def Qn.out{S:SI}{U M:Nat->Bool}(h:Qn S U M)(i:Nat)(d:S.AM.toNat<=i):U i=false:=by
 cases e:U i with
 | false=>rfl
 | true=>have:=h.Ja i e;omega
def Qn.next{S:SI}{U M:Nat->Bool}(h:Qn S U M){n:Nat}(v:(n:Int)<S.AM)(hu:U n=false)(J: ∀i,i<n->U i=true){d:List Int}(h1:LF d λi=>U i||i==n)(h2:d.length=max S.uw.length (n/64+1)):
  Qn {S with uw:=d,used:=S.used+1,look:=(n:Int)+1} (λi=>U i||i==n) M:=by
 have hs:=h.sl;have y:=h.lu;refine⟨h1,h.mw,by grind,h.lm,λi j=> ?_,h.yP,h.sl,?_,⟨by grind,by grind,λi j=> ?_⟩⟩
 .rw[Bool.or_eq_true,beq_iff_eq]at j;rcases j with j|rfl
  .exact h.Ja i j
  .exact v
 .show S.used+1=_;rw[oZ hu,if_pos (by show n<S.AM.toNat;omega),h.cnt];rfl
 grind
def Qn.mark{S:SI}{U M:Nat->Bool}(h:Qn S U M){n:Nat}(j:(n:Int)<S.AM){mw':List Int}(h1:LF mw' λi=>M i||i==n)(h2:mw'.length=max S.mw.length (n/64+1)):
  Qn {S with mw:=mw'} U (λi=>M i||i==n):=by
 have hs:=h.sl;have v:=h.lm;refine⟨h.uw,h1,h.lu,by grind,h.Ja,λi d=> ?_,h.sl,h.cnt,h.look⟩;rw[Bool.or_eq_true,beq_iff_eq]at d;rcases d with d|rfl
 .exact h.yP i d
 .exact j
def Qn.gO{S:SI}{U M:Nat->Bool}(h:Qn S U M):0<=S.used/\S.used<=S.AM:=by
 have:=Oh U S.AM.toNat;have:=h.sl;rw[h.cnt];omega
section
variable{E:Env}{w:World}{Z:List Pr}{b:Nat}{S:SI}{U M:Nat->Bool}
def Mi(hT:GL E.AN w)(H:Sat (C9 E b S::Z) w)(v:Qn S U M)(aC:S.state≠0){K:Int->Int->World->Prop}
  (Y:(∀i:Nat,(i:Int)<S.AM->U i=true)-> ∀w',Sat (C9 E b S::Z) w'->K 0 30 w')
  (aA: ∀(n:Nat) d,(n:Int)<S.AM->U n=false->(∀i,i<n->U i=true)->Qn {S with uw:=d,used:=S.used+1,look:=(n:Int)+1} (λi=>U i||i==n) M->
   ∀w',Sat (C9 E b {S with uw:=d,used:=S.used+1,look:=(n:Int)+1}::Z) w'->K n 0 w'):F.Dg E (some ⟨b,0,none⟩) K w:=by
 obtain⟨y,sm,H⟩:=Sat.span.1 H;unfold F.Dg T0.Dg;simp only[AG];have hs:=v.sl;obtain⟨l0,l1,l2⟩:=v.look;obtain⟨k,hk⟩:=Int.eq_ofNat_of_zero_le l0;have j:Sat (Yr E b S y sm++Z) w.drew:=H.drew;refine⟨_,H.cell rfl,BF (λe=>absurd e aC) λ_=>⟨y,j.cell rfl,_,j.cell rfl,?_⟩⟩;rw[hk];have aI:=v.lu;have aJ:=HO (j.front 1 rfl);refine ZF (hT.ext (Ext.drew _ _)) (j.front 1 rfl) v.uw (by omega) (by omega) λr r1 r2 r4=>⟨_,j.cell rfl,?_⟩;have below: ∀i,i<r->U i=true:=λi hi=>by
  by_cases e:i<k
  .exact l2 i (by omega)
  .exact r4 i (by omega) hi
 refine AB (λg=>Y (λi hi=>below i (by omega)) _ (Sat.span.2 ⟨y,sm,j⟩)) λg=> ?_;have hr:(r:Int)<S.AM:=by omega
 have H1:Sat (Cells b E.FD ((GJ S y sm).set 11 (Fo y))::Row E.AJ 1 y (ints .u64 S.uw)::Row E.AJ 1 sm (ints .u64 S.mw)::Z) w.drew:=j;refine rowBt_setS (by simp[GJ]) H1 v.uw (by omega) (by omega) λs' d aM hB aB J=> ?_;have aK:=v.gO;refine⟨S.used,J.cell rfl,?_⟩;rw[AE (n:=S.used+1),AE (n:=(r:Int)+1)];refine AZ J (o:=0) (m:=7) rfl (by simp[GJ]) λaN O=>AZ O (o:=0) (m:=13) rfl (by simp[GJ]) λaD T=> ?_;exact aA r d hr r2 below (v.next hr r2 below hB aB) aD (Sat.span.2 ⟨s',sm,T⟩)
def Lu(H:Sat (C9 E b S::Z) w){i:Int}{K:Bool->World->Prop}(h1:0<=i/\i<S.AM->K true w)(h2: ¬(0<=i/\i<S.AM)->K false w):F.El E (some ⟨b,0,none⟩) i K w:=by
 refine QR H ?_;by_cases g:0<=i/\i<S.AM
 .rw[decide_eq_true g];exact h1 g
 .rw[decide_eq_false g];exact h2 g
def ZG(H:Sat (C9 E b S::Z) w)(d:Qn S U M){n:Nat}(J:(n:Int)<S.AM){K:Bool->World->Prop}(v:K (U n) w):F.FJ E (some ⟨b,0,none⟩) n K w:=by
 have j:=H;obtain⟨y,sm,H⟩:=Sat.span.1 H;unfold F.FJ T0.FJ;simp only[AG];have hs:=d.sl;refine Lu j (λ_=>AU rfl ⟨y,H.cell rfl,?_⟩) λg=>absurd (by omega) g;exact UX (H.front 1 rfl) d.uw (by omega) v
def VK(H:Sat (C9 E b S::Z) w)(d:Qn S U M){n:Nat}(y:(n:Int)<S.AM){K:Bool->World->Prop}(v:K (M n) w):F.EK E (some ⟨b,0,none⟩) n K w:=by
 have j:=H;obtain⟨J,sm,H⟩:=Sat.span.1 H;unfold F.EK T0.EK;simp only[AG];have hs:=d.sl;refine Lu j (λ_=>AU rfl ⟨sm,H.cell rfl,?_⟩) λg=>absurd (by omega) g;exact UX (H.front 2 rfl) d.mw (by omega) v
def Rv(H:Sat (C9 E b S::Z) w)(d:Qn S U M)(y:S.state=1){n:Nat}(hn:(n:Int)<S.AM){K:Int->World->Prop}
  (hK: ∀mw',Qn {S with mw:=mw'} U (λi=>M i||i==n)-> ∀w',Sat (C9 E b {S with mw:=mw'}::Z) w'->K 0 w'):F.Ea E (some ⟨b,0,none⟩) n K w:=by
 have T:=H;obtain⟨J,sm,H⟩:=Sat.span.1 H;unfold F.Ea T0.Ea;simp only[AG];have hs:=d.sl;have aB:=d.lm;refine⟨_,H.cell rfl,DM (λg=>absurd y g) λ_=>Lu T (λ_=>AO rfl ?_) λg=>absurd (by omega) g⟩;have H1:Sat (Cells b E.FD ((GJ S J sm).set 12 (Fo sm))::Row E.AJ 1 sm (ints .u64 S.mw)::Row E.AJ 1 J (ints .u64 S.uw)::Z) w:=H.perm (.cons _ (.swap _ _ _));refine rowBt_setS (by simp[GJ]) H1 d.mw (by omega) (by omega) λs' mw' O Y v j=> ?_;exact hK mw' (d.mark hn Y v) O (Sat.span.2 ⟨J,s',j.perm (.cons _ (.swap _ _ _))⟩)
def pD{V:Nat->Bool}{k i:Nat}:Ec V k=0->i/64=k->V i=false:=λh d=>by
 have:=GN.1 h (i %64) (by omega)
 grind
def Oq(H:Sat (C9 E b S::Z) w)(y:Qn S U M){K:Bool->World->Prop}(aC:(∃i,M i=true/\U i=false)->K true w)(aB:(∀i,M i=true->U i=true)->K false w):F.Gr E (some ⟨b,0,none⟩) K w:=by
 obtain⟨su,sm,H⟩:=Sat.span.1 H;unfold F.Gr;simp only[AG];have hs:=y.sl;have aJ:=y.lu;have aI:=y.lm;have l1:=HO (H.front 1 rfl);have l2:=HO (H.front 2 rfl);refine⟨sm,H.cell rfl,?_⟩;refine AH (λst w'=>w'=w/\ ∃k:Nat,st.1=(k:Int)/\ ∀i,i<64*k->M i=true->U i=true) (λst _=>((S.mw.length:Int)-st.1).toNat) ⟨rfl,0,rfl,λi J=>by omega⟩ ?_;rintro⟨k',u⟩ _ w3 ⟨rfl,k,hk,k1⟩;dsimp only at hk⊢;subst hk;refine AB (λg=> ?_) λg=>aB λi J=> ?_
 .obtain⟨c,hc,Y⟩:=JK (H.front 2 rfl) y.mw (k:=k) (by omega);rw[hc];simp only[AG];refine⟨⟨by omega,by omega⟩,_,by rw[Int.toNat_natCast];exact Y,?_⟩;have main: ∀v:Int,v=Ec (λi=>M i&& !U i) k->CND (v !=0) (K true w3) ((w3=w3/\ ∃T:Nat,i64 ((k:Int)+1)=(T:Int)/\ ∀i,i<64*T->M i=true->U i=true)/\((S.mw.length:Int)-i64 ((k:Int)+1)).toNat<((S.mw.length:Int)-(k:Int)).toNat):=λv hv=>by
   refine DM (λO=> ?_) λhe=> ?_
   .obtain⟨c,c1,c2,_⟩:=Yu (by rw[hv]at O;exact O);rw[Bool.and_eq_true,Bool.not_eq_true']at c2;exact aC ⟨_,c2⟩
   .rw[show i64 ((k:Int)+1)=((k+1:Nat):Int) by rw[AE];rfl];refine⟨⟨rfl,k+1,rfl,λi J hm=> ?_⟩,by omega⟩;by_cases e:i<64*k
    .exact k1 i e hm
    .have:=pD (hv▸he) (show i/64=k by omega)
     grind
  refine AV ⟨su,H.cell rfl,AB (λg2=> ?_) λg2 j=>main _ ?_⟩
  .obtain⟨d,hd,aA⟩:=JK (H.front 1 rfl) y.uw (k:=k) (by omega);refine⟨su,H.cell rfl,?_⟩;rw[hd];refine AF ⟨⟨by omega,by omega⟩,_,by rw[Int.toNat_natCast];exact aA,λj=>main _ ?_⟩;unfold Ec;rw[Nh]
  .unfold Ec;refine HJ λi J=> ?_;show M _=(M _&& !U _);rw[y.uw.2 _ (by omega)];simp
 .by_cases e:i<64*k
  .exact k1 i e J
  .rw[y.mw.2 i (by omega)]at J;cases J
def gP(S:SI):Prop:=0<=S.Lh/\S.Lh<4294967296/\(0<S.Lh->S.AM*S.elem<4294967296/\ ∀off:Int,0<=off->off<S.AM*S.elem->off*S.Lh/4294967296=off/S.elem)
def VL(H:Sat (C9 E b S::Z) w)(hm:gP S)(he:0<S.elem)(T:S.elem<=2199023255552)(hs:0<=S.AM/\S.AM<=1048576)(hb:0<=S.base/\S.base<=281474976710656){a:Int}(ha:0<=a/\a<18446744073709551616){K:Int->Int->World->Prop}
  (y: ¬(S.base<=a/\a<S.base+S.AM*S.elem)-> ∀w',Sat (C9 E b S::Z) w'->K 0 10 w')(Y:S.base<=a->a<S.base+S.AM*S.elem-> ∀w',Sat (C9 E b S::Z) w'->K ((a-S.base)/S.elem) 0 w'):F.Ek E (some ⟨b,0,none⟩) a K w:=by
 obtain⟨su,sm,H⟩:=Sat.span.1 H;unfold F.Ek T0.Ek;simp only[AG];have d:Sat (Yr E b S su sm++Z) w.drew:=H.drew;have v:Sat (C9 E b S::Z) w.drew:=Sat.span.2 ⟨su,sm,d⟩;have h2:S.AM*S.elem<=1048576*2199023255552:=Int.mul_le_mul hs.2 T (by omega) (by decide);have h3:0<=S.AM*S.elem:=Int.mul_nonneg hs.1 (by omega);have e1:u64 (u64 S.AM*u64 S.elem)=S.AM*S.elem:=by rw[AK (n:=S.AM),AK (n:=S.elem),AK]
 refine AV ⟨_,d.Ah rfl,AB (λg j=>AU rfl (y (λh=>by omega) _ v)) λg1=>⟨_,d.Ah rfl,_,d.cell rfl,_,d.cell rfl,λj=> ?_⟩⟩;rw[e1,AK (n:=a-S.base)];refine AB (λg=>y (λh=>by omega) _ v) λg2=>⟨_,d.Ah rfl,_,d.cell rfl,?_⟩;have hq:0<=(a-S.base)/S.elem/\(a-S.base)/S.elem<=a-S.base:=⟨Int.ediv_nonneg (by omega) (by omega),Int.ediv_le_self _ (by omega)⟩;rw[AK (n:=a-S.base)];refine AB (λg=>⟨_,d.cell rfl,?_⟩) λg=>⟨_,d.cell rfl,?_⟩
 .obtain⟨m0,m1,m2⟩:=hm;obtain⟨m3,m4⟩:=m2 g;unfold F.Ts;refine⟨by decide,AY λt O=> ?_⟩;have J: ∀{n:Int},0<=n->n<4294967296->IntKind.wrap .u32 n=n:=λ{n} h0 h1=>by
   show n %_=n;exact Int.emod_eq_of_lt h0 h1
  have hx:0<=(a-S.base)*S.Lh/\(a-S.base)*S.Lh<18446744073709551616:=by
   refine⟨Int.mul_nonneg (by omega) m0,?_⟩
   grind
  rw[J (n:=a-S.base) (by omega) (by omega),AK (n:=a-S.base),AK (n:=S.Lh),AK hx.1 hx.2,
   show(2:Int)^(min (Int.toNat 32) (IntKind.bits .u64))=4294967296 by decide,Int.fdiv_eq_ediv_of_nonneg _ (by decide),m4 _ (by omega) (by omega),J (by omega) (by omega)]at O
  rw[O];show K (i64 _) 0 _;rw[AE];exact Y (by omega) (by omega) _ v
 .rw[AK (n:=S.elem),Int.tdiv_eq_ediv_of_nonneg (by omega)];refine⟨by omega,AY λt O=> ?_⟩;have:t=(a-S.base)/S.elem:=by rw[O,AK,AE]
  grind
end
def EU(F:Nat->Bool)(m:Nat):List Int:=((List.range m).filter F).map λi:Nat=>(i:Int)
def LG(F:Nat->Bool): ∀m,(EU F m).length=cN F m
 | 0=>rfl
 | m+1=>by
  have d:=LG F m;unfold EU at d⊢;rw[List.length_map]at d⊢;rw[List.range_succ,List.filter_append,List.length_append,d];show _=cN F m+(F m).toNat
  grind
def KZ{F:Nat->Bool}{m:Nat}: ∀{n:Nat},(∀i,m<=i->i<m+n->F i=false)->EU F (m+n)=EU F m
 | 0,_=>rfl
 | n+1,h=>by
  have d:=KZ (F:=F) (m:=m) (n:=n) λi h1 h2=>h i h1 (by omega);unfold EU at d⊢;rw[show m+(n+1)=m+n+1 by omega,List.range_succ,List.filter_append,List.map_append,d,List.filter_cons_of_neg (by grind)];simp
def UY{F:Nat->Bool}{m n:Nat}(d:m<=n)(h: ∀i,m<=i->i<n->F i=false)(j:F n=true):EU F (n+1)=EU F m++[(n:Int)]:=by
 have e:=KZ (F:=F) (m:=m) (n:=n-m) λi h1 h2=>h i h1 (by omega);rw[show m+(n-m)=n by omega]at e;unfold EU at e⊢;rw[List.range_succ,List.filter_append,List.map_append,e,List.filter_cons_of_pos j];simp
def ZH(U M:Nat->Bool): ∀n,cN U n=cN (λi=>U i&&M i) n+cN (λi=>U i&& !M i) n
 | 0=>rfl
 | n+1=>by
  show cN U n+(U n).toNat=cN _ n+(U n&&M n).toNat+(cN _ n+(U n&& !M n).toNat);have:=ZH U M n;cases U n<;>cases M n<;>simp<;>omega
def UZ(S:SI)(d:List Int)(U M:Nat->Bool):SI:={S with uw:=d,mw:=[],used:=(cN (λi=>U i&&M i) S.AM.toNat:Nat),look:=0}
def Qn.FZ{S:SI}{U M:Nat->Bool}(h:Qn S U M){d:List Int}(h1:LF d λi=>U i&&M i)(h2:d.length=S.uw.length):Qn (UZ S d U M) (λi=>U i&&M i) (λ_=>false):=by
 have:=h.lu;have:=h.sl;refine⟨h1,RF λ_=>rfl,by show(d.length:Int)*64<=S.AM+63;omega,by show((0:Nat):Int)*64<=S.AM+63;omega,λi j=> ?_,λi j=>(by cases j),h.sl,rfl,⟨Int.le_refl 0,h.sl.1,λi j=> ?_⟩⟩
 .rw[Bool.and_eq_true]at j;exact h.Ja i j.1
 .have j:(i:Int)<0:=j;omega
section
variable{E:Env}{w:World}{Z:List Pr}{b:Nat}{S:SI}{U M:Nat->Bool}
def W8(hT: ∀w',Sat Z w'->GL E.AN w')(H:Sat (C9 E b S::Z) w)(T:Qn S U M)(bC:S.state=1){K:Aa->Int->World->Prop}(bA:(∃i,M i=true/\U i=false)->K ⟨none,0,0⟩ 40 w)
  (hk:(∀i,M i=true->U i=true)-> ∀aQ s,Qn (UZ S aQ U M) (λi=>U i&&M i) (λ_=>false)->s.len=cN (λi=>U i&& !M i) S.AM.toNat->
   ∀w',Sat (Row E.Bx 1 s (ints .i64 (EU (λi=>U i&& !M i) (64*S.uw.length)))::C9 E b (UZ S aQ U M)::Z) w'->K s 0 w'):F.Cr E (some ⟨b,0,none⟩) K w:=by
 have H0:=H;obtain⟨J,sm,H⟩:=Sat.span.1 H;unfold F.Cr T0.Cr;refine AF ⟨_,H.cell rfl,DM (λg=>absurd bC g) λ_=>Oq H0 T (λh=>AU rfl (bA h)) λhz=>AO rfl (AF ⟨J,H.cell rfl,?_⟩)⟩;have hs:=T.sl;have b4:=T.lu;have b3:=T.lm;have l1:=HO (H.front 1 rfl);have l2:=HO (H.front 2 rfl)
 let G:Nat->Bool:=λi=>U i&& !M i
 let Uk:Nat->Nat->Bool:=λk i=>if i<64*k then U i&&M i else U i
 have hn:S.uw.length<=2147483649:=by omega
 have a6: ∀k,LF (EF (Uk k) S.uw.length) (Uk k):=λk=>QT λi hi=>by
  show(if i<64*k then U i&&M i else U i)=false;rw[T.uw.2 i hi];grind
 have e0:EF (Uk 0) S.uw.length=S.uw:=by
  have:Uk 0=U:=by funext i;show(if i<64*0 then _ else _)=_;rw[if_neg (by omega)]
  rw[this];exact T.uw.1.symm
 have fl: ∀m,(EU G m).length<=m:=λm=>by rw[LG];exact Oh G m
 refine AH (λst w'=> ∃k:Nat,st.2.1=(k:Int)/\k<=S.uw.length/\Sat (Row E.Bx 1 st.1 (ints .i64 (EU G (64*k)))::Cells b E.FD (GJ S J sm)::Row E.AJ 1 J (ints .u64 (EF (Uk k) S.uw.length))::Row E.AJ 1 sm (ints .u64 S.mw)::Z) w') (λst _=>((S.uw.length:Int)-st.2.1).toNat) ⟨0,rfl,Nat.zero_le _,by rw[e0];exact H.nil E.Bx 1⟩ ?_;rintro⟨fr,k',u⟩ _ w8 ⟨k,aN,b1,H8⟩;dsimp only at aN H8⊢;subst aN;refine AB (λg=> ?_) λg=> ?_
 .have a9:k<S.uw.length:=by omega
  have hg:k<(EF (Uk k) S.uw.length).length:=by rw[Fb];exact a9
  obtain⟨a,ha,aG⟩:=JK (H8.front 2 rfl) (a6 k) hg;have ew:Ec (Uk k) k=Ec U k:=HJ λi hi=>by show(if 64*k+i<64*k then _ else _)=_;rw[if_neg (by omega)]
  rw[ew]at aG;have cu: ∀{w'} {vs:List Value} {Y},Sat (Row E.Bx 1 fr vs::Cells b E.FD (GJ S J sm)::Y) w'->w'.cell? ((Addr.mk b 0 none).add 11)=some (.slice J.base J.len J.cap)/\w'.cell? ((Addr.mk b 0 none).add 12)=some (.slice sm.base sm.len sm.cap):=λh=>⟨(h.front 1 rfl).cell rfl,(h.front 1 rfl).cell rfl⟩;have aD:=cu H8;refine AF ⟨J,aD.1,?_⟩
  try dsimp only
  rw[ha];refine AF ⟨⟨by omega,by omega⟩,_,by rw[Int.toNat_natCast];exact aG,?_⟩;have main: ∀v:Int,v=Ec G k-> ∀(y:Aa×Int×Unit->World->Prop),(∀st w',(∃k:Nat,st.2.1=(k:Int)/\k<=S.uw.length/\Sat (Row E.Bx 1 st.1 (ints .i64 (EU G (64*k)))::Cells b E.FD (GJ S J sm)::Row E.AJ 1 J (ints .u64 (EF (Uk k) S.uw.length))::Row E.AJ 1 sm (ints .u64 S.mw)::Z) w')/\((S.uw.length:Int)-st.2.1).toNat<((S.uw.length:Int)-(k:Int)).toNat->y st w')->
    NC (some (Addr.mk b 0 none)) λbD=> ∃O:Aa,w8.cell? (bD.add 11)=some (.slice O.base O.len O.cap)/\NC O.base λbE=>((0:Int)<=(k:Int)/\((k:Int):Int)<(O.len:Nat))/\ ∃aW:Int,w8.cell? (bE.add (Int.toNat (k:Int)*1))=some (.int .u64 aW)/\NC O.base λbF=>((0:Int)<=(k:Int)/\((k:Int):Int)<(O.len:Nat))/\
     stCells (bF.add (Int.toNat (k:Int)*1)) 0 [.int .u64 (D5 .u64 3 aW v)] w8 λaR=>
      At (Aa×Int×Unit) (fr,v,()) aR λJR _ aC aE=>
       CND ((JR.2.1:Int) !=0) (
        (0:Int)<=6/\
        F.Bo E JR.2.1 (λbG bH=>
        AL (.cells ⟨[.int .i64 (i64 ((i64 ((k:Int)*2^(min (Int.toNat 6) (IntKind.bits .i64))))+bG))]⟩ E.Bx) bH λaK aS=>
        APP E.Bx 1 8 #[.int .i64 0] JR.1 ⟨(some (Addr.mk aK 0 none)),1,1⟩ aS λPz aT=>
        Hk (D5 .u64 0 JR.2.1 (u64 (JR.2.1-1)):Int) λaV=>
        aE (Pz,aV,()) aT
        ) aC
       ) (
        y (JR.1,i64 ((k:Int)+1),()) aC
       ):=λv hv y aH=>by
   refine AF ⟨J,aD.1,?_⟩;rw[ha];refine AF ⟨⟨by omega,by omega⟩,_,by rw[Int.toNat_natCast];exact aG,AF ⟨⟨by omega,by omega⟩,?_⟩⟩;subst hv;have e1:D5 .u64 3 (Ec U k) (Ec G k)=Ec (Uk (k+1)) k:=by
    unfold Ec;rw[Nh];refine HJ λi hi=> ?_;show(U _&& !(U _&& !M _))=if 64*k+i<64*(k+1)then _ else _
    grind
   rw[e1,Int.toNat_natCast,Nat.mul_one];refine HE (H8.front 2 rfl) (j:=k) rfl (by simp[ints,Fb];omega) ha λaR aI=> ?_;have e2:(ints .u64 (EF (Uk k) S.uw.length)).set k (.int .u64 (Ec (Uk (k+1)) k))=ints .u64 (EF (Uk (k+1)) S.uw.length):=by
    rw[<-UW (U:=Uk k) (V:=Uk (k+1)) (k:=k) λi hi=>by
     show(if i<64*k then _ else _)=if i<64*(k+1)then _ else _
     grind]
    simp only[ints,List.map_set]
   rw[e2]at aI;have aY:=aI.front 1 rfl;refine AH (λst w'=> ∃c:Nat,c<=64/\st.2.1=W (λi=>G (64*k+i)&&decide (c<=i))/\Sat (Row E.Bx 1 st.1 (ints .i64 (EU G (64*k+c)))::Row E.AJ 1 J (ints .u64 (EF (Uk (k+1)) S.uw.length))::Cells b E.FD (GJ S J sm)::Row E.AJ 1 sm (ints .u64 S.mw)::Z) w') (λst _=>64*(k+1)-st.1.len) ⟨0,by omega,HJ λi hi=>by simp,aY⟩ ?_;rintro⟨a5,v2,u2⟩ _ aC ⟨c,hc,aP,aB⟩;dsimp only at aP aB⊢;subst aP;have hlen:=aB.Du;simp only[ints,List.length_map,Nat.mul_one]at hlen;have aM:=fl (64*k+c);refine DM (λbB=>⟨by decide,?_⟩) λhe=> ?_
   .refine RA (hT aC aB.tail.tail.tail.tail) (λaL=>absurd (GN.2 aL) bB) λr hr h1 h2=> ?_;rw[Bool.and_eq_true,decide_eq_true_eq]at h1;have h3: ∀i,64*k+c<=i->i<64*k+r->G i=false:=λi i1 i2=>by
     have:=h2 (i-64*k) (by omega)
     grind
    rw[yN (by omega),AE (n:=((64*k:Nat):Int)+(r:Int))];refine AR (vs:=[.int .i64 (((64*k:Nat):Int)+(r:Int))]) aB λaK aS aZ _=>EX (zs:= #[.int .i64 0]) (bytes:=8) aZ rfl rfl (by simp[Value.oneCell']) (by omega) (by omega) λPz aT bN bK=>AY λt ht=> ?_;have eb:=cS (u:=λi=>G (64*k+i)&&decide (c<=i)) hr (by grind) h2;rw[eb]at ht;have ef:=UY (F:=G) (m:=64*k+c) (n:=64*k+r) (by omega) h3 h1.1;refine⟨⟨r+1,by omega,?_,?_⟩,?_⟩
    .show t=_;rw[ht]
     grind
    .rw[show 64*k+(r+1)=64*k+r+1 by omega,ef];have:ints .i64 (EU G (64*k+c))++[.int .i64 (((64*k:Nat):Int)+(r:Int))]=ints .i64 (EU G (64*k+c)++[((64*k+r:Nat):Int)]):=by
      simp[ints]
     grind
    omega
   .rw[show i64 ((k:Int)+1)=((k+1:Nat):Int) by rw[AE];rfl];refine aH _ _ ⟨⟨k+1,rfl,by omega,?_⟩,by grind⟩;have e3:EU G (64*(k+1))=EU G (64*k+c):=by
     rw[show 64*(k+1)=64*k+c+(64-c) by omega];refine KZ λi i1 i2=> ?_;have:=GN.1 he (i-64*k) (by omega)
     grind
    show Sat (Row E.Bx 1 a5 (ints .i64 (EU G (64*(k+1))))::_) aC;rw[e3];exact aB.perm (.cons _ (.swap _ _ _))
  refine AV (AF ⟨sm,aD.2,AB (λg2=>AF ⟨sm,aD.2,?_⟩) λg2 j=>main _ ?_ _ λ_ _ h=>h⟩)
  .obtain⟨d,hd,a8⟩:=JK (H8.front 3 rfl) T.mw (k:=k) (by omega);rw[hd];refine AF ⟨⟨by omega,by omega⟩,_,by rw[Int.toNat_natCast];exact a8,λj=>main _ ?_ _ λ_ _ h=>h⟩;unfold Ec;rw[Nh]
  .unfold Ec;refine HJ λi hi=> ?_;show U _=(U _&& !M _);rw[T.mw.2 _ (by omega)];simp
 .have aO:k=S.uw.length:=by omega
  have B4:=H8.front 1 rfl;have hlen:=H8.Du;simp only[ints,List.length_map,Nat.mul_one]at hlen;have e4:cN G (64*S.uw.length)=cN G S.AM.toNat:=yO (λi hi=>by show(U i&& !M i)=false;rw[T.uw.2 i hi];rfl) λi hi=>by show(U i&& !M i)=false;rw[T.out i hi];rfl
  have aM:fr.len=cN G S.AM.toNat:=by rw[<-hlen,LG,aO,e4]
  have aX:=ZH U M S.AM.toNat;have bJ:=T.cnt;have b6:=T.gO;have hle:=Oh U S.AM.toNat;have eu:i64 (S.used-((fr.len:Nat):Int))=(cN (λi=>U i&&M i) S.AM.toNat:Nat):=by
   have:cN G S.AM.toNat=cN (λi=>U i&& !M i) S.AM.toNat:=rfl;rw[AE];omega
  refine AF ⟨_,B4.cell rfl,AF ?_⟩;rw[eu];refine AZ B4 (o:=0) (m:=7) rfl (by simp[GJ]) λb8 a0=>AF (AZ a0 (o:=0) (m:=12) (v:=Fo ⟨none,0,0⟩) rfl (by simp[GJ]) λb9 a1=>AF (AZ a1 (o:=0) (m:=13) rfl (by simp[GJ]) λaU aJ=> ?_));have e5:EF (Uk k) S.uw.length=EF (λi=>U i&&M i) S.uw.length:=W7 λi hi=>by
   show(if i<64*k then _ else _)=_
   grind
  rw[e5,aO]at aJ;refine hk hz (EF (λi=>U i&&M i) S.uw.length) fr (T.FZ (QT λi hi=>by show(U i&&M i)=false;rw[T.uw.2 i hi];rfl) (Fb _ _)) aM aU ?_;have a2:=((aJ.front 3 rfl).tail.nil E.AJ 1);have a3:Sat (Yr E b (UZ S (EF (λi=>U i&&M i) S.uw.length) U M) J ⟨none,0,0⟩++Row E.Bx 1 fr (ints .i64 (EU G (64*S.uw.length)))::Z) aU:=
   (((a2.front 0 rfl).front 3 rfl).front 2 rfl)
  have a4:=Sat.span.2 ⟨J,⟨none,0,0⟩,a3⟩;exact a4.perm (.swap _ _ _)
end
def Sat.kL{F:List Pr}{w:World}{t:Nat}{s:Aa}{vs us:List Value}(H:Sat (Row t 1 s (vs++us)::F) w):Sat (Row t 1 ⟨s.base,vs.length,s.cap⟩ vs::F) w:=by
 obtain⟨D,h,hs⟩:=H.step;have d:=h.2;have K:vs.length+us.length=s.len:=by have:=d.len;grind
 refine hs w D _ (Ext.refl _ _) ⟨h.1,⟨by simp,by have:=d.cap;grind,d.top,?_⟩⟩ λ_ hk=>.inl hk;rcases d.row with ⟨h1,h2⟩|⟨b,cs,h1,h2,j,v,y⟩
 .grind
 .refine .inr ⟨b,cs,h1,h2,j,v,?_⟩;have J:((cs.toList.take (s.len*1)).take (vs.length*1))=vs:=by
   rw[y,List.take_left' (by omega)]
  grind
def yQ{F:List Pr}{w:World}{t:Nat}{s:Aa}{vs:List Value}{v:Value}(H:Sat (Row t 1 s (vs++[v])::F) w)(ho: ∀u∈vs,u.oneCell'=true){i:Nat}(T:i<=vs.length){K:Nat->World->Prop}
  (J: ∀n w' u,Sat (Row t 1 s (vs.take i++u::vs.drop i)::F) w'->K n w'):
  CPY 1 ⟨F2 s.base s.cap (i+1) 1,s.len-(i+1),s.cap-(i+1)⟩ ⟨F2 s.base s.cap i 1,s.len-i,s.cap-i⟩ w K:=by
 have Y:=H.Du;simp at Y;have j:=H.own.cap;have y:Nat.min (s.len-i) (s.len-(i+1))=vs.length-i:=by grind
 obtain⟨b,O⟩:=H.own.Eo (by omega);have h1:=JC (z:=1) H.Kj rfl (k:=i) (by omega) j H.Du;have hd:(vs++[v]).drop (i*1)=vs.drop i++[v]:=by grind
 rw[hd]at h1;have h2:=KG h1 (m:=vs.length-i) (by omega) (by simp;omega);rw[List.take_left' (by simp)]at h2;unfold CPY;simp only[y];refine⟨vs.drop i,by simpa using h2,?_⟩;have d:F2 s.base s.cap (i+1) 1=some (if s.cap=i+1 then(Addr.mk b 0 none)else(Addr.mk b 0 none).add (i+1)):=by
  rw[O];unfold F2
  grind
 rw[d];simp only;by_cases hc:s.cap=i+1
 .have:vs.drop i=[]:=List.drop_eq_nil_iff.2 (by omega);rw[if_pos hc,this];refine J _ w v ?_;have e:vs.take i=vs:=List.take_of_length_le (by omega)
  grind
 .rw[if_neg hc];obtain⟨u,hu⟩: ∃u,(vs++[v])[i]? =some u:=⟨_,List.getElem?_eq_getElem (by simp;omega)⟩;refine S6 (vs.drop i) (i+1) 0 H (by simp;omega) (λx hx=>ho x (List.mem_of_mem_drop hx)) O λw' H'=>J _ w' u ?_;have e1:(vs++[v]).take (i+1+0)=vs.take i++[u]:=by
   rw[Nat.add_zero,List.take_succ,hu,List.take_append_of_le_length T];rfl
  have e2:(vs++[v]).drop (i+1+0+(vs.drop i).length)=[]:=List.drop_eq_nil_iff.2 (by simp;omega)
  grind
def uB{F:List Pr}{w:World}{t bytes:Nat}{s:Aa}{vs:List Value}{zs:Array Value}(H:Sat (Row t 1 s vs::F) w)(O: ∀u∈vs,u.oneCell'=true){i:Nat}(Y:i<vs.length){K:Aa->World->Prop}
  (y: ∀s' w',Sat (Row t 1 s' (vs.eraseIdx i)::F) w'->K s' w'):
  APP t 1 bytes zs ⟨F2 s.base s.cap 0 1,i,s.cap⟩ ⟨F2 s.base s.cap (i+1) 1,s.len-(i+1),s.cap-(i+1)⟩ w K:=by
 have J:=H.Du;simp at J;have d:=H.own.cap;obtain⟨b,j⟩:=H.own.Eo (by omega);have h1:=JC (z:=1) H.Kj rfl (k:=i+1) (by omega) d H.Du;rw[KR];refine⟨vs.drop (i+1),by simpa using h1,λ_=> ?_,λg=> ?_⟩
 .rw[j];simp only;rw[show i*1=i by omega];refine S6 (vs.drop (i+1)) i 0 H (by simp;omega) (λx T=>O x (List.mem_of_mem_drop T)) j λw' v=> ?_;rw[show i+(s.len-(i+1))=(vs.eraseIdx i).length by grind,<-j];refine y _ w' (Sat.kL (us:=vs.drop (i+0+(vs.drop (i+1)).length)) ?_);rw[List.eraseIdx_eq_take_drop_succ];simpa using v
 grind
structure DG where
 Fz:Nat
 id:Int
 base:Int
 kd:Kd
abbrev DG.FZ(x:DG):Bool:=x.kd.2.2.2
def JL(x:DG):Value:=.pointer (some ⟨x.Fz,0,none⟩)
def DU(x:DG):List Value:=[.int .i64 x.id,.int .u64 x.base,.int .i64 x.kd.1,.bool x.kd.2.1,.bool x.kd.2.2.1,.bool x.kd.2.2.2]
def ZI(E:Env)(x:DG):Pr:=Cells x.Fz E.IG (DU x)
def GK(f:DG->Int)(L:List DG):Int->Option Value:=λi=>(L.find? λx=>f x==i).map JL
def GO(L:List DG)(k:Kd):List DG:=L.filter λx=>decide (x.kd=k)
def IM(L:List DG)(x:DG):List DG:=L.take (pos (·.base) L x.base)++x::L.drop (pos (·.base) L x.base)
def GZ(L:List DG)(id:Int):List DG:=L.filter λx=>decide (x.id≠id)
def Ik.ext{α:Type}{key:α->Int}: ∀{A B:List α},Ik key A->Ik key B->(∀x,x∈A↔x∈B)->A=B
 | [],[],_,_,_=>rfl
 | [],b::s,_,_,h=>by have:=(h b).2 List.mem_cons_self;cases this
 | a::r,[],_,_,h=>by have:=(h a).1 List.mem_cons_self;cases this
 | a::r,b::s,hA,hB,h=>by
  have j:=List.pairwise_cons.1 hA;have d:=List.pairwise_cons.1 hB;have e:a=b:=by
   rcases List.mem_cons.1 ((h a).1 List.mem_cons_self)with e|h1
   .exact e
   .rcases List.mem_cons.1 ((h b).2 List.mem_cons_self)with e|h2
    .exact e.symm
    .have:=d.1 a h1;grind
  subst e;rw[Ik.ext j.2 d.2 λx=> ?_]
  grind
def JU(L:List DG)(x:DG):(IM L x).Perm (x::L):=by
 unfold IM;exact List.perm_middle.trans (by rw[List.take_append_drop])
def LH{L:List DG}{x y:DG}:y∈IM L x↔y=x∨y∈L:=by rw[(JU L x).mem_iff,List.mem_cons]
def QU{L:List DG}{x:DG}(hs:Ik (·.base) L)(j: ∀y∈L,y.base≠x.base):Ik (·.base) (IM L x):=by
 unfold IM;have:=Ik.jY (L:=L.take (pos (·.base) L x.base)) (M:=[x]) (N:=L.drop (pos (·.base) L x.base)) (hs.take _) (by simp[Ik]) (hs.drop _) (a:=x.base) (b:=x.base+1) (by omega) (λc d=>(K0 d).2) (λc d=>by grind) λc d=>by
  have h1:=K1 hs d
  grind
 grind
def Fh{L:List DG}{id:Int}{y:DG}:y∈GZ L id↔y∈L/\y.id≠id:=by simp[GZ]
def Ga{L:List DG}{k:Kd}{y:DG}:y∈GO L k↔y∈L/\y.kd=k:=by simp[GO]
def K2{L:List DG}(hs:Ik (·.base) L)(k:Kd):Ik (·.base) (GO L k):=hs.filter _
def pE{L:List DG}(hs:Ik (·.base) L)(id:Int):Ik (·.base) (GZ L id):=hs.filter _
def dE{L:List DG}{x:DG}{k:Kd}(hs:Ik (·.base) L)(d: ∀y∈L,y.base≠x.base)(h:x.kd≠k):GO (IM L x) k=GO L k:=
 Ik.ext (K2 (QU hs d) k) (K2 hs k) λy=>by
  rw[Ga,Ga,LH]
  grind
def uC{L:List DG}{x:DG}(hs:Ik (·.base) L)(d: ∀y∈L,y.base≠x.base):GO (IM L x) x.kd=IM (GO L x.kd) x:=
 Ik.ext (K2 (QU hs d) _) (QU (K2 hs _) λy j=>d y (Ga.1 j).1) λy=>by
  rw[Ga,LH,LH,Ga]
  grind
def Mj{α β:Type}{f:α->β}: ∀{L:List α},(L.map f).Nodup->L.Nodup
 | [],_=>.nil
 | x::r,h=>by
  rw[List.map_cons,List.nodup_cons]at h;rw[List.nodup_cons];exact⟨λd=>h.1 (List.mem_map.2 ⟨x,d,rfl⟩),Mj h.2⟩
def map_inj{α β:Type}{f:α->β}: ∀{L:List α},(L.map f).Nodup-> ∀{x y},x∈L->y∈L->f x=f y->x=y
 | [],_,x,y,d,_,_=>by cases d
 | a::r,h,x,y,d,j,e=>by
  rw[List.map_cons,List.nodup_cons]at h;rcases List.mem_cons.1 d with h1|d
  .rcases List.mem_cons.1 j with h2|j
   .rw[h1,h2]
   .exact absurd (List.mem_map.2 ⟨y,j,by rw[<-e,h1]⟩) h.1
  .rcases List.mem_cons.1 j with h2|j
   .exact absurd (List.mem_map.2 ⟨x,d,by rw[e,h2]⟩) h.1
   .exact map_inj h.2 d j e
def V4{α:Type}{key:α->Int}{L:List α}(hs:Ik key L):(L.map key).Nodup:=List.Pairwise.map _ (λa b h=>by omega) hs
def MF{f:DG->Int}{L:List DG}{i:Int}:GK f L i=none↔ ∀x∈L,f x≠i:=by
 unfold GK;rw[Option.map_eq_none_iff,List.find?_eq_none];simp
def kM{f:DG->Int}{L:List DG}(d:(L.map f).Nodup){x:DG}(j:x∈L):GK f L (f x)=some (JL x):=by
 unfold GK;cases h:L.find? λy=>f y==f x with
 | none=>grind
 | some y=>
  have h1:=List.find?_some h;have h2:=List.mem_of_find?_eq_some h;rw[map_inj d h2 j (by simpa using h1)];rfl
def QW{f:DG->Int}{L:List DG}{i:Int}{v:Value}(h:GK f L i=some v): ∃x∈L,f x=i/\v=JL x:=by
 unfold GK at h;rw[Option.map_eq_some_iff]at h
 grind
def V5{f:DG->Int}{L L':List DG}(d:(L.map f).Nodup)(hp:L.Perm L'):GK f L=GK f L':=by
 funext i;cases h:GK f L' i with
 | none=>rw[MF]at h⊢;grind
 | some v=>
  obtain⟨x,j,rfl,rfl⟩:=QW h;exact kM d (hp.mem_iff.2 j)
def OP{f:DG->Int}{L:List DG}{x:DG}:GK f (x::L)=λi=>if i=f x then some (JL x)else GK f L i:=by
 funext i;unfold GK
 grind
def ZJ{f:DG->Int}{L:List DG}{x:DG}(d:(L.map f).Nodup)(j: ∀y∈L,f y≠f x):GK f (IM L x)=λi=>if i=f x then some (JL x)else GK f L i:=by
 rw[<-OP];refine V5 ?_ (JU L x);rw[((JU L x).map f).nodup_iff,List.map_cons,List.nodup_cons]
 grind
def W9: ∀{L:List DG} (d:(L.map (·.id)).Nodup) {j:Nat} {x:DG},L[j]? =some x->GZ L x.id=L.eraseIdx j
 | a::r,d,0,x,h=>by
  have h:a=x:=Option.some.inj h;subst h;rw[List.map_cons,List.nodup_cons]at d;unfold GZ;rw[List.filter_cons,if_neg (by simp),List.eraseIdx_cons_zero];exact List.filter_eq_self.2 λy K=>by grind
 | a::r,d,j+1,x,h=>by
  rw[List.map_cons,List.nodup_cons]at d;have h:r[j]? =some x:=by grind
  have v:=List.mem_of_getElem? h;have ne:a.id≠x.id:=λe=>d.1 (List.mem_map.2 ⟨x,v,e.symm⟩);have J:=W9 d.2 h;unfold GZ at J⊢
  grind
def OQ{L:List DG}(v:(L.map (·.id)).Nodup){x:DG}(y:x∈L):L.Perm (x::GZ L x.id):=by
 obtain⟨j,d⟩:=List.mem_iff_getElem?.1 y;rw[W9 v d];exact DX d
def ZK{f:DG->Int}{L:List DG}{x:DG}(d:(L.map (·.id)).Nodup)(j:(L.map f).Nodup)(v:x∈L):GK f (GZ L x.id)=λi=>if i=f x then none else GK f L i:=by
 have hp:=OQ d v;rw[V5 j hp,OP];funext i;by_cases e:i=f x
 .rw[if_pos e,MF]
  grind
 grind
structure Kt(L:List DG):Prop where
 HT:Ik (·.base) L
 nd:(L.map (·.id)).Nodup
 KY:L.length<=1099511627776
structure lR where
 bi:Nat
 bb:Nat
 bm:Nat
 kinds:List Kd
 sl:Kd->Aa
def RH(ks:List Kd)(sl:Kd->Aa):Kd->Option Value:=λk=>if k∈ks then some (Fo (sl k))else none
def U4(E:Env)(sl:Kd->Aa)(L:List DG)(k:Kd):Pr:=Row E.Dn 1 (sl k) ((GO L k).map JL)
def KQ(g:lR):List Value:=[.map (some g.bi),.map (some g.bb),.map (some g.bm)]
def M6(E:Env)(b:Nat)(L:List DG)(g:lR):List Pr:=
 [Cells b E.FC (KQ g),Dm g.bi .i64 (GK (·.id) L),Dm g.bb .u64 (GK (·.base) L),MapK g.bm (RH g.kinds g.sl),Ad (U4 E g.sl L) g.kinds,Ad (ZI E) L]
structure uD(L:List DG)(g:lR):Prop where
 inv:Kt L
 kn:g.kinds.Nodup
 ks: ∀x∈L,x.kd∈g.kinds
def Hi(E:Env)(b:Nat)(L:List DG):Pr:=Ex λg:lR=>Jx (uD L g) (NB (M6 E b L g))
section
variable{E:Env}{w:World}{Z:List Pr}{b:Nat}{L:List DG}{g:lR}
def Sat.D0:Sat (Hi E b L::Z) w↔ ∃g,uD L g/\Sat (M6 E b L g++Z) w:=by
 unfold Hi;rw[Sat.ex];constructor
 .rintro⟨g,h⟩;rw[Sat.where,Sat.star]at h
  grind
 .rintro⟨g,h1,h2⟩;refine⟨g,?_⟩;rw[Sat.where,Sat.star]
  grind
def Sat.uE(H:Sat (Hi E b L::Z) w):Kt L:=let⟨_,h,_⟩:=Sat.D0.1 H;h.inv
def dF(H:Sat Z w){K:Option Addr->World->Prop}(Y: ∀b w',Sat (Hi E b []::Z) w'->K (some ⟨b,0,none⟩) w'):F.Pw E K w:=by
 unfold F.Pw;refine Wf H .i64 λb1 w2 v _=>Wf v .u64 λd w4 y _=>fI y λj w6 J _=> ?_;refine AR (vs:=[.map (some b1),.map (some d),.map (some j)]) J λT w8 O _=>Y T w8 (Sat.D0.2 ⟨⟨b1,d,j,[],λ_=>⟨none,0,0⟩⟩,⟨⟨.nil,.nil,by decide⟩,.nil,λ_ h=>(by cases h)⟩,?_⟩);have h2:=((O.LY (U4 E (λ_=>⟨none,0,0⟩) [])).front 0 rfl).LY (ZI E);exact((((h2.front 1 rfl).front 3 rfl).front 4 rfl).front 5 rfl).front 5 rfl
end
structure Mk(E:Env):Prop extends EnvA E where
 pF: ∀i p1 p2 (R:Value->World->Prop) w,F.Hy E i p1 p2 (λr w'=>R (.bool r) w') w->E.call E.Ij #[.int .i64 i,.pointer p1,.pointer p2] w R NI
section
variable{E:Env}(hE:Mk E){w:World}
include hE
theorem QX{p:Addr}{bm:Nat}{k:Kd}{a:Int}{s:Aa}{l:List DG}{G:Kd->Option Value}{Z:List Pr}(hc:w.cell? (p.add 2)=some (.map (some bm)))(H:Sat (MapK bm G::Z) w)(j:(G k).getD (.slice none 0 0)=Fo s)
  (hr:rowAt w s.base s.len (l.map JL))(hl:l.length=s.len)(aT:s.len<4611686018427387904)(hi: ∀x∈l,w.cell? ⟨x.Fz,1,none⟩=some (.int .u64 x.base))(hs:Ik (·.base) l){K:Int->World->Prop}
  (hK: ∀w',Ext AP w w'->K ((pos (·.base) l a:Nat):Int) w'):F.ED E (some p) k.1 k.2.1 k.2.2.1 k.2.2.2 a K w:=by
 unfold F.ED T0.ED;refine AR (vs:=NF k) (Sat.start w) λb1 w2 H2 e2=>AR (vs:=[.int .u64 a]) H2 λb3 w4 H4 e4=> ?_;simp only[AG];have H5:=H4.drew;have e5:=H5.Pb 2 rfl;have c5:=H5.front 1 rfl;refine⟨some bm,e5.cell hc (λf=>f),k.1,c5.cell rfl,k.2.1,c5.cell rfl,k.2.2.1,c5.cell rfl,k.2.2.2,c5.cell rfl,?_⟩;refine bG (n:=k) (H.nothing e5) λes aA=>⟨s,j,?_⟩;refine AR (vs:=[.slice none 0 0]) H5 λaG aV O aH=> ?_;have aI:=O.Pb 3 rfl;have v:=O.front 2 rfl;obtain⟨c,aA⟩:=aA;refine⟨⟨c,aH.obj aA (λf=>f)⟩,⟨v.cell rfl,v.cell rfl,v.cell rfl,v.cell rfl,trivial⟩,aI.cell hc (λf=>f),?_⟩;refine GM (news:=[Fo s]) O rfl (by simp[Fo,Value.oneCell']) λaW T=> ?_;refine⟨s,T.Ah rfl,?_⟩;have aJ:=T.Pb 3 rfl;have hp:=Mf (key:=λx:DG=>x.base) l a;refine Ri (λi=>match l[i.toNat]? with|some x=>decide (x.base≥a)|none=>true) (by omega) (by omega) ?_ (pos (λx:DG=>x.base) l a:Nat) (by omega) (by omega) ?_ ?_ λw' J=>hK w' (aJ.trans' J)
 .intro i w' aB aS J K' aD;have d:i.toNat<l.length:=by omega
  have j:=List.getElem?_eq_getElem d;simp only[j]at aD;have Y:=(T.nothing J).drew;refine hE.pF i (some ⟨aG,0,none⟩) (some ⟨b3,0,none⟩) K' w' ?_;unfold F.Hy;simp only[AG];refine⟨s,Y.Ah rfl,?_⟩;have aC:=Y.Pb 3 rfl;have y:rowAt w'.drew s.base s.len (l.map JL):=Vh hr aC λ_ _ _ f=>f;cases hb:s.base with
  | none=>rw[hb]at y;have:l.map JL=[]:=y;simp at this;grind
  | some q=>
   rw[hb]at y;simp only[AG];refine⟨⟨aB,by omega⟩,some ⟨l[i.toNat].Fz,0,none⟩,by rw[Nat.mul_one];exact y.2 _ _ (by rw[List.getElem?_map,j];rfl),?_⟩;simp only[AG];refine⟨l[i.toNat].base,?_,a,(Y.front 1 rfl).Ah rfl,?_⟩
   .rw[add_eq];exact aC.cell (hi _ (List.getElem_mem d)) λf=>f
   .exact aD _ (J.trans' (Ext.drew _ _))
 .intro i aB hi;have d:i.toNat<l.length:=by omega
  have j:=List.getElem?_eq_getElem d;simp only[j];have:=HL (key:=λx:DG=>x.base) j (n:=a) (by omega)
  grind
 .intro i aB hi;have d:i.toNat<l.length:=by omega
  have j:=List.getElem?_eq_getElem d;simp only[j];have:=RB hs j (n:=a) (by omega)
  grind
end
def vR(g:lR)(k:Kd):Aa:=if k∈g.kinds then g.sl k else⟨none,0,0⟩
def QY(g:lR)(k:Kd):(RH g.kinds g.sl k).getD (.slice none 0 0)=Fo (vR g k):=by
 unfold RH vR;split<;>rfl
def pG{L:List DG}{k:Kd}(h: ∀x∈L,x.kd≠k):GO L k=[]:=by
 unfold GO;rw[List.filter_eq_nil_iff]
 grind
def XA(L:List DG)(k:Kd):(GO L k).length<=L.length:=List.length_filter_le _ _
def ZL(l:List DG): ∀v∈l.map JL,v.oneCell'=true:=by
 intro v d;obtain⟨x,_,rfl⟩:=List.mem_map.1 d;rfl
section
variable{E:Env}{w:World}{Z:List Pr}{b:Nat}{L:List DG}{g:lR}
def Im{Y:List Pr}(H:Sat (Cells b E.FC (KQ g)::Y) w):w.cell? (Addr.mk b 0 none)=some (.map (some g.bi))/\w.cell? ((Addr.mk b 0 none).add 1)=some (.map (some g.bb))/\w.cell? ((Addr.mk b 0 none).add 2)=some (.map (some g.bm)):=
 ⟨H.Ah rfl,H.cell rfl,H.cell rfl⟩
def Ml{Y:List Pr}(H:Sat (Ad (ZI E) L::Y) w){x:DG}(y:x∈L){j:Nat}{v:Value}(J:(DU x)[j]? =some v):w.cell? ((Addr.mk x.Fz 0 none).add j)=some v:=by
 obtain⟨i,d⟩:=List.mem_iff_getElem?.1 y;exact(H.GG d).cell (by grind)
def Sat.vS(hI:uD L g)(H:Sat (M6 E b L g++Z) w)(k:Kd):
  Sat (Row E.Dn 1 (vR g k) ((GO L k).map JL)::Ad (U4 E g.sl L) (g.kinds.erase k)::Cells b E.FC (KQ g)::Dm g.bi .i64 (GK (·.id) L)::Dm g.bb .u64 (GK (·.base) L)::MapK g.bm (RH g.kinds g.sl)::Ad (ZI E) L::Z) w:=by
 by_cases hk:k∈g.kinds
 .have H1:=(H.front 4 rfl).Je (List.perm_cons_erase hk);have d:=Sat.Jf.1 H1;have e:U4 E g.sl L k=Row E.Dn 1 (vR g k) ((GO L k).map JL):=by unfold U4 vR;grind
  rw[e]at d;exact d
 .have e:vR g k=⟨none,0,0⟩:=by unfold vR;grind
  rw[e,pG (k:=k) λx j h=>hk (by rw[<-h];exact hI.ks x j),List.erase_of_not_mem hk];exact(H.front 4 rfl).nil E.Dn 1
def Sat.pH{L':List DG}{s:Aa}{k:Kd}(hI:uD L g)(K:Kt L')(Y: ∀j,j≠k->GO L' j=GO L j)(T: ∀x∈L',x.kd=k∨x.kd∈g.kinds)
  (H:Sat (Row E.Dn 1 s ((GO L' k).map JL)::Ad (U4 E g.sl L) (g.kinds.erase k)::Cells b E.FC (KQ g)::Dm g.bi .i64 (GK (·.id) L')::Dm g.bb .u64 (GK (·.base) L')::MapK g.bm (λi=>if i=k then some (Fo s)else RH g.kinds g.sl i)::Ad (ZI E) L'::Z) w):
  Sat (Hi E b L'::Z) w:=by
 have d:k∉g.kinds.erase k:=λh=>((hI.kn.mem_erase_iff).1 h).1 rfl;refine Sat.D0.2 ⟨{g with kinds:=k::g.kinds.erase k,sl:=λj=>if j=k then s else g.sl j},⟨K,List.nodup_cons.2 ⟨d,hI.kn.erase k⟩,λx hx=> ?_⟩,?_⟩
 .grind
 .have v:(λi=>if i=k then some (Fo s)else RH g.kinds g.sl i)=RH (k::g.kinds.erase k) (λj=>if j=k then s else g.sl j):=by
   funext i;unfold RH
   grind
  have y:Ad (U4 E g.sl L) (g.kinds.erase k)=Ad (U4 E (λj=>if j=k then s else g.sl j) L') (g.kinds.erase k):=Ad.congr λj O=>by
   have:j≠k:=λe=>d (e▸O);unfold U4
   grind
  have J:Row E.Dn 1 s ((GO L' k).map JL)=U4 E (λj=>if j=k then s else g.sl j) L' k:=by unfold U4;grind
  rw[v,y,J]at H;have h2:=Sat.Jf.2 H;exact(((h2.front 4 rfl).front 4 rfl).front 4 rfl).front 4 rfl|>.perm (by
   refine List.Perm.refl _)
def pI{x:DG}(h:Kt L)(h1: ∀y∈L,y.id≠x.id/\y.base≠x.base)(h2:L.length<1099511627776):Kt (IM L x):=by
 refine⟨QU h.HT λy d=>(h1 y d).2,?_,?_⟩
 .rw[((JU L x).map _).nodup_iff,List.map_cons,List.nodup_cons];refine⟨λhm=> ?_,h.nd⟩
  grind
 .rw[(JU L x).length_eq,List.length_cons];omega
def ZM(h:Kt L)(id:Int):Kt (GZ L id):=
 ⟨pE h.HT id,List.Nodup.sublist (List.filter_sublist.map _) h.nd,Nat.le_trans (List.length_filter_le _ _) h.KY⟩
def M7(id c:Int):Prop:=id<1∨c<0∨68<=c
variable(hE:Mk E)
include hE
theorem dG(H:Sat (Hi E b L::Z) w){id base c:Int}{np full sw:Bool}(hf:L.length<1099511627776){K:Int->World->Prop}
  (aG:M7 id c->K 1 w)(aO: ¬M7 id c->(∃x∈L,x.id=id∨x.base=base)->K 34 w)
  (a4: ¬M7 id c->(∀x∈L,x.id≠id/\x.base≠base)-> ∀Fz w',Sat (Hi E b (IM L ⟨Fz,id,base,(c,np,full,sw)⟩)::Z) w'->K 0 w'):
  F.Fs E (some ⟨b,0,none⟩) id base c np full sw K w:=by
 obtain⟨g,hI,H⟩:=Sat.D0.1 H;unfold F.Fs T0.Fs;simp only[AG,add_add];refine AV (AB (λh j=>AU rfl (aG (.inl h))) λn1=>AB (λh j=>AU rfl (aG (.inr (.inl h)))) λn2 j=>AB (λh=>aG (.inr (.inr h))) λn3=> ?_);have nb: ¬M7 id c:=λh=>by rcases h with h|h|h<;>omega
 have hc:=Im H;refine AV ⟨_,hc.1,Ti (H.front 1 rfl) λes _=> ?_⟩;cases e1:GK (·.id) L id with
 | some v=>
  obtain⟨x,O,h1,rfl⟩:=QW e1;exact⟨some ⟨x.Fz,0,none⟩,rfl,AU rfl λj=>AU rfl (aO nb ⟨x,O,.inl h1⟩)⟩
 | none=>
 refine⟨none,rfl,AO rfl ⟨_,hc.2.1,Ti (H.front 2 rfl) λes _=> ?_⟩⟩;cases e2:GK (·.base) L base with
 | some v=>
  obtain⟨x,O,h1,rfl⟩:=QW e2;exact⟨some ⟨x.Fz,0,none⟩,rfl,λj=>AU rfl (aO nb ⟨x,O,.inr h1⟩)⟩
 | none=>
 refine⟨none,rfl,λj=>AO rfl ?_⟩;have a6: ∀x∈L,x.id≠id/\x.base≠base:=λx O=>⟨MF.1 e1 x O,MF.1 e2 x O⟩;have H0:=H.vS hI (c,np,full,sw);refine AR (vs:=[.int .i64 id,.int .u64 base,.int .i64 c,.bool np,.bool full,.bool sw]) H0 λJ bL aS _=> ?_;have aI:=aS.drew;have aN:=Im (aI.front 3 rfl);refine⟨_,aN.1,_,aN.2.1,?_⟩;refine fJ (aI.front 4 rfl) λbM aJ=> ?_;have aB:=Sat.back (Ps:=_::_::_::_::_::_::_::_::Z) 4 aJ;refine fJ (aB.front 5 rfl) λbN aK=> ?_;have d:=Sat.back (Ps:=_::_::_::_::_::_::_::_::Z) 5 aK;simp only[List.set_cons_succ,List.set_cons_zero]at d;clear aJ aB aK;obtain⟨x,O⟩: ∃x:DG,x=⟨J,id,base,(c,np,full,sw)⟩:=⟨_,rfl⟩;have hk:x.kd=(c,np,full,sw):=by rw[O]
 have m1:(λi=>if i=id then some (Value.pointer (some (Addr.mk J 0 none)))else GK (·.id) L i)=GK (·.id) (IM L x):=by
  rw[ZJ hI.inv.nd (by grind),O];rfl
 have m2:(λi=>if i=base then some (Value.pointer (some (Addr.mk J 0 none)))else GK (·.base) L i)=GK (·.base) (IM L x):=by
  rw[ZJ (V4 hI.inv.HT) (by grind),O];rfl
 rw[m1,m2]at d;refine⟨c,d.cell rfl,np,d.cell rfl,full,d.cell rfl,sw,d.cell rfl,?_⟩;have hlen: ∀{w':World} {Y:List Pr} {s:Aa},Sat (Row E.Dn 1 s ((GO L (c,np,full,sw)).map JL)::Y) w'->(GO L (c,np,full,sw)).length=s.len:=λh=>by simpa using h.Du
 have a5:=hlen (d.front 1 rfl);have bI:=XA L (c,np,full,sw);have bA:=(d.front 1 rfl).own.cap;refine QX (k:=(c,np,full,sw)) hE (Im (d.front 3 rfl)).2.2 (d.front 6 rfl) (QY _ _) (by simpa using(d.front 1 rfl).Kj) a5 (by omega) (λy hy=> ?_) (K2 hI.inv.HT _) λbO a0=> ?_
 .have:=Ml (d.front 7 rfl) (Ga.1 hy).1 (j:=1) rfl;rwa[add_eq]at this
 have hp:=Mf (key:=λx:DG=>x.base) (GO L (c,np,full,sw)) base;generalize hpp:pos (λx:DG=>x.base) (GO L (c,np,full,sw)) base=i at *
 have aA:=(d.nothing a0).drew;have aY:=Im (aA.front 3 rfl);have d38: ∀{Y:List Pr} {w':World},Sat (Cells J E.IG [.int .i64 id,.int .u64 base,.int .i64 c,.bool np,.bool full,.bool sw]::Y) w'->w'.cell? ((Addr.mk J 0 none).add (2+0))=some (.int .i64 c)/\w'.cell? ((Addr.mk J 0 none).add (2+1))=some (.bool np)/\w'.cell? ((Addr.mk J 0 none).add (2+2))=some (.bool full)/\w'.cell? ((Addr.mk J 0 none).add (2+3))=some (.bool sw):=
  λh=>⟨h.cell rfl,h.cell rfl,h.cell rfl,h.cell rfl⟩
 obtain⟨d0,d1,d2,d3⟩:=d38 aA;refine⟨_,aY.2.2,c,d0,np,d1,full,d2,sw,d3,bG (n:=(c,np,full,sw)) (aA.front 6 rfl) λes aF=>⟨_,QY _ _,?_⟩⟩;refine AR (vs:=[.pointer none]) aA λbD bP aC a1=> ?_;obtain⟨cc,aF⟩:=aF;obtain⟨d0,d1,d2,d3⟩:=d38 (aC.front 1 rfl);refine⟨⟨cc,a1.obj aF λf=>f⟩,⟨d0,d1,d2,d3,trivial⟩,(Im (aC.front 4 rfl)).2.2,?_⟩;refine EX (aC.DR 1 rfl) rfl rfl (by simp[Value.oneCell']) (by omega) (by omega) λP5 bQ T bB=> ?_;obtain⟨d0,d1,d2,d3⟩:=d38 (T.front 1 rfl);have aT:=T.drew;have aQ:=T.own.cap;have aR:=T.own.top;rw[show i64 ((i:Int)+1)=((i+1:Nat):Int) by rw[AE];rfl,Int.toNat_natCast,Int.toNat_natCast];refine⟨⟨d0,d1,d2,d3,trivial⟩,(Im (T.front 3 rfl)).2.2,⟨by omega,by omega⟩,⟨by omega,by omega⟩,?_⟩;refine yQ aT (ZL _) (by simpa using hp) λbK bR u aL=> ?_;obtain⟨bb,aE⟩:=aL.own.Eo (by omega);rw[aE];simp only[AG];refine⟨⟨by omega,by omega⟩,?_⟩;rw[show i*1=i by omega];refine HE aL (j:=i) rfl (by simp;omega) aE λbS aU=> ?_;have aD:=aU.drew;have aZ:=Im (aD.front 3 rfl);obtain⟨d0,d1,d2,d3⟩:=d38 (aD.front 1 rfl);refine⟨_,aZ.2.2,c,d0,np,d1,full,d2,sw,d3,?_⟩
 try rw[<-aE]
 refine Wo (n:=(c,np,full,sw)) (aD.front 6 rfl) λaH aV=> ?_;have aM:=Sat.back (Ps:=_::_::_::_::_::_::_::_::Z) 6 aV;simp only[List.set_cons_succ,List.set_cons_zero]at aM;refine a4 nb a6 J aH ?_;rw[<-O];have hb: ∀y∈L,y.base≠x.base:=by grind
 have er:(List.take i ((GO L (c,np,full,sw)).map JL)++u::List.drop i ((GO L (c,np,full,sw)).map JL)).set i (JL x)=(GO (IM L x) (c,np,full,sw)).map JL:=by
  rw[<-hk,uC hI.inv.HT hb];unfold IM;rw[hk,show x.base=base by rw[O],hpp,List.map_append,List.map_cons,List.map_take,List.map_drop,List.set_append_right _ _ (by simp;omega)];congr 1;rw[show i-(List.take i ((GO L (c,np,full,sw)).map JL)).length=0 by simp;omega];rfl
 have aW:Sat (Row E.Dn 1 P5 ((GO (IM L x) (c,np,full,sw)).map JL)::ZI E x::Ad (U4 E g.sl L) (g.kinds.erase (c,np,full,sw))::Cells b E.FC (KQ g)::Dm g.bi .i64 (GK (·.id) (IM L x))::Dm g.bb .u64 (GK (·.base) (IM L x))::MapK g.bm (λi=>if i=(c,np,full,sw)then some (Fo P5)else RH g.kinds g.sl i)::Ad (ZI E) L::Z) aH:=by
  have a3:ZI E x=Cells J E.IG [.int .i64 id,.int .u64 base,.int .i64 c,.bool np,.bool full,.bool sw]:=by rw[O];rfl
  have a2:JL x= .pointer (some ⟨J,0,none⟩):=by rw[O];rfl
  rw[<-er,a3,a2];exact aM
 have aX:Sat (Ad (ZI E) (IM L x)::Row E.Dn 1 P5 ((GO (IM L x) (c,np,full,sw)).map JL)::Ad (U4 E g.sl L) (g.kinds.erase (c,np,full,sw))::Cells b E.FC (KQ g)::Dm g.bi .i64 (GK (·.id) (IM L x))::Dm g.bb .u64 (GK (·.base) (IM L x))::MapK g.bm (λi=>if i=(c,np,full,sw)then some (Fo P5)else RH g.kinds g.sl i)::Z) aH:=
  (Sat.Jf.2 ((aW.front 7 rfl).front 2 rfl)).Je (JU L x).symm
 refine Sat.pH (s:=P5) (k:=(c,np,full,sw)) hI (pI hI.inv (by grind) hf) (λj hj=>dE hI.inv.HT hb (by rw[hk];exact Ne.symm hj)) (λy hy=> ?_) (aX.perm ?_)
 .rcases LH.1 hy with rfl|hy
  .grind
  .exact .inr (hI.ks y hy)
 .exact(List.perm_middle (a:=Ad (ZI E) (IM L x)) (l₁:=[_,_,_,_,_,_]) (l₂:=Z)).symm
end
def dH{L:List DG}{x:DG}{k:Kd}(j:(L.map (·.id)).Nodup)(v:x∈L)(h:x.kd≠k):GO (GZ L x.id) k=GO L k:=by
 unfold GO GZ;rw[List.filter_filter];refine List.filter_congr λy J=> ?_;by_cases e:y.kd=k
 .have:y.id≠x.id:=λd=>h (by rw[<-e,map_inj j J v d])
  grind
 .simp[e]
def uF{L:List DG}{x:DG}(hs:Ik (·.base) L)(d:(L.map (·.id)).Nodup)(j:x∈L):GO (GZ L x.id) x.kd=(GO L x.kd).eraseIdx (pos (·.base) (GO L x.kd) x.base):=by
 have h1:GO (GZ L x.id) x.kd=GZ (GO L x.kd) x.id:=by
  unfold GO GZ;rw[List.filter_filter,List.filter_filter]
  grind
 rw[h1];have hm:x∈GO L x.kd:=Ga.2 ⟨j,rfl⟩;exact W9 (List.Nodup.sublist (List.filter_sublist.map _) d) (Mg (K2 hs _) hm rfl)
section
variable{E:Env}{w:World}{Z:List Pr}{b:Nat}{L:List DG}{g:lR}(hE:Mk E)
include hE
theorem dI(H:Sat (Hi E b L::Z) w){id:Int}{K:Int->World->Prop}(aP:(∀x∈L,x.id≠id)->K 35 w)(aO: ∀x∈L,x.id=id-> ∀w',Sat (Hi E b (GZ L id)::Z) w'->K 0 w'):
  F.EJ E (some ⟨b,0,none⟩) id K w:=by
 obtain⟨g,hI,H⟩:=Sat.D0.1 H;unfold F.EJ T0.EJ;simp only[AG,add_add];have hc:=Im H;refine⟨_,hc.1,Ti (H.front 1 rfl) λes _=> ?_⟩;cases e1:GK (·.id) L id with
 | none=>exact⟨none,rfl,AU rfl (aP (MF.1 e1))⟩
 | some v=>
 obtain⟨x,d,O1,rfl⟩:=QW e1;subst O1;refine⟨some ⟨x.Fz,0,none⟩,rfl,AO rfl ⟨_,hc.1,?_⟩⟩;simp only[AG];have H0:=H.vS hI x.kd;refine Wg (H0.front 3 rfl) λw9 H9=> ?_;have T:=(Sat.back (Ps:=_::_::_::_::_::_::_::Z) 3 H9).drew;have ic: ∀{w':World} {Y:List Pr},Sat (Ad (ZI E) L::Y) w'->w'.cell? ((Addr.mk x.Fz 0 none).add 1)=some (.int .u64 x.base)/\w'.cell? ((Addr.mk x.Fz 0 none).add (2+0))=some (.int .i64 x.kd.1)/\w'.cell? ((Addr.mk x.Fz 0 none).add (2+1))=some (.bool x.kd.2.1)/\w'.cell? ((Addr.mk x.Fz 0 none).add (2+2))=some (.bool x.kd.2.2.1)/\w'.cell? ((Addr.mk x.Fz 0 none).add (2+3))=some (.bool x.kd.2.2.2):=
  λh=>⟨Ml h d rfl,Ml h d rfl,Ml h d rfl,Ml h d rfl,Ml h d rfl⟩
 obtain⟨i1,_⟩:=ic (T.front 6 rfl);refine⟨_,(Im (T.front 2 rfl)).2.1,x.base,i1,Wg (T.front 4 rfl) λa5 aI=> ?_⟩;have J:=Sat.back (Ps:=_::_::_::_::_::_::_::Z) 4 aI;simp only[List.set_cons_succ,List.set_cons_zero]at J;clear H9 T aI i1;have m1:(λi=>if i=x.id then none else GK (·.id) L i)=GK (·.id) (GZ L x.id):=(ZK (f:=(·.id)) hI.inv.nd hI.inv.nd d).symm;have m2:(λi=>if i=x.base then none else GK (·.base) L i)=GK (·.base) (GZ L x.id):=(ZK (f:=(·.base)) hI.inv.nd (V4 hI.inv.HT) d).symm;rw[m1,m2]at J;obtain⟨j1,j2,j3,j4,j5⟩:=ic (J.front 6 rfl);refine⟨_,j2,_,j3,_,j4,_,j5,_,j1,?_⟩;have aQ:(GO L x.kd).length=(vR g x.kd).len:=by simpa using J.Du
 have a2:=XA L x.kd;have aX:=hI.inv.KY;have O:=J.drew;refine QX (k:=x.kd) hE (Im (O.front 2 rfl)).2.2 (O.front 5 rfl) (QY _ _) (by simpa using O.Kj) aQ (by omega) (λy hy=> ?_) (K2 hI.inv.HT _) λa6 aM=> ?_
 .have:=Ml (O.front 6 rfl) (Ga.1 hy).1 (j:=1) rfl;rwa[add_eq]at this
 have hm:x∈GO L x.kd:=Ga.2 ⟨d,rfl⟩;have aN:=Mg (K2 hI.inv.HT x.kd) hm (n:=x.base) rfl;have hp:=(List.getElem?_eq_some_iff.1 aN).1;have aR:=uF hI.inv.HT hI.inv.nd d;generalize hpp:pos (λx:DG=>x.base) (GO L x.kd) x.base=i at *
 have aA:=(O.nothing aM).drew;obtain⟨_,j2,j3,j4,j5⟩:=ic (aA.front 6 rfl);refine⟨_,(Im (aA.front 2 rfl)).2.2,_,j2,_,j3,_,j4,_,j5,bG (n:=x.kd) (aA.front 5 rfl) λes a0=>⟨_,QY _ _,?_⟩⟩;have aB:=aA.drew;obtain⟨_,j2,j3,j4,j5⟩:=ic (aB.front 6 rfl);have aW:=aB.own.cap;rw[show i64 ((i:Int)+1)=((i+1:Nat):Int) by rw[AE];rfl,Int.toNat_natCast,Int.toNat_natCast];refine⟨_,(Im (aB.front 2 rfl)).2.2,_,j2,_,j3,_,j4,_,j5,⟨by omega,by omega⟩,⟨by omega,by omega⟩,?_⟩;refine uB aB (ZL _) (by simpa using hp) λbI a7 aC=> ?_;obtain⟨_,j2,j3,j4,j5⟩:=ic (aC.front 6 rfl);refine⟨⟨j2,j3,j4,j5,trivial⟩,(Im (aC.front 2 rfl)).2.2,Wo (n:=x.kd) (aC.front 5 rfl) λaT aK=> ?_⟩;have aD:=Sat.back (Ps:=_::_::_::_::_::_::_::Z) 5 aK;simp only[List.set_cons_succ,List.set_cons_zero]at aD;refine aO x d rfl aT ?_;have er:((GO L x.kd).map JL).eraseIdx i=(GO (GZ L x.id) x.kd).map JL:=by rw[aR,Ir]
 rw[er]at aD;have aL:=(Sat.Jf.1 ((aD.front 6 rfl).Je (OQ hI.inv.nd d))).tail;refine Sat.pH (s:=bI) (k:=x.kd) hI (ZM hI.inv x.id) (λj hj=>dH hI.inv.nd d (Ne.symm hj)) (λy hy=>.inr (hI.ks y (Fh.1 hy).1)) (aL.perm ?_);exact(List.perm_middle (a:=Ad (ZI E) (GZ L x.id)) (l₁:=[_,_,_,_,_,_]) (l₂:=Z)).symm
end
def XB{k:Kd}{K:lJ (.agg [.int .i64,.bool,.bool,.bool])->Prop}(h:K (k.1,k.2.1,k.2.2.1,k.2.2.2,())):unVT (.agg [.int .i64,.bool,.bool,.bool]) (.agg ⟨NF k⟩) K:=h
def XC{s:Aa}{K:Aa->Prop}(h:K s):rH (Fo s) K:=h
def Si(L:List DG)(sw:Bool)(done:List Kd):Nat:=(done.map λk=>if k.2.2.2=sw then(GO L k).length else 0).sum
def Km(L:List DG)(sw:Bool):Nat:=(L.filter λx=>x.FZ==sw).length
def pJ(L:List DG)(sw:Bool)(d:List Kd)(k:Kd):Si L sw (d++[k])=Si L sw d+if k.2.2.2=sw then(GO L k).length else 0:=by simp[Si]
def RI(x:DG)(L:List DG)(sw:Bool): ∀(d:List Kd),d.Nodup->Si (x::L) sw d=Si L sw d+if x.kd∈d/\x.FZ=sw then 1 else 0
 | [],_=>by simp[Si]
 | k::d,hn=>by
  rw[List.nodup_cons]at hn;have j:=RI x L sw d hn.2;have e:GO (x::L) k=if x.kd=k then x::GO L k else GO L k:=by
   unfold GO
   grind
  unfold Si at j⊢
  grind
def RJ(sw:Bool): ∀d:List Kd,Si [] sw d=0
 | []=>rfl
 | k::d=>by
  have:=RJ sw d;unfold Si at this⊢;rw[List.map_cons,List.sum_cons,this];split<;>rfl
def ZN: ∀{L:List DG} {sw:Bool} {d:List Kd},d.Nodup->(∀x∈L,x.kd∈d)->Si L sw d=Km L sw
 | [],sw,d,_,_=>RJ sw d
 | x::L,sw,d,hn,h=>by
  have v:=ZN (L:=L) (sw:=sw) hn λy j=>h y (List.mem_cons_of_mem _ j);rw[RI x L sw d hn,v];unfold Km
  grind
def uG(L:List DG)(sw:Bool){d:List Kd}(j:d.Nodup):Si L sw d<=L.length:=by
 induction L with
 | nil=>rw[RJ];omega
 | cons x L ih=>
  rw[RI x L sw d j,List.length_cons]
  grind
section
variable{E:Env}{w:World}{Z:List Pr}{b:Nat}{L:List DG}{g:lR}
def Mm(H:Sat (Hi E b L::Z) w){sw:Bool}{K:Int->World->Prop}(hK: ∀w',Sat (Hi E b L::Z) w'->K ((Km L sw:Nat):Int) w'):F.Fa E (some ⟨b,0,none⟩) sw K w:=by
 obtain⟨g,hI,H⟩:=Sat.D0.1 H;unfold F.Fa;simp only[AG];have aJ:=hI.inv.KY;refine⟨_,(Im H).2.2,Wp (H.front 3 rfl) λr4 N w5 H5=> ?_⟩;refine AH (λst w'=> ∃cur done N',st.1=(Si L sw done:Nat)/\Sat (OW r4 g.bm (RH g.kinds g.sl) cur done N'::(M6 E b L g++Z).eraseIdx 3) w') (λ_ w'=>MX r4 g.bm w') ⟨none,[],N,rfl,H5⟩ ?_;rintro⟨n,u⟩ _ w7 ⟨cur,done,N',hn,H7⟩;dsimp only at hn⊢;subst hn;rw[H7.L7];refine AV (Qy H7 (λaF T Y j=>AV (AO rfl ?_)) λk v aV N2 aP aR hN O j=>AV (AU rfl λj2=>Tq O λv' S' d=> ?_))
 .rw[ZN T.YJ.1 λx hx=>(Y _).2 (by unfold RH;rw[if_pos (hI.ks x hx)];grind)];exact hK aF (Sat.D0.2 ⟨g,hI,Sat.back (Ps:=M6 E b L g++Z) 3 T.fK (by simp[M6])⟩)
 .have hk:k∈g.kinds:=by
   unfold RH at d;by_cases h:k∈g.kinds
   .exact h
   .rw[if_neg h]at d;cases d
  have aD:v'=Fo (g.sl k):=by unfold RH at d;rw[if_pos hk]at d;exact(Option.some.inj d).symm
  subst aD;have hlen:(GO L k).length=(g.sl k).len:=by
   obtain⟨i,hi⟩:=List.mem_iff_getElem?.1 hk;have:=((H.front 4 rfl).GG hi).Du
   grind
  refine XB (XC (AR (vs:=[.int .i64 0,.bool false,.bool false,.bool false]) O λaM aW aB _=> ?_));refine GM (news:=NF k) aB rfl (by simp[NF,Value.oneCell']) λaG J=>⟨k.2.2.2,J.cell rfl,?_⟩;have aA:(done++[k]).Nodup:=O.YJ.1;have hle:=uG L sw aA;have y:=pJ L sw done k;have hm:MX r4 g.bm aG<N':=by rw[(J.front 1 rfl).L7];exact hN
  by_cases e:k.2.2.2=sw
  .rw[if_pos e]at y;refine AU (by simp[e]) (AY λt ht=>⟨⟨some k,done++[k],N2,?_,J.tail⟩,hm⟩);show t=_;rw[ht,y,AE];omega
  .rw[if_neg e]at y;refine AO (by grind) ⟨⟨some k,done++[k],N2,?_,J.tail⟩,hm⟩;omega
end
def Ka(k:Kd):Kd:=(k.1,k.2.1,k.2.2.1,false)
def MH(k:Kd):Kd:=(k.1,k.2.1,k.2.2.1,true)
def DG.flip(x:DG):DG:={x with kd:=Ka x.kd}
def V6{L:List DG}{sw:Bool}(h:Km L sw=0): ∀x∈L,x.FZ≠sw:=by
 intro x d e;unfold Km at h;rw[List.length_eq_zero_iff,List.filter_eq_nil_iff]at h
 grind
def Lv(L:List DG)(x:DG):Prop:=x∈L/\x.FZ=false/\ ∀y∈L,y.FZ=false->x.base<=y.base
def gQ(L:List DG)(done:List Kd)(p:Option Addr):Prop:=
 (p=none/\ ∀k∈done,k.2.2.2=false->GO L k=[])∨ ∃x∈L,p=some ⟨x.Fz,0,none⟩/\x.FZ=false/\ ∀k∈done,k.2.2.2=false-> ∀y∈GO L k,x.base<=y.base
section
variable{E:Env}{w:World}{Z:List Pr}{b:Nat}{L:List DG}{g:lR}
def pK{Y:List Pr}(H:Sat (Ad (U4 E g.sl L) g.kinds::Y) w){k:Kd}(hk:k∈g.kinds):rowAt w (g.sl k).base (g.sl k).len ((GO L k).map JL)/\(GO L k).length=(g.sl k).len:=by
 obtain⟨i,d⟩:=List.mem_iff_getElem?.1 hk;have h:=H.GG d;exact⟨by simpa using h.Kj,by simpa using h.Du⟩
def gR{q:List DG}{s:Aa}(h:rowAt w s.base s.len (q.map JL)){i:Nat}{x:DG}(d:q[i]? =some x): ∃a,s.base=some a/\w.cell? (a.add (i*1))=some (JL x):=by
 cases hb:s.base with
 | none=>rw[hb]at h;have:q.map JL=[]:=h;simp at this;grind
 | some a=>rw[hb]at h;exact⟨a,rfl,by rw[Nat.mul_one];exact h.2 i _ (by grind)⟩
def gS{k:Kd}{v:Value}(h:RH g.kinds g.sl k=some v):k∈g.kinds/\v=Fo (g.sl k):=by
 unfold RH at h
 grind
def yR{k:Kd}(h:k∈g.kinds):RH g.kinds g.sl k≠none:=by unfold RH;grind
def XD(H:Sat (Hi E b L::Z) w){K:Int->Bool->World->Prop}(aR:(∀x∈L,x.FZ=true)-> ∀w',Sat (Hi E b L::Z) w'->K 0 false w')(aS: ∀x,Lv L x-> ∀w',Sat (Hi E b L::Z) w'->K x.id true w'):
  F.I6 E (some ⟨b,0,none⟩) K w:=by
 obtain⟨g,hI,H⟩:=Sat.D0.1 H;unfold F.I6;simp only[AG];refine⟨_,(Im H).2.2,Wp (H.front 3 rfl) λr4 N w5 H5=> ?_⟩;refine AH (λst w'=> ∃cur done N',gQ L done st.1/\Sat (OW r4 g.bm (RH g.kinds g.sl) cur done N'::(M6 E b L g++Z).eraseIdx 3) w') (λ_ w'=>MX r4 g.bm w') ⟨none,[],N,.inl ⟨rfl,λk hk=>by cases hk⟩,H5⟩ ?_;rintro⟨p,u⟩ _ w7 ⟨cur,done,N',hp,H7⟩;dsimp only at hp⊢;rw[H7.L7];have aB: ∀{w'} {cur done N},Sat (OW r4 g.bm (RH g.kinds g.sl) cur done N::(M6 E b L g++Z).eraseIdx 3) w'-> ∀{x},x∈L->w'.cell? (Addr.mk x.Fz 0 none)=some (.int .i64 x.id)/\w'.cell? ((Addr.mk x.Fz 0 none).add 1)=some (.int .u64 x.base):=λh x J=>
  ⟨by have:=Ml (h.front 5 rfl) J (j:=0) rfl;rwa[add_zero]at this,Ml (h.front 5 rfl) J (j:=1) rfl⟩
 refine AV (Qy H7 (λaC aF aI j=>AV (AO rfl ?_)) λk v bC N2 a7 a9 hN aG j=>AV (AU rfl λj2=>Tq aG λv' S' aU=> ?_))
 .have hb:Sat (Hi E b L::Z) aC:=Sat.D0.2 ⟨g,hI,Sat.back (Ps:=M6 E b L g++Z) 3 aF.fK (by simp[M6])⟩;have hd: ∀x∈L,x.kd∈done:=λx J=>(aI _).2 (yR (hI.ks x J));rcases hp with ⟨rfl,h0⟩|⟨x,J,rfl,h1,h2⟩
  .refine AU rfl (aR (λx J=> ?_) aC hb);cases e:x.FZ with
   | true=>rfl
   | false=>
    have:=h0 _ (hd x J) e;have h3:x∈GO L x.kd:=Ga.2 ⟨J,rfl⟩
    grind
  .refine AO rfl ?_;simp only[AG];exact⟨x.id,(aB aF J).1,aS x ⟨J,h1,λy O e=>h2 _ (hd y O) e y (Ga.2 ⟨O,rfl⟩)⟩ aC hb⟩
 .obtain⟨hk,rfl⟩:=gS aU;refine XB (XC (AR (vs:=[.int .i64 0,.bool false,.bool false,.bool false]) aG λa4 bD aN _=> ?_));refine GM (news:=NF k) aN rfl (by simp[NF,Value.oneCell']) λT aO=> ?_;have aH:=aO.drew;have d:=aH.tail;obtain⟨aJ,hlen⟩:=pK (d.front 4 rfl) hk;have hm: ∀w',w'=T.drew->MX r4 g.bm w'<N':=λw' e=>by rw[e,d.L7];exact hN
  refine AV ⟨k.2.2.2,aH.cell rfl,?_⟩;have Cv:(k.2.2.2=false->GO L k=[]∨ ∃x∈L,p=some ⟨x.Fz,0,none⟩/\ ∀y∈GO L k,x.base<=y.base)->gQ L (done++[k]) p:=λhq=>by
   rcases hp with ⟨h0,h1⟩|⟨x,J,h0,h1,h2⟩
   .refine .inl ⟨h0,λk' aA e=> ?_⟩
    grind
   .refine .inr ⟨x,J,h0,h1,λk' aA e y O=> ?_⟩
    grind
  cases hs:k.2.2.2 with
  | true=>exact AO rfl λj=>AO rfl ⟨⟨_,_,N2,Cv (λh=>by grind),d⟩,hm _ rfl⟩
  | false=>
  refine AU rfl (AB (λa0=> ?_) λbA=> ?_)
  .obtain⟨x,r,hr⟩: ∃x r,GO L k=x::r:=by
    cases h:GO L k with
    | nil=>grind
    | cons x r=>grind
   have aL:=Ga.1 (show x∈GO L k by rw[hr];exact List.mem_cons_self);have aZ: ∀y∈GO L k,x.base<=y.base:=λy O=>by
    have aK:=K2 hI.inv.HT k;rw[hr]at O aK;rcases List.mem_cons.1 O with rfl|O
    .omega
    .exact Int.le_of_lt ((List.pairwise_cons.1 aK).1 y O)
   obtain⟨a,ha,hc⟩:=gR aJ (i:=0) (x:=x) (by grind);have take:(∀y,p=some (Addr.mk y 0 none)-> ∀z∈L,z.Fz=y->x.base<z.base)->gQ L (done++[k]) (some ⟨x.Fz,0,none⟩):=λhq=>by
    refine .inr ⟨x,aL.1,rfl,by grind,λk' aA e y O=> ?_⟩;rcases List.mem_append.1 aA with h|h
    .rcases hp with ⟨h0,h1⟩|⟨z,hz,h0,h1,h2⟩
     .grind
     grind
    grind
   have Y:(∀y,p=some (Addr.mk y 0 none)-> ∀z∈L,z.Fz=y->x.base<z.base)-> ∀j:Nat->Value,CND true
     (NC (g.sl k).base λaV=>((0:Int)<=0/\(0:Int)<((g.sl k).len:Nat))/\ ∃aM:Option Addr,T.drew.cell? (aV.add (Int.toNat 0*1))=some (.pointer aM)/\((∃cur done N',gQ L done aM/\Sat (OW r4 g.bm (RH g.kinds g.sl) cur done N'::(M6 E b L g++Z).eraseIdx 3) T.drew)/\MX r4 g.bm T.drew<N')) False:=λhq j=>by
    refine AU rfl ?_;rw[ha];simp only[AG];exact⟨⟨by decide,by omega⟩,_,hc,⟨_,_,N2,take hq,d⟩,hm _ rfl⟩
   rcases hp with ⟨rfl,h1⟩|⟨z,hz,rfl,h1,h2⟩
   .exact AU rfl λj=>Y (λy O=>by cases O) j
   .refine AO rfl ?_;rw[ha];simp only[AG];refine⟨⟨by decide,by omega⟩,_,hc,?_⟩;simp only[AG];refine⟨_,(aB d aL.1).2,_,(aB d hz).2,λj=>AB (λa8=> ?_) λa6=> ?_⟩
    .have:=Y (λy O z' bB e=>by grind) j;rw[ha]at this;simpa only[mP,AG]using this
    grind
  .refine λj=>AO rfl ⟨⟨_,_,N2,Cv (λ_=>.inl (List.eq_nil_of_length_eq_zero (by omega))),d⟩,hm _ rfl⟩
end
def ZO{α:Type}: ∀{l:List α} {i:Nat} {x:α},l.Nodup->l[i]? =some x->x∉l.eraseIdx i
 | [],i,x,_,h=>by simp at h
 | y::l,0,x,hn,h=>by grind
 | y::l,i+1,x,hn,h=>by
  have h:l[i]? =some x:=by grind
  rw[List.eraseIdx_cons_succ];have h1:=List.nodup_cons.1 hn;intro hm;rcases List.mem_cons.1 hm with e|hm
  .grind
  .exact ZO h1.2 h hm
def Gh(L:List DG):List DG:=L.map DG.flip
def aJ(E:Env)(c:DG->Bool)(x:DG):Pr:=ZI E (if c x=true then x.flip else x)
def pL{L:List DG}(h:Ik (·.base) L):Ik (·.base) (Gh L):=List.Pairwise.map _ (λa b h=>h) h
def pM{L:List DG}(h:Kt L):Kt (Gh L):=⟨pL h.HT,by
 have:(Gh L).map (·.id)=L.map (·.id):=by unfold Gh;rw[List.map_map];rfl
 rw[this];exact h.nd,by unfold Gh;rw[List.length_map];exact h.KY⟩
def RK{f:DG->Int}(hf: ∀x:DG,f x.flip=f x): ∀L:List DG,GK f (Gh L)=GK f L
 | []=>rfl
 | x::L=>by
  show GK f (x.flip::Gh L)=_;rw[OP,OP,RK hf L,hf];rfl
def K7{k:Kd}(h:k.2.2.2=true):MH (Ka k)=k:=by
 obtain⟨a,b,c,d⟩:=k;have:d=true:=h;subst this;rfl
def RL{k:Kd}(h:k.2.2.2=false):Ka (MH k)=k:=by
 obtain⟨a,b,c,d⟩:=k;have:d=false:=h;subst this;rfl
def pN{L:List DG}(hs: ∀x∈L,x.FZ=true){k:Kd}(hk:k.2.2.2=false):(GO (Gh L) k).map JL=(GO L (MH k)).map JL:=by
 unfold GO Gh;rw[List.filter_map,List.map_map];have:L.filter ((λx=>decide (x.kd=k))∘DG.flip)=L.filter λx=>decide (x.kd=MH k):=by
  refine List.filter_congr λx d=> ?_;show decide (Ka x.kd=k)=decide (x.kd=MH k);refine decide_eq_decide.2 ⟨λe=> ?_,λe=> ?_⟩
  .rw[<-e,K7 (hs x d)]
  .rw[e,RL hk]
 rw[this];rfl
def kN(L:List DG)(sl:Kd->Aa)(done:List Kd):Kd->Option Value:=λk=>if k.2.2.2=false/\MH k∈done/\GO L (MH k)≠ []then some (Fo (sl (MH k)))else none
def pO{L:List DG}{sl:Kd->Aa}{done:List Kd}{k:Kd}(h:k.2.2.2=false∨GO L k=[]):kN L sl (done++[k])=kN L sl done:=by
 funext j;unfold kN;by_cases e:MH j=k
 .have: ¬(j.2.2.2=false/\MH j∈done++[k]/\GO L (MH j)≠ []):=λ⟨_,_,q⟩=>by
   rcases h with h|h
   .rw[<-e]at h;cases h
   grind
  grind
 .simp[e]
def uH{L:List DG}{sl:Kd->Aa}{done:List Kd}{k:Kd}(h1:k.2.2.2=true)(h2:GO L k≠ []):(λj=>if j=Ka k then some (Fo (sl k))else kN L sl done j)=kN L sl (done++[k]):=by
 funext j;unfold kN;by_cases e:j=Ka k
 .rw[if_pos e];have:MH j=k:=by rw[e,K7 h1]
  rw[this,if_pos ⟨by rw[e];rfl,by simp,h2⟩]
 .rw[if_neg e];by_cases hj:j.2.2.2=false
  .have:MH j≠k:=λh=>e (by rw[<-h,RL hj]);simp[this]
  grind
section
variable{E:Env}{w:World}{Z:List Pr}{b:Nat}{L:List DG}{g:lR}
def ZP(H:Sat (Hi E b L::Z) w){K:Int->World->Prop}(bA:0<Km L false-> ∀w',Sat (Hi E b L::Z) w'->K 33 w')(a9:(∀x∈L,x.FZ=true)-> ∀w',Sat (Hi E b (Gh L)::Z) w'->K 0 w'):
  F.FI E (some ⟨b,0,none⟩) K w:=by
 unfold F.FI T0.FI;refine Mm H λw2 H2=>AB (λh=>bA (by omega) w2 H2) λh=> ?_;have aF: ∀x∈L,x.FZ=true:=λx J=>by
  have:=V6 (L:=L) (sw:=false) (by omega) x J
  grind
 obtain⟨g,hI,H⟩:=Sat.D0.1 H2;refine fI H λb3 w4 H4 _=> ?_;simp only[AG];refine⟨_,(Im (H4.front 1 rfl)).2.2,Wp (H4.front 4 rfl) λr8 N w9 H9=> ?_⟩;have a5:=Mj hI.inv.nd;have e0:kN L g.sl []=λ_=>none:=by funext k;unfold kN;simp
 have e1:Ad (ZI E) L=Ad (aJ E λx=>decide (x.kd∈([]:List Kd))) L:=Ad.congr λx _=>by simp[aJ]
 refine AH (λ_ w'=> ∃cur done N',Sat (OW r8 g.bm (RH g.kinds g.sl) cur done N'::MapK b3 (kN L g.sl done)::Cells b E.FC (KQ g)::Dm g.bi .i64 (GK (·.id) L)::Dm g.bb .u64 (GK (·.base) L)::Ad (U4 E g.sl L) g.kinds::Ad (aJ E λx=>decide (x.kd∈done)) L::Z) w') (λ_ w'=>MX r8 g.bm w') ⟨none,[],N,by rw[e0,<-e1];exact H9⟩ ?_;rintro _ _ cC ⟨cur,done,N',aI⟩;rw[aI.L7];refine AV (Qy aI (λcD aX aR j=>AV (AO rfl ?_)) λk v cE N2 b0 b5 hN aK j=>AV (AU rfl λj2=>Tq aK λv' S' bD=> ?_))
 .have hd: ∀k,k∈done↔k∈g.kinds:=λk=>by
   rw[aR k];unfold RH
   grind
  refine AZ (aX.front 2 rfl) (o:=0) (m:=2) rfl (by simp[KQ]) λaW aY=>a9 aF aW ?_
  let P:Kd->Bool:=λk=>k.2.2.2&& !(GO L k).isEmpty
  have hP: ∀k,P k=true↔k.2.2.2=true/\GO L k≠ []:=λk=>by simp[P]
  refine Sat.D0.2 ⟨{g with bm:=b3,kinds:=(g.kinds.filter P).map Ka,sl:=λk=>g.sl (MH k)},⟨pM hI.inv,?_,?_⟩,?_⟩
  .refine List.Pairwise.map _ (λa c a6=> ?_) (List.Pairwise.and_mem.1 (hI.kn.filter P));obtain⟨ha,hc,T⟩:=a6;intro e;have ha:=((hP a).1 (List.mem_filter.1 ha).2).1;have hc:=((hP c).1 (List.mem_filter.1 hc).2).1;exact T (by rw[<-K7 ha,e,K7 hc])
  .intro x J;obtain⟨y,O,rfl⟩:=List.mem_map.1 J;refine List.mem_map.2 ⟨y.kd,List.mem_filter.2 ⟨hI.ks y O,(hP _).2 ⟨aF y O,λh=> ?_⟩⟩,rfl⟩;have:y∈GO L y.kd:=Ga.2 ⟨O,rfl⟩
   grind
  .have q1:kN L g.sl done=RH ((g.kinds.filter P).map Ka) (λk=>g.sl (MH k)):=by
    funext k;unfold kN RH;have:(k.2.2.2=false/\MH k∈done/\GO L (MH k)≠ [])↔k∈(g.kinds.filter P).map Ka:=by
     rw[List.mem_map];constructor
     .rintro⟨h1,h2,h3⟩;exact⟨MH k,List.mem_filter.2 ⟨(hd _).1 h2,(hP _).2 ⟨rfl,h3⟩⟩,RL h1⟩
     .rintro⟨k',h1,rfl⟩;obtain⟨h2,h3⟩:=List.mem_filter.1 h1;obtain⟨h3,h4⟩:=(hP _).1 h3;rw[K7 h3];exact⟨rfl,(hd _).2 h2,h4⟩
    grind
   have q2:Ad (aJ E λx=>decide (x.kd∈done)) L=Ad (ZI E) (Gh L):=by
    unfold Gh Ad;rw[List.map_map];congr 1;refine List.map_congr_left λx J=> ?_;show ZI E _=ZI E x.flip;rw[if_pos (by simpa using(hd _).2 (hI.ks x J))]
   have q3:Ad (U4 E g.sl L) (g.kinds.filter P)=Ad (U4 E (λk=>g.sl (MH k)) (Gh L)) ((g.kinds.filter P).map Ka):=by
    unfold Ad;rw[List.map_map];congr 1;refine List.map_congr_left λk hk=> ?_;have:=((hP k).1 (List.mem_filter.1 hk).2).1;show U4 E g.sl L k=U4 E (λk=>g.sl (MH k)) (Gh L) (Ka k);unfold U4;rw[pN aF (k:=Ka k) rfl];simp only[K7 this]
   have aL:=Sat.back (Ps:=_::_::_::_::_::_::_::Z) 2 aY;simp only[List.set_cons_succ,List.set_cons_zero]at aL;have aM:Sat (Ad (U4 E g.sl L) (g.kinds.filter P)::MapK b3 (kN L g.sl done)::Cells b E.FC ((KQ g).set 2 (.map (some b3)))::Dm g.bi .i64 (GK (·.id) L)::Dm g.bb .u64 (GK (·.base) L)::Ad (aJ E λx=>decide (x.kd∈done)) L::Z) aW:=by
    have h1:=(aL.tail.front 4 rfl).Je (L':=g.kinds.filter P++g.kinds.filter λk=> !P k) (List.filter_append_perm P g.kinds).symm;have h2:=Sat.fF.1 h1;exact(h2.front 1 rfl).tail
   rw[q1,q2,q3]at aM;unfold M6;rw[RK (f:=(·.id)) (λ_=>rfl),RK (f:=(·.base)) (λ_=>rfl)];exact((((aM.front 0 rfl).front 1 rfl).front 4 rfl).front 4 rfl).front 4 rfl
 .obtain⟨hk,rfl⟩:=gS bD;refine XB (XC (AR (vs:=[.int .i64 0,.bool false,.bool false,.bool false]) aK λa3 cG aZ _=> ?_));refine GM (news:=NF k) aZ rfl (by simp[NF,Value.oneCell']) λcH a0=> ?_;refine AZ a0 (o:=0) (m:=3) rfl (by simp[NF]) λcI aD=> ?_;have hlen:=(pK (aD.front 6 rfl) hk).2;have bC:=XA L k;have bJ:=hI.inv.KY;have e2:(λx:DG=>decide (x.kd∈done))=λx=>decide (x.kd∈done)||decide (x.id∈((GO L k).take 0).map (·.id)):=by grind
  rw[e2]at aD;refine AH (λst w'=> ∃i:Nat,st.1=(i:Int)/\i<=(GO L k).length/\Sat (Cells a3 E.JQ (NF (Ka k))::OW r8 g.bm (RH g.kinds g.sl) (some k) (done++[k]) N2::MapK b3 (kN L g.sl done)::Cells b E.FC (KQ g)::Dm g.bi .i64 (GK (·.id) L)::Dm g.bb .u64 (GK (·.base) L)::Ad (U4 E g.sl L) g.kinds::Ad (aJ E λx=>decide (x.kd∈done)||decide (x.id∈((GO L k).take i).map (·.id))) L::Z) w') (λst _=>((GO L k).length-st.1).toNat)
   ⟨0,rfl,Nat.zero_le _,aD⟩ ?_
  rintro⟨i',u⟩ _ cJ ⟨i,hi,b1,d⟩;dsimp only at hi⊢;subst hi;obtain⟨aU,_⟩:=pK (d.front 6 rfl) hk;refine AB (λb4=> ?_) λbZ=> ?_
  .obtain⟨x,J⟩: ∃x,(GO L k)[i]? =some x:=⟨_,List.getElem?_eq_getElem (by omega)⟩;obtain⟨a,ha,hc⟩:=gR aU J;have aG:=Ga.1 (List.mem_of_getElem? J);rw[ha];simp only[AG];refine⟨⟨by omega,by omega⟩,some ⟨x.Fz,0,none⟩,hc,_,d.cell rfl,_,d.cell rfl,_,d.cell rfl,_,d.cell rfl,?_⟩;simp only[AG];obtain⟨jj,hj⟩:=List.mem_iff_getElem?.1 aG.1;have aC:((GO L k).map (·.id)).Nodup:=List.Nodup.sublist (List.filter_sublist.map _) hI.inv.nd;have bM:x.id∉((GO L k).take i).map (·.id):=λhm=>by
    obtain⟨y,O,e⟩:=List.mem_map.1 hm;obtain⟨n,hn⟩:=List.mem_iff_getElem?.1 O;rw[List.getElem?_take]at hn;split at hn
    .rename_i hni;have e2:=map_inj aC (List.mem_of_getElem? hn) (List.mem_of_getElem? J) e;subst e2;have n1:=(List.getElem?_eq_some_iff.1 hn);have n2:=(List.getElem?_eq_some_iff.1 J);have:=(List.getElem_inj (h₀:=n1.1) (h₁:=n2.1) (Mj aC)).1 (by grind);omega
    .cases hn
   have aA:=(d.front 7 rfl).GG hj;have ei:aJ E (λx=>decide (x.kd∈done)||decide (x.id∈((GO L k).take i).map (·.id))) x=Cells x.Fz E.IG (DU x):=by
    unfold aJ;rw[if_neg]
    .rfl
    grind
   rw[ei]at aA;rw[add_eq];refine Wb [.int .i64 (Ka k).1,.bool (Ka k).2.1,.bool (Ka k).2.2.1,.bool (Ka k).2.2.2] (0+2) 0 aA (by simp[DU]) (by simp[Value.oneCell']) λcK aE=> ?_;have ec:List.take (0+2+0) (DU x)++[.int .i64 (Ka k).1,.bool (Ka k).2.1,.bool (Ka k).2.2.1,.bool (Ka k).2.2.2]++List.drop (0+2+0+[Value.int .i64 (Ka k).1,.bool (Ka k).2.1,.bool (Ka k).2.2.1,.bool (Ka k).2.2.2].length) (DU x)=DU x.flip:=by
    rw[<-aG.2];rfl
   rw[ec]at aE;have e3:Cells x.Fz E.IG (DU x.flip)=aJ E (λx=>decide (x.kd∈done)||decide (x.id∈((GO L k).take (i+1)).map (·.id))) x:=by
    unfold aJ;rw[if_pos]
    .rfl
    .rw[E8 J];simp
   have e4:Ad (aJ E λx=>decide (x.kd∈done)||decide (x.id∈((GO L k).take i).map (·.id))) (L.eraseIdx jj)=Ad (aJ E λx=>decide (x.kd∈done)||decide (x.id∈((GO L k).take (i+1)).map (·.id))) (L.eraseIdx jj):=Ad.congr λy O=>by
    have bE:y∈L:=List.mem_of_mem_eraseIdx O;have T:y.id≠x.id:=λe=>ZO a5 hj (map_inj hI.inv.nd bE aG.1 e▸O);unfold aJ;rw[E8 J,List.map_append];simp[T]
   rw[e3,e4]at aE;have aN:=Sat.back (Ps:=_::_::_::_::_::_::_::_::Z) 7 (aE.HW hj);simp only[List.set_cons_succ,List.set_cons_zero]at aN;refine⟨⟨i+1,by rw[AE];rfl,by omega,aN⟩,?_⟩;rw[AE];omega
  .have a7:i=(GO L k).length:=by omega
   have e5:Ad (aJ E λx=>decide (x.kd∈done)||decide (x.id∈((GO L k).take i).map (·.id))) L=Ad (aJ E λx=>decide (x.kd∈done++[k])) L:=Ad.congr λx J=>by
    unfold aJ;rw[a7,List.take_length];have:(decide (x.kd∈done)||decide (x.id∈(GO L k).map (·.id)))=decide (x.kd∈done++[k]):=by
     have bL:x.id∈(GO L k).map (·.id)↔x.kd=k:=by
      rw[List.mem_map];constructor
      .rintro⟨y,O,e⟩;have O:=Ga.1 O;rw[<-map_inj hI.inv.nd O.1 J e];exact O.2
      .intro e;exact⟨x,Ga.2 ⟨J,e⟩,rfl⟩
     grind
    grind
   rw[e5]at d;have hm: ∀{w'} {Y},Sat (OW r8 g.bm (RH g.kinds g.sl) (some k) (done++[k]) N2::Y) w'->MX r8 g.bm w'<N':=λh=>by rw[h.L7];exact hN
   refine AB (λbN=> ?_) λb6=> ?_
   .have T:GO L k≠ []:=λh=>by grind
    have bB:k.2.2.2=true:=by
     cases hq:GO L k with
     | nil=>grind
     | cons x r=>
      have J:=Ga.1 (show x∈GO L k by rw[hq];exact List.mem_cons_self)
      grind
    refine⟨_,d.cell rfl,_,d.cell rfl,_,d.cell rfl,_,d.cell rfl,Wo (n:=Ka k) (d.front 2 rfl) λcL a1=> ?_⟩;have aB:=Sat.back (Ps:=_::_::_::_::_::_::_::_::Z) 2 a1;simp only[List.set_cons_succ,List.set_cons_zero]at aB;have et:=uH (sl:=g.sl) (done:=done) bB T;unfold Fo at et;rw[et]at aB;exact⟨⟨_,_,_,aB.tail⟩,hm aB.tail⟩
   .have he:GO L k=[]:=List.eq_nil_of_length_eq_zero (by omega);have aA:=d.tail;rw[<-pO (sl:=g.sl) (done:=done) (.inr he)]at aA
    grind
end
def LI{p:Nat->Prop}(h: ∃n,p n): ∃n,p n/\ ∀m,p m->n<=m:=by
 obtain⟨n,d⟩:=h
 induction n using Nat.strongRecOn with
 | _ n ih=>grind
def TA{σ:Type}{s0:σ}{w0:World}{body:σ->(Nat->Value)->World->(σ->World->Prop)->Prop}(I:Nat->σ->World->Prop)(v:Nat)(h0:I v s0 w0)
  (h: ∀n s j w,I n s w->body s j w λs' w'=> ∃d,d<n/\I d s' w'):At σ s0 w0 body:=by
 classical
 let m:σ->World->Nat:=λs w=>if g: ∃n,I n s w then(LI g).choose else 0
 refine AH (λs w=> ∃n,I n s w) m ⟨v,h0⟩ λs j w g=> ?_;have hm:I (m s w) s w:=by
  show I (if g: ∃n,I n s w then(LI g).choose else 0) s w;rw[dif_pos g];exact(LI g).choose_spec.1
 have y:=h (m s w) s j w hm;have e:(λs' w'=> ∃d,d<m s w/\I d s' w')=λs' w'=>(∃n,I n s' w')/\m s' w'<m s w:=by
  funext s' w';refine propext ⟨λ⟨d,h1,h2⟩=>⟨⟨d,h2⟩,?_⟩,λ⟨h1,h2⟩=>⟨m s' w',h2,?_⟩⟩
  .show(if g: ∃n,I n s' w' then(LI g).choose else 0)<_;rw[dif_pos ⟨d,h2⟩];exact Nat.lt_of_le_of_lt ((LI ⟨d,h2⟩).choose_spec.2 _ h2) h1
  .show I (if g: ∃n,I n s' w' then(LI g).choose else 0) s' w';rw[dif_pos h1];exact(LI h1).choose_spec.1
 grind
structure Rc where
 Fz:Nat
 addr:Int
 kind:Int
 data:Int
def Rc.key(x:Rc):Int:=4*x.addr+x.kind
def Gi(x:Rc):Option Addr:=some ⟨x.Fz,0,none⟩
def Ed:List Rc->Option Addr->Option Addr
 | [],p=>p
 | x::_,_=>Gi x
def aK(E:Env)(x:Rc)(p:Option Addr):Pr:=Cells x.Fz E.KJ [.int .u64 x.addr,.int .i64 x.kind,.int .u64 x.data,.pointer p]
def Fc(E:Env):List Rc->Option Addr->List Pr
 | [],_=>[]
 | x::r,p=>aK E x (Ed r p)::Fc E r p
def slotOf(b:Nat)(A:List Rc):Addr:=match A.getLast? with
 | none=>⟨b,0,none⟩
 | some x=>(Addr.mk x.Fz 0 none).add 3
def OR(A B:List Rc)(p:Option Addr):Ed (A++B) p=Ed A (Ed B p):=by cases A<;>rfl
def Mn(E:Env): ∀(A B:List Rc) (p:Option Addr),Fc E (A++B) p=Fc E A (Ed B p)++Fc E B p
 | [],B,p=>rfl
 | x::A,B,p=>by
  show aK E x (Ed (A++B) p)::Fc E (A++B) p=aK E x (Ed A (Ed B p))::(Fc E A (Ed B p)++Fc E B p);rw[OR,Mn E A B p]
def Cu{a:Addr}{K:Addr->Prop}(h:K a):NC (some a) K:=by rw[AG];exact h
structure Lk(R:List Rc):Prop where
 HT:Ik Rc.key R
 kd: ∀x∈R,1<=x.kind/\x.kind<=3/\0<=x.addr/\x.addr<18446744073709551616
 KY:R.length<=1099511627776
def FO(E:Env)(b:Nat)(A:List Rc)(p:Option Addr)(n:Int):List Pr:=Cells b E.DY [.pointer (Ed A p),.int .i64 n]::Fc E A p
def IN(E:Env)(b:Nat)(R:List Rc):Pr:=Jx (Lk R) (NB (FO E b R none R.length))
section
variable{E:Env}{w:World}{Z:List Pr}{b:Nat}{R:List Rc}
def Sat.spec:Sat (IN E b R::Z) w↔Lk R/\Sat (FO E b R none R.length++Z) w:=by
 unfold IN;rw[Sat.where,Sat.star]
def ZQ(H:Sat Z w){K:Option Addr->World->Prop}(j: ∀b w',Sat (IN E b []::Z) w'->K (some ⟨b,0,none⟩) w'):F.LZ E K w:=by
 unfold F.LZ;refine AR (vs:=[.pointer none,.int .i64 0]) H λb w' d _=>j b w' (Sat.spec.2 ⟨⟨.nil,λx v=>(by cases v),by decide⟩,d⟩)
def Nx(A:List Rc)(x:Rc):slotOf b (A++[x])=(Addr.mk x.Fz 0 none).add 3:=by
 unfold slotOf
 grind
def ZR(A:List Rc)(x:Rc)(p:Option Addr):Fc E (A++[x]) p=Fc E A (Gi x)++[aK E x p]:=by rw[Mn];rfl
def dJ(A:List Rc)(x:Rc)(p:Option Addr):Ed (A++[x]) p=Ed A (Gi x):=by rw[OR];rfl
def Ua{α:Type}(A:List α):A=[]∨ ∃d x,A=d++[x]:=by
 rcases List.eq_nil_or_concat A with h|⟨d,x,h⟩
 .grind
 grind
def Sat.XE{A:List Rc}{x:Rc}{p:Option Addr}{n:Int}:Sat (FO E b (A++[x]) p n++Z) w↔Sat (aK E x p::(FO E b A (Gi x) n++Z)) w:=by
 unfold FO;rw[ZR,dJ];have hp:(Cells b E.DY [.pointer (Ed A (Gi x)),.int .i64 n]::(Fc E A (Gi x)++[aK E x p])++Z).Perm (aK E x p::(Cells b E.DY [.pointer (Ed A (Gi x)),.int .i64 n]::Fc E A (Gi x)++Z)):=by
  rw[List.cons_append,List.cons_append,List.append_assoc];exact(List.Perm.cons _ List.perm_middle).trans (.swap _ _ _)
 exact⟨λh=>h.perm hp,λh=>h.perm hp.symm⟩
def LJ{A:List Rc}{p:Option Addr}{n:Int}(H:Sat (FO E b A p n++Z) w):w.cell? (slotOf b A)=some (.pointer p):=by
 rcases Ua A with rfl|⟨d,x,rfl⟩
 .exact H.Ah rfl
 .rw[Nx];exact(Sat.XE.1 H).cell rfl
def dK{A:List Rc}{p q:Option Addr}{n:Int}(H:Sat (FO E b A p n++Z) w){K:World->Prop}(j: ∀w',Sat (FO E b A q n++Z) w'->K w'):stCells (slotOf b A) 0 [.pointer q] w K:=by
 rcases Ua A with rfl|⟨v,x,rfl⟩
 .exact CO H (o:=0) rfl (by simp) λw' d=>j w' d
 .rw[Nx];exact AZ (Sat.XE.1 H) (o:=0) (m:=3) rfl (by simp) λw' d=>j w' (Sat.XE.2 d)
def Sat.Ub{A B:List Rc}{y:Rc}{p:Option Addr}{n:Int}:Sat (FO E b (A++y::B) p n++Z) w↔Sat (aK E y (Ed B p)::(FO E b A (Gi y) n++(Fc E B p++Z))) w:=by
 unfold FO;rw[Mn,OR];show Sat (Cells b E.DY [.pointer (Ed A (Gi y)),.int .i64 n]::(Fc E A (Gi y)++aK E y (Ed B p)::Fc E B p)++Z) w↔_;have hp:(Cells b E.DY [.pointer (Ed A (Gi y)),.int .i64 n]::(Fc E A (Gi y)++aK E y (Ed B p)::Fc E B p)++Z).Perm (aK E y (Ed B p)::(Cells b E.DY [.pointer (Ed A (Gi y)),.int .i64 n]::Fc E A (Gi y)++(Fc E B p++Z))):=by
  rw[List.cons_append,List.cons_append,List.append_assoc,List.cons_append];exact(List.Perm.cons _ List.perm_middle).trans (.swap _ _ _)
 exact⟨λh=>h.perm hp,λh=>h.perm hp.symm⟩
def Ib{A B:List Rc}{p:Option Addr}{n:Int}:Sat (FO E b (A++B) p n++Z) w↔Sat (FO E b A (Ed B p) n++(Fc E B p++Z)) w:=by
 unfold FO;rw[Mn,OR,List.cons_append,List.cons_append,List.append_assoc]
def LK(H:Sat (IN E b R::Z) w){a k:Int}(hk:0<=k/\k<=3){K:Option Addr->World->Prop}
  (hK: ∀A B,R=A++B->(∀x∈A,x.key<4*a+k)->(∀x∈B,4*a+k<=x.key)->K (some (slotOf b A)) w):F.DI E (some ⟨b,0,none⟩) a k K w:=by
 obtain⟨hI,H⟩:=Sat.spec.1 H;unfold F.DI;simp only[AG];refine TA (λn st w'=>w'=w/\ ∃A B,st.1=some (slotOf b A)/\R=A++B/\(∀x∈A,x.key<4*a+k)/\n=B.length) R.length ⟨rfl,[],R,rfl,rfl,λx d=>(by cases d),rfl⟩ ?_;rintro n ⟨p,u⟩ _ Y ⟨rfl,A,B,hp,hR,hA,hn⟩;dsimp only at hp⊢;subst hp;subst hR;have hs:=Ib.1 H;have v:=LJ hs;have done:(∀x∈B,4*a+k<=x.key)->K (some (slotOf b A)) Y:=λO=>hK A B rfl hA O;refine AV ?_;simp only[AG];cases B with
 | nil=>exact⟨none,v,AO rfl (done λx d=>by cases d)⟩
 | cons y B=>
  have hy:=Sat.Ub.1 H;have y0:Y.cell? (Addr.mk y.Fz 0 none)=some (.int .u64 y.addr):=hy.Ah rfl;have y1:Y.cell? ((Addr.mk y.Fz 0 none).add 1)=some (.int .i64 y.kind):=hy.cell rfl;have aI:=hI.kd y (by simp);have J:=(List.pairwise_append.1 hI.HT).2.1;have O:4*a+k<=y.key-> ∀x∈y::B,4*a+k<=x.key:=λh x d=>by
   rcases List.mem_cons.1 d with rfl|d
   .exact h
   .have:=(List.pairwise_cons.1 J).1 x d;omega
  have go:y.key<4*a+k-> ∃n',n'<n/\True/\ ∃T B',some ((Addr.mk y.Fz 0 none).add 3)=some (slotOf b T)/\A++y::B=T++B'/\(∀x∈T,x.key<4*a+k)/\n'=B'.length:=λh=>by
   refine⟨B.length,by rw[hn];grind,trivial,A++[y],B,by rw[Nx],by simp,λx d=> ?_,rfl⟩
   grind
  have aA:y.key=4*y.addr+y.kind:=rfl;refine⟨Gi y,v,AU rfl ⟨Gi y,v,Cu ⟨y.addr,y0,AB (λg=> ?_) λg=>⟨Gi y,v,Cu ⟨y.addr,y0,BF (λe=>⟨Gi y,v,Cu ⟨y.kind,y1,AB (λg2=> ?_) λg2=>done (O (by omega))⟩⟩) λe=>done (O (by omega))⟩⟩⟩⟩⟩
  .exact λj=>⟨Gi y,v,Cu (go (by omega))⟩
  .exact λj=>⟨Gi y,v,Cu (go (by omega))⟩
end
def HU(x:Rc):List Value:=[.int .u64 x.addr,.int .i64 x.kind,.int .u64 x.data]
def Dy(x:Rc):(HU x).length=3:=rfl
def Ic(x:Rc): ∀v∈HU x,v.oneCell'=true:=by intro v d;simp[HU]at d;rcases d with rfl|rfl|rfl<;>rfl
def ZS{A B:List Rc}{a:Int}(hI:Lk (A++B))(j: ∀x∈A,x.key<4*a+0)(v: ∀x∈B,4*a+0<=x.key):(∀x∈A,x.addr<a)/\ ∀x∈B,a<=x.addr:=by
 refine⟨λx d=> ?_,λx d=> ?_⟩
 .have:=j x d;have:=hI.kd x (by simp[d]);unfold Rc.key at *;omega
 .have:=v x d;have:=hI.kd x (by simp[d]);unfold Rc.key at *;omega
def ZT{y:Rc}{B:List Rc}(hk: ∀x∈y::B,1<=x.kind/\x.kind<=3)(hs:Ik Rc.key (y::B)): ∀x∈B,y.addr<=x.addr:=λx d=>by
 have:=(List.pairwise_cons.1 hs).1 x d;have h1:=hk y (by simp);have h2:=hk x (by simp[d]);unfold Rc.key at this;omega
def V7{a:Int}: ∀{B:List Rc},Ik Rc.key B->(∀x∈B,1<=x.kind/\x.kind<=3)->(∀x∈B,a<=x.addr)->B.takeWhile (λy=>y.addr==a)=B.filter (λy=>y.addr==a)/\B.dropWhile (λy=>y.addr==a)=B.filter λy=> !(y.addr==a)
 | [],_,_,_=>⟨rfl,rfl⟩
 | y::B,hs,hk,ha=>by
  have j:=V7 (a:=a) (List.pairwise_cons.1 hs).2 (λx d=>hk x (by simp[d])) λx d=>ha x (by simp[d]);by_cases e:y.addr=a
  .have J:(y.addr==a)=true:=by grind
   rw[List.takeWhile_cons_of_pos (by omega),List.filter_cons_of_pos (by omega),List.dropWhile_cons_of_pos (by omega),List.filter_cons_of_neg (by simp[e]),j.1,j.2]
   grind
  .have h1:=ZT hk hs;have h2:=ha y (by simp);have v: ∀x∈y::B,x.addr≠a:=λx d=>by
    rcases List.mem_cons.1 d with rfl|d
    .exact e
    .have:=h1 x d;omega
   rw[List.takeWhile_cons_of_neg (by grind),List.dropWhile_cons_of_neg (by grind)];refine⟨(List.filter_eq_nil_iff.2 λx d=> ?_).symm,(List.filter_eq_self.2 λx d=> ?_).symm⟩
   .grind
   grind
section
variable{E:Env}{w:World}{Z:List Pr}{b:Nat}{R:List Rc}
def Uc{A B:List Rc}{n:Int}(H:Sat (FO E b (A++B) none n++Z) w){a k:Int}{K:Bool->World->Prop}(h1: ∀y B',B=y::B'->y.addr=a->y.kind=k->K true w)(h0:(∀y B',B=y::B'-> ¬(y.addr=a/\y.kind=k))->K false w):
  F.LB E (some (slotOf b A)) a k K w:=by
 unfold F.LB;have d:=LJ (Ib.1 H);simp only[AG];cases B with
 | nil=>exact⟨none,d,AO rfl (h0 λy B' h=>by cases h)⟩
 | cons y B=>
  have j:=Sat.Ub.1 H;have v:w.cell? (Addr.mk y.Fz 0 none)=some (.int .u64 y.addr):=j.Ah rfl;have J:w.cell? ((Addr.mk y.Fz 0 none).add 1)=some (.int .i64 y.kind):=j.cell rfl;have no: ¬(y.addr=a/\y.kind=k)->K false w:=λh=>h0 λO B' e=>by grind
  refine⟨Gi y,d,AU rfl ⟨Gi y,d,Cu ⟨y.addr,v,BF (λe=>⟨Gi y,d,Cu ⟨y.kind,J,?_⟩⟩) λe=>no λh=>e h.1⟩⟩⟩
  try dsimp only
  by_cases g:y.kind=k
  .rw[show(y.kind==k)=true by grind];exact h1 y B rfl e g
  .rw[show(y.kind==k)=false by grind];exact no λh=>g h.2
def RM{A:List Rc}{p:Option Addr}{n m:Int}(H:Sat (FO E b A p n++Z) w){K:World->Prop}(j: ∀w',Sat (FO E b A p m++Z) w'->K w'):stCells ((Addr.mk b 0 none).add 1) 0 [.int .i64 m] w K:=
 AZ H (o:=0) (m:=1) rfl (by simp) λw' d=>j w' d
def gT{A B:List Rc}{a k:Int}(hI:Lk (A++B))(hk:1<=k/\k<=3)(K: ∀x∈A,x.key<4*a+k)(O: ∀x∈B,4*a+k<=x.key)(h: ∀y B',B=y::B'-> ¬(y.addr=a/\y.kind=k)): ∀x∈A++B,¬(x.addr=a/\x.kind=k):=by
 rintro x d ⟨v,J⟩;have j:x.key=4*a+k:=by unfold Rc.key;rw[v,J]
 rcases List.mem_append.1 d with d|d
 .grind
 .cases B with
  | nil=>cases d
  | cons y B=>
   rcases List.mem_cons.1 d with rfl|d
   .grind
   .have:=(List.pairwise_cons.1 (List.pairwise_append.1 hI.HT).2.1).1 x d
    grind
def Rw(H:Sat (IN E b R::Z) w){a k d:Int}(ha:0<=a/\a<18446744073709551616)(hf:R.length<1099511627776){K:Int->World->Prop}(aA: ¬(1<=k/\k<=3)->K 1 w)
  (aE:1<=k/\k<=3-> ∀x∈R,x.addr=a->x.kind=k->K 34 w)(aD:1<=k/\k<=3->(∀x∈R,¬(x.addr=a/\x.kind=k))-> ∀A B Fz w',R=A++B->Sat (IN E b (A++⟨Fz,a,k,d⟩::B)::Z) w'->K 0 w'):
  F.B2 E (some ⟨b,0,none⟩) a k d K w:=by
 have HS:=H;unfold F.B2 T0.B2;refine AV (AB (λg j=>AU rfl (aA (by omega))) λg1 j=>AB (λg=>aA (by omega)) λg2=> ?_);have hk:1<=k/\k<=3:=by omega
 refine LK HS (by omega) λA B hR hA hB=> ?_;obtain⟨hI,H⟩:=Sat.spec.1 H;subst hR;refine Uc H (λy B' e e1 e2=>AU rfl (aE hk y (by rw[e];simp) e1 e2)) λaF=>AO rfl ?_;have O:=gT hI hk hA hB aF;have hs:=Ib.1 H;simp only[AG];refine⟨Ed B none,LJ hs,?_⟩;refine AR (vs:=[.int .u64 a,.int .i64 k,.int .u64 d,.pointer (Ed B none)]) hs λJ aH aB _=> ?_;have aC:Sat (FO E b A (Ed B none) ((A++B).length:Int)++(aK E ⟨J,a,k,d⟩ (Ed B none)::(Fc E B none++Z))) aH:=aB.perm List.perm_middle.symm;refine dK aC λaI T=>⟨_,(show Sat (Cells b _ _::_) aI from T).cell rfl,RM T λaJ Y=>aD hk O A B J aJ rfl (Sat.spec.2 ⟨⟨?_,?_,?_⟩,?_⟩)⟩
 .have h1:=List.pairwise_append.1 hI.HT;unfold Ik;refine List.pairwise_append.2 ⟨h1.1,List.pairwise_cons.2 ⟨λx v=> ?_,h1.2.1⟩,λx v y hy=> ?_⟩
  .have h2:=hB x v;have h3:=O x (by simp[v]);have h4:=hI.kd x (by simp[v]);have e:Rc.key ⟨J,a,k,d⟩=4*a+k:=rfl;rw[e];unfold Rc.key at h2⊢;have: ¬(x.addr=a/\x.kind=k):=h3;omega
  .rcases List.mem_cons.1 hy with rfl|hy
   .have:=hA x v;show x.key<4*a+k;omega
   .exact h1.2.2 x v y hy
 .intro x v;rcases List.mem_append.1 v with v|v
  .exact hI.kd x (by simp[v])
  .rcases List.mem_cons.1 v with rfl|v
   .exact⟨hk.1,hk.2,ha⟩
   .exact hI.kd x (by simp[v])
 .simp only[List.length_append,List.length_cons]at hf⊢;omega
 .have e:i64 (((A++B).length:Int)+1)=((A++(⟨J,a,k,d⟩:Rc)::B).length:Int):=by
   rw[AE];simp only[List.length_append,List.length_cons];omega
  rw[e]at Y;exact(Sat.Ub (y:=⟨J,a,k,d⟩)).2 (Y.perm List.perm_middle)
def ZU(H:Sat (IN E b R::Z) w){a k:Int}(hk:1<=k/\k<=3){K:Int->Int->World->Prop}(O:(∀x∈R,¬(x.addr=a/\x.kind=k))->K 0 35 w)
  (T: ∀A B y,R=A++y::B->y.addr=a->y.kind=k-> ∀w',Sat (IN E b (A++B)::Z) w'->K y.data 0 w'):F.CH E (some ⟨b,0,none⟩) a k K w:=by
 have HS:=H;unfold F.CH T0.CH;refine LK HS (by omega) λA B hR hA hB=> ?_;obtain⟨hI,H⟩:=Sat.spec.1 H;subst hR;refine Uc H (λy B' e e1 e2=>AO rfl ?_) λaA=>AU rfl (O (gT hI hk hA hB aA));subst e;have hm:=Sat.Ub.1 H;have hs:=Ib.1 H;simp only[AG];refine⟨Gi y,LJ hs,Cu ⟨Ed B' none,hm.cell rfl,?_⟩⟩;have Y:Sat (FO E b A (Gi y) ((A++y::B').length:Int)++(aK E y (Ed B' none)::(Fc E B' none++Z))) w:=hm.perm List.perm_middle.symm;refine dK Y λaB j=>⟨_,(show Sat (Cells b _ _::_) aB from j).cell rfl,RM j λJ d=>Cu ⟨y.data,?_,?_⟩⟩
 .exact(show Sat (aK E y (Ed B' none)::_) J from d.perm List.perm_middle).cell rfl
 .refine T A B' y rfl e1 e2 J (Sat.spec.2 ⟨⟨hI.HT.sublist (by simp),λx v=>hI.kd x ?_,?_⟩,?_⟩)
  .rcases List.mem_append.1 v with v|v
   .simp[v]
   .simp[v]
  .have:=hI.KY;grind
  .have hf:=hI.KY;have e:i64 (((A++y::B').length:Int)-1)=((A++B').length:Int):=by
    rw[AE]
    grind
   rw[e]at d;exact Ib.2 (d.perm List.perm_middle).tail
def QZ{A B:List Rc}{n:Int}(t:Int->Bool)(H:Sat (FO E b (A++B) none n++Z) w)(hf:(A++B).length<=1099511627776){K:Aa->World->Prop}
  (hK: ∀s w',s.len=(B.takeWhile λy=>t y.addr).length->Sat (Row E.AI 3 s (Al HU (B.takeWhile λy=>t y.addr))::(FO E b (A++B) none n++Z)) w'->K s w'):
  At (Aa×(Option Addr)×Unit) (⟨none,0,0⟩,Ed B none,()) w λs5 _ j O=>
  CND (!s5.2.1.isNone) (
   NC s5.2.1 λp8=>
   ∃x9:Int,j.cell? p8=some (.int .u64 x9)/\
   CND (t x9) (
    NC s5.2.1 λT=>
    ∃aB:Int,j.cell? (T.add 0)=some (.int .u64 aB)/\
    ∃aC:Int,j.cell? (T.add 1)=some (.int .i64 aC)/\
    ∃aD:Int,j.cell? (T.add 2)=some (.int .u64 aD)/\
    AL (.cells ⟨[.int .u64 aB,.int .i64 aC,.int .u64 aD]⟩ E.AI) j λaA aE=>
    APP E.AI 3 24 #[.int .u64 0,.int .i64 0,.int .u64 0] s5.1 ⟨(some (Addr.mk aA 0 none)),1,1⟩ aE λSy Y=>
    NC s5.2.1 λaK=>
    ∃aF:(Option Addr),Y.cell? (aK.add 3)=some (.pointer aF)/\
    O (Sy,aF,()) Y
   ) (
    K s5.1 j
   )
  ) (
   K s5.1 j
  ):=by
 refine TA (λn' st w'=> ∃C D,st.2.1=Ed D none/\B=C++D/\(∀x∈C,t x.addr=true)/\n'=D.length/\Sat (Row E.AI 3 st.1 (Al HU C)::(FO E b (A++B) none n++Z)) w') B.length ⟨[],B,rfl,rfl,λx d=>(by cases d),rfl,H.nil E.AI 3⟩ ?_;rintro n' ⟨s,p,u⟩ _ j ⟨C,D,hp,hB,hC,hn,H6⟩;dsimp only at hp H6⊢;subst hp;have hl:=H6.Gv (by decide) Dy;have fin:(∀y D',D=y::D'->t y.addr=false)->K s j:=λh=>by
  have:B.takeWhile (λy=>t y.addr)=C:=by
   rw[hB,List.takeWhile_append_of_pos λx d=>hC x d];cases D with
   | nil=>simp
   | cons y D=>rw[List.takeWhile_cons_of_neg (by grind),List.append_nil]
  grind
 cases D with
 | nil=>exact AO rfl (fin λy D' h=>by cases h)
 | cons y D=>
  have eR:A++B=(A++C)++y::D:=by grind
  have hm: ∀{w':World} {v:List Value} {s':Aa},Sat (Row E.AI 3 s' v::(FO E b (A++B) none n++Z)) w'->w'.cell? ((Addr.mk y.Fz 0 none).add 0)=some (.int .u64 y.addr)/\w'.cell? ((Addr.mk y.Fz 0 none).add 1)=some (.int .i64 y.kind)/\w'.cell? ((Addr.mk y.Fz 0 none).add 2)=some (.int .u64 y.data)/\w'.cell? ((Addr.mk y.Fz 0 none).add 3)=some (.pointer (Ed D none)):=λh=>by
   have h:=h.tail;rw[eR]at h;have h:=Sat.Ub.1 h;exact⟨h.cell rfl,h.cell rfl,h.cell rfl,h.cell rfl⟩
  obtain⟨m0,m1,m2,_⟩:=hm H6;have hlen:C.length+1<=1099511627776:=by grind
  refine AU rfl (Cu ⟨y.addr,by have:=m0;rwa[add_zero]at this,AQ (λht=>Cu ⟨_,m0,_,m1,_,m2,?_⟩) λht=>fin λy' D' e=>by cases e;exact ht⟩);refine AR (vs:=HU y) H6 λaA aE aI _=> ?_;refine EX (news:=HU y) (zs:= #[.int .u64 0,.int .i64 0,.int .u64 0]) (bytes:=24) aI rfl rfl (Ic y) (by omega) (by omega) λSy Y J _=>Cu ⟨_,(hm J).2.2.2,?_⟩;refine⟨D.length,by rw[hn];grind,C++[y],D,rfl,by rw[hB];simp,λx d=> ?_,rfl,?_⟩
  .rcases List.mem_append.1 d with d|d
   .exact hC x d
   .simp at d;subst d;exact ht
  .rw[show Al HU C++HU y=Al HU (C++[y]) by rw[FN];simp[Al]]at J;exact J
def Sj(H:Sat (IN E b R::Z) w){x y:Int}{K:Aa->World->Prop}(T: ∀s l w',l.length=s.len->(s.len=0↔ ∀z∈R,¬(x<=z.addr/\z.addr<y))->Sat (Row E.AI 3 s (Al HU l)::IN E b R::Z) w'->K s w'):
  F.B3 E (some ⟨b,0,none⟩) x y K w:=by
 have HS:=H;unfold F.B3 T0.B3;refine LK HS (by omega) λA B Y J O=> ?_;obtain⟨hI,H⟩:=Sat.spec.1 H;subst Y;refine Cu ⟨Ed B none,LJ (Ib.1 H),?_⟩;refine QZ (λz=>decide (z<y)) H hI.KY λs w' j v=>T s _ w' j.symm ?_ (((Sat.spec.2 ⟨hI,v.perm List.perm_middle.symm⟩)).perm (.swap _ _ _));obtain⟨h1,h2⟩:=ZS hI J O;have d:=(List.pairwise_append.1 hI.HT).2.1;rw[j];cases B with
 | nil=>exact⟨λ_ z hz h=>by grind,λ_=>rfl⟩
 | cons q B=>
  have h3:=ZT (λz hz=>(hI.kd z (by simp;grind)).imp id λh=>h.1) d;have h4:=h2 q (by simp);by_cases e:q.addr<y
  .rw[List.takeWhile_cons_of_pos (by grind)]
   grind
  .rw[List.takeWhile_cons_of_neg (by grind)]
   grind
def PJ(R:List Rc)(a:Int):List Rc:=R.filter λy=>y.addr==a
def Oa(R:List Rc)(a:Int):List Rc:=R.filter λy=> !(y.addr==a)
def pP{A B:List Rc}{a:Int}(hI:Lk (A++B))(J: ∀x∈A,x.key<4*a+0)(K: ∀x∈B,4*a+0<=x.key):B.takeWhile (λy=>y.addr==a)=PJ (A++B) a/\A++B.dropWhile (λy=>y.addr==a)=Oa (A++B) a:=by
 obtain⟨h1,h2⟩:=ZS hI J K;obtain⟨j,v⟩:=V7 (a:=a) (List.pairwise_append.1 hI.HT).2.1 (λx d=>(hI.kd x (by simp[d])).imp id λh=>h.1) h2;unfold PJ Oa;rw[List.filter_append,List.filter_append,j,v];have O:A.filter (λy=>y.addr==a)=[]:=List.filter_eq_nil_iff.2 λx d=>by grind
 have T:A.filter (λy=> !(y.addr==a))=A:=List.filter_eq_self.2 λx d=>by grind
 grind
def dL(H:Sat (IN E b R::Z) w){a:Int}{K:Aa->World->Prop}(J: ∀s w',s.len=(PJ R a).length->Sat (Row E.AI 3 s (Al HU (PJ R a))::IN E b R::Z) w'->K s w'):
  F.DJ E (some ⟨b,0,none⟩) a K w:=by
 have HS:=H;unfold F.DJ T0.DJ;refine LK HS (by omega) λA B O v y=> ?_;obtain⟨hI,H⟩:=Sat.spec.1 H;subst O;refine Cu ⟨Ed B none,LJ (Ib.1 H),?_⟩;have e:=(pP hI v y).1;refine QZ (λz=>z==a) H hI.KY λs w' j d=> ?_;rw[e]at j d;exact J s w' j (((Sat.spec.2 ⟨hI,d.perm List.perm_middle.symm⟩)).perm (.swap _ _ _))
def XF(H:Sat (IN E b R::Z) w){a:Int}{K:Aa->World->Prop}(hK: ∀s w',s.len=(PJ R a).length->Sat (Row E.AI 3 s (Al HU (PJ R a))::IN E b (Oa R a)::Z) w'->K s w'):
  F.Cg E (some ⟨b,0,none⟩) a K w:=by
 unfold F.Cg T0.Cg;refine dL H λs w2 hs H2=> ?_;have H3:=H2.front 1 rfl;refine LK H3 (by omega) λA B hR hA hB=> ?_;obtain⟨hI,H3⟩:=Sat.spec.1 H3;subst hR;obtain⟨e1,e2⟩:=pP hI hA hB;have J:B=PJ (A++B) a++B.dropWhile (λy=>y.addr==a):=by rw[<-e1,List.takeWhile_append_dropWhile]
 generalize hT:PJ (A++B) a=T at *
 generalize hD:B.dropWhile (λy=>y.addr==a)=D at *
 have v:=hI.KY;have H4:Sat (FO E b A (Ed B none) ((A++B).length:Int)++(Fc E B none++(Row E.AI 3 s (Al HU T)::Z))) w2:=Ib.1 H3;have aP:B.length=T.length+D.length:=by grind
 simp only[List.length_append]at v;refine AH (λst w'=> ∃i:Nat,st.1=(i:Int)/\i<=T.length/\Sat (FO E b A (Ed (B.drop i) none) ((A++B).length:Int)++(Fc E (B.drop i) none++(Row E.AI 3 s (Al HU T)::Z))) w') (λst _=>((T.length:Int)-st.1).toNat) ⟨0,rfl,Nat.zero_le _,H4⟩ ?_;rintro⟨i',u⟩ _ Y ⟨i,hi,aT,d⟩;dsimp only at hi⊢;subst hi;rw[hs];refine AB (λg=> ?_) λg=> ?_
 .obtain⟨y,hy⟩: ∃y,B.drop i=y::B.drop (i+1):=⟨B[i]'(by omega),List.drop_eq_getElem_cons (by omega)⟩;rw[hy]at d;have hc:Y.cell? ((Addr.mk y.Fz 0 none).add 3)=some (.pointer (Ed (B.drop (i+1)) none)):=
   (show Sat (aK E y (Ed (B.drop (i+1)) none)::_) Y from d.perm List.perm_middle).cell rfl
  have H7:Sat (FO E b A (Gi y) ((A++B).length:Int)++(Fc E (B.drop (i+1)) none++(Row E.AI 3 s (Al HU T)::Z))) Y:=(show Sat (aK E y (Ed (B.drop (i+1)) none)::_) Y from d.perm List.perm_middle).tail;simp only[AG];refine⟨Gi y,LJ H7,Cu ⟨_,hc,dK H7 λaV aB=>⟨⟨i+1,by rw[AE];rfl,by omega,aB⟩,?_⟩⟩⟩;rw[AE];omega
 .have aD:i=T.length:=by omega
  have aC:B.drop i=D:=by rw[J,aD,List.drop_left]
  rw[aC]at d;simp only[AG];refine⟨_,(show Sat (Cells b _ _::_) Y from d).cell rfl,RM d λaE j=>hK s aE hs ?_⟩;have en:i64 (((A++B).length:Int)-((T.length:Nat):Int))=((A++D).length:Int):=by
   rw[AE (by omega) (by grind)]
   grind
  rw[en]at j;rw[<-e2];have hIn:Lk (A++D):=⟨hI.HT.sublist (by grind),λx O=>hI.kd x ?_,by grind⟩
  .exact(Sat.spec.2 ⟨hIn,Ib.2 j⟩).perm (.swap _ _ _)
  .rcases List.mem_append.1 O with O|O
   .simp[O]
   .rw[J];simp[O]
end
def VM{E:Env}{w:World}{Z:List Pr}{b:Nat}{R:List Rc}(H:Sat (IN E b R::Z) w){K:Int->World->Prop}(d:K R.length w):F.Fm E (some ⟨b,0,none⟩) K w:=by
 obtain⟨hI,H⟩:=Sat.spec.1 H;unfold F.Fm;exact Cu ⟨_,H.cell rfl,d⟩
structure SW where
 S:HS
 L:List DG
 R:List Rc
 em:List Rc
 M8:Int
 Ny:Int
 Bq:Int
 En:Int
def IB(h s r:Nat)(em:Aa)(W:SW):List Value:=[.pointer (some ⟨h,0,none⟩),.pointer (some ⟨s,0,none⟩),.pointer (some ⟨r,0,none⟩),Fo em,.int .u64 W.M8,.int .u64 W.Ny,.int .u64 W.Bq,.int .u64 W.En]
def MI(E:Env)(b h s r:Nat)(W:SW)(em:Aa):List Pr:=[Cells b E.Di (IB h s r em W),BQ E h W.S,Hi E s W.L,IN E r W.R,Row E.AI 3 em (Al HU W.em)]
def AS(E:Env)(b h s r:Nat)(W:SW):Pr:=Ex λem:Aa=>NB (MI E b h s r W em)
structure Sk(x:SI):Prop where
 st:x.state=1
 cls:0<=x.cls/\x.cls<68
 el:x.elem=if x.cls=0 then x.AA*8192 else(Bb x.cls).1
 slo:x.AM=if x.cls=0 then 1 else(Bb x.cls).2.2.1
 mg:x.Lh=(Bb x.cls).2.2.2
 pg:1<=x.AA/\x.AA<=134217728/\(0<x.cls->x.AA=(Bb x.cls).2.1)
 ba:0<=x.base/\x.base %8192=0/\x.base+x.AA*8192<=281474976710656
abbrev Az:=Int->Nat->Bool
def Az.set(U:Az)(id:Int)(u:Nat->Bool):Az:=λi=>if i=id then u else U i
structure Ck(W:SW)(U M:Az):Prop where
 hI:BN W.S no
 sp: ∀id x,W.S.sp id=some x->Sk x.2/\Qn x.2 (U id) (M id)
 it: ∀x∈W.L,∃y,W.S.sp x.id=some y/\y.2.base=x.base
def kO:(MB.all λc=>decide (0<=c.1)&&(decide (0<=c.2.2.1)&&(decide (c.2.2.1<=1024)&&(decide (c.1*c.2.2.1<=c.2.1*8192)&&(decide (0<=c.2.2.2)&&(decide (c.2.2.2<4294967296)&&(decide (c.2.2.2=0)||(decide (8<=c.1)&&(decide (c.1<=32768)&&(decide (4294967296<=c.2.2.2*c.1)&&(decide ((c.2.2.2*c.1-4294967296)*c.2.2.1<c.2.2.2)&&(decide (1<=c.2.2.1)&&decide (1<=c.2.1)))))))))))))=true:=by decide+kernel
def uI:((MB.drop 1).all λc=>decide (8<=c.1)&&(decide (c.1<=32768)&&(decide (1<=c.2.2.1)&&(decide (1<=c.2.1)&&(decide (c.1 %8=0)&&decide (0<c.2.2.2))))))=true:=by decide+kernel
def cls0:Bb 0=(0,0,0,0):=by decide+kernel
def dM{c:Int}(h0:0<c)(h1:c<68):8<=(Bb c).1/\(Bb c).1<=32768/\1<=(Bb c).2.2.1/\1<=(Bb c).2.1/\(Bb c).1 %8=0/\0<(Bb c).2.2.2:=by
 have h:=Mh (c:=c) (by omega) h1;have h2:(MB.drop 1)[c.toNat-1]? =some (Bb c):=by grind
 have:=List.all_eq_true.1 uI _ (List.mem_of_getElem? h2)
 grind
def Ud{c:Int}(h0:0<=c)(h1:c<68):0<=(Bb c).1/\0<=(Bb c).2.2.1/\(Bb c).2.2.1<=1024/\(Bb c).1*(Bb c).2.2.1<=(Bb c).2.1*8192/\0<=(Bb c).2.2.2/\(Bb c).2.2.2<4294967296/\
  ((Bb c).2.2.2=0∨(8<=(Bb c).1/\(Bb c).1<=32768/\4294967296<=(Bb c).2.2.2*(Bb c).1/\((Bb c).2.2.2*(Bb c).1-4294967296)*(Bb c).2.2.1<(Bb c).2.2.2/\1<=(Bb c).2.2.1/\1<=(Bb c).2.1)):=by
 have:=List.all_eq_true.1 kO _ (List.mem_of_getElem? (Mh h0 h1))
 grind
def Sk.size{x:SI}(h:Sk x):0<x.elem/\x.elem<=1099511627776/\1<=x.AM/\x.AM<=1024/\x.elem*x.AM<=x.AA*8192:=by
 have d:=h.cls;have hp:=h.pg;by_cases e:x.cls=0
 .have h1:=h.el;have h2:=h.slo
  grind
 .have h1:=h.el;have h2:=h.slo;rw[if_neg e]at h1 h2;have j:=dM (c:=x.cls) (by omega) d.2;have v:=Ud d.1 d.2
  grind
def Sk.gP{x:SI}(h:Sk x):gP x:=by
 have K:=h.cls;have hm:=h.mg;have J:=Ud K.1 K.2;have hs:=h.size;refine⟨by omega,by omega,λg=> ?_⟩;have v:x.cls≠0:=λe=>by rw[e,cls0]at hm;grind
 have h1:=h.el;have h2:=h.slo;rw[if_neg v]at h1 h2;rcases J.2.2.2.2.2.2 with q|⟨q1,q2,q3,q4,q5,q6⟩
 .omega
 .rw[hm,h1,h2];generalize (Bb x.cls).1=s at *
  generalize (Bb x.cls).2.2.1=n at *
  generalize (Bb x.cls).2.2.2=m at *
  have hn:n<=1024:=J.2.2.1;have aD:n*s<=1024*32768:=Int.mul_le_mul hn q2 (by omega) (by decide);refine⟨by omega,λoff o0 o1=> ?_⟩;have hr:=Int.emod_nonneg off (show s≠0 by omega);have aG:=Int.emod_lt_of_pos off (show 0<s by omega);have j:=Int.mul_ediv_add_emod off s;have y:0<=off/s:=Int.ediv_nonneg o0 (by omega);have aE:off/s<n:=Int.ediv_lt_of_lt_mul (by omega) o1;generalize off/s=q at *
  generalize off %s=r at *
  have O:off=s*q+r:=j.symm;obtain⟨e,he⟩: ∃e,e=m*s-4294967296:=⟨_,rfl⟩;have d:0<=e:=by omega
  have aB:m*s=4294967296+e:=by omega
  have e1:off*m=q*4294967296+(q*e+r*m):=by grind
  have h6:0<=q*e:=Int.mul_nonneg y d;have h7:0<=r*m:=Int.mul_nonneg hr (by omega);have h8:r*m<=(s-1)*m:=Int.mul_le_mul_of_nonneg_right (by omega) (by omega);have h9:(s-1)*m=m*s-m:=by grind
  have T:(q+1)*e<=n*e:=Int.mul_le_mul_of_nonneg_right (by omega) d;have Y:(q+1)*e=q*e+e:=by grind
  have aA:e*n<m:=by rw[he];exact q4
  grind
def Sk.KV{x y:SI}(h:Sk x)(h1:y.base=x.base)(h2:y.AA=x.AA)(j:y.state=x.state)(d:y.cls=x.cls)(v:y.elem=x.elem)(J:y.AM=x.AM)(K:y.Lh=x.Lh):Sk y:=by
 refine⟨by rw[j];exact h.st,by rw[d];exact h.cls,by rw[v,d,h2];exact h.el,by rw[J,d];exact h.slo,by rw[K,d];exact h.mg,by rw[h2,d];exact h.pg,by rw[h1,h2];exact h.ba⟩
def uJ{page n c:Int}{np:Bool}(h0:0<=page)(h1:page+n<=34359738368)(j: ¬GB 0 n c)(J:0<=n):Sk (IZ page n c np):=by
 unfold GB at j;have d:0<=c/\c<68:=by omega
 have v:=Li d.1 d.2;have hp:0<c->n=(Bb c).2.1:=λh=>Classical.byContradiction λg=>j (.inr (.inr (.inr (.inr (.inr (.inr ⟨h,g⟩))))));have y:n<=134217728:=by
  by_cases e:c=0
  .omega
  .have:=hp (by omega);omega
 refine⟨rfl,d,rfl,rfl,rfl,⟨by show 1<=n;omega,by show n<=_;omega,hp⟩,by show 0<=page*8192/\page*8192 %8192=0/\page*8192+n*8192<=_;omega⟩
def yS{page n c:Int}{np:Bool}(h:Sk (IZ page n c np)):Qn (IZ page n c np) (λ_=>false) λ_=>false:=by
 have hs:=h.size;refine⟨RF λ_=>rfl,RF λ_=>rfl,by show((0:Nat):Int)*64<=_;omega,by show((0:Nat):Int)*64<=_;omega,λi d=>(by cases d),λi d=>(by cases d),by omega,?_,⟨Int.le_refl 0,by show(0:Int)<=_;omega,λi d=> ?_⟩⟩
 .show(0:Int)=_;have:cN (λ_=>false) (IZ page n c np).AM.toNat=0:=by
   generalize (IZ page n c np).AM.toNat=m
   induction m with
   | zero=>rfl
   | succ m ih=>show cN _ m+0=0;rw[ih]
  omega
 .have d:(i:Int)<0:=d;omega
section
variable{E:Env}{w:World}{Z:List Pr}{b h s r:Nat}{W:SW}{U M:Az}
def Sat.Ii:Sat (AS E b h s r W::Z) w↔ ∃em,Sat (MI E b h s r W em++Z) w:=by
 unfold AS;rw[Sat.ex];exact⟨λ⟨g,h⟩=>⟨g,Sat.star.1 h⟩,λ⟨g,h⟩=>⟨g,Sat.star.2 h⟩⟩
def Lw{em:Aa}(H:Sat (MI E b h s r W em++Z) w):w.cell? (Addr.mk b 0 none)=some (.pointer (some ⟨h,0,none⟩))/\w.cell? ((Addr.mk b 0 none).add 1)=some (.pointer (some ⟨s,0,none⟩))/\w.cell? ((Addr.mk b 0 none).add 2)=some (.pointer (some ⟨r,0,none⟩))/\
  w.cell? ((Addr.mk b 0 none).add 3)=some (.slice em.base em.len em.cap)/\w.cell? ((Addr.mk b 0 none).add 4)=some (.int .u64 W.M8)/\w.cell? ((Addr.mk b 0 none).add 5)=some (.int .u64 W.Ny)/\w.cell? ((Addr.mk b 0 none).add 6)=some (.int .u64 W.Bq)/\w.cell? ((Addr.mk b 0 none).add 7)=some (.int .u64 W.En):=
 have H:Sat (Cells b E.Di (IB h s r em W)::_) w:=H
 ⟨H.Ah rfl,H.cell rfl,H.cell rfl,H.cell rfl,H.cell rfl,H.cell rfl,H.cell rfl,H.cell rfl⟩
def Sat.Ho(H:Sat (AS E b h s r W::Z) w): ∃R,Sat (BQ E h W.S::R) w/\(∀{w'},Sat R w'->Sat Z w')/\ ∀{S' w'},Sat (BQ E h S'::R) w'->Sat (AS E b h s r {W with S:=S'}::Z) w':=by
 obtain⟨em,H⟩:=Sat.Ii.1 H;exact⟨_,H.front 1 rfl,λh=>h.tail.tail.tail.tail,λ{S' w'} h'=>Sat.Ii.2 ⟨em,Sat.back (Ps:=MI E b h s r W em++Z) 1 h' (by simp[MI])⟩⟩
def Sat.PK(H:Sat (AS E b h s r W::Z) w): ∃R,Sat (Hi E s W.L::R) w/\(∀{w'},Sat R w'->Sat Z w')/\ ∀{L' w'},Sat (Hi E s L'::R) w'->Sat (AS E b h s r {W with L:=L'}::Z) w':=by
 obtain⟨em,H⟩:=Sat.Ii.1 H;exact⟨_,H.front 2 rfl,λh=>h.tail.tail.tail.tail,λ{S' w'} h'=>Sat.Ii.2 ⟨em,Sat.back (Ps:=MI E b h s r W em++Z) 2 h' (by simp[MI])⟩⟩
def Sat.Ue(H:Sat (AS E b h s r W::Z) w): ∃Q,Sat (IN E r W.R::Q) w/\(∀{w'},Sat Q w'->Sat Z w')/\ ∀{R' w'},Sat (IN E r R'::Q) w'->Sat (AS E b h s r {W with R:=R'}::Z) w':=by
 obtain⟨em,H⟩:=Sat.Ii.1 H;exact⟨_,H.front 3 rfl,λh=>h.tail.tail.tail.tail,λ{S' w'} h'=>Sat.Ii.2 ⟨em,Sat.back (Ps:=MI E b h s r W em++Z) 3 h' (by simp[MI])⟩⟩
def Sat.M9(H:Sat (AS E b h s r W::Z) w):w.cell? (Addr.mk b 0 none)=some (.pointer (some ⟨h,0,none⟩))/\w.cell? ((Addr.mk b 0 none).add 1)=some (.pointer (some ⟨s,0,none⟩))/\w.cell? ((Addr.mk b 0 none).add 2)=some (.pointer (some ⟨r,0,none⟩)):=by
 obtain⟨em,H⟩:=Sat.Ii.1 H;exact⟨(Lw H).1,(Lw H).2.1,(Lw H).2.2.1⟩
def SW.new(S:HS):SW:=⟨S,[],[],[],0,0,0,0⟩
def dN{S:HS}(H:Sat (IN E r []::Hi E s []::BQ E h S::Z) w){K:Option Addr->World->Prop}(j: ∀b w',Sat (AS E b h s r (SW.new S)::Z) w'->K (some ⟨b,0,none⟩) w'):F.OI E (some ⟨h,0,none⟩) (some ⟨s,0,none⟩) (some ⟨r,0,none⟩) K w:=by
 unfold F.OI;refine AR (vs:=IB h s r ⟨none,0,0⟩ (SW.new S)) H λb1 v d _=>j b1 v (Sat.Ii.2 ⟨⟨none,0,0⟩,?_⟩);have h1:=d.nil E.AI 3;exact((((h1.front 0 rfl).front 2 rfl).front 3 rfl).front 4 rfl).front 4 rfl
def G8(H:Sat (AS E b h s r W::Z) w){K:Option Addr->World->Prop}(d:K (some ⟨h,0,none⟩) w):F.C4 E (some ⟨b,0,none⟩) K w:=by
 unfold F.C4;exact AF ⟨_,H.M9.1,d⟩
def Nz(H:Sat (AS E b h s r W::Z) w){K:Option Addr->World->Prop}(d:K (some ⟨s,0,none⟩) w):F.F6 E (some ⟨b,0,none⟩) K w:=by
 unfold F.F6;exact AF ⟨_,H.M9.2.1,d⟩
def Jz:List Value:=[.int .u64 0,.int .i64 0,.int .i64 0,.int .i64 0,.bool false,.int .i64 0,.int .i64 0,.int .i64 0,.bool false,.bool false]
def JV(x:SI):List Value:=[.int .u64 x.base,.int .i64 x.AA,.int .i64 x.state,.int .i64 x.cls,.bool x.FY,.int .i64 x.elem,.int .i64 x.AM,.int .i64 x.used,.bool x.f8,.bool x.f9]
def PL(H:Sat (AS E b h s r W::Z) w)(hI:Ck W U M){id:Int}{K:Option Addr->Int->Int->Int->Int->Bool->Int->Int->Int->Bool->Bool->Int->World->Prop}
  (aB:W.S.sp id=none-> ∀w',Sat (AS E b h s r W::Z) w'->K none 0 0 0 0 false 0 0 0 false false 35 w')
  (aC: ∀x,W.S.sp id=some x->Sk x.2->Qn x.2 (U id) (M id)-> ∀w',Sat (AS E b h s r W::Z) w'->K (some ⟨x.1,0,none⟩) x.2.base x.2.AA x.2.state x.2.cls x.2.FY x.2.elem x.2.AM x.2.used x.2.f8 x.2.f9 0 w'):
  F.BP E (some ⟨b,0,none⟩) id K w:=by
 unfold F.BP T0.BP;refine AR (vs:=Jz) H λb1 w2 J _=>AF ⟨_,(J.front 1 rfl).M9.1,?_⟩;obtain⟨R,HH,_,hb⟩:=(J.front 1 rfl:Sat (AS E b h s r W::Cells b1 E.Bd Jz::Z) w2).Ho;refine PE HH (λhn=> ?_) λx hx=> ?_
 .refine AU rfl ?_;refine GM (news:=Jz) J rfl (by simp[Jz,Value.oneCell']) λw8 v=> ?_;exact⟨0,v.cell rfl,0,v.cell rfl,0,v.cell rfl,0,v.cell rfl,false,v.cell rfl,0,v.cell rfl,0,v.cell rfl,0,v.cell rfl,false,v.cell rfl,false,v.cell rfl,aB hn w8 v.tail⟩
 .obtain⟨A2,hg⟩:=hI.sp id x hx;obtain⟨R2,aD,aA⟩:=HH.Nu hx;refine AO rfl (IL aD λaF O=> ?_);have T:Sat (AS E b h s r W::Cells b1 E.Bd Jz::Z) aF:=hb (aA O);refine AR (vs:=Jz) T λaI aN Y _=> ?_;refine GM (news:=JV x.2) Y rfl (by simp[JV,Value.oneCell']) λaO y=>⟨x.2.state,y.cell rfl,?_⟩;rw[A2.st];refine AO rfl ?_;have d:=y.drew;refine⟨_,d.cell rfl,_,d.cell rfl,_,d.cell rfl,_,d.cell rfl,_,d.cell rfl,_,d.cell rfl,_,d.cell rfl,_,d.cell rfl,_,d.cell rfl,_,d.cell rfl,?_⟩;refine GM (news:=JV x.2) (d.front 2 rfl) rfl (by simp[JV,Value.oneCell']) λaG j=> ?_;exact⟨_,j.cell rfl,_,j.cell rfl,_,j.cell rfl,_,j.cell rfl,_,j.cell rfl,_,j.cell rfl,_,j.cell rfl,_,j.cell rfl,_,j.cell rfl,_,j.cell rfl,aC x hx A2 hg aG j.tail.tail⟩
end
def ZV{S:HS}{fl:Int->Bool}(hI:BN S fl){id:Int}{x:Nat×SI}(d:S.sp id=some x){p:Int}(h1:x.2.base/8192<=p)(h2:p<x.2.base/8192+x.2.AA):S.own p=id:=(hI.sp id x d).2.2.2.2 p h1 h2
def ZW{S:HS}{fl:Int->Bool}(hI:BN S fl){i j:Int}{x y:Nat×SI}(d:S.sp i=some x)(v:S.sp j=some y)(h:x.2.base=y.2.base):i=j:=by
 have h1:=(hI.sp i x d).2.2.1;have h2:=(hI.sp j y v).2.2.1;rw[<-ZV hI d (Int.le_refl _) (by omega),<-ZV hI v (p:=x.2.base/8192) (by omega) (by omega)]
section
variable{E:Env}{w:World}{Z:List Pr}{b h s r:Nat}{W:SW}{U M:Az}
def Ck.ofL(hI:Ck W U M){L:List DG}(d: ∀x∈L,∃y,W.S.sp x.id=some y/\y.2.base=x.base):Ck {W with L:=L} U M:=⟨hI.hI,hI.sp,d⟩
variable(hE:Mk E)
include hE
theorem PM(H:Sat (AS E b h s r W::Z) w)(hI:Ck W U M){id:Int}{sw:Bool}(hf:W.L.length<1099511627776){K:Int->World->Prop}
  (aE:W.S.sp id=none-> ∀w',Sat (AS E b h s r W::Z) w'->K 35 w')(aF:W.S.sp id≠none->(∃x∈W.L,x.id=id)-> ∀w',Sat (AS E b h s r W::Z) w'->K 34 w')
  (aG: ∀x,W.S.sp id=some x->(∀y∈W.L,y.id≠id)-> ∀Fz,Ck {W with L:=IM W.L ⟨Fz,id,x.2.base,(x.2.cls,x.2.FY,x.2.used==x.2.AM,sw)⟩} U M-> ∀w',
   Sat (AS E b h s r {W with L:=IM W.L ⟨Fz,id,x.2.base,(x.2.cls,x.2.FY,x.2.used==x.2.AM,sw)⟩}::Z) w'->K 0 w'):F.BC E (some ⟨b,0,none⟩) id sw K w:=by
 unfold F.BC T0.BC;refine PL H hI (λhn w' H'=> ?_) λx hx A2 hg w' H'=> ?_
 .refine AR (vs:=Jz) H' λaC aL J _=> ?_;refine GM (news:=Jz) J rfl (by simp[Jz,Value.oneCell']) λaA O=>AU rfl (aE hn aA O.tail)
 .refine AR (vs:=Jz) H' λaC aL J _=> ?_;refine GM (news:=JV x.2) J rfl (by simp[JV,Value.oneCell']) λaA O=>AO rfl (AF ?_);have d:=O.drew;have T:=d.front 1 rfl;refine⟨_,T.M9.2.1,_,d.Ah rfl,_,d.cell rfl,_,d.cell rfl,_,d.cell rfl,_,d.cell rfl,?_⟩;obtain⟨R,HH,hz,hb⟩:=T.PK;have aN:=(hI.hI.sp id x hx).1;have hc:=A2.cls;refine dG hE HH hf (λhb=> ?_) (λ_ hex=> ?_) λ_ aH Fz aM Y=> ?_
  .unfold M7 at hb;omega
  .refine⟨d.cell rfl,d.cell rfl,aF (by grind) ?_ _ d.tail⟩;obtain⟨y,j,e⟩:=hex;refine⟨y,j,?_⟩;rcases e with e|e
   .exact e
   .obtain⟨z,aJ,aK⟩:=hI.it y j;exact ZW hI.hI aJ hx (by rw[aK,e])
  .have v:=hz Y.tail;refine⟨v.cell rfl,v.cell rfl,aG x hx (λy j=>(aH y j).1) Fz (hI.ofL λy j=> ?_) aM ?_⟩
   .rcases LH.1 j with rfl|j
    .grind
    .exact hI.it y j
   .exact((hb Y).front 1 rfl).tail
end
section
variable{E:Env}{w:World}{Z:List Pr}{b h s r:Nat}{W:SW}{U M:Az}(hE:Mk E)
include hE
theorem N1(H:Sat (AS E b h s r W::Z) w)(hI:Ck W U M){K:Int->Bool->World->Prop}(O:(∀x∈W.L,x.FZ=true)-> ∀w',Sat (AS E b h s r W::Z) w'->K 0 false w')
  (T: ∀x,Lv W.L x->Ck {W with L:=GZ W.L x.id} U M-> ∀w',Sat (AS E b h s r {W with L:=GZ W.L x.id}::Z) w'->K x.id true w'):F.B7 E (some ⟨b,0,none⟩) K w:=by
 unfold F.B7 T0.B7;refine AF ⟨_,H.M9.2.1,?_⟩;obtain⟨R,HH,hz,hb⟩:=H.PK;refine XD HH (λd w5 j=>AO rfl (O d w5 (hb j))) λx hx w5 j=>AU rfl ?_;have H6:=hb j;refine AF ⟨_,H6.M9.2.1,?_⟩;obtain⟨R2,v,aH,J⟩:=H6.PK;refine dI hE v (λY=>absurd rfl (Y x hx.1)) λy hy e w9 H9=> ?_;exact T x hx (hI.ofL λy hy=>hI.it y (Fh.1 hy).1) w9 (J H9)
end
structure Ob(S S':HS):Prop where
 rest:S'={S with sp:=S'.sp}
 no: ∀id,S.sp id=none->S'.sp id=none
 sp: ∀id x,S.sp id=some x-> ∃mw,S'.sp id=some (x.1,{x.2 with mw:=mw})
def Ob.refl(S:HS):Ob S S:=⟨rfl,λ_ h=>h,λid x h=>⟨x.2.mw,h⟩⟩
def Ob.put{S S':HS}(h:Ob S S'){id:Int}{x:Nat×SI}(d:S'.sp id=some x)(mw:List Int):Ob S (S'.put id (x.1,{x.2 with mw:=mw})):=by
 refine⟨?_,λi v=> ?_,λi y J=> ?_⟩
 .have:=h.rest;unfold HS.put;rw[this]
 .show(if i=id then _ else S'.sp i)=none;by_cases e:i=id
  .subst e;rw[h.no i v]at d;cases d
  .rw[if_neg e];exact h.no i v
 .obtain⟨j,h0⟩:=h.sp i y J;by_cases e:i=id
  .subst e;rw[d]at h0;have h0:=Option.some.inj h0;subst h0;exact⟨mw,HS.Il⟩
  .exact⟨j,(HS.Lt e).trans h0⟩
def Ob.own{S S':HS}(h:Ob S S'):S'.own=S.own:=by rw[h.rest]
def mkOf(S:HS)(a:Int):Option (Int×Nat):=match S.sp (S.own (a/8192))with
 | none=>none
 | some x=>if x.2.base<=a/\a<x.2.base+x.2.AM*x.2.elem then some (S.own (a/8192),((a-x.2.base)/x.2.elem).toNat)else none
def XG{S S':HS}(h:Ob S S')(a:Int):mkOf S' a=mkOf S a:=by
 unfold mkOf;rw[h.own];cases e:S.sp (S.own (a/8192))with
 | none=>rw[h.no _ e]
 | some x=>
  obtain⟨mw,h1⟩:=h.sp _ x e;rw[h1]
def Az.mark(M:Az)(S:HS)(as_:List Int):Az:=λid k=>M id k||as_.any λa=>decide (mkOf S a=some (id,k))
def Ck.mark{W:SW}{U M:Az}(hI:Ck W U M){id:Int}{x:Nat×SI}(J:W.S.sp id=some x){n:Nat}{mw:List Int}(O:Qn {x.2 with mw:=mw} (U id) (λi=>M id i||i==n)):
  Ck {W with S:=W.S.put id (x.1,{x.2 with mw:=mw})} U (λj i=>M j i||(decide (j=id)&&i==n)):=by
 obtain⟨A2,_⟩:=hI.sp id x J;refine⟨hI.hI.put J rfl rfl (by show x.2.state≠0;rw[A2.st];decide),λj y d=> ?_,λit v=> ?_⟩
 .by_cases e:j=id
  .subst e;have d:(W.S.put j (x.1,{x.2 with mw:=mw})).sp j=some y:=d;rw[HS.Il]at d;cases d;refine⟨A2.KV rfl rfl rfl rfl rfl rfl rfl,?_⟩;have:(λi=>M j i||(decide (j=j)&&i==n))=λi=>M j i||i==n:=by grind
   grind
  .have d:(W.S.put id (x.1,{x.2 with mw:=mw})).sp j=some y:=d;rw[HS.Lt e]at d;have:=hI.sp j y d;have K:(λi=>M j i||(decide (j=id)&&i==n))=M j:=by funext i;simp[e]
   grind
 .obtain⟨y,h1,h2⟩:=hI.it it v;by_cases e:it.id=id
  .rw[e,J]at h1;cases h1;exact⟨(x.1,{x.2 with mw:=mw}),by rw[e];exact HS.Il,h2⟩
  .exact⟨y,(HS.Lt e).trans h1,h2⟩
section
variable{E:Env}{w:World}{Z:List Pr}{b h s r:Nat}{W:SW}{U M:Az}(hE:Mk E)
include hE
theorem Rx(H:Sat (AS E b h s r W::Z) w)(hI:Ck W U M){a1:Aa}{as_:List Int}(hA: ∀w',Sat Z w'->rowAt w' a1.base a1.len (ints .u64 as_))(hl:as_.length=a1.len)(bP:a1.len<=1099511627776)(has: ∀a∈as_,0<=a/\a<18446744073709551616)
  {K:Int->World->Prop}(a0:0<Km W.L false-> ∀w',Sat (AS E b h s r W::Z) w'->K 33 w')
  (aZ:(∀x∈W.L,x.FZ=true)-> ∀S',Ob W.S S'->Ck {W with S:=S',L:=Gh W.L} U (M.mark W.S as_)-> ∀w',Sat (AS E b h s r {W with S:=S',L:=Gh W.L}::Z) w'->K 0 w'):
  F.Cc E (some ⟨b,0,none⟩) a1 K w:=by
 unfold F.Cc T0.Cc;refine AF ⟨_,H.M9.2.1,?_⟩;obtain⟨R,HH,hz,hb⟩:=H.PK;refine Mm HH λw4 H4=>AB (λg=>a0 (by omega) w4 (hb H4)) λg=> ?_;have H5:=hb H4;have e0:M.mark W.S (as_.take 0)=M:=by funext i k;simp[Az.mark]
 refine AH (λst w'=> ∃(i:Nat) (S':HS),st.1=(i:Int)/\i<=as_.length/\Ob W.S S'/\Ck {W with S:=S'} U (M.mark W.S (as_.take i))/\Sat (AS E b h s r {W with S:=S'}::Z) w') (λst _=>((as_.length:Int)-st.1).toNat) ⟨0,W.S,rfl,Nat.zero_le _,Ob.refl _,by rw[e0];exact hI,H5⟩ ?_;rintro⟨i',u⟩ _ w6 ⟨i,S',hi,bO,d,v,H6⟩;dsimp only at hi⊢;subst hi;refine AB (λbQ=> ?_) λbN=> ?_
 .obtain⟨a,ha⟩: ∃a,as_[i]? =some a:=⟨_,List.getElem?_eq_getElem (by omega)⟩;have aB:=has a (List.mem_of_getElem? ha);obtain⟨q,hq,a4⟩: ∃q,a1.base=some q/\w6.cell? (q.add (Int.toNat (i:Int)*1))=some (.int .u64 a):=by
   have hr:=hA w6 H6.tail;cases hb1:a1.base with
   | none=>rw[hb1]at hr;have:ints .u64 as_=[]:=hr;simp[ints]at this;grind
   | some q=>rw[hb1]at hr;exact⟨q,rfl,by rw[Int.toNat_natCast,Nat.mul_one];exact hr.2 i _ (IF ha)⟩
  rw[hq];refine AF ⟨⟨by omega,by omega⟩,a,a4,AF ⟨_,H6.M9.1,?_⟩⟩;have aX:i64 ((i:Int)+1)=((i+1:Nat):Int):=by rw[AE];rfl
  rw[aX];have aT:as_.take (i+1)=as_.take i++[a]:=E8 ha;obtain⟨R2,Y,a7,aA⟩:=H6.Ho;have skip:mkOf W.S a=none-> ∀w',Sat (AS E b h s r {W with S:=S'}::Z) w'->((∃(aC:Nat) (S':HS),((i+1:Nat):Int)=(aC:Int)/\aC<=as_.length/\Ob W.S S'/\Ck {W with S:=S'} U (M.mark W.S (as_.take aC))/\Sat (AS E b h s r {W with S:=S'}::Z) w')/\((as_.length:Int)-((i+1:Nat):Int)).toNat<((as_.length:Int)-(i:Int)).toNat):=λhn w' H'=>by
   refine⟨⟨i+1,S',rfl,by omega,d,?_,H'⟩,by omega⟩;have:M.mark W.S (as_.take (i+1))=M.mark W.S (as_.take i):=by
    funext j k;unfold Az.mark
    grind
   grind
  refine oS Y aB.1 aB.2 λbU aM=> ?_;refine PL (aA aM) v (λhn w' H'=> ?_) λx J A2 hg w' H'=> ?_
  .refine AR (vs:=Jz) H' λaS a8 O _=> ?_;refine GM (news:=Jz) O rfl (by simp[Jz,Value.oneCell']) λaJ T=>AU rfl ?_;refine skip ?_ aJ T.tail;rw[<-XG d];unfold mkOf
   grind
  .have J:S'.sp (S'.own (a/8192))=some x:=J;refine AR (vs:=Jz) H' λaS a8 O _=> ?_;refine GM (news:=JV x.2) O rfl (by simp[JV,Value.oneCell']) λaJ T=>AO rfl ?_;obtain⟨R3,aQ,bT,aV⟩:=T.tail.Ho;obtain⟨R4,a5,aF⟩:=aQ.gN J;have aI:=A2.size;have bE:=A2.ba;have bR:=A2.pg;have aL: ∀{S:HS} {id:Int} {y:Nat×SI},S.sp id=some y->S.put id y=S:=λ{S id y} hy=>by
    unfold HS.put;have:(λi=>if i=id then some y else S.sp i)=S.sp:=by grind
    rw[this]
   refine VL a5 A2.gP aI.1 (by omega) (by omega) (by omega) aB (λbD w' Hs=> ?_) λh1 h2 w' Hs=> ?_
   .refine AO rfl (skip ?_ w' ?_)
    .rw[<-XG d];unfold mkOf
     grind
    .have:=aF Hs
     grind
   .have a3:0<=(a-x.2.base)/x.2.elem:=Int.ediv_nonneg (by omega) (by omega);have aH:(a-x.2.base)/x.2.elem<x.2.AM:=Int.ediv_lt_of_lt_mul aI.1 (by omega);obtain⟨n,hn⟩:=Int.eq_ofNat_of_zero_le a3;refine AU rfl ?_;rw[hn]at aH⊢;refine Rv Hs hg A2.st aH λmw' aW bV aN=> ?_;have aO:=aV (aF aN);refine⟨⟨i+1,S'.put (S'.own (a/8192)) (x.1,{x.2 with mw:=mw'}),rfl,by omega,d.put J mw',?_,aO⟩,by omega⟩;have hIn:=v.mark (W:={W with S:=S'}) J aW;have em:M.mark W.S (as_.take (i+1))=λj k=>M.mark W.S (as_.take i) j k||(decide (j=S'.own (a/8192))&&k==n):=by
     funext j k;unfold Az.mark;rw[aT,List.any_append,<-Bool.or_assoc];congr 1;simp only[List.any_cons,List.any_nil,Bool.or_false];have:mkOf W.S a=some (S'.own (a/8192),n):=by
      rw[<-XG d];unfold mkOf;rw[J]
      grind
     grind
    grind
 .have aY:i=as_.length:=by omega
  refine AF ⟨_,H6.M9.2.1,?_⟩;obtain⟨R2,Y,a7,aA⟩:=H6.PK;refine ZP Y (λaG=>absurd aG (by grind)) λa6 a9 aP=> ?_;rw[aY,List.take_length]at v;refine aZ a6 S' d (v.ofL λx J=> ?_) a9 (aA aP);obtain⟨y,hy,rfl⟩:=List.mem_map.1 J;exact v.it y hy
end
structure aL where
 R:List Rc
 m:Nat->Bool
 em:List Rc
def Ju(a:Int)(y:Rc):Bool:=y.addr==a&&y.kind==1
def kQ(R:List Rc)(a:Int):List Rc:=R.filter λy=> !Ju a y
def spStep(u:Nat->Bool)(base elem:Int)(k:Nat)(t:aL):aL:=
 if u k=true/\t.m k=false then
  match t.R.find? (Ju (base+k*elem))with
  | some y=>⟨kQ t.R (base+k*elem),λi=>t.m i||i==k,t.em++[⟨0,base+k*elem,1,y.data⟩]⟩
  | none=>⟨Oa t.R (base+k*elem),t.m,t.em++PJ t.R (base+k*elem)⟩
 else t
def spRun(u:Nat->Bool)(base elem:Int):Nat->aL->aL
 | 0,t=>t
 | n+1,t=>spStep u base elem n (spRun u base elem n t)
def ZX{u:Nat->Bool}{base elem:Int}{k:Nat}{t:aL}(h: ∀y∈t.R,y.addr≠base+k*elem):spStep u base elem k t=t:=by
 unfold spStep;split
 .have h1:t.R.find? (Ju (base+k*elem))=none:=by
   rw[List.find?_eq_none];intro y d;unfold Ju
   grind
  have h2:Oa t.R (base+k*elem)=t.R:=List.filter_eq_self.2 λy d=>by grind
  have j:PJ t.R (base+k*elem)=[]:=List.filter_eq_nil_iff.2 λy d=>by grind
  rw[h1];simp only;rw[h2,j,List.append_nil]
 .rfl
def Uf{u:Nat->Bool}{base elem:Int}{t:aL}: ∀{n:Nat},(∀k,k<n-> ∀y∈t.R,y.addr≠base+(k:Int)*elem)->spRun u base elem n t=t
 | 0,_=>rfl
 | n+1,h=>by
  show spStep u base elem n (spRun u base elem n t)=t;rw[Uf λk hk=>h k (by omega),ZX (h n (by omega))]
def rcF{A B:List Rc}{y:Rc}{a:Int}(hI:Lk (A++y::B))(h1:y.addr=a)(h2:y.kind=1):(A++y::B).find? (Ju a)=some y/\kQ (A++y::B) a=A++B:=by
 have hs:=List.pairwise_append.1 hI.HT;have K:Ju a y=true:=by unfold Ju;grind
 have j: ∀x,x.key≠y.key->Ju a x=false:=λx d=>by
  cases e:Ju a x with
  | false=>rfl
  | true=>
   unfold Ju at e;rw[Bool.and_eq_true,beq_iff_eq,beq_iff_eq]at e;exact absurd (by unfold Rc.key;omega) d
 have v: ∀x∈A,Ju a x=false:=λx d=>j x (by have:=hs.2.2 x d y (by simp);omega);have J: ∀x∈B,Ju a x=false:=λx d=>j x (by have:=(List.pairwise_cons.1 hs.2.1).1 x d;omega);constructor
 .grind
 .unfold kQ;rw[List.filter_append,List.filter_cons_of_neg (by grind),List.filter_eq_self.2 λx d=>by grind,List.filter_eq_self.2 λx d=>by grind]
def rcN{R:List Rc}{a:Int}(h: ∀x∈R,¬(x.addr=a/\x.kind=1)):R.find? (Ju a)=none:=by
 rw[List.find?_eq_none];intro x d e;unfold Ju at e
 grind
def dO(R:List Rc)(a:Int):(PJ R a).length+(Oa R a).length=R.length:=by
 unfold PJ Oa
 induction R with
 | nil=>rfl
 | cons y R ih=>grind
def uK{R:List Rc}{a:Int}{y:Rc}(h:R.find? (Ju a)=some y):(kQ R a).length+1<=R.length:=by
 have h1:=List.find?_some h;have h2:=List.mem_of_find?_eq_some h;unfold kQ;have:(R.filter λy=> !Ju a y).length<R.length:=by
  refine Nat.lt_of_le_of_ne (List.length_filter_le _ _) λe=> ?_;have:=List.length_filter_eq_length_iff.1 e y h2
  grind
 omega
def dP{u:Nat->Bool}{base elem:Int}{k:Nat}{t:aL}:(spStep u base elem k t).em.length+(spStep u base elem k t).R.length<=t.em.length+t.R.length:=by
 unfold spStep;split
 .cases h:t.R.find? (Ju (base+k*elem))with
  | some y=>have:=uK h;grind
  | none=>have:=dO t.R (base+k*elem);grind
 omega
def OS{u:Nat->Bool}{base elem:Int}{t:aL}: ∀n,(spRun u base elem n t).em.length+(spRun u base elem n t).R.length<=t.em.length+t.R.length
 | 0=>Nat.le_refl _
 | n+1=>Nat.le_trans dP (OS n)
def pQ{u:Nat->Bool}{base elem:Int}{k:Nat}{t:aL}(h: ∀i,t.m i=true->u i=true): ∀i,(spStep u base elem k t).m i=true->u i=true:=by
 unfold spStep
 grind
def XH{u:Nat->Bool}{base elem:Int}{t:aL}(h: ∀i,t.m i=true->u i=true): ∀n i,(spRun u base elem n t).m i=true->u i=true
 | 0=>h
 | n+1=>pQ (XH h n)
def HS.Qa(S:HS)(id:Int)(a c:Nat×SI):(S.put id a).put id c=S.put id c:=by
 unfold HS.put
 grind
def HS.Qb{S:HS}{id:Int}{x:Nat×SI}(d:S.sp id=some x):S.put id x=S:=by
 unfold HS.put;have:(λi=>if i=id then some x else S.sp i)=S.sp:=by grind
 rw[this]
section
variable{E:Env}{w:World}{Z:List Pr}{b h s r:Nat}{W:SW}{U M:Az}
def Ck.rc(hI:Ck W U M)(R:List Rc)(em:List Rc)(f d p c:Int):Ck {W with R:=R,em:=em,M8:=f,En:=d,Bq:=p,Ny:=c} U M:=⟨hI.hI,hI.sp,hI.it⟩
def ZY{F:List Pr}{t z bytes:Nat}{zs:Array Value}{s1 s2:Aa}{vs us:List Value}{K:Aa->World->Prop}(H:Sat (Row t z s1 vs::Row t z s2 us::F) w)(hz:zs.size=z)(O: ∀v∈us,v.oneCell'=true)
  (J:(s1.len+s2.len)*bytes<=140737488355328)(d:s1.len+s2.len<=9223372036854775807)(y: ∀s' w',Sat (Row t z s' (vs++us)::Row t z s2 us::F) w'->K s' w'):APP t z bytes zs s1 s2 w K:=
 Ep H hz (H.front 1 rfl).Kj (H.front 1 rfl).Du O J d λs' w' j _=>y s' w' j
def Sl(H:Sat (AS E b h s r W::Z) w)(hI:Ck W U M){id:Int}{x:Nat×SI}(hx:W.S.sp id=some x)(cW:W.em.length+W.R.length<=1099511627776){K:World->Prop}{Kp:Value->World->Prop}
  (b6:(∃i,M id i=true/\U id i=false)-> ∀w',Sat (AS E b h s r W::Z) w'->Kp (.iface E.Gp (.agg ⟨[]⟩)) w')
  (hk:(∀i,M id i=true->U id i=true)-> ∀t,t=spRun (U id) x.2.base x.2.elem x.2.AM.toNat ⟨W.R,M id,W.em⟩-> ∀mw,Ck {W with S:=W.S.put id (x.1,{x.2 with mw:=mw}),R:=t.R,em:=t.em} U (M.set id t.m)->
   ∀w',Sat (AS E b h s r {W with S:=W.S.put id (x.1,{x.2 with mw:=mw}),R:=t.R,em:=t.em}::Z) w'->K w'):
  F.BD E (some ⟨b,0,none⟩) (some ⟨x.1,0,none⟩) x.2.base x.2.AA x.2.state x.2.cls x.2.FY x.2.elem x.2.AM x.2.used x.2.f8 x.2.f9 K Kp w:=by
 unfold F.BD T0.BD;obtain⟨A2,hg⟩:=hI.sp id x hx;have cB:=A2.size;have cV:=A2.ba;have c7:=A2.pg;have d:W.S.put id (x.1,{x.2 with mw:=x.2.mw})=W.S:=HS.Qb hx;have aU:M.set id (M id)=M:=by funext i;unfold Az.set;split;rename_i e;rw[e];rfl
 refine AR (vs:=JV x.2) H λb1 w2 H2 _=> ?_;obtain⟨R2,bJ,c9,bR⟩:=(H2.front 1 rfl:Sat (AS E b h s r W::Cells b1 E.Bd (JV x.2)::Z) w2).Ho;obtain⟨R3,aN,bS⟩:=bJ.Nu hx;have O: ∀{w'},Sat (C9 E x.1 x.2::R3) w'->Sat (AS E b h s r W::Cells b1 E.Bd (JV x.2)::Z) w':=λh'=>bR (bS h');refine Oq aN hg (λhz=>AU rfl (b6 hz w2 ((O aN).front 1 rfl).tail)) λb9=>AO rfl (AF ?_);have H4:=(O aN).drew;have c4:=H4.front 1 rfl;refine⟨_,H4.M9.2.2,_,c4.Ah rfl,_,c4.Ah rfl,_,c4.cell rfl,?_⟩;rw[AK (n:=x.2.AA),AK (n:=x.2.AA*8192),AK (n:=x.2.base+x.2.AA*8192)];obtain⟨Q,bL,dB,bU⟩:=H4.Ue;refine Sj bL λEB l a1 cG aX a5=> ?_;have aF:=bU a5.tail;have aK:=aF.front 1 rfl;refine⟨aK.cell rfl,aK.Ah rfl,BF (λe0=> ?_) λe0=>⟨x.2.AM,aK.cell rfl,?_⟩⟩
 .-- no record
  have aV:=aX.1 (by omega);have aE:spRun (U id) x.2.base x.2.elem x.2.AM.toNat ⟨W.R,M id,W.em⟩=⟨W.R,M id,W.em⟩:=Uf λk hk y hy e=>aV y hy (by
   have h1:0<=(k:Int)*x.2.elem:=Int.mul_nonneg (by omega) (by omega);have h2:((k:Int)+1)*x.2.elem<=x.2.AM*x.2.elem:=Int.mul_le_mul_of_nonneg_right (by omega) (by omega)
   grind)
  refine hk b9 _ rfl x.2.mw ?_ a1 ?_
  .rw[aE,d,aU];exact hI
  .rw[aE,d];exact(aF.front 1 rfl).tail
 .-- slot for slot
  let tk:Nat->aL:=λk=>spRun (U id) x.2.base x.2.elem k ⟨W.R,M id,W.em⟩
  let Wk:Nat->List Int->SW:=λk mw=>{W with S:=W.S.put id (x.1,{x.2 with mw:=mw}),R:=(tk k).R,em:=(tk k).em}
  refine AH (λst w'=> ∃(k:Nat) (mw:List Int),st.1=(k:Int)/\k<=x.2.AM.toNat/\Ck (Wk k mw) U (M.set id (tk k).m)/\Sat (AS E b h s r (Wk k mw)::Z) w') (λst _=>(x.2.AM-st.1).toNat) ⟨0,x.2.mw,rfl,Nat.zero_le _,?_,?_⟩ ?_
  .show Ck {W with S:=W.S.put id (x.1,{x.2 with mw:=x.2.mw}),R:=W.R,em:=W.em} U (M.set id (M id));rw[d,aU];exact hI
  .show Sat (AS E b h s r {W with S:=W.S.put id (x.1,{x.2 with mw:=x.2.mw}),R:=W.R,em:=W.em}::Z) a1;rw[d];exact(aF.front 1 rfl).tail
  rintro⟨k',u⟩ _ dE ⟨k,mw,aY,c0,aB,aG⟩;dsimp only at aY⊢;subst aY;refine AB (λc2=> ?_) λcY=> ?_
  .have b5:i64 ((k:Int)+1)=((k+1:Nat):Int):=by rw[AE];rfl
   rw[b5];have aD:(Wk k mw).S.sp id=some (x.1,{x.2 with mw:=mw}):=HS.Il;obtain⟨a0,aC⟩:=aB.sp id _ aD;have aT:(M.set id (tk k).m) id=(tk k).m:=if_pos rfl;rw[aT]at aC;have T:=OS (u:=U id) (base:=x.2.base) (elem:=x.2.elem) (t:=⟨W.R,M id,W.em⟩) k;have T:(tk k).em.length+(tk k).R.length<=W.em.length+W.R.length:=T;have aP: ∀{t':aL} {mw':List Int} {w'},spStep (U id) x.2.base x.2.elem k (tk k)=t'->Ck {W with S:=W.S.put id (x.1,{x.2 with mw:=mw'}),R:=t'.R,em:=t'.em} U (M.set id t'.m)->Sat (AS E b h s r {W with S:=W.S.put id (x.1,{x.2 with mw:=mw'}),R:=t'.R,em:=t'.em}::Z) w'->
     (∃(Y:Nat) (mw:List Int),((k+1:Nat):Int)=(Y:Int)/\Y<=x.2.AM.toNat/\Ck (Wk Y mw) U (M.set id (tk Y).m)/\Sat (AS E b h s r (Wk Y mw)::Z) w')/\(x.2.AM-((k+1:Nat):Int)).toNat<(x.2.AM-(k:Int)).toNat:=λ{t' mw' w'} ht hIn hS=>by
    refine⟨⟨k+1,mw',rfl,by omega,?_,?_⟩,by omega⟩
    .have:tk (k+1)=t':=ht
     grind
    .have:tk (k+1)=t':=ht
     grind
   have same: ∀{w'},¬(U id k=true/\(tk k).m k=false)->Sat (AS E b h s r (Wk k mw)::Z) w'->_:=λ{w'} aM hS=>aP (t':=tk k) (mw':=mw) (w':=w') (by unfold spStep;rw[if_neg aM]) aB hS;obtain⟨R4,bK,dA,bT⟩:=aG.Ho;obtain⟨R5,aO,aW⟩:=bK.Nu aD;refine ZG aO aC (by omega) ?_;cases hu:U id k with
   | false=>exact AU rfl (same (by grind) aG)
   | true=>
   refine AO rfl (VK aO aC (by omega) ?_);cases hm:(tk k).m k with
   | true=>exact AU rfl (same (by grind) aG)
   | false=>
   have bY:U id k=true/\(tk k).m k=false:=⟨hu,hm⟩;refine AO rfl (Yx aO (by omega) (by omega) λcD a6=> ?_);have aH:Sat (AS E b h s r (Wk k mw)::Z) cD:=bT (aW a6);have c3:0<=(k:Int)*x.2.elem:=Int.mul_nonneg (by omega) (by omega);have c5:((k:Int)+1)*x.2.elem<=x.2.AM*x.2.elem:=Int.mul_le_mul_of_nonneg_right (by omega) (by omega);have c6:((k:Int)+1)*x.2.elem=k*x.2.elem+x.2.elem:=by grind
   have b8:=cB.2.2.2.2;rw[Int.mul_comm x.2.elem]at b8;have ea:u64 (x.2.base+u64 (u64 (k:Int)*u64 x.2.elem))=x.2.base+k*x.2.elem:=by
    rw[AK (n:=(k:Int)),AK (n:=x.2.elem),AK (n:=(k:Int)*x.2.elem),AK]
   have bO:u64 (({x.2 with mw:=mw}:SI).base+u64 (u64 (k:Int)*u64 ({x.2 with mw:=mw}:SI).elem))=x.2.base+k*x.2.elem:=ea;rw[bO];generalize hA:x.2.base+(k:Int)*x.2.elem=A at *
   refine AF ⟨_,aH.M9.2.2,?_⟩;obtain⟨Q6,aS,dC,bV⟩:=aH.Ue;refine ZU aS (by decide) (λaM=> ?_) λA1 B1 y hR ey ek cE a7=> ?_
   .-- no finalizer
    refine AO rfl ?_;have aI:=aH.drew;obtain⟨em,J⟩:=Sat.Ii.1 aI;have aA:=Lw J;refine AF ⟨em,aA.2.2.2.1,AF ⟨_,aA.2.2.1,?_⟩⟩;have b3:(tk k).R.find? (Ju A)=none:=rcN aM;refine XF (J.front 3 rfl) λbI a3 aZ bF=> ?_;have bG:Sat ((MI E b h s r (Wk k mw) em++Row E.AI 3 bI (Al HU (PJ (tk k).R A))::Z).set 3 (IN E r (Oa (tk k).R A))) a3:=by
     have h1:=bF.front 1 rfl;exact Sat.back (Ps:=MI E b h s r (Wk k mw) em++Row E.AI 3 bI (Al HU (PJ (tk k).R A))::Z) 3 (h1.perm (by
      refine .cons _ ?_;exact(List.perm_middle (l₁:=[_,_,_,_]) (l₂:=Z)).symm)) (by simp[MI])
    have aJ:Sat (Row E.AI 3 em (Al HU (tk k).em)::Row E.AI 3 bI (Al HU (PJ (tk k).R A))::Cells b E.Di (IB h s r em (Wk k mw))::BQ E h (Wk k mw).S::Hi E s W.L::IN E r (Oa (tk k).R A)::Z) a3:=(bG.front 5 rfl).front 5 rfl;have b7:(tk k).em.length=em.len:=(aJ.Gv (by decide) Dy).1;have c1:bI.len=(PJ (tk k).R A).length:=aZ;have cH:=dO (tk k).R A;refine⟨(aJ.front 2 rfl).cell rfl,?_⟩;refine ZY (bytes:=24) aJ rfl (GA Ic _) (by omega) (by omega) λrE dI bH=>AF ?_;refine AZ (bH.front 2 rfl) (o:=0) (m:=3) (v:=Fo rE) rfl (by simp[IB]) λcF aR=> ?_;have et:spStep (U id) x.2.base x.2.elem k (tk k)=⟨Oa (tk k).R A,(tk k).m,(tk k).em++PJ (tk k).R A⟩:=by
     unfold spStep
     grind
    refine aP (mw':=mw) et ?_ ?_
    .exact aB.rc (Oa (tk k).R A) ((tk k).em++PJ (tk k).R A) W.M8 W.En W.Bq W.Ny
    .refine Sat.Ii.2 ⟨rE,?_⟩;rw[<-FN]at aR;have h1:Sat (Row E.AI 3 rE (Al HU ((tk k).em++PJ (tk k).R A))::Cells b E.Di (IB h s r rE (Wk k mw))::BQ E h (Wk k mw).S::Hi E s W.L::IN E r (Oa (tk k).R A)::Z) cF:=by
      have h0:=(aR.front 2 rfl).tail;exact h0.front 0 rfl|>.perm (.swap _ _ _)|>.perm (.swap _ _ _)|>.perm (.swap _ _ _)
     exact h1.perm (List.perm_middle (l₁:=[_,_,_,_]) (l₂:=Z)).symm
   .-- a finalizer
    have hR:(tk k).R=A1++y::B1:=hR;have bQ:Lk (tk k).R:=(Sat.spec.1 aS).1;obtain⟨bZ,b0⟩:=rcF (hR▸bQ) ey ek;rw[<-hR]at bZ b0;have aI:Sat (AS E b h s r {Wk k mw with R:=A1++B1}::Z) cE:=bV a7;obtain⟨em,J⟩:=Sat.Ii.1 aI;have aA:=Lw J;refine AU rfl (AF ⟨em,aA.2.2.2.1,?_⟩);refine AR (vs:=HU ⟨0,A,1,y.data⟩) J λcM dF a8 _=> ?_;have aQ:=a8.DR 4 rfl;have b7:(tk k).em.length=em.len:=((aQ.front 1 rfl).Gv (by decide) Dy).1;refine EX (news:=HU ⟨0,A,1,y.data⟩) (bytes:=24) aQ rfl rfl (Ic _) (by omega) (by omega) λYL dG a9 _=>AF ?_;refine AZ (a9.front 1 rfl) (o:=0) (m:=3) (v:=Fo YL) rfl (by simp[IB]) λa2 bA=> ?_;have er:Al HU (tk k).em++HU ⟨0,A,1,y.data⟩=Al HU ((tk k).em++[⟨0,A,1,y.data⟩]):=by rw[FN];simp[Al]
    have bB:Sat (Cells b E.Di (IB h s r YL (Wk k mw))::Row E.AI 3 YL (Al HU ((tk k).em++[⟨0,A,1,y.data⟩]))::BQ E h (Wk k mw).S::Hi E s W.L::IN E r (A1++B1)::Z) a2:=by rw[<-er];exact bA
    have bC:Sat (AS E b h s r {Wk k mw with R:=A1++B1,em:=(tk k).em++[⟨0,A,1,y.data⟩]}::Z) a2:=Sat.Ii.2 ⟨YL,bB.perm (.cons _ (List.perm_middle (l₁:=[_,_,_]) (l₂:=Z)).symm)⟩;obtain⟨R7,bM,dD,bW⟩:=bC.Ho;obtain⟨R8,cA,bX⟩:=bM.gN aD;refine Rv cA aC a0.st (by omega) λmw' b4 dH bE=> ?_;have cK:=bW (bX bE);have et:spStep (U id) x.2.base x.2.elem k (tk k)=⟨A1++B1,λi=>(tk k).m i||i==k,(tk k).em++[⟨0,A,1,y.data⟩]⟩:=by
     unfold spStep
     grind
    refine aP (mw':=mw') et ?_ ?_
    .have h1:=(aB.mark aD (n:=k) (mw:=mw') (by rw[aT];exact b4)).rc (A1++B1) ((tk k).em++[⟨0,A,1,y.data⟩]) W.M8 W.En W.Bq W.Ny;have e1:(λj i=>M.set id (tk k).m j i||(decide (j=id)&&i==k))=M.set id λi=>(tk k).m i||i==k:=by
      funext j i;unfold Az.set;by_cases e:j=id
      .simp[e]
      .simp[e]
     rw[e1]at h1;have e2:(Wk k mw).S.put id (x.1,{x.2 with mw:=mw'})=W.S.put id (x.1,{x.2 with mw:=mw'}):=HS.Qa _ _ _ _
     grind
    .have e2:(Wk k mw).S.put id (x.1,{x.2 with mw:=mw'})=W.S.put id (x.1,{x.2 with mw:=mw'}):=HS.Qa _ _ _ _
     grind
  .have cZ:k=x.2.AM.toNat:=by omega
   grind
end
section
variable{E:Env}{h:Nat}{S:HS}{Z:List Pr}{w:World}
def Sat.Ug(H:Sat (BQ E h S::Z) w){id:Int}{x:Nat×SI}(v:S.sp id=some x): ∃R:List Pr,Sat (C9 E x.1 x.2::R) w/\(∀{w'},Sat R w'->Sat Z w')/\ ∀{I:SI} {w'},Sat (C9 E x.1 I::R) w'->Sat (BQ E h (S.put id (x.1,I))::Z) w':=by
  obtain⟨g,hI,H⟩:=Sat.heap.1 H;have hm:id∈g.ids:=(hI.mem id).2 (by grind);obtain⟨i,d⟩:=List.mem_iff_getElem?.1 hm;have H1:=(H.front 6 rfl).GG d;have e:spR E S.sp id=C9 E x.1 x.2:=by unfold spR;rw[v]
  rw[e]at H1;refine⟨_,H1,λh=>h.tail.tail.tail.tail.tail.tail.tail.tail,λ{I w'} h'=>Sat.heap.2 ⟨g,⟨hI.nd,λj=> ?_⟩,?_⟩⟩
  . rw[hI.mem];show _↔(if j=id then some (x.1,I)else S.sp j)≠none
    grind
  . have y:spR E (S.put id (x.1,I)).sp id=C9 E x.1 I:=by unfold spR;rw[HS.Il]
    have J:Ad (spR E S.sp) (g.ids.eraseIdx i)=Ad (spR E (S.put id (x.1,I)).sp) (g.ids.eraseIdx i):=Ad.congr λj O=>by
      have:j≠id:=λe=>Nv hI.nd d (e▸O);unfold spR;rw[HS.Lt this]
    rw[<-y,J]at h';have h2:=Sat.HW h' d;have h3:=Sat.back (Ps:=Ct E h S g++Z) 6 h2 (by simp[Ct]);have K:EA S.sp=EA (S.put id (x.1,I)).sp:=by
      funext j;unfold EA;by_cases e:j=id
      . rw[e,HS.Il,v];rfl
      . rw[HS.Lt e]
    have Y:(Ct E h S g++Z).set 6 (Ad (spR E (S.put id (x.1,I)).sp) g.ids)=Ct E h (S.put id (x.1,I)) g++Z:=by
      show [Cells h E.Ae (B4 g S.hint S.AA),Cx E g.m S.V,Bi E g.t S.T,CK E g.a S.ks S.own,Gk E g.f S.fx,Dm g.sm .i64 (EA S.sp),_,_]++Z=_;rw[K];rfl
    grind
end
def Jv(x:SI)(uw:List Int)(u:Nat->Bool):SI:={x with uw:=uw,mw:=[],used:=(cN u x.AM.toNat:Nat),look:=0}
def ES:Nat->Bool:=λ_=>false
def RN(W:SW)(U M:Az)(id:Int)(Cv:Bool)(n:Nat)(gone:Bool)(W':SW)(U' M':Az):Prop:=
  ∃(x:Nat×SI) (t:aL) (uw:List Int),W.S.sp id=some x/\(∀i,M id i=true->U id i=true)/\t=spRun (U id) x.2.base x.2.elem x.2.AM.toNat ⟨W.R,M id,W.em⟩/\
    n=cN (λi=>U id i&& !t.m i) x.2.AM.toNat/\U'=U.set id (λi=>U id i&&t.m i)/\M'=M.set id ES/\
    ∃d:SW,d={W with S:=W.S.put id (x.1,Jv x.2 uw λi=>U id i&&t.m i),R:=t.R,em:=t.em,M8:=u64 (W.M8+n),En:=u64 (W.En+x.2.AA)}/\
    ((Cv=true/\((cN (λi=>U id i&&t.m i) x.2.AM.toNat:Nat):Int)<x.2.AM/\gone=false/\W'=d)∨
     (¬(Cv=true/\((cN (λi=>U id i&&t.m i) x.2.AM.toNat:Nat):Int)<x.2.AM)/\cN (λi=>U id i&&t.m i) x.2.AM.toNat=0/\gone=true/\ ∃a:Nat,id=(a:Int)+1/\W'={d with S:=d.S.free a (x.2.base/8192) x.2.AA})∨
     (¬(Cv=true/\((cN (λi=>U id i&&t.m i) x.2.AM.toNat:Nat):Int)<x.2.AM)/\cN (λi=>U id i&&t.m i) x.2.AM.toNat≠0/\gone=false/\ ∃Fz,W'={d with L:=IM W.L ⟨Fz,id,x.2.base,(x.2.cls,x.2.FY,((cN (λi=>U id i&&t.m i) x.2.AM.toNat:Nat):Int)==x.2.AM,true)⟩}))
section
variable{E:Env}{w:World}{Z:List Pr}{b h s r:Nat}{W:SW}{U M:Az}
def yT{a:Addr}{i:Nat}{w:World}{K:World->Prop}(h:K w):stCells a i [] w K:=h
def dQ{b1 d j:Nat}{K:World->Prop}(v:K w):F.Cm E (some ⟨b1,0,none⟩) (some ⟨d,0,none⟩) (some ⟨j,0,none⟩) .nilIface K w:=by
  unfold F.Cm;exact⟨rfl,AU rfl v⟩
def pR{b1 v y t1 t3 t5:Nat}{v1 v3 v5:Value}(H:Sat (Cells b1 t1 [v1]::Cells v t3 [v3]::Cells y t5 [v5]::Z) w){K:World->Prop}
    (Y: ∀w',Sat (Cells b1 t1 [.int .i64 0]::Cells v t3 [.bool false]::Cells y t5 [.int .i64 40]::Z) w'->K w'):F.Cm E (some ⟨b1,0,none⟩) (some ⟨v,0,none⟩) (some ⟨y,0,none⟩) (.iface E.Gp (.agg ⟨[]⟩)) K w:=by
  unfold F.Cm;refine⟨rfl,AO rfl ?_⟩;unfold TAS;simp only[Nat.beq_refl];have go: ∀K:lJ (.agg [])->Prop,K ()->unVT (.agg []) (.agg ⟨[]⟩) K:=λK h=>h;refine go _ ?_;refine AU rfl (AR (vs:=[]) H λb4 w5 O _=> ?_);refine yT (AF (CO (O.front 1 rfl) (o:=0) rfl (by simp) λw8 T=>AF (CO (T.front 2 rfl) (o:=0) rfl (by simp) λaC d=>AF (CO (d.front 3 rfl) (o:=0) rfl (by simp) λJ j=>Y J ?_))));exact(((j.front 3 rfl).tail).front 1 rfl).front 2 rfl
def Sat.skip{X P:Pr}{F:List Pr}(H:Sat (X::P::F) w):Sat (X::F) w:=(H.front 1 rfl).tail
def Az.set_set(U:Az)(id:Int)(u v:Nat->Bool):(U.set id u).set id v=U.set id v:=by
  funext i;unfold Az.set
  grind
def Az.N3(U:Az)(id:Int)(u:Nat->Bool):(U.set id u) id=u:=if_pos rfl
def Az.Kb(U:Az)(id:Int):U.set id (U id)=U:=by
  funext i;unfold Az.set;split
  . rename_i e;rw[e]
  . rfl
def Ck.yU{W:SW}{U M:Az}(hI:Ck W U M){id:Int}{x:Nat×SI}(J:W.S.sp id=some x){I:SI}{u m:Nat->Bool}(h1:I.base=x.2.base)(h2:I.AA=x.2.AA)(K:I.state=x.2.state)(Y:I.cls=x.2.cls)(h5:I.elem=x.2.elem)(h6:I.AM=x.2.AM)(h7:I.Lh=x.2.Lh)(hg:Qn I u m):
    Ck {W with S:=W.S.put id (x.1,I)} (U.set id u) (M.set id m):=by
  obtain⟨A2,_⟩:=hI.sp id x J;refine⟨hI.hI.put J h1 h2 (by rw[K,A2.st];decide),λj y d=> ?_,λit v=> ?_⟩
  . by_cases e:j=id
    . subst e;have d:(W.S.put j (x.1,I)).sp j=some y:=d;rw[HS.Il]at d;cases d;rw[Az.N3,Az.N3];exact⟨A2.KV h1 h2 K Y h5 h6 h7,hg⟩
    . have d:(W.S.put id (x.1,I)).sp j=some y:=d;rw[HS.Lt e]at d;have O:U.set id u j=U j:=if_neg e;have T:M.set id m j=M j:=if_neg e;rw[O,T];exact hI.sp j y d
  . obtain⟨y,g1,g2⟩:=hI.it it v;by_cases e:it.id=id
    . rw[e,J]at g1;cases g1;exact⟨(x.1,I),by rw[e];exact HS.Il,h1.trans g2⟩
    . exact⟨y,(HS.Lt e).trans g1,g2⟩
variable(hE:Mk E)
include hE
theorem PN(hT: ∀w',Sat Z w'->GL E.AN w')(H:Sat (AS E b h s r W::Z) w)(hI:Ck W U M){id:Int}{Cv:Bool}(hf:W.L.length<1099511627776)(b6:W.em.length+W.R.length<=1099511627776)(hL: ∀y∈W.L,y.id≠id)
    {K:Int->Bool->Int->World->Prop}(b8:W.S.sp id=none-> ∀w',Sat (AS E b h s r W::Z) w'->K 0 false 35 w')
    (b9: ∀x,W.S.sp id=some x->(∃i,M id i=true/\U id i=false)-> ∀w',Sat (AS E b h s r W::Z) w'->K 0 false 40 w')
    (hk: ∀n gone W' U' M',RN W U M id Cv n gone W' U' M'->Ck W' U' M'-> ∀w',Sat (AS E b h s r W'::Z) w'->K n gone 0 w'):
    F.B5 E (some ⟨b,0,none⟩) id Cv K w:=by
  unfold F.B5 T0.B5;refine AR (vs:=[.int .i64 0]) H λb1 w2 H2 _=>AR (vs:=[.bool false]) H2 λb3 w4 H4 _=>AR (vs:=[.int .i64 0]) H4 λb5 w6 H6 _=> ?_;have a4:Sat (AS E b h s r W::Cells b5 E.CP [.int .i64 0]::Cells b3 E.A9 [.bool false]::Cells b1 E.Bx [.int .i64 0]::Z) w6:=H6.front 3 rfl;refine PL a4 hI (λhn w' H'=> ?_) λx hx A2 hg w' H'=> ?_
  . refine AR (vs:=Jz) H' λaA cF aF _=> ?_;refine GM (news:=Jz) aF rfl (by simp[Jz,Value.oneCell']) λcG aG=> ?_;refine CO (aG.front 2 rfl) (o:=0) rfl (by simp) λcH J=>⟨35,J.Ah rfl,AU rfl ?_⟩;have aY:=J.drew;refine⟨35,aY.Ah rfl,CO (aY.front 4 rfl) (o:=0) rfl (by simp) λc5 aZ=>⟨(aZ.front 1 rfl).Ah rfl,CO (aZ.front 4 rfl) (o:=0) rfl (by simp) λc6 a0=>⟨(a0.front 2 rfl).Ah rfl,CO (a0.front 2 rfl) (o:=0) rfl (by simp) λcI aH=> ?_⟩⟩⟩;exact⟨0,(aH.front 2 rfl).Ah rfl,false,(aH.front 1 rfl).Ah rfl,35,aH.Ah rfl,b8 hn cI aH.tail.tail.tail.tail⟩
  . refine AR (vs:=Jz) H' λaA cF aF _=> ?_;refine GM (news:=JV x.2) aF rfl (by simp[JV,Value.oneCell']) λcG aG=> ?_;refine CO (aG.front 2 rfl) (o:=0) rfl (by simp) λcH J=>⟨0,J.Ah rfl,AO rfl ?_⟩;have d:=J.front 1 rfl;refine⟨_,d.cell rfl,_,d.cell rfl,_,d.cell rfl,_,d.cell rfl,_,d.cell rfl,_,d.cell rfl,_,d.cell rfl,_,d.cell rfl,_,d.cell rfl,_,d.cell rfl,?_⟩;have c2:=A2.size;refine Sl (J.front 2 rfl) hI hx b6 (λhz cJ aI=> ?_) λbH t ht mw hIn cJ aI=> ?_
    . refine pR (((aI.front 1 rfl).front 3 rfl).front 4 rfl) λcO aN=> ?_;exact⟨0,aN.Ah rfl,false,(aN.front 1 rfl).Ah rfl,40,(aN.front 2 rfl).Ah rfl,b9 x hx hz cO aN.tail.tail.tail.skip⟩
    . have cB: ∀i,t.m i=true->U id i=true:=by rw[ht];exact XH bH _
      obtain⟨R1,a7,cD,bC⟩:=aI.Ho;have aX:(W.S.put id (x.1,{x.2 with mw:=mw})).sp id=some (x.1,{x.2 with mw:=mw}):=HS.Il;obtain⟨bI,bE⟩:=hIn.sp id _ aX;rw[Az.N3]at bE;obtain⟨R2,bK,cE,bD⟩:=a7.Ug aX;refine W8 (λw' h'=>hT w' (cD (cE h')).tail.tail.tail.tail) bK bE bI.st (λ⟨i,h1,h2⟩=>absurd (cB i h1) (by grind)) λ_ uw s43 bF O c7 a1=> ?_;have aR:=bC (bD a1.tail);have bL:UZ {x.2 with mw:=mw} uw (U id) t.m=Jv x.2 uw λi=>U id i&&t.m i:=rfl;rw[bL,HS.Qa]at aR;rw[bL]at bF;have bB:=hIn.yU aX (I:=Jv x.2 uw λi=>U id i&&t.m i) rfl rfl rfl rfl rfl rfl rfl bF;rw[Az.set_set]at bB;have O:s43.len=cN (λi=>U id i&& !t.m i) x.2.AM.toNat:=O;obtain⟨n,hn⟩: ∃n,n=cN (λi=>U id i&& !t.m i) x.2.AM.toNat:=⟨_,rfl⟩;have cS:=Oh (λi=>U id i&& !t.m i) x.2.AM.toNat;rw[<-hn]at O;rw[O];refine CO (aR.front 4 rfl) (o:=0) rfl (by simp) λcK a2=> ?_;have Y:Sat (AS E b h s r {W with S:=W.S.put id (x.1,Jv x.2 uw λi=>U id i&&t.m i),R:=t.R,em:=t.em}::Cells b1 E.Bx [.int .i64 (n:Int)]::Cells b5 E.CP [.int .i64 0]::Cells aA E.Bd (JV x.2)::Cells b3 E.A9 [.bool false]::Z) cK.drew:=(a2.drew).front 1 rfl;obtain⟨em,aS⟩:=Sat.Ii.1 Y;have bA:=Lw aS;refine AF ⟨_,bA.2.2.2.2.1,_,(Y.front 1 rfl).Ah rfl,AF ?_⟩;refine AZ (show Sat (Cells b E.Di _::_) _ from aS) (o:=0) (m:=4) rfl (by simp[IB]) λc8 a3=> ?_;have aJ:=a3.drew;refine AF ⟨_,aJ.cell rfl,_,(aJ.front 7 rfl).cell rfl,AF (AZ aJ (o:=0) (m:=7) rfl (by simp[IB]) λcL aT=> ?_)⟩;rw[AK (n:=(n:Int)),AK (n:=x.2.AA) (by have:=A2.pg;omega) (by have:=A2.pg;omega)]at aT;obtain⟨T,aC⟩: ∃T:SW,T={W with S:=W.S.put id (x.1,Jv x.2 uw λi=>U id i&&t.m i),R:=t.R,em:=t.em,M8:=u64 (W.M8+n),En:=u64 (W.En+x.2.AA)}:=⟨_,rfl⟩;have bO:Sat (AS E b h s r T::Cells b1 E.Bx [.int .i64 (n:Int)]::Cells b5 E.CP [.int .i64 0]::Cells aA E.Bd (JV x.2)::Cells b3 E.A9 [.bool false]::Z) cL:=Sat.Ii.2 ⟨em,by rw[aC];exact aT⟩;have aB:Ck T (U.set id λi=>U id i&&t.m i) (M.set id ES):=by
        rw[aC];have h1:=bB.rc t.R t.em (u64 (W.M8+n)) (u64 (W.En+x.2.AA)) W.Bq W.Ny;rw[show(W.S.put id (x.1,{x.2 with mw:=mw})).put id (x.1,Jv x.2 uw λi=>U id i&&t.m i)=W.S.put id (x.1,Jv x.2 uw λi=>U id i&&t.m i)from HS.Qa _ _ _ _]at h1;exact h1
      clear aT aJ a3 aS Y a2 aR a1 bK bD a7 bC aI J d aG aF H' a4 H6 H4 H2 bA;have aP:T.L=W.L:=by rw[aC]
      have aE:T.S.sp id=some (x.1,Jv x.2 uw λi=>U id i&&t.m i):=by rw[aC];exact HS.Il
      have mk: ∀gone W',_->RN W U M id Cv n gone W' (U.set id λi=>U id i&&t.m i) (M.set id ES):=λgone W' h=>⟨x,t,uw,hx,bH,ht,hn,rfl,rfl,T,aC,h⟩;refine AX (λ_ w'=> ∃gone W',RN W U M id Cv n gone W' (U.set id λi=>U id i&&t.m i) (M.set id ES)/\Ck W' (U.set id λi=>U id i&&t.m i) (M.set id ES)/\ ∃vs,Sat (Cells b1 E.Bx [.int .i64 (n:Int)]::Cells b3 E.A9 [.bool gone]::Cells b5 E.CP [.int .i64 0]::AS E b h s r W'::Cells aA E.Bd vs::Z) w') ?_ ?_
      . obtain⟨R3,bW,c3,bZ⟩:=bO.Ho;obtain⟨R4,cA,b0⟩:=bW.Nu aE;refine IL cA λdB bQ=> ?_;have bR:=bZ (b0 bQ);refine GM (news:=JV (Jv x.2 uw λi=>U id i&&t.m i)) (bR.front 3 rfl) rfl (by simp[JV,Value.oneCell']) λbM aK=> ?_;have e1:(Jv x.2 uw λi=>U id i&&t.m i).used=(cN (λi=>U id i&&t.m i) x.2.AM.toNat:Nat):=rfl;have e2:(Jv x.2 uw λi=>U id i&&t.m i).AM=x.2.AM:=rfl;have aL:Sat (AS E b h s r T::Cells aA E.Bd (JV (Jv x.2 uw λi=>U id i&&t.m i))::Cells b1 E.Bx [.int .i64 (n:Int)]::Cells b5 E.CP [.int .i64 0]::Cells b3 E.A9 [.bool false]::Z) bM:=aK.front 1 rfl;refine AX (λst w'=>w'=bM/\(st.1=true↔Cv=true/\((cN (λi=>U id i&&t.m i) x.2.AM.toNat:Nat):Int)<x.2.AM)) ?_ ?_
        . cases aW:Cv with
          | false=>exact AO rfl ⟨rfl,by simp⟩
          | true=>exact AU rfl ⟨_,aK.cell rfl,_,aK.cell rfl,rfl,by grind⟩
        . rintro⟨kp,u⟩ _ dC ⟨rfl,aW⟩;dsimp only at aW⊢;refine AQ (λv=> ?_) λc0=>⟨_,aK.cell rfl,BF (λh0=> ?_) λh0=> ?_⟩
          . have bG:=aW.1 v;exact⟨false,T,mk _ _ (.inl ⟨bG.1,bG.2,rfl,rfl⟩),aB,_,((aL.front 3 rfl).front 4 rfl).front 4 rfl⟩
          . have aD: ¬(Cv=true/\((cN (λi=>U id i&&t.m i) x.2.AM.toNat:Nat):Int)<x.2.AM):=λh=>by grind
            have aV:cN (λi=>U id i&&t.m i) x.2.AM.toNat=0:=by omega
            refine AF ⟨_,aL.M9.1,?_⟩;obtain⟨R5,bX,c4,b4⟩:=aL.Ho;refine cX hE.toEnvA bX aB.hI (λhn=>by rw[aE]at hn;cases hn) (λy v hu=> ?_) λy a v hu ha aO dD bS=> ?_
            . rw[aE]at v;cases v;rw[e1]at hu;omega
            . rw[aE]at v;cases v;have bT:=b4 bS;refine CO (bT.front 4 rfl) (o:=0) rfl (by simp) λdE bU=> ?_;refine⟨true,{T with S:=T.S.free a (x.2.base/8192) x.2.AA},mk _ _ (.inr (.inl ⟨aD,aV,rfl,a,ha,rfl⟩)),⟨aO,λj y v=> ?_,λit b7=> ?_⟩,JV (Jv x.2 uw λi=>U id i&&t.m i),?_⟩
              . have v:(if j=(a:Int)+1 then none else T.S.sp j)=some y:=v;split at v
                . cases v
                . exact aB.sp j y v
              . obtain⟨y,g1,g2⟩:=aB.it it b7;refine⟨y,?_,g2⟩;show(if it.id=(a:Int)+1 then none else T.S.sp it.id)=some y
                grind
              . exact((bU.front 4 rfl).front 1 rfl).front 4 rfl
          . have aD: ¬(Cv=true/\((cN (λi=>U id i&&t.m i) x.2.AM.toNat:Nat):Int)<x.2.AM):=λh=>by grind
            have aV:cN (λi=>U id i&&t.m i) x.2.AM.toNat≠0:=λh=>h0 (by omega);refine PM hE aL aB (by grind) (λhn=>by grind) (λ_ ⟨y,v,e⟩=>absurd e (hL y (by rw[<-aP];exact v))) λy v c1 Fz aO dF a5=> ?_;rw[aE]at v;cases v;rw[aP]at aO a5;refine⟨false,_,mk _ _ (.inr (.inr ⟨aD,aV,rfl,Fz,rfl⟩)),aO,JV (Jv x.2 uw λi=>U id i&&t.m i),?_⟩;exact((a5.front 3 rfl).front 4 rfl).front 4 rfl
      . rintro _ _ c9 ⟨gone,W',bJ,bY,vs,bP⟩;have aU:=bP.drew;refine⟨_,aU.Ah rfl,_,(aU.front 1 rfl).Ah rfl,CO aU (o:=0) rfl (by simp) λdG a6=>⟨(a6.front 1 rfl).Ah rfl,CO (a6.front 1 rfl) (o:=0) rfl (by simp) λdH bV=>CO (bV.front 2 rfl) (o:=0) rfl (by simp) λcM aM=>dQ ?_⟩⟩;exact⟨_,(aM.front 2 rfl).Ah rfl,_,(aM.front 1 rfl).Ah rfl,_,aM.Ah rfl,hk n gone W' _ _ bJ bY cM aM.tail.tail.tail.skip⟩
end
section
variable{E:Env}{w:World}{Rs Z:List Pr}
def dR(H:Sat Z w){n r:Int}{K:Int->World->Prop}(O: ∀w',Sat Z w'->K (timesV n r) w'):F.G6 E n r K w:=by
 unfold F.G6 T0.G6 F.EL;have main: ∀(x:Nat) w',Sat Z w'->(bif (Dq x 4895412794951729152==some .gt||Dq x 4895412794951729152==some .eq)then(18446744073709551615:Int)else bif (Dq x 4607182418800017408==some .gt||Dq x 4607182418800017408==some .eq)then(Qr x).getD 0 else 0)=timesV n r->
   CND ((Dq x 4895412794951729152==some .gt||Dq x 4895412794951729152==some .eq)) (K 18446744073709551615 w')
    (CND ((Dq x 4607182418800017408==some .gt||Dq x 4607182418800017408==some .eq)) (∃d:Int,Qr x=some d/\(IntKind.min .u64<=d/\d<=IntKind.max .u64)/\K d w') (K 0 w')):=by
  intro x w' J e;have hk:=O w' J;refine AQ (λh2=> ?_) λh2=>AQ (λh1=> ?_) λh1=> ?_
  .rw[h2]at e;rw[<-e]at hk;exact hk
  .obtain⟨k,j,T⟩:=W5 h1 (by rw[h2];decide);refine⟨k,j,⟨by show(0:Int)<=k;omega,by show(k:Int)<=18446744073709551615;omega⟩,?_⟩;rw[h2,h1,cond_false,cond_true,j]at e;rw[<-e]at hk;exact hk
  .rw[h2,h1,cond_false,cond_false]at e;rw[<-e]at hk;exact hk
 have key:FRES (Kh .mul (NO n) r.toNat) w λv y=>
   CND ((Dq v 4895412794951729152==some .gt||Dq v 4895412794951729152==some .eq)) (K 18446744073709551615 y)
    (CND ((Dq v 4607182418800017408==some .gt||Dq v 4607182418800017408==some .eq)) (∃d:Int,Qr v=some d/\(IntKind.min .u64<=d/\d<=IntKind.max .u64)/\K d y) (K 0 y)):=by
  cases hx:Kh .mul (NO n) r.toNat with
  | some x=>
   refine main x w H ?_;unfold timesV;rw[hx]
  | none=>
   intro t;refine main (iH t) w.drew H.drew ?_;rw[S8,S8,Ru hx];rfl
 exact key
end
section
variable{W:SW}{U M:Az}
def Ck.Cv(hI:Ck W U M){S2:HS}{p n c page id:Int}{np:Bool}{J:Nat}{X:FX}(hf:Found W.S p n page S2)(hX:Next S2 id X)(h0:0<=page)(h1:page+n<=34359738368)(hb: ¬GB 0 n c)(hn:0<=n)(O:BN (S2.Cv id (J,IZ page n c np) page n X) no):
  Ck {W with S:=S2.Cv id (J,IZ page n c np) page n X} (U.set id ES) (M.set id ES)/\W.S.sp id=none:=by
 have es:=hf.same;have d:W.S.sp id=none:=by
  refine Classical.byContradiction λg=> ?_;obtain⟨a,ha,h2,O⟩:=(hI.hI.sf id).1 g;rcases hX with ⟨T,Y,_⟩|⟨b',r',T,Y,_⟩
  .rw[es.fx]at Y;omega
  .rw[es.fx]at T
   grind
 have A2:=uJ (np:=np) h0 h1 hb hn;refine⟨⟨O,λj y v=> ?_,λit K=> ?_⟩,d⟩
 .have v:(if j=id then some (J,IZ page n c np)else S2.sp j)=some y:=v;by_cases e:j=id
  .rw[if_pos e]at v;cases v;subst e;rw[Az.N3,Az.N3];exact⟨A2,yS A2⟩
  .rw[if_neg e,es.sp]at v;have e1:U.set id ES j=U j:=if_neg e;have e2:M.set id ES j=M j:=if_neg e;rw[e1,e2];exact hI.sp j y v
 .obtain⟨y,g1,g2⟩:=hI.it it K;have:it.id≠id:=λe=>by grind
  refine⟨y,?_,g2⟩;show(if it.id=id then _ else S2.sp it.id)=_;rw[if_neg this,es.sp];exact g1
def Ck.new(pl:List Int)(rf:List Bool)(fl:List Int):Ck (SW.new (HS.new (Md pl rf fl))) (λ_=>ES) (λ_=>ES):=
 ⟨BN.Md pl rf fl,λid x d=>(by cases d),λx d=>(by cases d)⟩
end
section
variable{E:Env}{w:World}{Z:List Pr}{b h s r:Nat}{W:SW}{U M:Az}
def Ry(H:Sat (AS E b h s r W::Z) w)(he:W.em.length<=1099511627776){K:Aa->World->Prop}(y: ∀s1 w',s1.len=W.em.length->Sat (Row E.AI 3 s1 (Al HU W.em)::AS E b h s r W::Z) w'->K s1 w'):F.CE E (some ⟨b,0,none⟩) K w:=by
 unfold F.CE T0.CE;obtain⟨em,H1⟩:=Sat.Ii.1 H;refine AF ⟨em,(Lw H1).2.2.2.1,?_⟩;have T:W.em.length=em.len:=((H1.front 4 rfl).Gv (by decide) Dy).1;unfold F.DS;cases hb:em.base with
 | none=>
  have h0:em.len=0:=by
   have O:=((H1.front 4 rfl).own).cap;rcases((H1.front 4 rfl).own).row with ⟨_,g⟩|⟨_,_,g,_⟩
   .omega
   .rw[hb]at g;cases g
  have:W.em=[]:=List.eq_nil_of_length_eq_zero (by omega);refine AU (by first|rfl|(rw[hb];rfl)) (y _ _ (by rw[this];rfl) ?_);rw[this];exact H.nil E.AI 3
 | some a=>
  refine AO (by first|rfl|(rw[hb];rfl)) (HI (n:=0) (z:=3) (vs:=[]) H1 rfl (by decide) λb1 Y d=> ?_);refine Ep (bytes:=24) (x:=em) (news:=Al HU W.em) d rfl (d.front 5 rfl).Kj (d.front 5 rfl).Du (GA Ic _) (by simp only;omega) (by simp only;omega) λs3 J v j=> ?_;rw[List.nil_append]at v;refine y s3 J (by rw[j];show 0+em.len=_;omega) ?_;have h1:Sat (MI E b h s r W em++Row E.AI 3 s3 (Al HU W.em)::Z) J:=v.perm (by exact(List.perm_middle (l₁:=[_,_,_,_,_]) (l₂:=Z)).symm);exact(Sat.Ii.2 ⟨em,h1⟩).perm (.swap _ _ _)
def ZZ(H:Sat (AS E b h s r W::Z) w){rt:Int}{K:World->Prop}(y: ∀w',Sat (AS E b h s r {W with Ny:=rt,Bq:=0,En:=0}::Z) w'->K w'):F.F9 E (some ⟨b,0,none⟩) rt K w:=by
 unfold F.F9;obtain⟨em,H1⟩:=Sat.Ii.1 H;refine AF (AZ (show Sat (Cells b E.Di _::_) _ from H1) (o:=0) (m:=5) rfl (by simp[IB]) λO d=>AF (AZ d (o:=0) (m:=6) rfl (by simp[IB]) λT j=>AF (AZ j (o:=0) (m:=7) rfl (by simp[IB]) λJ v=>y J (Sat.Ii.2 ⟨em,v⟩))))
def Hj(c n:Int):Int:=if 18446744073709551616<=c+n then 18446744073709551615 else c+n
def VN(H:Sat (AS E b h s r W::Z) w){n:Int}(J:0<=W.Bq/\W.Bq<18446744073709551616)(O:0<=n/\n<18446744073709551616){K:World->Prop}(y: ∀w',Sat (AS E b h s r {W with Bq:=Hj W.Bq n}::Z) w'->K w'):F.CY E (some ⟨b,0,none⟩) n K w:=by
 unfold F.CY T0.CY F.I7;obtain⟨em,H1⟩:=Sat.Ii.1 H;refine AF ⟨_,(Lw H1).2.2.2.2.2.2.1,⟨J.1,O.1,by decide,by decide⟩,?_⟩;have fin: ∀v:Int,v=Hj W.Bq n->stCells ((Addr.mk b 0 none).add 6) 0 [.int .u64 v] w K:=λv T=>by
  rw[T];exact AZ (show Sat (Cells b E.Di _::_) _ from H1) (o:=0) (m:=6) rfl (by simp[IB]) λY d=>y Y (Sat.Ii.2 ⟨em,d⟩)
 rw[show W.Bq+n+0=W.Bq+n by omega];unfold Hj at fin;refine AV (AB (λg j=>AF (fin _ ?_)) λg j=>AF (fin _ ?_))
 .rw[if_pos (by omega)]
 .rw[if_neg (by omega),Int.emod_eq_of_lt (by omega) (by omega)]
noncomputable def SW.Za(W:SW):Int:=if timesV W.Bq W.Ny<W.En then 0 else timesV W.Bq W.Ny-W.En
def Rz(H:Sat (AS E b h s r W::Z) w)(hr:0<=W.En){K:Int->World->Prop}(T: ∀w',Sat (AS E b h s r W::Z) w'->K W.Za w'):F.C7 E (some ⟨b,0,none⟩) K w:=by
 unfold F.C7 T0.C7;have v:=H.drew;obtain⟨em,H1⟩:=Sat.Ii.1 v;have c1:=Lw H1;refine AF ⟨_,c1.2.2.2.2.2.2.1,AF ⟨_,c1.2.2.2.2.2.1,dR v λY j=> ?_⟩⟩;obtain⟨O,J⟩:=Sat.Ii.1 j;have y:=Lw J;have hb:=V3 W.Bq W.Ny;have d:=T Y j;unfold SW.Za at d;refine AF ⟨_,y.2.2.2.2.2.2.2,AB (λg=> ?_) λg=>AF ⟨_,y.2.2.2.2.2.2.2,?_⟩⟩
 .rw[if_pos g]at d;exact d
 .rw[if_neg g]at d;rw[AK];exact d
end
def XI{p n:Int}{S2:HS}{page:Int}(hk:Jw (HS.new (Md [] [] [])))(v:1<=n)(aB:n<=1000000)(h:Found (HS.new (Md [] [] [])) p n page S2):page=512/\Xo S2 (512+n) (512+ID n)/\Fu S2 (512+ID n)/\ ∀j,S2.ca j=CS.nil:=by
 have hu:=UQ n;have d: ∀q,(HS.new (Md [] [] [])).T.fr q=false:=λ_=>rfl;obtain⟨K,h1,h2,h3,O,Y,h6,_⟩:=h.row (Fu.new []) hk (Xo.new _) (Int.le_refl _) v (by omega) (λJ y=>QP d v y) λJ pg y=>cZ d (λ_ _ _=>rfl) v y;have e:K=512+ID n:=by omega
 subst e;exact⟨h2,Y,O,λj=>by rw[h6];rfl⟩
def Zb{a:Addr}{K:Bool->Prop}(h:K true):wB (some a) (some a) K:=by
 unfold wB;refine⟨rfl,?_⟩
 grind
structure First(T:HS)(bl:Nat)(n c:Int)(np:Bool):Prop where
 sp:T.sp 1=some (bl,IZ 512 n c np)
 no: ∀i,i≠1->T.sp i=none
 la:Fu T (512+ID n)
 own: ∀p,T.own p=if 512<=p/\p<512+n then 1 else 0
 fx:T.fx=⟨1,[]⟩
 pg:T.AA=n
 fr:Xo T (512+n) (512+ID n)
 ca: ∀j,(T.ca j).empty
def Ot:Az:=λ_=>ES
def V8(id:Int):Ot.set id ES=Ot:=by funext i;unfold Az.set Ot;split<;>rfl
section
variable{E:Env}{w:World}{Z:List Pr}{b h s r:Nat}{W:SW}{U M:Az}
def Qc(H:Sat Z w){K:Option Addr->Option Addr->World->Prop}(Y: ∀b h s r w',Sat (AS E b h s r (SW.new (HS.new (Md [] [] [])))::Z) w'->K (some ⟨b,0,none⟩) (some ⟨r,0,none⟩) w')(hS:EnvS E):F.DN E K w:=by
 unfold F.DN T0.DN;refine oH hS H λm w2 y=>AO rfl (kC y λh w4 J=>dF J λs w6 O=>ZQ O λr w8 T=> ?_);refine AV (AO rfl (AO rfl λj=>AO rfl ?_));refine dN T λb v d=>AV (AO rfl (G8 d (Zb (AO rfl (Nz d (Zb λj=>AO rfl ?_))))));exact Y b h s r v d
variable(hE:Mk E)
include hE
theorem XJ(hT: ∀w',Sat Z w'->GL E.AN w')(H:Sat (AS E b h s r (SW.new (HS.new (Md [] [] [])))::Z) w){p n c:Int}{np:Bool}(hn:1<=n)(J:n<=1000000)(hb: ¬GB 0 n c){K:Int->Int->World->Prop}
  (hK: ∀d T,First T d n c np->Ck (SW.new T) Ot Ot-> ∀w',Sat (AS E b h s r (SW.new T)::Z) w'->K 1 0 w'):F.CM E (some ⟨h,0,none⟩) p n c np K w:=by
 obtain⟨R,HH,hz,y⟩:=H.Ho;have hu:=UQ n;refine kG hE.toEnvA (λw' h'=>hT w' (hz h')) HH (BN.Md [] [] []) (Fu.new []) hb (by omega) (by omega) λ_ page S2 d id X hf hk aH q0 q1 Y v w8 H8=> ?_;obtain⟨rfl,e2,e3,e4⟩:=XI hk hn J hf;have es:=hf.same;have O:=(Ck.new [] [] []).Cv (np:=np) hf Y q0 q1 hb (by omega) v;obtain⟨rfl,rfl⟩:=Y.top (n:=0) es.fx;refine hK d _ ⟨?_,?_,e3.Cv _ _ _ _ _,?_,rfl,?_,e2,?_⟩ (by have:=O.1;rw[show(λ_=>ES:Az)=Ot from rfl,V8]at this;exact this) w8 (y H8)
 .show(if(1:Int)=((0:Nat):Int)+1 then some (d,IZ 512 n c np)else S2.sp 1)=_;rw[if_pos (by decide)]
 .intro i hi;show(if i=((0:Nat):Int)+1 then some (d,IZ 512 n c np)else S2.sp i)=none;rw[if_neg (by simpa using hi),es.sp];rfl
 .intro p;rw[oY,es.own];rfl
 .show S2.AA+n=n;rw[es.AA];show 0+n=n;omega
 .intro j;show(S2.ca j).empty;rw[e4];exact λ_=>rfl
end
def Uh{u:Nat->Bool}{base elem:Int}{t:aL}{a:Nat}(h: ∀k,a<=k->u k=false): ∀m,spRun u base elem (a+m) t=spRun u base elem a t
 | 0=>rfl
 | m+1=>by
  show spStep u base elem (a+m) (spRun u base elem (a+m) t)=_;rw[Uh h m];unfold spStep;rw[if_neg (by rw[h _ (by omega)];simp)]
def u2:Nat->Bool:=λi=>((ES i||i==0)||i==1)
def uL:cN (λi=>u2 i&& !(ES i||i==0)) 170=1:=by decide+kernel
def uM:cN (λi=>u2 i&&(ES i||i==0)) 170=1:=by decide+kernel
def vT:Bb 5=(48,1,170,89478486):=by decide+kernel
section
variable{E:Env}{w:World}{Z:List Pr}(hE:Mk E)
include hE
theorem XK(hT: ∀w',Sat Z w'->GL E.AN w')(H:Sat Z w){K:Bool->World->Prop}(hK: ∀w',Sat Z w'->K true w'):F.Dx E K w:=by
 unfold F.Dx T0.Dx;have bad: ¬GB 0 1 5:=by unfold GB;rw[cls5];omega
 refine Qc (E:=E) H (hS:=hE.toEnvS) λb h s r w3 H3=>AO rfl (G8 H3 ?_);refine XJ hE hT H3 (by decide) (by decide) bad λbl T hF hI w8 H8=>G8 H8 ?_;obtain⟨R1,aJ,a8,a2⟩:=H8.Ho;refine PE aJ (λhn=>by rw[show(SW.new T).S.sp 1=some _ from hF.sp]at hn;cases hn) λx hx=> ?_;rw[show(SW.new T).S.sp 1=some _ from hF.sp]at hx;cases hx;refine AV (AO rfl (AO rfl λj=>AO rfl ?_));obtain⟨b5,bQ⟩:=hI.sp 1 _ hF.sp;have J:(IZ 512 1 5 false).AM=170:=by show(if(5:Int)=0 then(1:Int)else(Bb 5).2.2.1)=170;rw[vT];rfl
 have aM:(IZ 512 1 5 false).elem=48:=by show(if(5:Int)=0 then(1*8192:Int)else(Bb 5).1)=48;rw[vT];rfl
 obtain⟨R2,aO,a9,a3⟩:=aJ.Ug hF.sp;refine Mi (hT _ (a8 (a9 aO.tail))) aO bQ (by show(1:Int)≠0;decide) (λY=>absurd (Y 0 (by rw[J];decide)) (by decide)) λn0 cP cG cL bS bR cQ aI=> ?_;obtain rfl:n0=0:=by
  rcases Nat.eq_zero_or_pos n0 with e|e
  .exact e
  .have:=bS 0 e;cases this
 refine Mi (hT _ (a8 (a9 aI.tail))) aI bR (by show(1:Int)≠0;decide) (λY=>absurd (Y 1 (by show(1:Int)<(IZ 512 1 5 false).AM;rw[J];decide)) (by decide)) λn1 bZ cH bU aA aN b0 aR=> ?_;obtain rfl:n1=1:=by
  rcases Nat.lt_trichotomy n1 1 with e|e|e
  .obtain rfl:n1=0:=by omega
   exact absurd bU (by decide)
  .exact e
  .have:=aA 1 e;exact absurd this (by decide)
 obtain⟨d,v⟩: ∃d:SI,d={IZ 512 1 5 false with uw:=bZ,used:=(IZ 512 1 5 false).used+1+1,look:=((1:Nat):Int)+1}:=⟨_,rfl⟩;have aN:Qn d u2 ES:=by rw[v];exact aN
 have aS:Sat (C9 E bl d::R2) b0:=by rw[v];exact aR
 have a0:d.base=512*8192:=by rw[v];rfl
 have Ca:d.state=1/\d.AA=1/\d.elem=48/\d.AM=170/\d.cls=5/\d.FY=false/\d.Lh=(Bb 5).2.2.2/\d.used=2:=by rw[v];exact⟨rfl,rfl,aM,J,rfl,rfl,rfl,rfl⟩
 obtain⟨k1,k2,k3,k4,k5,k6,k7,k8⟩:=Ca;refine AV (IL aS λcR aT=> ?_);rw[a0];have aU:=a2 (a3 aT);have aY:=hI.yU (W:=SW.new T) hF.sp (I:=d) (u:=u2) (m:=ES) (by rw[v]) (by rw[v]) (by rw[v]) (by rw[v]) (by rw[v]) (by rw[v]) (by rw[v]) aN;rw[V8]at aY;obtain⟨R4,aX,cM,a4⟩:=aU.Ue;refine Rw aX (by decide) (show([]:List Rc).length<1099511627776 by decide) (λg=>absurd (by decide) g) (λ_ x hx=>by cases hx) λ_ _ A B Fz b1 aK aV=>AO rfl ?_;have aK:[]=A++B:=aK;obtain⟨rfl,rfl⟩:A=[]/\B=[]:=by simpa using aK.symm
 have aW:=a4 aV;obtain⟨S1,aF⟩: ∃S1,S1=T.put 1 (bl,d):=⟨_,rfl⟩;have aC:S1.sp 1=some (bl,d):=by rw[aF];exact HS.Il
 have b6: ∀i,i≠1->S1.sp i=none:=λi hi=>by rw[aF,HS.Lt hi];exact hF.no i hi
 have bE:Sat (AS E b h s r ⟨S1,[],[⟨Fz,512*8192,1,7⟩],[],0,0,0,0⟩::Z) b1:=by rw[aF];exact aW
 have bM:Ck ⟨S1,[],[⟨Fz,512*8192,1,7⟩],[],0,0,0,0⟩ (Ot.set 1 u2) Ot:=by rw[aF];exact aY.rc _ _ _ _ _ _
 clear aW aV aX a4 aU aT aS aR aI aO a3 aJ a2 H8 H3;refine PM hE bE bM (show([]:List DG).length<1099511627776 by decide) (λhn=>by rw[show(SW.S _).sp 1=_ from aC]at hn;cases hn) (λ_ ⟨y,hy,_⟩=>by cases hy) λx hx cI O bN cS bF=>AO rfl ?_;rw[show(SW.S _).sp 1=_ from aC]at hx;cases hx;have aG:IM [] (⟨O,1,d.base,(d.cls,d.FY,d.used==d.AM,true)⟩:DG)=[⟨O,1,d.base,(d.cls,d.FY,d.used==d.AM,true)⟩]:=rfl;refine Rx hE (a1:=⟨none,0,0⟩) (as_:=[]) bF bN (λ_ _=>show([]:List Value)=[]from rfl) rfl (by decide) (λa ha=>by cases ha) (λa7=> ?_) λcJ S2 bT aZ cT bG j=>AO rfl ?_
 .simp[Km,IM,DG.FZ,pos]at a7
 have hM:Ot.mark (SW.S ⟨S1,IM [] ⟨O,1,d.base,(d.cls,d.FY,d.used==d.AM,true)⟩,[⟨Fz,512*8192,1,7⟩],[],0,0,0,0⟩) []=Ot:=by funext i k;simp[Az.mark]
 rw[hM]at aZ;obtain⟨mw,aH⟩:=bT.sp 1 _ aC;refine N1 hE bG aZ (λY=> ?_) λy hy bO cU bH=> ?_
 .have:=Y ⟨O,1,d.base,(d.cls,d.FY,d.used==d.AM,false)⟩ (by show _∈Gh _;rw[aG];exact List.mem_singleton.2 rfl);cases this
 .have bW:y=⟨O,1,d.base,(d.cls,d.FY,d.used==d.AM,false)⟩:=by
   have:=hy.1;rw[show(SW.L _)=Gh _ from rfl,aG]at this;exact List.mem_singleton.1 this
  subst bW;refine PN hE hT bH bO (Nat.lt_of_le_of_lt (List.length_filter_le _ _) (by show 1<1099511627776;decide)) (by show 0+1<=1099511627776;decide) (λz hz=>(Fh.1 hz).2) (λhn=>by rw[show(SW.S _).sp 1=_ from aH]at hn;cases hn) (λ_ _ ⟨i,hi,_⟩=>by cases hi) λn gone W' U' M' a6 cC cV bI=> ?_;obtain⟨x,t,uw,hx,hz,ht,hn,hU,cF,W1,bP,aL⟩:=a6;rw[show(SW.S _).sp 1=_ from aH]at hx;cases hx;have aP:t=spRun u2 d.base d.elem d.AM.toNat ⟨[⟨Fz,512*8192,1,7⟩],ES,[]⟩:=ht;rw[a0,k3,k4,show(170:Int).toNat=2+168 from rfl,Uh λk hk=>by
   have e0:(k==0)=false:=by simpa using(show k≠0 by omega)
   have e1:(k==1)=false:=by simpa using(show k≠1 by omega)
   unfold u2;rw[e0,e1];rfl]at aP
  have et:spRun u2 (512*8192) 48 2 ⟨[⟨Fz,512*8192,1,7⟩],ES,[]⟩=⟨[],λi=>ES i||i==0,[⟨0,512*8192,1,7⟩]⟩:=by
   simp[spRun,spStep,u2,ES,Ju,kQ,Oa,PJ]
  rw[et]at aP;subst aP;have c1:cN (λi=>u2 i&& !(ES i||i==0)) d.AM.toNat=1:=by rw[k4];exact uL
  have c2:cN (λi=>u2 i&&(ES i||i==0)) d.AM.toNat=1:=by rw[k4];exact uM
  have hn:n=cN (λi=>u2 i&& !(ES i||i==0)) d.AM.toNat:=hn;rw[c1]at hn;subst hn;rcases aL with ⟨q,_⟩|⟨_,q,_⟩|⟨_,_,rfl,b4,rfl⟩
  .cases q
  .have q:cN (λi=>u2 i&&(ES i||i==0)) d.AM.toNat=0:=q;rw[c2]at q;cases q
  .have a5:W1.em=[⟨0,512*8192,1,7⟩]:=by rw[bP]
   refine Ry bI (by rw[show(SW.em _)=W1.em from rfl,a5];decide) λs1 b3 aA aE=> ?_;rw[show(SW.em _)=W1.em from rfl,a5]at aA aE;have aA:s1.len=1:=aA;refine AU rfl (AU rfl (AU rfl (AU rfl (AU rfl (AU (by rw[aA];rfl) ?_)))));obtain⟨a,ha⟩:=aE.FW (by decide) Dy (i:=0) (by decide);rw[ha];refine AF ⟨⟨by decide,by omega⟩,7,?_,hK b3 aE.tail.tail⟩;have:=aE.Bh Dy ha (i:=0) (j:=2) rfl rfl;simpa[add_add]using this
end
section
variable{E:Env}{w:World}{Z:List Pr}{b h s r:Nat}{W:SW}{U M:Az}
def Zc(hT: ∀w',Sat Z w'->GL E.AN w')(H:Sat (AS E b h s r W::Z) w)(hI:Ck W U M){id:Int}{x:Nat×SI}(J:W.S.sp id=some x){K:Int->Int->World->Prop}
  (Y:(∀i:Nat,(i:Int)<x.2.AM->U id i=true)-> ∀w',Sat (AS E b h s r W::Z) w'->K 0 30 w')
  (aA: ∀(n:Nat) d,(n:Int)<x.2.AM->U id n=false->(∀i,i<n->U id i=true)->Ck {W with S:=W.S.put id (x.1,{x.2 with uw:=d,used:=x.2.used+1,look:=(n:Int)+1})} (U.set id λi=>U id i||i==n) M->
   ∀w',Sat (AS E b h s r {W with S:=W.S.put id (x.1,{x.2 with uw:=d,used:=x.2.used+1,look:=(n:Int)+1})}::Z) w'->K n 0 w'):F.Dg E (some ⟨x.1,0,none⟩) K w:=by
 obtain⟨A2,hg⟩:=hI.sp id x J;obtain⟨R,HH,hz,hb⟩:=H.Ho;obtain⟨R2,y,aB,v⟩:=HH.Ug J;refine Mi (hT _ (hz (aB y.tail))) y hg (by rw[A2.st];decide) (λj w' O=> ?_) λn d hn hu hl T w' O=> ?_
 .have:=hb (v O);rw[show W.S.put id (x.1,x.2)=W.S from HS.Qb J]at this;exact Y j w' this
 .refine aA n d hn hu hl ?_ w' (hb (v O));have:=hI.yU J (I:={x.2 with uw:=d,used:=x.2.used+1,look:=(n:Int)+1}) rfl rfl rfl rfl rfl rfl rfl T;rwa[Az.Kb]at this
def Zd(H:Sat (AS E b h s r W::Z) w){id:Int}{x:Nat×SI}(T:W.S.sp id=some x){K:Int->Int->Int->Int->Bool->Int->Int->Int->Bool->Bool->World->Prop}
  (J: ∀w',Sat (AS E b h s r W::Z) w'->K x.2.base x.2.AA x.2.state x.2.cls x.2.FY x.2.elem x.2.AM x.2.used x.2.f8 x.2.f9 w'):F.Be E (some ⟨x.1,0,none⟩) K w:=by
 obtain⟨R,y,hz,O⟩:=H.Ho;obtain⟨Y,j,d⟩:=y.Nu T;exact IL j λw' v=>J w' (O (d v))
def R0(H:Sat (AS E b h s r W::Z) w){id:Int}{K:Option Addr->Int->World->Prop}(d:W.S.sp id=none->K none 35 w)(j: ∀x,W.S.sp id=some x->K (some ⟨x.1,0,none⟩) 0 w):F.EC E (some ⟨h,0,none⟩) id K w:=by
 obtain⟨R,v,hz,y⟩:=H.Ho;exact PE v d j
end
def Qd{S d:HS}{p n:Int}(h:Ih S p n d):d.sp=S.sp:=by
 rcases h with ⟨_,rfl⟩|⟨i,_,_,_,⟨_,q,_,rfl⟩|⟨_,rfl⟩,_⟩<;>rfl
def yV{S S2:HS}{p n page:Int}(h:aI S p n page S2):S2.sp=S.sp:=by
 rcases h with ⟨j,i,k,v,_,_,⟨_,q,_,rfl⟩|⟨_,rfl⟩,_,_,_,_,rfl⟩|⟨j,d,_,rfl⟩
 .rfl
 .rfl
 .exact(show j.sp=S.sp from Qd d)
def Ze{S S2:HS}{p n:Int}(h:Sg S p n S2):S2.sp=S.sp:=by
 rcases h with ⟨j,d,_,⟨r,_,rfl⟩|⟨_,_,rfl⟩⟩|⟨S1,page,r,v,_,_,rfl⟩
 .exact(show j.sp=S.sp from Qd d)
 .exact(show j.sp=S.sp from Qd d)
 .rcases v with v|⟨j,y,d,_,⟨_,at_,_,rfl⟩,_,rfl⟩
  .exact(show S1.sp=S.sp from yV v)
  .exact(show j.sp=S.sp from Qd d)
section
variable{E:Env}{w:World}{Z:List Pr}{cb b h s r:Nat}{W:SW}{U M:Az}
def Ck.heap(hI:Ck W U M){S2:HS}(h1:BN S2 no)(h2:S2.sp=W.S.sp):Ck {W with S:=S2} U M:=
 ⟨h1,λid x d=>hI.sp id x (by grind),λx d=>by rw[show({W with S:=S2}:SW).S.sp=W.S.sp from h2];exact hI.it x d⟩
end
def HS.at(S:HS)(id:Int):Int:=match S.sp id with
 | some x=>x.2.base
 | none=>0
def HS.gU{S:HS}{id:Int}{x:Nat×SI}(h:S.sp id=some x):S.at id=x.2.base:=by unfold HS.at;rw[h]
def BN.KY{S:HS}{fl:Int->Bool}(hI:BN S fl)(l:List Int)(j:l.Nodup)(d: ∀n∈l,S.sp n≠none):l.length<1099511627776:=by
 have h:=UR S.fx.n l j λn v=>by
  obtain⟨a,e,h1,_⟩:=(hI.sf n).1 (d n v);omega
 have:=hI.fb;omega
structure MJ(W:SW)(U M:Az):Prop where
 inv:Ck W U M
 hk:Jw W.S
 se:Kt W.L
 em:W.em.length+W.R.length<=1099511627776
def MJ.KY{W:SW}{U M:Az}(h:MJ W U M):W.L.length<1099511627776:=by
 have:=h.inv.hI.KY (W.L.map (·.id)) h.se.nd λn d=>by
  obtain⟨x,j,rfl⟩:=List.mem_map.1 d;obtain⟨y,v,_⟩:=h.inv.it x j
  grind
 grind
def RN.len{W W':SW}{U M U' M':Az}{id:Int}{Cv gone:Bool}{n:Nat}(h:RN W U M id Cv n gone W' U' M'):W'.em.length+W'.R.length<=W.em.length+W.R.length:=by
 obtain⟨x,t,uw,-,-,y,-,-,-,j,d,v⟩:=h;have:=OS (u:=U id) (base:=x.2.base) (elem:=x.2.elem) (t:=⟨W.R,M id,W.em⟩) x.2.AM.toNat
 grind
def MJ.rem{W:SW}{U M:Az}(h:MJ W U M)(id:Int):MJ {W with L:=GZ W.L id} U M:=⟨h.inv.ofL λx d=>h.inv.it x (Fh.1 d).1,h.hk,ZM h.se id,h.em⟩
def kR(L:List DG):Nat:=(L.filter λx=> !x.FZ).length
def gV{L:List DG}(h:Kt L){x:DG}(d:x∈L)(hs:x.FZ=false):kR (GZ L x.id)+1=kR L:=by
 have:=((OQ h.nd d).filter λx=> !x.FZ).length_eq;unfold kR
 grind
def uN{L:List DG}{x:DG}(hs:x.FZ=true):kR (IM L x)=kR L:=by
 have:=((JU L x).filter λx=> !x.FZ).length_eq;unfold kR
 grind
section
variable{E:Env}{cb b h s r:Nat}{W:SW}{U M:Az}{Z:List Pr}{w:World}
def Sat.Zf{W':SW}{U' M':Az}{Y:List Pr}{w':World}(H:Sat (AS E b h s r W'::Y) w')(hI:Ck W' U' M')(he:W'.em.length+W'.R.length<=1099511627776):MJ W' U' M':=by
 obtain⟨R,h1,_⟩:=H.Ho;obtain⟨d,h2,_⟩:=H.PK;exact⟨hI,h1.A2,h2.uE,he⟩
end
inductive Qe:SW->Az->Az->Int->SW->Az->Az->Prop
 | done {W U M}:W.Za<=0->Qe W U M 0 W U M
 | empty {W U M}:0<W.Za->(∀x∈W.L,x.FZ=true)->Qe W U M 0 W U M
 | dS {W U M x y}:0<W.Za->Lv W.L x->W.S.sp x.id=some y->(∃i,M x.id i=true/\U x.id i=false)->Qe W U M 40 {W with L:=GZ W.L x.id} U M
 | go {W U M x n gone W1 U1 M1 e W' U' M'}:0<W.Za->Lv W.L x->RN {W with L:=GZ W.L x.id} U M x.id false n gone W1 U1 M1->MJ W1 U1 M1->0<=W1.En->Qe W1 U1 M1 e W' U' M'->Qe W U M e W' U' M'
def RN.kR{W W':SW}{U M U' M':Az}{id:Int}{gone Cv:Bool}{n:Nat}(h:RN W U M id Cv n gone W' U' M'):kR W'.L=kR W.L:=by
 obtain⟨x,t,uw,-,-,-,-,-,-,v,d,j⟩:=h;rcases j with ⟨_,_,_,e⟩|⟨_,_,_,_,_,e⟩|⟨_,_,_,_,e⟩<;>rw[e,d];exact uN rfl
structure Ou(W:SW):Prop where
 ch:0<=W.Bq/\W.Bq<18446744073709551616
 rp:0<=W.En/\W.En<18446744073709551616
def RN.num{W W':SW}{U M U' M':Az}{id:Int}{gone Cv:Bool}{n:Nat}(h:RN W U M id Cv n gone W' U' M')(d:Ou W):Ou W':=by
 obtain⟨x,t,uw,-,-,-,-,-,-,v,j,J⟩:=h;have y:0<=u64 (W.En+x.2.AA)/\u64 (W.En+x.2.AA)<18446744073709551616:=by rw[Ph];omega
 have e:W'.Bq=W.Bq/\W'.En=u64 (W.En+x.2.AA):=by grind
 exact⟨by rw[e.1];exact d.ch,by omega⟩
section
variable{E:Env}{b h s r:Nat}{W:SW}{U M:Az}{Z:List Pr}{w:World}
variable(hE:Mk E)
include hE
theorem VO(hT: ∀w',Sat Z w'->GL E.AN w')(H:Sat (AS E b h s r W::Z) w)(hI:MJ W U M)(hN:Ou W){K:Int->World->Prop}
  (hK: ∀e W' U' M',Qe W U M e W' U' M'->MJ W' U' M'->Ou W'-> ∀w',Sat (AS E b h s r W'::Z) w'->K e w'):F.Cn E (some ⟨b,0,none⟩) K w:=by
 unfold F.Cn T0.Cn;refine TA (λn _ w'=> ∃O U1 Y,MJ O U1 Y/\Ou O/\n=kR O.L/\(∀e W' U' M',Qe O U1 Y e W' U' M'->Qe W U M e W' U' M')/\Sat (AS E b h s r O::Z) w') _ ⟨W,U,M,hI,hN,rfl,λ_ _ _ _ h=>h,H⟩ ?_;rintro n _ _ w2 ⟨O,U1,Y,v,d,rfl,T,H2⟩;refine Rz H2 d.rp.1 λw5 H5=>AB (λhd=> ?_) λhd=>hK _ O U1 Y (T _ _ _ _ (.done (by omega))) v d w5 H5;refine N1 hE H5 v.inv (λaD w8 H8=>AU rfl (hK _ O U1 Y (T _ _ _ _ (.empty hd aD)) v d w8 H8)) λx hx aQ w8 H8=>AO rfl ?_;have aL:=gV v.se hx.1 hx.2.1;have J:=v.rem x.id;refine PN hE hT H8 J.inv J.KY J.em (λz hz=>(Fh.1 hz).2) (λhn=> ?_) (λz hz aJ w6 H6=> ?_) λn gone W2 U2 M2 j aH w6 H6=>AO rfl ?_
 .obtain⟨y,hy,_⟩:=v.inv.it x hx.1
  grind
 .exact AU rfl (hK _ _ _ _ (T _ _ _ _ (.dS hd hx hz aJ)) J ⟨d.ch,d.rp⟩ w6 H6)
 .have aB:=H6.Zf aH (Nat.le_trans j.len J.em);have aC:=j.num (W:={O with L:=GZ O.L x.id}) ⟨d.ch,d.rp⟩;refine⟨_,?_,W2,U2,M2,aB,aC,rfl,λe W' U' M' hc=>T _ _ _ _ (.go hd hx j aB aC.rp.1 hc),H6⟩;rw[j.kR]
  grind
end
end Go.Sh
namespace Go.Sh
open Ieee
def uO{x:Nat}(h:((Dq x 4895412794951729152==some .gt)||(Dq x 4895412794951729152==some .eq))=true):((Dq x 4607182418800017408==some .gt)||(Dq x 4607182418800017408==some .eq))=true:=by
 rw[QS,rd64]at h;rw[QS,rd1];generalize rd x=d at *
 cases d with
 | nan s t=>simp[Datum.order]at h
 | infinity s=>
  cases s
  .simp[Datum.order]
  .simp[Datum.order]at h
 | number s m i=>
  simp only[Datum.order]at h⊢;have q:=o9 h;rw[MD]at q;have key:signed false 4503599627370496 (-52-min i (-52)).toNat<=signed s m (i-min i (-52)).toNat:=by
   rw[MD];cases s with
   | true=>
    rw[Yy]at q;have:0<4503599627370496*2^(12-min i 12).toNat:=Nat.mul_pos (by decide) (Nat.pow_pos (by decide));omega
   | false=>
    rw[MD]at q⊢;have q:4503599627370496*2^(12-min i 12).toNat<=m*2^(i-min i 12).toNat:=by exact_mod_cast q
    suffices 4503599627370496*2^(-52-min i (-52)).toNat<=m*2^(i-min i (-52)).toNat by exact_mod_cast this
    by_cases h1:i<= -52
    .rw[Int.min_eq_left h1,show(i-i).toNat=0 by omega,Nat.pow_zero,Nat.mul_one];rw[Int.min_eq_left (by omega),show(i-i).toNat=0 by omega,Nat.pow_zero,Nat.mul_one]at q;exact Nat.le_trans (Nat.mul_le_mul_left _ (Nat.pow_le_pow_right (by decide) (by omega))) q
    .rw[Int.min_eq_right (by omega),show(-52- -52:Int).toNat=0 by decide,Nat.pow_zero,Nat.mul_one];by_cases h2:i<=12
     .rw[Int.min_eq_left h2,show(i-i).toNat=0 by omega,Nat.pow_zero,Nat.mul_one]at q;have a1:4503599627370496*1<=4503599627370496*2^(12-i).toNat:=Nat.mul_le_mul_left _ (Nat.pow_pos (by decide));have a2:m*1<=m*2^(i- -52).toNat:=Nat.mul_le_mul_left _ (Nat.pow_pos (by decide));omega
     .rw[Int.min_eq_right (by omega),show(12-12:Int).toNat=0 by decide,Nat.pow_zero,Nat.mul_one]at q;exact Nat.le_trans q (Nat.mul_le_mul_left _ (Nat.pow_le_pow_right (by decide) (by omega)))
  rcases Int.lt_or_eq_of_le key with g|g
  .have:compare (signed s m (i-min i (-52)).toNat) (signed false 4503599627370496 (-52-min i (-52)).toNat)= .gt:=by
    rw[Int.compare_eq_gt];exact g
   rw[this];rfl
  .have:compare (signed s m (i-min i (-52)).toNat) (signed false 4503599627370496 (-52-min i (-52)).toNat)= .eq:=by
    rw[Int.compare_eq_eq];exact g.symm
   rw[this];rfl
end Go.Sh
namespace Go.Sh
section
variable{E:Env}{Z:List Pr}{w:World}
def Zg(H:Sat Z w){n r:Int}{K:Int->World->Prop}(O: ∀w',Sat Z w'->K (timesV n r) w'):F.EM E n r K w:=by
 unfold F.EM T0.EM F.Eb T0.Eb F.EL;have main: ∀(x:Nat) w',Sat Z w'->(bif (Dq x 4895412794951729152==some .gt||Dq x 4895412794951729152==some .eq)then(18446744073709551615:Int)else bif (Dq x 4607182418800017408==some .gt||Dq x 4607182418800017408==some .eq)then(Qr x).getD 0 else 0)=timesV n r->
   CND (!(Dq x 4607182418800017408==some .gt||Dq x 4607182418800017408==some .eq)) (K 0 w')
    (CND ((Dq x 4895412794951729152==some .gt||Dq x 4895412794951729152==some .eq)) (K 18446744073709551615 w') (∃d:Int,Qr x=some d/\(IntKind.min .u64<=d/\d<=IntKind.max .u64)/\K d w')):=by
  intro x w' J e;have hk:=O w' J;refine I1 (AQ (λh1=>AQ (λh2=> ?_) λh2=> ?_) λh1=> ?_)
  .rw[h2]at e;rw[<-e]at hk;exact hk
  .obtain⟨k,j,T⟩:=W5 h1 (by grind);refine⟨k,j,⟨by show(0:Int)<=k;omega,by show(k:Int)<=18446744073709551615;omega⟩,?_⟩;rw[h2,h1,cond_false,cond_true,j]at e;rw[<-e]at hk;exact hk
  .have h2:(Dq x 4895412794951729152==some .gt||Dq x 4895412794951729152==some .eq)=false:=by
    cases c:(Dq x 4895412794951729152==some .gt||Dq x 4895412794951729152==some .eq)with
    | false=>rfl
    | true=>rw[uO c]at h1;cases h1
   grind
 have key:FRES (Kh .mul (NO n) r.toNat) w λv y=>
   CND (!(Dq v 4607182418800017408==some .gt||Dq v 4607182418800017408==some .eq)) (K 0 y)
    (CND ((Dq v 4895412794951729152==some .gt||Dq v 4895412794951729152==some .eq)) (K 18446744073709551615 y) (∃d:Int,Qr v=some d/\(IntKind.min .u64<=d/\d<=IntKind.max .u64)/\K d y)):=by
  cases hx:Kh .mul (NO n) r.toNat with
  | some x=>
   refine main x w H ?_;unfold timesV;rw[hx]
  | none=>
   intro t;refine main (iH t) w.drew H.drew ?_;rw[S8,S8,Ru hx];rfl
 exact key
end
def Fv(x:DG):(DU x).length=6:=rfl
def N4(x:DG): ∀v∈DU x,v.oneCell'=true:=by
 intro v d;simp only[DU,List.mem_cons,List.not_mem_nil,or_false]at d;rcases d with rfl|rfl|rfl|rfl|rfl|rfl<;>rfl
def HA(E:Env)(q:Nat)(L:List DG):Pr:=Ex λx:Aa×List DG=>Jx (x.2.Perm L) (NB [Cells q E.BR [Fo x.1],Row E.Aq 6 x.1 (Al DU x.2)])
section
variable{E:Env}{q:Nat}{L l:List DG}{Z:List Pr}{w:World}{s:Aa}
def Sat.RO:Sat (HA E q L::Z) w↔ ∃s l,l.Perm L/\Sat (Cells q E.BR [Fo s]::Row E.Aq 6 s (Al DU l)::Z) w:=by
 unfold HA;rw[Sat.ex];constructor
 .rintro⟨⟨s,l⟩,h⟩;rw[Sat.where,Sat.star]at h
  grind
 .rintro⟨s,l,h1,h2⟩;refine⟨⟨s,l⟩,?_⟩;rw[Sat.where,Sat.star]
  grind
def Zh{R:List Pr}(H:Sat (Cells q E.BR [Fo s]::R) w):w.cell? (Addr.mk q 0 none)=some (.slice s.base s.len s.cap):=H.Ah rfl
def rzSt{s':Aa}{R:List Pr}(H:Sat (Cells q E.BR [Fo s]::R) w){K:World->Prop}(d: ∀w',Sat (Cells q E.BR [Fo s']::R) w'->K w'):stCells (Addr.mk q 0 none) 0 [.slice s'.base s'.len s'.cap] w K:=
 CO H (o:=0) rfl (Nat.zero_lt_one) d
def V9(H:Sat (Row E.Aq 6 s (Al DU l)::Z) w):l.length=s.len/\s.len<=s.cap/\s.cap<9223372036854775808:=H.Gv (by decide) Fv
def dT(H:Sat (Row E.Aq 6 s (Al DU l)::Z) w){i:Nat}{x:DG}(y:l[i]? =some x): ∃b,s.base=some ⟨b,0,none⟩/\w.cell? ((Addr.mk b 0 none).add (i*6))=some (.int .i64 x.id)/\ ∀j v,(DU x)[j]? =some v->w.cell? (((Addr.mk b 0 none).add (i*6)).add j)=some v:=by
 obtain⟨b,d⟩:=H.FW (by decide) Fv (List.getElem?_eq_some_iff.1 y).1;refine⟨b,d,?_,λj v J=> ?_⟩
 .have:=H.Bh Fv d y (j:=0) rfl;omega
 .rw[add_add];exact H.Bh Fv d y J
def dU(H:Sat (HA E q L::Z) w)(x:DG)(hf:L.length<1099511627776){K:Int->World->Prop}
  (aH:M7 x.id x.kd.1-> ∀w',Sat (HA E q L::Z) w'->K 1 w')(aI: ¬M7 x.id x.kd.1->(∃y∈L,y.id=x.id∨y.base=x.base)-> ∀w',Sat (HA E q L::Z) w'->K 34 w')
  (aG: ¬M7 x.id x.kd.1->(∀y∈L,y.id≠x.id/\y.base≠x.base)-> ∀w',Sat (HA E q (IM L x)::Z) w'->K 0 w'):
  F.GV E (some ⟨q,0,none⟩) x.id x.base x.kd.1 x.kd.2.1 x.kd.2.2.1 x.kd.2.2.2 K w:=by
 unfold F.GV;obtain⟨s,l,hp,H1⟩:=Sat.RO.1 H;have aU:=hp.length_eq;refine AR (vs:=DU x) H1 λb1 w2 O _=> ?_;have v:M7 x.id x.kd.1->K 1 w2:=λh=>aH h w2 (Sat.RO.2 ⟨s,l,hp,O.tail⟩);refine AV ⟨x.id,O.Ah rfl,AB (λg j=>AU rfl (v (.inl g))) λg1=>⟨x.kd.1,O.cell rfl,AB (λg j=>AU rfl (v (.inr (.inl g)))) λg2=>⟨x.kd.1,O.cell rfl,λj=>AB (λg=>v (.inr (.inr (by omega)))) λg3=> ?_⟩⟩⟩;have aB: ¬M7 x.id x.kd.1:=by unfold M7;omega
 refine AH (λst w'=>Sat (Cells b1 E.Aq (DU x)::Cells q E.BR [Fo s]::Row E.Aq 6 s (Al DU l)::Z) w'/\ ∃i:Nat,st.1=(i:Int)/\i<=l.length/\ ∀(j:Nat) y,j<i->l[j]? =some y->y.id≠x.id/\y.base≠x.base)
  (λst _=>((l.length:Int)-st.1).toNat) ⟨O,0,rfl,Nat.zero_le _,λj y hj=>by omega⟩ ?_
 rintro⟨i',u⟩ _ aJ ⟨J,i,hi,aS,aT⟩;dsimp only at hi⊢;subst hi;have hl:=V9 (J.front 2 rfl);refine AF ⟨s,Zh (J.front 1 rfl),AB (λaA=> ?_) λaR=> ?_⟩
 .have d:=J.drew;obtain⟨y,hy⟩: ∃y,l[i]? =some y:=⟨_,List.getElem?_eq_getElem (by omega)⟩;obtain⟨b,hb,c0,c⟩:=dT (d.front 2 rfl) hy;have aC:y.id=x.id∨y.base=x.base->K 34 aJ.drew:=λh=>aI aB ⟨y,hp.mem_iff.1 (List.mem_of_getElem? hy),h⟩ _ (Sat.RO.2 ⟨s,l,hp,d.tail⟩);have hq:=Zh (d.front 1 rfl);refine AV (AF ⟨s,hq,?_⟩)
  try dsimp only
  rw[hb];refine AF ⟨⟨by omega,aA⟩,y.id,c0,x.id,d.Ah rfl,BF (λe j=>AU rfl (aC (.inl e))) λe1=>AF ⟨s,hq,?_⟩⟩
  try dsimp only
  rw[hb];refine AF ⟨⟨by omega,aA⟩,y.base,c 1 _ rfl,x.base,d.cell rfl,λj=>BF (λe=>aC (.inr e)) λe2=> ?_⟩;rw[AE (n:=(i:Int)+1)];refine⟨⟨d,i+1,by omega,by omega,λj z hj hz=> ?_⟩,by omega⟩
  grind
 .have d:=J.drew;have Y: ∀y∈L,y.id≠x.id/\y.base≠x.base:=λy hy=>by
   obtain⟨j,hj⟩:=List.mem_iff_getElem?.1 (hp.mem_iff.2 hy)
   grind
  refine AF ⟨s,Zh (d.front 1 rfl),_,d.cell rfl,_,d.cell rfl,_,d.cell rfl,_,d.cell rfl,_,d.cell rfl,_,d.cell rfl,?_⟩;refine AR (vs:=DU x) d.tail λaQ aV T _=>⟨Zh (T.front 1 rfl),?_⟩;refine EX (news:=DU x) (T.DR 1 rfl) rfl rfl (N4 x) (by omega) (by omega) λsF aW aE _=>AF ?_;refine rzSt (s':=sF) (aE.front 1 rfl) λaK aF=>aG aB Y aK (Sat.RO.2 ⟨sF,l++[x],?_,?_⟩)
  .exact List.perm_append_comm.trans ((List.Perm.cons x hp).trans (JU L x).symm)
  .rw[FN];exact aF
def dV(H:Sat (Cells q E.BR [Fo s]::Row E.Aq 6 s (Al DU l)::Z) w)(hf:l.length<1099511627777){i:Nat}(T:i<l.length){K:World->Prop}
  (Y: ∀s' w',Sat (Cells q E.BR [Fo s']::Row E.Aq 6 s' (Al DU (l.eraseIdx i))::Z) w'->K w'):F.GW E (some ⟨q,0,none⟩) i K w:=by
 unfold F.GW;have hl:=V9 (H.front 1 rfl);refine HI (n:=0) (z:=6) H rfl (by decide) λb1 w2 y=>AF ⟨s,Zh (y.front 1 rfl),⟨by omega,by omega⟩,?_⟩;rw[Int.toNat_natCast];refine Ep (x:=⟨F2 s.base s.cap 0 6,i,s.cap⟩) (news:=Al DU (l.take i)) y rfl ((y.front 2 rfl).OL (by decide) Fv (Nat.le_of_lt T)) (by rw[DQ Fv,List.length_take];grind) (GA N4 _) (by grind) (by grind) λs5 w6 j J=> ?_;rw[List.nil_append]at j;dsimp only at J;rw[AE (n:=(i:Int)+1)];refine AF ⟨s,Zh (j.front 1 rfl),⟨by omega,by omega⟩,?_⟩;rw[show Int.toNat ((i:Int)+1)=i+1 by omega];refine Ep (x:=⟨F2 s.base s.cap (i+1) 6,s.len-(i+1),s.cap-(i+1)⟩) (news:=Al DU (l.drop (i+1))) j rfl ((j.front 2 rfl).OM (by decide) Fv T) (by rw[DQ Fv,List.length_drop];grind) (GA N4 _) (by grind) (by grind) λs9 aA d _=> ?_;rw[<-FN,<-List.eraseIdx_eq_take_drop_succ]at d;refine AF (rzSt (s':=s9) (d.front 1 rfl) λO v=>Y s9 O (v.front 2 rfl).tail)
def NA(p:DG->Prop)(l:List DG)(i:Nat)(a:Int):Prop:=
 (a= -1/\ ∀(j:Nat) x,j<i->l[j]? =some x-> ¬p x)∨ ∃(m:Nat) (y:DG),a=(m:Int)/\m<i/\l[m]? =some y/\p y/\ ∀(j:Nat) x,j<i->l[j]? =some x->p x->y.base<=x.base
def NA.skip{p:DG->Prop}{i:Nat}{a:Int}(h:NA p l i a){x:DG}(K:l[i]? =some x)(hp: ¬p x):NA p l (i+1) a:=by
 have split: ∀(j:Nat) z,j<i+1->l[j]? =some z->(j<i∨z=x):=λj z v hz=>by grind
 rcases h with ⟨e,h⟩|⟨m,y,e,hm,J,h1,h2⟩
 .exact .inl ⟨e,λj z v hz=>(split j z v hz).elim (λg=>h j z g hz) λg=>g▸hp⟩
 .exact .inr ⟨m,y,e,by omega,J,h1,λj z v hz d=>(split j z v hz).elim (λg=>h2 j z g hz d) λg=>absurd (g▸d) hp⟩
def NA.Cv{p:DG->Prop}{i m:Nat}{y:DG}(h:NA p l i m)(v:l[m]? =some y){x:DG}(T:l[i]? =some x)(K:y.base<=x.base):NA p l (i+1) m:=by
 rcases h with ⟨e,h⟩|⟨m',Y,e,hm,d,h1,h2⟩
 .omega
 .have e:m=m':=by omega
  subst e;rw[v]at d;cases d;refine .inr ⟨m,y,rfl,by omega,v,h1,λj z O hz J=> ?_⟩
  grind
def NA.take{p:DG->Prop}{i:Nat}{a:Int}(h:NA p l i a){x:DG}(v:l[i]? =some x)(hp:p x)(J:a<0∨ ∀(m:Nat) y,a=m->l[m]? =some y->x.base<=y.base):NA p l (i+1) i:=by
 refine .inr ⟨i,x,rfl,by omega,v,hp,λj z K hz d=> ?_⟩;by_cases e:j=i
 .grind
 .rcases h with ⟨_,h⟩|⟨m,y,e,hm,O,h1,h2⟩
  .grind
  grind
def dW(H:Sat (HA E q L::Z) w)(hI:Kt L){id:Int}{K:Int->World->Prop}(Y:(∀x∈L,x.id≠id)-> ∀w',Sat (HA E q L::Z) w'->K 35 w')(T: ∀x∈L,x.id=id-> ∀w',Sat (HA E q (GZ L id)::Z) w'->K 0 w'):
  F.CF E (some ⟨q,0,none⟩) id K w:=by
 unfold F.CF T0.CF;obtain⟨s,l,hp,H1⟩:=Sat.RO.1 H;have aI:=hp.length_eq;have aC:=hI.KY;have hl:=V9 (H1.front 1 rfl);refine AH (λst w'=>w'=w/\ ∃i:Nat,st.1=(i:Int)/\i<=l.length/\ ∀(j:Nat) y,j<i->l[j]? =some y->y.id≠id) (λst _=>((l.length:Int)-st.1).toNat) ⟨rfl,0,rfl,Nat.zero_le _,λj y O=>by omega⟩ ?_;rintro⟨i',u⟩ _ w2 ⟨rfl,i,hi,aH,v⟩;dsimp only at hi⊢;subst hi;refine AF ⟨s,Zh H1,AB (λaA=>AF ⟨s,Zh H1,?_⟩) λaG=>Y (λx d=> ?_) w2 H⟩
 .obtain⟨x,d⟩: ∃x,l[i]? =some x:=⟨_,List.getElem?_eq_getElem (by omega)⟩;obtain⟨b,hb,c0,_⟩:=dT (H1.front 1 rfl) d;rw[hb];refine AF ⟨⟨by omega,aA⟩,x.id,c0,BF (λe=>dV H1 (by omega) (by omega) λs' w' H'=> ?_) λe=> ?_⟩
  .have J:x∈L:=hp.mem_iff.1 (List.mem_of_getElem? d);refine T x J e w' (Sat.RO.2 ⟨s',_,?_,H'⟩);rw[<-e];exact(((DX d).symm.trans hp).trans (OQ hI.nd J)).cons_inv
  .rw[AE (n:=(i:Int)+1)];refine⟨⟨rfl,i+1,by omega,by omega,λj y O hy=> ?_⟩,by omega⟩;by_cases ej:j=i
   .rw[ej,d]at hy;cases hy;exact e
   .exact v j y (by omega) hy
 .obtain⟨j,O⟩:=List.mem_iff_getElem?.1 (hp.mem_iff.2 d);exact v j x (by have:=(List.getElem?_eq_some_iff.1 O).1;omega) O
def XL(H:Sat (HA E q L::Z) w)(hI:Kt L){K:Int->Bool->World->Prop}(aE:(∀x∈L,x.FZ=true)-> ∀w',Sat (HA E q L::Z) w'->K 0 false w')(aF: ∀x,Lv L x-> ∀w',Sat (HA E q L::Z) w'->K x.id true w'):
  F.Fl E (some ⟨q,0,none⟩) K w:=by
 unfold F.Fl;obtain⟨s,l,hp,H1⟩:=Sat.RO.1 H;have aP:=hp.length_eq;have aI:=hI.KY;refine AH (λst w'=>Sat (Cells q E.BR [Fo s]::Row E.Aq 6 s (Al DU l)::Z) w'/\ ∃i:Nat,st.2.1=(i:Int)/\i<=l.length/\NA (λx=>x.FZ=false) l i st.1)
  (λst _=>((l.length:Int)-st.2.1).toNat) ⟨H1,0,rfl,Nat.zero_le _,.inl ⟨rfl,λj y hj=>by omega⟩⟩ ?_
 rintro⟨a,i',u⟩ _ w2 ⟨O,i,hi,aO,d⟩;dsimp only at hi d⊢;subst hi;have hl:=V9 (O.front 1 rfl);refine AF ⟨s,Zh O,AB (λaA=> ?_) λaN=> ?_⟩
 .obtain⟨x,v⟩: ∃x,l[i]? =some x:=⟨_,List.getElem?_eq_getElem (by omega)⟩;have T:=O.drew;obtain⟨b,hb,_,c⟩:=dT (T.front 1 rfl) v;rw[AE (n:=(i:Int)+1)];have J: ∀{a':Int},NA (λx=>x.FZ=false) l (i+1) a'->(Sat (Cells q E.BR [Fo s]::Row E.Aq 6 s (Al DU l)::Z) w2.drew/\ ∃j:Nat,(i:Int)+1=(j:Int)/\j<=l.length/\NA (λx=>x.FZ=false) l j a')/\((l.length:Int)-((i:Int)+1)).toNat<((l.length:Int)-(i:Int)).toNat:=
   λh=>⟨⟨T,i+1,by omega,by omega,h⟩,by omega⟩
  refine AV (AF ⟨s,Zh T,?_⟩);have ra:=λ(P:Addr->Prop) (h:P ⟨b,0,none⟩)=>show NC s.base P by rw[hb];exact AF h
  refine ra _ ⟨⟨by omega,aA⟩,x.FZ,c 5 _ rfl,AQ (λg1=> ?_) λg j=>AO rfl (J (d.skip v λe=>by grind))⟩;have hs:x.FZ=false:=by grind
  refine AB (λha j=>AU rfl (J (d.take v hs (.inl ha)))) λha=>AF ⟨s,Zh T,ra _ ⟨⟨by omega,aA⟩,x.base,c 1 _ rfl,AF ⟨s,Zh T,?_⟩⟩⟩;obtain⟨m,y,e,hm,Y⟩: ∃(m:Nat) (y:DG),a=(m:Int)/\m<i/\l[m]? =some y:=by
   rcases d with ⟨e,_⟩|⟨m,y,e,hm,Y,_⟩
   .omega
   grind
  subst e;obtain⟨b',aD,_,c'⟩:=dT (T.front 1 rfl) Y;rw[aD];refine AF ⟨⟨by omega,by omega⟩,y.base,c' 1 _ rfl,λj=>AB (λg=>J (d.take v hs (.inr λm' y' e aQ=> ?_))) λg=>J (d.Cv Y v (by omega))⟩
  grind
 .have e:i=l.length:=by omega
  subst e;refine AB (λha=>aE (λx v=> ?_) w2 (Sat.RO.2 ⟨s,l,hp,O⟩)) λha=>AF ⟨s,Zh O,?_⟩
  .rcases d with ⟨_,h⟩|⟨m,y,e,_⟩
   .obtain⟨j,hj⟩:=List.mem_iff_getElem?.1 (hp.mem_iff.2 v)
    grind
   .omega
  .rcases d with ⟨e,_⟩|⟨m,y,e,hm,Y,h1,h2⟩
   .omega
   subst e;obtain⟨b,hb,c0,_⟩:=dT (O.front 1 rfl) Y;rw[hb];refine AF ⟨⟨by omega,by omega⟩,y.id,c0,aF y ⟨hp.mem_iff.1 (List.mem_of_getElem? Y),h1,λx v h3=> ?_⟩ w2 (Sat.RO.2 ⟨s,l,hp,O⟩)⟩;obtain⟨j,hj⟩:=List.mem_iff_getElem?.1 (hp.mem_iff.2 v)
   grind
def PO(H:Sat (HA E q L::Z) w)(j:L.length<=1099511627776){sw:Bool}{K:Int->World->Prop}(hK:K ((Km L sw:Nat):Int) w):F.C6 E (some ⟨q,0,none⟩) sw K w:=by
 unfold F.C6;obtain⟨s,l,hp,H1⟩:=Sat.RO.1 H;have aA:=hp.length_eq;have hl:=V9 (H1.front 1 rfl);have hlen: ∀i,Km (l.take i) sw<=i:=λi=>Nat.le_trans (List.length_filter_le _ _) (by rw[List.length_take];omega);refine AH (λst w'=>w'=w/\ ∃i:Nat,st.2.1=(i:Int)/\i<=l.length/\st.1=(Km (l.take i) sw:Nat)) (λst _=>((l.length:Int)-st.2.1).toNat) ⟨rfl,0,rfl,Nat.zero_le _,rfl⟩ ?_;rintro⟨n,i',u⟩ _ w2 ⟨rfl,i,v,Y,y⟩;dsimp only at v y⊢;subst v;subst y;refine AF ⟨s,Zh H1,AB (λd=>AF ⟨s,Zh H1,?_⟩) λT=> ?_⟩
 .obtain⟨x,J⟩: ∃x,l[i]? =some x:=⟨_,List.getElem?_eq_getElem (by omega)⟩;obtain⟨b,O,_,c⟩:=dT (H1.front 1 rfl) J;rw[O];have h1:=hlen i;have e:Km (l.take (i+1)) sw=Km (l.take i) sw+if x.FZ==sw then 1 else 0:=by
   unfold Km;rw[List.take_succ,J,List.filter_append,List.length_append]
   grind
  rw[AE (n:=(i:Int)+1),AE (n:=(Km (l.take i) sw:Nat)+1)];refine AF ⟨⟨by omega,d⟩,x.FZ,c 5 _ rfl,AQ (λg=>⟨⟨rfl,i+1,by omega,by omega,by grind⟩,by omega⟩) λg=>⟨⟨rfl,i+1,by omega,by omega,by grind⟩,by omega⟩⟩
 .have e:Km (l.take i) sw=Km L sw:=by
   rw[List.take_of_length_le (by omega)];exact(hp.filter _).length_eq
  grind
def Zi(H:Sat (HA E q L::Z) w)(O:L.length<=1099511627776){K:Int->World->Prop}(aB:0<Km L false->K 33 w)(aA:(∀x∈L,x.FZ=true)-> ∀w',Sat (HA E q (Gh L)::Z) w'->K 0 w'):F.Cf E (some ⟨q,0,none⟩) K w:=by
 unfold F.Cf T0.Cf;refine PO H O (AB (λg=>aB (by omega)) λg=> ?_);have aD: ∀x∈L,x.FZ=true:=λx hx=>by simpa using V6 (L:=L) (sw:=false) (by omega) x hx
 obtain⟨s,l,hp,H1⟩:=Sat.RO.1 H;have aI:=hp.length_eq;refine AH (λst w'=> ∃i:Nat,st.1=(i:Int)/\i<=l.length/\Sat (Cells q E.BR [Fo s]::Row E.Aq 6 s (Al DU ((l.take i).map DG.flip++l.drop i))::Z) w') (λst _=>((l.length:Int)-st.1).toNat) ⟨0,rfl,Nat.zero_le _,H1⟩ ?_;rintro⟨i',u⟩ _ w4 ⟨i,hi,Y,v⟩;dsimp only at hi⊢;subst hi;have hl:=V9 (v.front 1 rfl);have hlen:((l.take i).map DG.flip++l.drop i).length=l.length:=by grind
 refine AF ⟨s,Zh v,AB (λaC=>AF ⟨s,Zh v,?_⟩) λaH=> ?_⟩
 .obtain⟨x,hx⟩: ∃x,l[i]? =some x:=⟨_,List.getElem?_eq_getElem (by omega)⟩;have d:((l.take i).map DG.flip++l.drop i)[i]? =some x:=by grind
  have T:((l.take i).map DG.flip++l.drop i).set i x.flip=(l.take (i+1)).map DG.flip++l.drop (i+1):=by
   rw[List.set_append_right _ _ (by rw[List.length_map,List.length_take];omega),List.length_map,List.length_take,Nat.min_eq_left Y,Nat.sub_self,List.take_succ,hx,List.map_append,List.append_assoc];congr 1;rw[List.drop_eq_getElem_cons (by omega:i<l.length)];rfl
  obtain⟨b,hb,_,_⟩:=dT (v.front 1 rfl) d;rw[hb];refine AF ⟨⟨by omega,aC⟩,?_⟩;rw[add_add];refine HE (v.front 1 rfl) (j:=i*6+5) rfl (by rw[DQ Fv,hlen];omega) hb λaJ J=> ?_;rw[Iu Fv (y:=x.flip) d (by decide) rfl,T]at J;rw[AE (n:=(i:Int)+1)];exact⟨⟨i+1,by omega,by omega,J.front 1 rfl⟩,by omega⟩
 .have e:i=l.length:=by omega
  subst e;rw[List.take_of_length_le (Nat.le_refl _),List.drop_of_length_le (Nat.le_refl _),List.append_nil]at v;exact aA aD w4 (Sat.RO.2 ⟨s,_,hp.map _,v⟩)
end
def E5(E:Env)(r:Nat)(R:List Rc):Pr:=Ex λs:Aa=>Jx (Lk R) (NB [Cells r E.BU [Fo s],Row E.AI 3 s (Al HU R)])
section
variable{E:Env}{q:Nat}{R:List Rc}{Z:List Pr}{w:World}{s:Aa}
def Sat.RP:Sat (E5 E q R::Z) w↔Lk R/\ ∃s,Sat (Cells q E.BU [Fo s]::Row E.AI 3 s (Al HU R)::Z) w:=by
 unfold E5;rw[Sat.ex];constructor
 .rintro⟨s,h⟩;rw[Sat.where,Sat.star]at h
  grind
 .rintro⟨h1,s,h2⟩;refine⟨s,?_⟩;rw[Sat.where,Sat.star]
  grind
def Zj{Y:List Pr}(H:Sat (Cells q E.BU [Fo s]::Y) w):w.cell? (Addr.mk q 0 none)=some (.slice s.base s.len s.cap):=H.Ah rfl
def rcSt{s':Aa}{Y:List Pr}(H:Sat (Cells q E.BU [Fo s]::Y) w){K:World->Prop}(d: ∀w',Sat (Cells q E.BU [Fo s']::Y) w'->K w'):stCells (Addr.mk q 0 none) 0 [.slice s'.base s'.len s'.cap] w K:=
 CO H (o:=0) rfl (Nat.zero_lt_one) d
def Ov(H:Sat (Row E.AI 3 s (Al HU R)::Z) w):R.length=s.len/\s.len<=s.cap/\s.cap<9223372036854775808:=H.Gv (by decide) Dy
def pS(H:Sat (Row E.AI 3 s (Al HU R)::Z) w){i:Nat}{x:Rc}(y:R[i]? =some x): ∃b,s.base=some ⟨b,0,none⟩/\w.cell? ((Addr.mk b 0 none).add (i*3))=some (.int .u64 x.addr)/\ ∀j v,(HU x)[j]? =some v->w.cell? (((Addr.mk b 0 none).add (i*3)).add j)=some v:=by
 obtain⟨b,d⟩:=H.FW (by decide) Dy (List.getElem?_eq_some_iff.1 y).1;refine⟨b,d,?_,λj v J=> ?_⟩
 .have:=H.Bh Dy d y (j:=0) rfl;omega
 .rw[add_add];exact H.Bh Dy d y J
def R6(hI:Lk R)(H:Sat (Cells q E.BU [Fo s]::Row E.AI 3 s (Al HU R)::Z) w){a k:Int}{K:Int->Bool->World->Prop}
  (hK: ∀(i:Nat) (ok:Bool),i<=R.length->(∀(j:Nat) x,j<i->R[j]? =some x->x.addr<a∨x.addr=a/\x.kind<k)->(∀x,R[i]? =some x-> ¬(x.addr<a∨x.addr=a/\x.kind<k))->(ok=true↔ ∃x,R[i]? =some x/\x.addr=a/\x.kind=k)->
   ∀w',Sat (Cells q E.BU [Fo s]::Row E.AI 3 s (Al HU R)::Z) w'->K i ok w'):F.Dr E (some ⟨q,0,none⟩) a k K w:=by
 unfold F.Dr;have aE:=hI.KY;have hl:=Ov (H.front 1 rfl);refine AV (AH (λst w'=>w'=w/\ ∃i:Nat,st.1=(i:Int)/\i<=R.length/\ ∀(j:Nat) x,j<i->R[j]? =some x->x.addr<a∨x.addr=a/\x.kind<k) (λst _=>((R.length:Int)-st.1).toNat) ⟨rfl,0,rfl,Nat.zero_le _,λj x hj=>by omega⟩ ?_);rintro⟨i',u⟩ _ w5 ⟨rfl,i,hi,J,O⟩;dsimp only at hi⊢;subst hi;have v:=H.drew;rw[AE (n:=(i:Int)+1)];refine AV (Cu ⟨s,Zj H,AB (λg=>Cu ⟨s,Zj H,?_⟩) λg=> ?_⟩)
 .obtain⟨x,hx⟩: ∃x,R[i]? =some x:=⟨_,List.getElem?_eq_getElem (by omega)⟩;obtain⟨b,hb,c0,c⟩:=pS (H.front 1 rfl) hx;obtain⟨b',aB,d0,d⟩:=pS (v.front 1 rfl) hx;have ra:=λ(P:Addr->Prop) (h:P ⟨b,0,none⟩)=>show NC s.base P by rw[hb];exact Cu h
  have T:=λ(P:Addr->Prop) (h:P ⟨b',0,none⟩)=>show NC s.base P by rw[aB];exact Cu h
  have Y:(x.addr<a∨x.addr=a/\x.kind<k)->(w5=w5/\ ∃j:Nat,(i:Int)+1=(j:Int)/\j<=R.length/\ ∀(j':Nat) y,j'<j->R[j']? =some y->y.addr<a∨y.addr=a/\y.kind<k)/\((R.length:Int)-((i:Int)+1)).toNat<((R.length:Int)-(i:Int)).toNat:=λh=>by
   refine⟨⟨rfl,i+1,by omega,by omega,λj y hj hy=> ?_⟩,by omega⟩
   grind
  refine ra _ ⟨⟨by omega,g⟩,x.addr,c0,AB (λh j=>Y (.inl h)) λh1=>Cu ⟨s,Zj H,ra _ ⟨⟨by omega,g⟩,x.addr,c0,BF (λe=>Cu ⟨s,Zj H,ra _ ⟨⟨by omega,g⟩,x.kind,c 1 _ rfl,AB (λh j=>Y (.inr ⟨e,h⟩)) λh2 j=> ?_⟩⟩) λe j=> ?_⟩⟩⟩
  .refine Cu ⟨s,Zj v,AU (by grind) (Cu ⟨s,Zj v,T _ ⟨⟨by omega,g⟩,x.addr,d0,AU (by grind) (Cu ⟨s,Zj v,T _ ⟨⟨by omega,g⟩,x.kind,d 1 _ rfl,hK i _ J O (λy hy=> ?_) ?_ _ v⟩⟩)⟩⟩)⟩
   .grind
   grind
  .refine Cu ⟨s,Zj v,AU (by grind) (Cu ⟨s,Zj v,T _ ⟨⟨by omega,g⟩,x.addr,d0,AO (by grind) (hK i _ J O (λy hy=> ?_) ?_ _ v)⟩⟩)⟩
   .grind
   grind
 .refine λj=>Cu ⟨s,Zj v,AO (by grind) (hK i _ J O (λy hy=> ?_) ?_ _ v)⟩
  .grind
  grind
def Ow(H:Sat (E5 E q R::Z) w){a k:Int}{K:Int->Int->World->Prop}(aE:(∀x∈R,¬(x.addr=a/\x.kind=k))-> ∀w',Sat (E5 E q R::Z) w'->K 0 35 w')
  (aF: ∀A y B,R=A++y::B->y.addr=a->y.kind=k-> ∀w',Sat (E5 E q (A++B)::Z) w'->K y.data 0 w'):F.Av E (some ⟨q,0,none⟩) a k K w:=by
 unfold F.Av T0.Av;obtain⟨hI,s,H1⟩:=Sat.RP.1 H;have aJ:=hI.KY;refine R6 hI H1 λi ok aO hb ha A2 w3 O=> ?_;have hl:=Ov (O.front 1 rfl);cases ok with
 | false=>
  refine AU rfl (aE (λx Y he=> ?_) w3 (Sat.RP.2 ⟨hI,s,O⟩));obtain⟨j,hj⟩:=List.mem_iff_getElem?.1 Y;have aP:=(List.getElem?_eq_some_iff.1 hj).1;rcases Nat.lt_trichotomy j i with c|c|c
  .grind
  .grind
  .obtain⟨y,v⟩: ∃y,R[i]? =some y:=⟨_,List.getElem?_eq_getElem (by omega)⟩;have h1:=ha y v;have h2:y.key<x.key:=hI.HT.lt v hj c;have h3:=hI.kd y (List.mem_of_getElem? v);have h4:=hI.kd x Y;unfold Rc.key at h2;omega
 | true=>
  obtain⟨y,v,e1,e2⟩:=A2.1 rfl;have hi:=(List.getElem?_eq_some_iff.1 v).1;obtain⟨b,aC,_,c⟩:=pS (O.front 1 rfl) v;refine AO rfl (Cu ⟨s,Zj O,?_⟩);have ra:=λ(P:Addr->Prop) (h:P ⟨b,0,none⟩)=>show NC s.base P by rw[aC];exact Cu h
  refine ra _ ⟨⟨by omega,by omega⟩,y.data,c 2 _ rfl,HI (n:=0) (z:=3) O rfl (by decide) λb8 w9 H9=>Cu ⟨s,Zj (H9.front 1 rfl),⟨by omega,by omega⟩,?_⟩⟩;rw[Int.toNat_natCast];refine Ep (x:=⟨F2 s.base s.cap 0 3,i,s.cap⟩) (news:=Al HU (R.take i)) H9 rfl ((H9.front 2 rfl).OL (by decide) Dy (Nat.le_of_lt hi)) (by rw[DQ Dy,List.length_take];grind) (GA Ic _) (by grind) (by grind) λs5 w6 T aG=> ?_;rw[List.nil_append]at T;dsimp only at aG;rw[AE (n:=(i:Int)+1)];refine Cu ⟨s,Zj (T.front 1 rfl),⟨by omega,by omega⟩,?_⟩;rw[show Int.toNat ((i:Int)+1)=i+1 by omega];refine Ep (x:=⟨F2 s.base s.cap (i+1) 3,s.len-(i+1),s.cap-(i+1)⟩) (news:=Al HU (R.drop (i+1))) T rfl ((T.front 2 rfl).OM (by decide) Dy hi) (by rw[DQ Dy,List.length_drop];grind) (GA Ic _) (by grind) (by grind) λs9 aR J _=> ?_;rw[<-FN]at J;have hR:R=R.take i++y::R.drop (i+1):=by
   conv=>lhs;rw[<-List.take_append_drop i R,List.drop_eq_getElem_cons hi]
   grind
  refine Cu (rcSt (s':=s9) (J.front 1 rfl) λaH aA=>aF _ y _ hR e1 e2 aH (Sat.RP.2 ⟨?_,s9,(aA.front 2 rfl).tail⟩));have d:List.Sublist (R.take i++R.drop (i+1)) R:=by
   conv=>rhs;rw[hR]
   grind
  exact⟨List.Pairwise.sublist d hI.HT,λx Y=>hI.kd x (d.subset Y),Nat.le_trans d.length_le hI.KY⟩
def kS(H:Sat (E5 E q R::Z) w){a:Int}{K:Aa->World->Prop}(hK: ∀s w',Sat (Row E.AI 3 s (Al HU (PJ R a))::E5 E q R::Z) w'->K s w'):F.FU E (some ⟨q,0,none⟩) a K w:=by
 unfold F.FU;obtain⟨hI,s,H1⟩:=Sat.RP.1 H;have J:=hI.KY;refine AH (λst w'=> ∃i:Nat,st.2.1=(i:Int)/\i<=R.length/\Sat (Row E.AI 3 st.1 (Al HU (PJ (R.take i) a))::Cells q E.BU [Fo s]::Row E.AI 3 s (Al HU R)::Z) w') (λst _=>((R.length:Int)-st.2.1).toNat) ⟨0,rfl,Nat.zero_le _,H1.nil E.AI 3⟩ ?_;rintro⟨o,i',u⟩ _ w2 ⟨i,O,aD,d⟩;dsimp only at O d⊢;subst O;have hl:=Ov (d.front 2 rfl);have aE:=Ov d;have y:=Zj (d.front 1 rfl);refine Cu ⟨s,y,AB (λg=>Cu ⟨s,y,?_⟩) λg=> ?_⟩
 .obtain⟨x,T⟩: ∃x,R[i]? =some x:=⟨_,List.getElem?_eq_getElem (by omega)⟩;obtain⟨b,hb,c0,c⟩:=pS (d.front 2 rfl) T;have Y:=λ(P:Addr->Prop) (h:P ⟨b,0,none⟩)=>show NC s.base P by rw[hb];exact Cu h
  have e:PJ (R.take (i+1)) a=PJ (R.take i) a++if x.addr==a then [x]else []:=by
   unfold PJ;rw[List.take_succ,T,List.filter_append]
   grind
  have aF:(PJ (R.take i) a).length<=i:=Nat.le_trans (List.length_filter_le _ _) (by rw[List.length_take];omega);rw[AE (n:=(i:Int)+1)];refine Y _ ⟨⟨by omega,g⟩,x.addr,c0,AQ (λht=>Cu ⟨s,y,Y _ ⟨⟨by omega,g⟩,_,c 0 _ rfl,_,c 1 _ rfl,_,c 2 _ rfl,?_⟩⟩) λhf=>⟨⟨i+1,by omega,by omega,?_⟩,by omega⟩⟩
  .refine AR (vs:=HU x) d λaA aH j _=>EX (news:=HU x) j rfl rfl (Ic x) (by omega) (by omega) λsG aI v _=>⟨⟨i+1,by omega,by omega,?_⟩,by omega⟩;rw[e,if_pos ht,FN];rw[show Al HU [x]=HU x by simp[Al]];exact v
  .rw[e,if_neg (by grind),List.append_nil];exact d
 .rw[List.take_of_length_le (by omega)]at d;exact hK o w2 ((Sat.RP.2 ⟨hI,s,(d.front 1 rfl).DR 1 rfl⟩).front 1 rfl)
def pT(hI:Lk R)(a:Int): ∃A C,R=A++(PJ R a++C)/\Oa R a=A++C:=by
 have hs: ∃A B,R=A++B/\(∀x∈A,x.key<4*a+0)/\ ∀x∈B,4*a+0<=x.key:=by
  refine⟨R.take (pos Rc.key R (4*a)),R.drop (pos Rc.key R (4*a)),(List.take_append_drop _ _).symm,λx d=> ?_,λx d=> ?_⟩
  .have:=(K0 d).2;omega
  .have:=(K1 hI.HT d).2;omega
 obtain⟨A,B,K,y,J⟩:=hs;subst K;obtain⟨j,v⟩:=pP hI y J;exact⟨A,_,by rw[<-j,List.takeWhile_append_dropWhile],v.symm⟩
def Zk(H:Sat (E5 E q R::Z) w){a:Int}{K:Aa->World->Prop}(hK: ∀s w',Sat (Row E.AI 3 s (Al HU (PJ R a))::E5 E q (Oa R a)::Z) w'->K s w'):F.BK E (some ⟨q,0,none⟩) a K w:=by
 unfold F.BK T0.BK;have hI:=(Sat.RP.1 H).1;obtain⟨A,C,hR,hN⟩:=pT hI a;have Y: ∀y∈PJ R a,y.addr=a:=λy hy=>by simpa using(List.mem_filter.1 hy).2
 refine kS H λs w2 H2=> ?_;generalize PJ R a=T at *
 rw[hN]at hK;subst hR;have O:=hI.KY;simp only[List.length_append]at O;refine AH (λst w'=> ∃i:Nat,st.1=(i:Int)/\i<=T.length/\Sat (Row E.AI 3 s (Al HU T)::E5 E q (A++(T.drop i++C))::Z) w') (λst _=>((T.length:Int)-st.1).toNat) ⟨0,rfl,Nat.zero_le _,H2⟩ ?_;rintro⟨i',u⟩ _ w4 ⟨i,hi,aM,j⟩;dsimp only at hi⊢;subst hi;have hl:=Ov j;refine AB (λg=> ?_) λg=> ?_
 .obtain⟨y,hy⟩: ∃y,T[i]? =some y:=⟨_,List.getElem?_eq_getElem (by omega)⟩;obtain⟨b,hb,_,c⟩:=pS j hy;have ra:=λ(P:Addr->Prop) (h:P ⟨b,0,none⟩)=>show NC s.base P by rw[hb];exact Cu h
  have hd:T.drop i=y::T.drop (i+1):=by
   rw[List.drop_eq_getElem_cons (by omega:i<T.length),(List.getElem?_eq_some_iff.1 hy).2]
  have H5:=j.front 1 rfl;rw[hd]at H5;have v:=(Sat.RP.1 H5).1;have aC:y∈A++(y::T.drop (i+1)++C):=by simp
  have ha:=Y y (List.mem_of_getElem? hy);rw[AE (n:=(i:Int)+1)];refine ra _ ⟨⟨by omega,g⟩,y.kind,c 1 _ rfl,Ow H5 (λh=>absurd ⟨ha,rfl⟩ (h y aC)) λA' z B' J h1 h2 aP d=>⟨⟨i+1,by omega,by omega,?_⟩,by omega⟩⟩;have e:z=y:=v.HT.inj (by rw[J];simp) aC (by unfold Rc.key;omega);subst e;have aA:=v.HT;have e2: ∀{A1 B1:List Rc},A++(z::T.drop (i+1)++C)=A1++z::B1->A1++B1=(A++(z::T.drop (i+1)++C)).filter λy=>decide (y.key≠z.key):=λ{A1 B1} h=>by
   rw[h]at aA⊢;have hp:=List.pairwise_append.1 aA;rw[List.filter_append,List.filter_cons_of_neg (by simp),List.filter_eq_self.2,List.filter_eq_self.2]
   .exact λx hx=>by have:=(List.pairwise_cons.1 hp.2.1).1 x hx;simp;omega
   grind
  rw[e2 J,<-e2 (A1:=A) (B1:=T.drop (i+1)++C) rfl]at d;exact d.front 1 rfl
 .rw[show i=T.length by omega,List.drop_length,List.nil_append]at j;exact hK s w4 j
end
def one(c:Int):TV:=TV.nil.grow c 1
section
variable{E:Env}(hE:EnvS E){w:World}{Z:List Pr}
include hE
end
section
variable{l:Iv}{fr md to s m e s' m' e':Int}
end
def Win(vs:List Value)(o:Nat)(u:Int->Bool):Prop:=o+512<=vs.length/\ ∀k:Int,0<=k->k<512->vs[o+k.toNat]? =some (.bool (u k))
section
variable{E:Env}{w:World}{Z:List Pr}{b t o:Nat}{vs:List Value}{u:Int->Bool}
def R9{i n:Int}(J: -9223372036854775808<=i)(y:i<9223372036854775808){K:Bool->World->Prop}
  (j:0<=i->0<=n->i+n<=512->K true w)(d: ¬(0<=i/\0<=n/\i+n<=512)->K false w):F.Gq E i n K w:=by
 unfold F.Gq;refine AB (λh1=>AB (λh2=>AB (λv=> ?_) λv=>d (by omega)) λh2=>d (by omega)) λh1=>d (by omega);rw[AE];by_cases g:n<=512-i
 .rw[decide_eq_true g];exact j h1 h2 (by omega)
 .rw[decide_eq_false g];exact d (by omega)
def kT(H:Sat (Cells b t vs::Z) w)(hl:o+512<=vs.length){i n:Int}(h0:0<=i)(h1:0<=n)(h2:i+n<=512)(x:Bool){K:Int->World->Prop}
  (hK: ∀w' d,d.length=vs.length->(∀j,d[j]? =if o+i.toNat<=j/\j<o+(i+n).toNat then some (.bool x)else vs[j]?)->Sat (Cells b t d::Z) w'->K 0 w'):
  F.Df E (some ⟨b,o,none⟩) i n x K w:=by
 unfold F.Df T0.Df;refine R9 (by omega) (by omega) (λ_ _ _=>AO rfl ?_) λh=>absurd ⟨h0,h1,h2⟩ h;simp only[AG,Nat.mul_one];rw[AE (n:=i+n)];refine AH (λst w'=>i<=st.1/\st.1<=i+n/\ ∃d,d.length=vs.length/\(∀j,d[j]? =if o+i.toNat<=j/\j<o+st.1.toNat then some (.bool x)else vs[j]?)/\Sat (Cells b t d::Z) w') (λst _=>(i+n-st.1).toNat)
  ⟨Int.le_refl _,by omega,vs,rfl,λj=>by grind,H⟩ ?_
 rintro⟨k,v⟩ _ w4 ⟨k0,k1,d,Y,y,J⟩;simp only at k0 k1 y⊢;refine AB (λaA=>⟨⟨by omega,by omega⟩,?_⟩) λT=> ?_
 .rw[AE (n:=k+1)];refine AZ J rfl (by omega) λw7 O=>⟨⟨by omega,by omega,_,by grind,λj=> ?_,O⟩,by omega⟩;rw[List.getElem?_set,y]
  grind
 .have e:k=i+n:=by omega
  grind
def Zl(H:Sat (Cells b t vs::Z) w)(hu:Win vs o u){K:Int->World->Prop}(j:K (cu u 512) w):F.C3 E (some ⟨b,o,none⟩) 0 512 K w:=by
 unfold F.C3 T0.C3;refine R9 (by omega) (by omega) (λ_ _ _=>AO rfl ?_) λh=>absurd ⟨by omega,by omega,by omega⟩ h;simp only[AG,Nat.mul_one];rw[AE (n:=0+512)];refine AH (λst w'=> ∃k:Nat,st.2.1=(k:Int)/\k<=512/\st.1=cu u k/\w'=w) (λst _=>(512-st.2.1).toNat) ⟨0,rfl,by decide,rfl,rfl⟩ ?_;rintro⟨c,i,v⟩ _ w4 ⟨k,hk,O,d,rfl⟩;simp only at hk d⊢;subst hk;subst d;have Y:=oC u k;refine AB (λT=> ?_) λJ=> ?_
 .have y:=hu.2 k (by omega) (by omega);refine⟨⟨by omega,by omega⟩,u k,H.cell y,?_⟩;rw[AE (n:=cu u k+1),AE (n:=(k:Int)+1)];refine AQ (λe=>⟨⟨k+1,by omega,by omega,?_,by trivial⟩,by omega⟩) λe=>⟨⟨k+1,by omega,by omega,?_,by trivial⟩,by omega⟩
  .simp[cu,e]
  .simp[cu,e]
 .have:k=512:=by omega
  subst this;exact j
end
def sum3(x:Int×Int×Int):List Value:=[.int .i64 x.1,.int .i64 x.2.1,.int .i64 x.2.2]
def xW(L:List (Int×Int×Int)):List Value:=L.flatMap sum3
section
variable{E:Env}{w:World}{Z:List Pr}
variable{a:Aa}{L:List (Int×Int×Int)}{l:Iv}{fr P:Int}
end
end Go.Sh

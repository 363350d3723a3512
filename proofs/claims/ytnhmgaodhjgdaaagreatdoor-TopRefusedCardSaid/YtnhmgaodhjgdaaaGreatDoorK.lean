/- What the law's functions do. No further condition. -/
import Derived.Test.YtnhmgaodhjgdaaaGreatDoorL
import Derived.Test.YtnhmgaodhjgdaaaGreatDoorH
import Derived.Test.YtnhmgaodhjgdaaaGreatDoorA
import Derived.Test.YtnhmgaodhjgdaaaGreatDoorC
import Derived.Test.YtnhmgaodhjgdaaaGreatDoorS
import Derived.Test.YtnhmgaodhjgdaaaGreatDoorF
import Derived.Test.YtnhmgaodhjgdaaaGreatDoorQ
import Derived.Test.YtnhmgaodhjgdaaaGreatDoorM
set_option linter.all false
set_option maxRecDepth 50000
set_option maxHeartbeats 8000000
namespace Go.Sh
def AH{a:Addr}{K:Addr->Prop}(h:K a):NC (some a) K:=by rw[AK];exact h
def ED(U:Nat->Bool)(k:Nat):Int:=W λi=>U (64*k+i)
def Dl(U:Nat->Bool)(n:Nat):List Int:=(List.range n).map (ED U)
def Lg(uw:List Int)(U:Nat->Bool):Prop:=uw=Dl U uw.length/\ ∀i,64*uw.length<=i->U i=false
def FD(U:Nat->Bool)(n:Nat):(Dl U n).length=n:=by simp[Dl]
def Pz{U:Nat->Bool}{n k:Nat}(h:k<n):(Dl U n)[k]? =some (ED U k):=by simp[Dl,h]
def lA{uw:List Int}{U:Nat->Bool}(h:Lg uw U){k:Nat}(a:k<uw.length):(ints .u64 uw)[k]? =some (.int .u64 (ED U k)):=by
 rw[h.1];exact Nu (Pz a)
def RC{U:Nat->Bool}{n:Nat}(h: ∀i,64*n<=i->U i=false):Lg (Dl U n) U:=by
 refine⟨by rw[FD],?_⟩;rw[FD];exact h
def Ry{U:Nat->Bool}(h: ∀i,U i=false):Lg [] U:=⟨rfl,λi _=>h i⟩
def XP{U V:Nat->Bool}{n:Nat}(h: ∀i,i<64*n->U i=V i):Dl U n=Dl V n:=by
 unfold Dl ED;refine List.map_congr_left λk a=> ?_;rw[List.mem_range]at a;exact HM λi hi=>h _ (by omega)
def Uq{U V:Nat->Bool}{n k:Nat}(h: ∀i,i/64≠k->U i=V i):(Dl U n).set k (ED V k)=Dl V n:=by
 apply List.ext_getElem?;intro j;rw[List.getElem?_set];by_cases hj:j<n
 .rw[Pz hj,Pz hj,FD];by_cases e:k=j
  .grind
  .rw[if_neg e];unfold ED;congr 1;exact HM λi hi=>h _ (by omega)
 .rw[List.getElem?_eq_none (l:=Dl V n) (by rw[FD];omega),List.getElem?_eq_none (l:=Dl U n) (by rw[FD];omega),FD]
  grind
def ZO{U:Nat->Bool}{n:Nat}(h: ∀i,64*n<=i->U i=false):Dl U n++[0]=Dl U (n+1):=by
 unfold Dl;rw[List.range_succ,List.map_append];congr 1;have:ED U n=0:=by
  unfold ED;exact Hp.2 λi _=>h _ (by omega)
 grind
def gdiv{n:Nat}:Int.fdiv (n:Int) (2^(min (Int.toNat 6) (IntKind.bits .i64)))=((n/64:Nat):Int):=by
 rw[show(2:Int)^(min (Int.toNat 6) (IntKind.bits .i64))=64 by decide,Int.fdiv_eq_ediv_of_nonneg _ (by decide)];omega
def gmod{n:Nat}(h:n<9223372036854775808):DQ .i64 0 (n:Int) 63=((n %64:Nat):Int):=by
 show IntKind.wrap .i64 ((BitVec.ofInt 64 (n:Int)&&&BitVec.ofInt 64 63).toNat:Int)=_;have a:(BitVec.ofInt 64 (n:Int)).toNat=n:=by
  rw[BitVec.toNat_ofInt];omega
 have d:(BitVec.ofInt 64 63).toNat=63:=by decide
 rw[BitVec.toNat_and,a,d,show(63:Nat)=2^6-1 from rfl,Nat.and_two_pow_sub_one_eq_mod];have:n %2^6<64:=Nat.mod_lt _ (by decide);exact AI
def gshl{n:Nat}(h:n<1099511627776):i64 ((n:Int)*2^(min (Int.toNat 6) (IntKind.bits .i64)))=((64*n:Nat):Int):=by
 rw[show(2:Int)^(min (Int.toNat 6) (IntKind.bits .i64))=64 by decide,AI];omega
section
variable{E:Env}{w:World}{Z:List Pr}{s:AW}{uw:List Int}{U:Nat->Bool}
def HW(H:Sat (Row E.AE 1 s (ints .u64 uw)::Z) w):uw.length=s.len/\s.len<=s.cap/\s.cap<9223372036854775808:=by
 have a:=H.Bs;simp only[ints,List.length_map]at a;exact⟨by omega,H.own.cap,H.own.top⟩
def JK(H:Sat (Row E.AE 1 s (ints .u64 uw)::Z) w)(d:Lg uw U){k:Nat}(e:k<uw.length): ∃b,s.base=some ⟨b,0,none⟩/\w.cell? ((Addr.mk b 0 none).add (k*1))=some (.int .u64 (ED U k)):=by
 have h:=HW H;obtain⟨b,a⟩:=H.own.Gj (by omega);exact⟨b,a,by rw[Nat.mul_one];exact H.own.cell a (lA d e)⟩
def Ur(H:Sat (Row E.AE 1 s (ints .u64 uw)::Z) w)(d:Lg uw U){n:Nat}(v:n<1099511627776){K:Bool->World->Prop}(a:K (U n) w):F.Iz E s n K w:=by
 unfold F.Iz;have u:=HW H;rw[gdiv,gmod (by omega)];refine⟨by decide,AG (λg=>⟨by decide,?_⟩) λg=> ?_⟩
 .obtain⟨b,e,m⟩:=JK H d (k:=n/64) (by omega);rw[e,Int.toNat_natCast];simp only[AK];refine⟨⟨by omega,by omega⟩,_,m,by omega,?_⟩;unfold ED;rw[W_get _ (by omega) (by omega),Int.toNat_natCast,show 64*(n/64)+n %64=n by omega];cases hu:U n
  .rw[hu]at a;exact a
  .rw[hu]at a;exact a
 .rw[d.2 n (by omega)]at a;exact a
def ZP(hT:DJ E.AB w)(H:Sat (Row E.AE 1 s (ints .u64 uw)::Z) w)(O:Lg uw U){n:Nat}(hn:n<1099511627776)(hs:s.len<1099511627776){K:Int->World->Prop}
  (J: ∀r:Nat,n<=r->U r=false->(∀i,n<=i->i<r->U i=true)->K r w):F.Eu E s n K w:=by
 unfold F.Eu T0.Eu;have hl:=HW H;rw[gdiv,gmod (by omega),dA (by omega)];refine⟨by decide,Ac λk v=> ?_⟩;subst v;refine AM (λst w'=>w'=w/\ ∃k:Nat,st.1=(k:Int)/\n/64<=k/\(k<=uw.length∨k=n/64)/\ ∀i,n<=i->i<64*k->U i=true) (λst _=>((uw.length:Int)-st.1).toNat) ⟨rfl,n/64,rfl,Nat.le_refl _,.inr rfl,λi h1 h2=>by omega⟩ ?_;rintro⟨k',u⟩ _ w3 ⟨rfl,k,v,k1,k2,k3⟩;dsimp only at v⊢;subst v;refine AG (λg=> ?_) λg=>⟨by decide,Ac λt d=> ?_⟩
 .obtain⟨b,hb,hc⟩:=JK H O (k:=k) (by omega);rw[hb];simp only[AK];refine⟨⟨by omega,by omega⟩,_,by rw[Int.toNat_natCast];exact hc,?_⟩;have main: ∀V:Nat->Bool,(∀i,i<64->(V i=true↔U (64*k+i)=true∨64*k+i<n))->CND (W V !=18446744073709551615)
    ((0:Int)<=6/\F.BS E (DQ .u64 2 18446744073709551615 (W V)) (λaB aC=>Is (i64 ((i64 ((k:Int)*2^(min (Int.toNat 6) (IntKind.bits .i64))))+aB):Int) λt13=>K t13 aC) w3)
    (((w3=w3/\ ∃a:Nat,i64 ((k:Int)+1)=(a:Int)/\n/64<=a/\(a<=uw.length∨a=n/64)/\ ∀i,n<=i->i<64*a->U i=true)/\((uw.length:Int)-i64 ((k:Int)+1)).toNat<((uw.length:Int)-(k:Int)).toNat)):=λV hV=>by
   refine EO (λT=>⟨by decide,?_⟩) λhe=> ?_
   .rw[W_not];refine Rv hT (λm=> ?_) λr hr h1 h2=>Ac λt d=> ?_
    .exfalso;refine T ?_;rw[<-Ws];refine HM λi hi=> ?_;have:=m i hi
     grind
    .have:t=((64*k+r:Nat):Int):=by
      rw[d,gshl (by omega),AI];omega
     rw[this];have aG: ¬(U (64*k+r)=true∨64*k+r<n):=λh=>by grind
     have Y:U (64*k+r)=false:=by
      cases e:U (64*k+r)with
      | false=>rfl
      | true=>grind
     refine J _ (by omega) Y λi i1 i2=> ?_;by_cases e:i<64*k
     .exact k3 i i1 e
     .have h4:V (i-64*k)=true:=by
       have:=h2 (i-64*k) (by omega)
       grind
      rcases(hV _ (by omega)).1 h4 with q|q
      .rwa[show 64*k+(i-64*k)=i by omega]at q
      .omega
   .rw[show i64 ((k:Int)+1)=((k+1:Nat):Int) by rw[AI];rfl];refine⟨⟨rfl,k+1,rfl,by omega,.inl (by omega),λi i1 i2=> ?_⟩,by omega⟩;by_cases e:i<64*k
    .exact k3 i i1 e
    .rw[<-Ws]at he;have:=xL he (i:=i-64*k) (by omega);rcases(hV _ (by omega)).1 this with q|q
     .rwa[show 64*k+(i-64*k)=i by omega]at q
     .omega
  refine AZ ⟨by decide,Cj (λe=>⟨by omega,Ac λt d j=> ?_⟩) λe j=> ?_⟩
  .unfold ED at d;rw[mW]at d
   grind
  .refine main (λi=>U (64*k+i)) λi hi=>⟨.inl,λh=> ?_⟩;rcases h with h|h
   .exact h
   .omega
 .rw[<-hl.1,gshl (by omega)]at d;unfold MO at d;by_cases e:64*uw.length<=n
  .have:t=(n:Int):=by rw[d];omega
   rw[this];exact J n (Nat.le_refl _) (O.2 n e) λi i1 i2=>by omega
  .have:t=((64*uw.length:Nat):Int):=by rw[d];omega
   rw[this];exact J _ (by omega) (O.2 _ (Nat.le_refl _)) λi i1 i2=>k3 i i1 (by omega)
def rowBt_setS{b t:Nat}{cs:List Value}{o:Nat}(aO:o<cs.length)(H:Sat (Cells b t (cs.set o (FJ s))::Row E.AE 1 s (ints .u64 uw)::Z) w)(hU:Lg uw U)(hs:uw.length<1099511627776){n:Nat}(hn:n<1099511627776){K:World->Prop}
  (hK: ∀s' d w',Lg d (λi=>U i||i==n)->d.length=max uw.length (n/64+1)->Sat (Cells b t (cs.set o (FJ s'))::Row E.AE 1 s' (ints .u64 d)::Z) w'->K w'):F.Jh E (some ((Addr.mk b 0 none).add o)) n K w:=by
 unfold F.Jh;rw[gdiv,gmod (by omega),yC (by omega)];refine AM (λ_ w'=> ∃s d,Lg d U/\(d.length=uw.length∨(uw.length<=d.length/\d.length<=n/64+1))/\Sat (Cells b t (cs.set o (FJ s))::Row E.AE 1 s (ints .u64 d)::Z) w') (λ_ w'=>match w'.cell? ((Addr.mk b 0 none).add o)with|some (.slice _ l _)=>n/64+1-l|_=>0) ⟨s,uw,hU,.inl rfl,H⟩ ?_;rintro u _ w2 ⟨s,O,J,hlen,H2⟩;have hc: ∀{s:AW},(cs.set o (FJ s))[0+o]? =some (FJ s):=λ{s}=>by grind
 have Cq: ∀{s:AW} {w'} {Y},Sat (Cells b t (cs.set o (FJ s))::Y) w'->w'.cell? ((Addr.mk b 0 none).add o)=some (.slice s.base s.len s.cap):=λh=>h.cell hc;have hl:=HW (H2.front 1 rfl);have hm: ∀{s:AW} {w'} {Y},Sat (Cells b t (cs.set o (FJ s))::Y) w'->(match w'.cell? ((Addr.mk b 0 none).add o)with|some (.slice _ l _)=>n/64+1-l|_=>0:Nat)=n/64+1-s.len:=λh=>by grind
 simp only[AK];refine⟨by decide,s,Cq H2,AG (λg=> ?_) λg=> ?_⟩
 .refine⟨s,Cq H2,AJ (vs:=[.int .u64 0]) H2 λb8 w9 H9 _=> ?_⟩;refine GJ (zs:= #[.int .u64 0]) (bytes:=8) (H9.Bh 1 rfl) rfl rfl (by simp[Value.oneCell']) (by omega) (by omega) λF4 aP aC aH=> ?_;refine Ah (aC.front 1 rfl) (v:=FJ F4) (o:=0) (m:=o) rfl (by grind) λaQ T=> ?_;rw[Nat.zero_add,List.set_set]at T;have e:ints .u64 O++[.int .u64 0]=ints .u64 (Dl U (O.length+1)):=by
   rw[<-ZO J.2,<-J.1];simp[ints]
  rw[e]at T;refine⟨⟨F4,Dl U (O.length+1),RC λi hi=>J.2 i (by omega),by rw[FD];omega,T⟩,?_⟩
  grind
 .have H3:=H2.drew;refine⟨s,Cq H3,by decide,?_⟩;obtain⟨a,ha,aE⟩:=JK (H3.front 1 rfl) J (k:=n/64) (by omega);rw[ha,Int.toNat_natCast];simp only[AK];refine⟨⟨by omega,by omega⟩,_,aE,by omega,⟨by omega,by omega⟩,?_⟩;have ew:DQ .u64 1 (ED U (n/64)) (W λi=>i==n %64)=ED (λi=>U i||i==n) (n/64):=by
   unfold ED;rw[mW]
   grind
  rw[ew,Nat.mul_one];refine Km (H3.front 1 rfl) (j:=n/64) rfl (by simp[ints];omega) ha λaF aA=> ?_;have e2:(ints .u64 O).set (n/64) (.int .u64 (ED (λi=>U i||i==n) (n/64)))=ints .u64 (Dl (λi=>U i||i==n) O.length):=by
   rw[J.1,FD,<-Uq (U:=U) (k:=n/64) (V:=λi=>U i||i==n) λi hi=>by
    have:(i==n)=false:=by grind
    grind]
   simp only[ints,List.map_set]
  rw[e2]at aA;refine hK s _ aF (RC λi hi=> ?_) (by rw[FD];omega) (aA.front 1 rfl);have:(i==n)=false:=by grind
  rw[J.2 i hi,this];rfl
end
def XQ{U:Nat->Bool}{n:Nat}(h: ∀i,n<=i->U i=false): ∀m,cN U (n+m)=cN U n
 | 0=>rfl
 | m+1=>by
  show cN U (n+m)+(U (n+m)).toNat=_;rw[XQ h m,h _ (by omega)];rfl
def cN_any{U:Nat->Bool}{n m:Nat}(h1: ∀i,n<=i->U i=false)(a: ∀i,m<=i->U i=false):cN U n=cN U m:=by
 rcases Nat.le_total n m with h|h
 .have:=XQ h1 (m-n);grind
 .have:=XQ a (n-m);grind
structure Rd(S:SI)(U M:Nat->Bool):Prop where
 uw:Lg S.uw U
 mw:Lg S.mw M
 lu:(S.uw.length:Int)*64<=S.AP+63
 lm:(S.mw.length:Int)*64<=S.AP+63
 OC: ∀i:Nat,U i=true->(i:Int)<S.AP
 mlim: ∀i:Nat,M i=true->(i:Int)<S.AP
 sl:0<=S.AP/\S.AP<=137438953472
 cnt:S.used=(cN U S.AP.toNat:Nat)
 look:0<=S.look/\S.look<=S.AP/\ ∀i:Nat,(i:Int)<S.look->U i=true
def Rd.out{S:SI}{U M:Nat->Bool}(h:Rd S U M)(i:Nat)(hi:S.AP.toNat<=i):U i=false:=by
 cases e:U i with
 | false=>rfl
 | true=>have:=h.OC i e;omega
def Rd.next{S:SI}{U M:Nat->Bool}(h:Rd S U M){n:Nat}(d:(n:Int)<S.AP)(hu:U n=false)(u: ∀i,i<n->U i=true){a:List Int}(h1:Lg a λi=>U i||i==n)(e:a.length=max S.uw.length (n/64+1)):
  Rd {S with uw:=a,used:=S.used+1,look:=(n:Int)+1} (λi=>U i||i==n) M:=by
 have v:=h.sl;have m:=h.lu;refine⟨h1,h.mw,by grind,h.lm,λi hi=> ?_,h.mlim,h.sl,?_,⟨by grind,by grind,λi hi=> ?_⟩⟩
 .rw[Bool.or_eq_true,beq_iff_eq]at hi;rcases hi with hi|rfl
  .exact h.OC i hi
  .exact d
 .show S.used+1=_;rw[pT hu,if_pos (by show n<S.AP.toNat;omega),h.cnt];rfl
 grind
def Rd.mark{S:SI}{U M:Nat->Bool}(h:Rd S U M){n:Nat}(a:(n:Int)<S.AP){mw':List Int}(h1:Lg mw' λi=>M i||i==n)(d:mw'.length=max S.mw.length (n/64+1)):
  Rd {S with mw:=mw'} U (λi=>M i||i==n):=by
 have m:=h.sl;have e:=h.lm;refine⟨h.uw,h1,h.lu,by grind,h.OC,λi hi=> ?_,h.sl,h.cnt,h.look⟩;rw[Bool.or_eq_true,beq_iff_eq]at hi;rcases hi with hi|rfl
 .exact h.mlim i hi
 .exact a
def Rd.iB{S:SI}{U M:Nat->Bool}(h:Rd S U M):0<=S.used/\S.used<=S.AP:=by
 have:=fF U S.AP.toNat;have:=h.sl;rw[h.cnt];omega
def pZ{U:Nat->Bool}: ∀{n:Nat},(∀i,i<n->U i=true)->cN U n=n
 | 0,_=>rfl
 | n+1,h=>by
  show cN U n+(U n).toNat=n+1;rw[pZ λi hi=>h i (by omega),h n (by omega)];rfl
section
variable{E:Env}{w:World}{Z:List Pr}{b:Nat}{S:SI}{U M:Nat->Bool}
def XR(hT:DJ E.AB w)(H:Sat (Cb E b S::Z) w)(u:Rd S U M)(aC:S.state≠0){K:Int->Int->World->Prop}
  (Y:(∀i:Nat,(i:Int)<S.AP->U i=true)-> ∀w',Sat (Cb E b S::Z) w'->K 0 30 w')
  (aA: ∀(n:Nat) a,(n:Int)<S.AP->U n=false->(∀i,i<n->U i=true)->Rd {S with uw:=a,used:=S.used+1,look:=(n:Int)+1} (λi=>U i||i==n) M->
   ∀w',Sat (Cb E b {S with uw:=a,used:=S.used+1,look:=(n:Int)+1}::Z) w'->K n 0 w'):F.DY E (some ⟨b,0,none⟩) K w:=by
 obtain⟨v,sm,H⟩:=Sat.span.1 H;unfold F.DY T0.DY;simp only[AK];have hs:=u.sl;obtain⟨l0,l1,l2⟩:=u.look;obtain⟨k,hk⟩:=Int.eq_ofNat_of_zero_le l0;have d:Sat (ZG E b S v sm++Z) w.drew:=H.drew;refine⟨_,H.cell rfl,Cj (λe=>absurd e aC) λ_=>⟨v,d.cell rfl,_,d.cell rfl,?_⟩⟩;rw[hk];have aJ:=u.lu;have aK:=HW (d.front 1 rfl);refine ZP (hT.ext (Ext.drew _ _)) (d.front 1 rfl) u.uw (by omega) (by omega) λr r1 r2 r4=>⟨_,d.cell rfl,?_⟩;have below: ∀i,i<r->U i=true:=λi hi=>by
  by_cases e:i<k
  .exact l2 i (by omega)
  .exact r4 i (by omega) hi
 refine AG (λg=>Y (λi hi=>below i (by omega)) _ (Sat.span.2 ⟨v,sm,d⟩)) λg=> ?_;have hr:(r:Int)<S.AP:=by omega
 have H1:Sat (Cells b E.Eo ((F3 S v sm).set 11 (FJ v))::Row E.AE 1 v (ints .u64 S.uw)::Row E.AE 1 sm (ints .u64 S.mw)::Z) w.drew:=d;refine rowBt_setS (by simp[F3]) H1 u.uw (by omega) (by omega) λs' a aO hB aB J=> ?_;have aL:=u.iB;refine⟨S.used,J.cell rfl,?_⟩;rw[AI (n:=S.used+1),AI (n:=(r:Int)+1)];refine Ah J (o:=0) (m:=7) rfl (by simp[F3]) λaP O=>Ah O (o:=0) (m:=13) rfl (by simp[F3]) λaD T=> ?_;exact aA r a hr r2 below (u.next hr r2 below hB aB) aD (Sat.span.2 ⟨s',sm,T⟩)
def MI(H:Sat (Cb E b S::Z) w){i:Int}{K:Bool->World->Prop}(h1:0<=i/\i<S.AP->K true w)(a: ¬(0<=i/\i<S.AP)->K false w):F.EL E (some ⟨b,0,none⟩) i K w:=by
 refine RA H ?_;by_cases g:0<=i/\i<S.AP
 .rw[decide_eq_true g];exact h1 g
 .rw[decide_eq_false g];exact a g
def Sd(H:Sat (Cb E b S::Z) w)(a:Rd S U M){n:Nat}(u:(n:Int)<S.AP){K:Bool->World->Prop}(e:K (U n) w):F.Cx E (some ⟨b,0,none⟩) n K w:=by
 have d:=H;obtain⟨m,sm,H⟩:=Sat.span.1 H;unfold F.Cx T0.Cx;simp only[AK];have v:=a.sl;refine MI d (λ_=>Aa rfl ⟨m,H.cell rfl,?_⟩) λg=>absurd (by omega) g;exact Ur (H.front 1 rfl) a.uw (by omega) e
def Vc(H:Sat (Cb E b S::Z) w)(a:Rd S U M){n:Nat}(m:(n:Int)<S.AP){K:Bool->World->Prop}(e:K (M n) w):F.Ds E (some ⟨b,0,none⟩) n K w:=by
 have d:=H;obtain⟨v,sm,H⟩:=Sat.span.1 H;unfold F.Ds T0.Ds;simp only[AK];have u:=a.sl;refine MI d (λ_=>Aa rfl ⟨sm,H.cell rfl,?_⟩) λg=>absurd (by omega) g;exact Ur (H.front 2 rfl) a.mw (by omega) e
def Se(H:Sat (Cb E b S::Z) w)(a:Rd S U M)(m:S.state=1){n:Nat}(hn:(n:Int)<S.AP){K:Int->World->Prop}
  (T: ∀mw',Rd {S with mw:=mw'} U (λi=>M i||i==n)-> ∀w',Sat (Cb E b {S with mw:=mw'}::Z) w'->K 0 w'):F.EA E (some ⟨b,0,none⟩) n K w:=by
 have J:=H;obtain⟨u,sm,H⟩:=Sat.span.1 H;unfold F.EA T0.EA;simp only[AK];have hs:=a.sl;have Y:=a.lm;refine⟨_,H.cell rfl,EO (λg=>absurd m g) λ_=>MI J (λ_=>AO rfl ?_) λg=>absurd (by omega) g⟩;have H1:Sat (Cells b E.Eo ((F3 S u sm).set 12 (FJ sm))::Row E.AE 1 sm (ints .u64 S.mw)::Row E.AE 1 u (ints .u64 S.uw)::Z) w:=H.perm (.cons _ (.swap _ _ _));refine rowBt_setS (by simp[F3]) H1 a.mw (by omega) (by omega) λs' mw' v O e d=> ?_;exact T mw' (a.mark hn O e) v (Sat.span.2 ⟨u,s',d.perm (.cons _ (.swap _ _ _))⟩)
def qA{V:Nat->Bool}{k i:Nat}:ED V k=0->i/64=k->V i=false:=λh hi=>by
 have:=Hp.1 h (i %64) (by omega)
 grind
def PT(H:Sat (Cb E b S::Z) w)(a:Rd S U M){K:Bool->World->Prop}(aA:(∃i,M i=true/\U i=false)->K true w)(Y:(∀i,M i=true->U i=true)->K false w):F.Gx E (some ⟨b,0,none⟩) K w:=by
 obtain⟨su,sm,H⟩:=Sat.span.1 H;unfold F.Gx;simp only[AK];have hs:=a.sl;have aH:=a.lu;have aG:=a.lm;have l1:=HW (H.front 1 rfl);have l2:=HW (H.front 2 rfl);refine⟨sm,H.cell rfl,?_⟩;refine AM (λst w'=>w'=w/\ ∃k:Nat,st.1=(k:Int)/\ ∀i,i<64*k->M i=true->U i=true) (λst _=>((S.mw.length:Int)-st.1).toNat) ⟨rfl,0,rfl,λi hi=>by omega⟩ ?_;rintro⟨k',u⟩ _ w3 ⟨rfl,k,hk,k1⟩;dsimp only at hk⊢;subst hk;refine AG (λg=> ?_) λg=>Y λi hi=> ?_
 .obtain⟨c,hc,O⟩:=JK (H.front 2 rfl) a.mw (k:=k) (by omega);rw[hc];simp only[AK];refine⟨⟨by omega,by omega⟩,_,by rw[Int.toNat_natCast];exact O,?_⟩;have main: ∀v:Int,v=ED (λi=>M i&& !U i) k->CND (v !=0) (K true w3) ((w3=w3/\ ∃J:Nat,i64 ((k:Int)+1)=(J:Int)/\ ∀i,i<64*J->M i=true->U i=true)/\((S.mw.length:Int)-i64 ((k:Int)+1)).toNat<((S.mw.length:Int)-(k:Int)).toNat):=λv hv=>by
   refine EO (λm=> ?_) λhe=> ?_
   .obtain⟨c,c1,c2,_⟩:=pN (by rw[hv]at m;exact m);rw[Bool.and_eq_true,Bool.not_eq_true']at c2;exact aA ⟨_,c2⟩
   .rw[show i64 ((k:Int)+1)=((k+1:Nat):Int) by rw[AI];rfl];refine⟨⟨rfl,k+1,rfl,λi hi hm=> ?_⟩,by omega⟩;by_cases e:i<64*k
    .exact k1 i e hm
    .have:=qA (hv▸he) (show i/64=k by omega)
     grind
  refine AZ ⟨su,H.cell rfl,AG (λg2=> ?_) λg2 j=>main _ ?_⟩
  .obtain⟨d,hd,T⟩:=JK (H.front 1 rfl) a.uw (k:=k) (by omega);refine⟨su,H.cell rfl,?_⟩;rw[hd];refine AH ⟨⟨by omega,by omega⟩,_,by rw[Int.toNat_natCast];exact T,λj=>main _ ?_⟩;unfold ED;rw[Nx]
  .unfold ED;refine HM λi hi=> ?_;show M _=(M _&& !U _);rw[a.uw.2 _ (by omega)];simp
 .by_cases e:i<64*k
  .exact k1 i e hi
  .rw[a.mw.2 i (by omega)]at hi;cases hi
def ZQ(S:SI):Prop:=0<=S.Mf/\S.Mf<4294967296/\(0<S.Mf->S.AP*S.elem<4294967296/\ ∀off:Int,0<=off->off<S.AP*S.elem->off*S.Mf/4294967296=off/S.elem)
def PU(H:Sat (Cb E b S::Z) w)(hm:ZQ S)(he:0<S.elem)(J:S.elem<=2199023255552)(T:0<=S.AP/\S.AP<=1048576)(hb:0<=S.base/\S.base<=281474976710656){a:Int}(ha:0<=a/\a<18446744073709551616){K:Int->Int->World->Prop}
  (m: ¬(S.base<=a/\a<S.base+S.AP*S.elem)-> ∀w',Sat (Cb E b S::Z) w'->K 0 10 w')(O:S.base<=a->a<S.base+S.AP*S.elem-> ∀w',Sat (Cb E b S::Z) w'->K ((a-S.base)/S.elem) 0 w'):F.C7 E (some ⟨b,0,none⟩) a K w:=by
 obtain⟨su,sm,H⟩:=Sat.span.1 H;unfold F.C7 T0.C7;simp only[AK];have d:Sat (ZG E b S su sm++Z) w.drew:=H.drew;have e:Sat (Cb E b S::Z) w.drew:=Sat.span.2 ⟨su,sm,d⟩;have h2:S.AP*S.elem<=1048576*2199023255552:=Int.mul_le_mul T.2 J (by omega) (by decide);have h3:0<=S.AP*S.elem:=Int.mul_nonneg T.1 (by omega);have e1:u64 (u64 S.AP*u64 S.elem)=S.AP*S.elem:=by rw[AR (n:=S.AP),AR (n:=S.elem),AR]
 refine AZ ⟨_,d.AU rfl,AG (λg j=>Aa rfl (m (λh=>by omega) _ e)) λg1=>⟨_,d.AU rfl,_,d.cell rfl,_,d.cell rfl,λj=> ?_⟩⟩;rw[e1,AR (n:=a-S.base)];refine AG (λg=>m (λh=>by omega) _ e) λg2=>⟨_,d.AU rfl,_,d.cell rfl,?_⟩;have hq:0<=(a-S.base)/S.elem/\(a-S.base)/S.elem<=a-S.base:=⟨Int.ediv_nonneg (by omega) (by omega),Int.ediv_le_self _ (by omega)⟩;rw[AR (n:=a-S.base)];refine AG (λg=>⟨_,d.cell rfl,?_⟩) λg=>⟨_,d.cell rfl,?_⟩
 .obtain⟨m0,m1,m2⟩:=hm;obtain⟨m3,m4⟩:=m2 g;unfold F.UI;refine⟨by decide,Ac λt v=> ?_⟩;have u: ∀{n:Int},0<=n->n<4294967296->IntKind.wrap .u32 n=n:=λ{n} h0 h1=>by
   show n %_=n;exact Int.emod_eq_of_lt h0 h1
  have Y:0<=(a-S.base)*S.Mf/\(a-S.base)*S.Mf<18446744073709551616:=by
   refine⟨Int.mul_nonneg (by omega) m0,?_⟩
   grind
  rw[u (n:=a-S.base) (by omega) (by omega),AR (n:=a-S.base),AR (n:=S.Mf),AR Y.1 Y.2,
   show(2:Int)^(min (Int.toNat 32) (IntKind.bits .u64))=4294967296 by decide,Int.fdiv_eq_ediv_of_nonneg _ (by decide),m4 _ (by omega) (by omega),u (by omega) (by omega)]at v
  rw[v];show K (i64 _) 0 _;rw[AI];exact O (by omega) (by omega) _ e
 .rw[AR (n:=S.elem),Int.tdiv_eq_ediv_of_nonneg (by omega)];refine⟨by omega,Ac λt v=> ?_⟩;have:t=(a-S.base)/S.elem:=by rw[v,AR,AI]
  grind
end
def HX(F:Nat->Bool)(m:Nat):List Int:=((List.range m).filter F).map λi:Nat=>(i:Int)
def P5(F:Nat->Bool): ∀m,(HX F m).length=cN F m
 | 0=>rfl
 | m+1=>by
  have a:=P5 F m;unfold HX at a⊢;rw[List.length_map]at a⊢;rw[List.range_succ,List.filter_append,List.length_append,a];show _=cN F m+(F m).toNat
  grind
def ON{F:Nat->Bool}{m:Nat}: ∀{n:Nat},(∀i,m<=i->i<m+n->F i=false)->HX F (m+n)=HX F m
 | 0,_=>rfl
 | n+1,h=>by
  have a:=ON (F:=F) (m:=m) (n:=n) λi h1 d=>h i h1 (by omega);unfold HX at a⊢;rw[show m+(n+1)=m+n+1 by omega,List.range_succ,List.filter_append,List.map_append,a,List.filter_cons_of_neg (by grind)];simp
def dE{F:Nat->Bool}{m n:Nat}(a:m<=n)(h: ∀i,m<=i->i<n->F i=false)(d:F n=true):HX F (n+1)=HX F m++[(n:Int)]:=by
 have e:=ON (F:=F) (m:=m) (n:=n-m) λi h1 u=>h i h1 (by omega);rw[show m+(n-m)=n by omega]at e;unfold HX at e⊢;rw[List.range_succ,List.filter_append,List.map_append,e,List.filter_cons_of_pos d];simp
def ZR(U M:Nat->Bool): ∀n,cN U n=cN (λi=>U i&&M i) n+cN (λi=>U i&& !M i) n
 | 0=>rfl
 | n+1=>by
  show cN U n+(U n).toNat=cN _ n+(U n&&M n).toNat+(cN _ n+(U n&& !M n).toNat);have:=ZR U M n;cases U n<;>cases M n<;>simp<;>omega
def Us(S:SI)(a:List Int)(U M:Nat->Bool):SI:={S with uw:=a,mw:=[],used:=(cN (λi=>U i&&M i) S.AP.toNat:Nat),look:=0}
def Rd.HD{S:SI}{U M:Nat->Bool}(h:Rd S U M){a:List Int}(h1:Lg a λi=>U i&&M i)(d:a.length=S.uw.length):Rd (Us S a U M) (λi=>U i&&M i) (λ_=>false):=by
 have:=h.lu;have:=h.sl;refine⟨h1,Ry λ_=>rfl,by show(a.length:Int)*64<=S.AP+63;omega,by show((0:Nat):Int)*64<=S.AP+63;omega,λi hi=> ?_,λi hi=>(by cases hi),h.sl,rfl,⟨Int.le_refl 0,h.sl.1,λi hi=> ?_⟩⟩
 .rw[Bool.and_eq_true]at hi;exact h.OC i hi.1
 .have hi:(i:Int)<0:=hi;omega
section
variable{E:Env}{w:World}{Z:List Pr}{b:Nat}{S:SI}{U M:Nat->Bool}
def XS(hT: ∀w',Sat Z w'->DJ E.AB w')(H:Sat (Cb E b S::Z) w)(T:Rd S U M)(bB:S.state=1){K:AW->Int->World->Prop}(a9:(∃i,M i=true/\U i=false)->K ⟨none,0,0⟩ 40 w)
  (hk:(∀i,M i=true->U i=true)-> ∀aP s,Rd (Us S aP U M) (λi=>U i&&M i) (λ_=>false)->s.len=cN (λi=>U i&& !M i) S.AP.toNat->
   ∀w',Sat (Row E.Ag 1 s (ints .i64 (HX (λi=>U i&& !M i) (64*S.uw.length)))::Cb E b (Us S aP U M)::Z) w'->K s 0 w'):F.CU E (some ⟨b,0,none⟩) K w:=by
 have H0:=H;obtain⟨J,sm,H⟩:=Sat.span.1 H;unfold F.CU T0.CU;refine AH ⟨_,H.cell rfl,EO (λg=>absurd bB g) λ_=>PT H0 T (λh=>Aa rfl (a9 h)) λhz=>AO rfl (AH ⟨J,H.cell rfl,?_⟩)⟩;have hs:=T.sl;have b6:=T.lu;have b5:=T.lm;have l1:=HW (H.front 1 rfl);have l2:=HW (H.front 2 rfl)
 let G:Nat->Bool:=λi=>U i&& !M i
 let Uk:Nat->Nat->Bool:=λk i=>if i<64*k then U i&&M i else U i
 have hn:S.uw.length<=2147483649:=by omega
 have a5: ∀k,Lg (Dl (Uk k) S.uw.length) (Uk k):=λk=>RC λi hi=>by
  show(if i<64*k then U i&&M i else U i)=false;rw[T.uw.2 i hi];grind
 have e0:Dl (Uk 0) S.uw.length=S.uw:=by
  have:Uk 0=U:=by funext i;show(if i<64*0 then _ else _)=_;rw[if_neg (by omega)]
  rw[this];exact T.uw.1.symm
 have fl: ∀m,(HX G m).length<=m:=λm=>by rw[P5];exact fF G m
 refine AM (λst w'=> ∃k:Nat,st.2.1=(k:Int)/\k<=S.uw.length/\Sat (Row E.Ag 1 st.1 (ints .i64 (HX G (64*k)))::Cells b E.Eo (F3 S J sm)::Row E.AE 1 J (ints .u64 (Dl (Uk k) S.uw.length))::Row E.AE 1 sm (ints .u64 S.mw)::Z) w') (λst _=>((S.uw.length:Int)-st.2.1).toNat) ⟨0,rfl,Nat.zero_le _,by rw[e0];exact H.nil E.Ag 1⟩ ?_;rintro⟨fr,k',u⟩ _ w8 ⟨k,aM,b4,H8⟩;dsimp only at aM H8⊢;subst aM;refine AG (λg=> ?_) λg=> ?_
 .have a8:k<S.uw.length:=by omega
  have hg:k<(Dl (Uk k) S.uw.length).length:=by rw[FD];exact a8
  obtain⟨a,ha,aF⟩:=JK (H8.front 2 rfl) (a5 k) hg;have ew:ED (Uk k) k=ED U k:=HM λi hi=>by show(if 64*k+i<64*k then _ else _)=_;rw[if_neg (by omega)]
  rw[ew]at aF;have cu: ∀{w'} {vs:List Value} {Y},Sat (Row E.Ag 1 fr vs::Cells b E.Eo (F3 S J sm)::Y) w'->w'.cell? ((Addr.mk b 0 none).add 11)=some (.slice J.base J.len J.cap)/\w'.cell? ((Addr.mk b 0 none).add 12)=some (.slice sm.base sm.len sm.cap):=λh=>⟨(h.front 1 rfl).cell rfl,(h.front 1 rfl).cell rfl⟩;have aC:=cu H8;refine AH ⟨J,aC.1,?_⟩
  try dsimp only
  rw[ha];refine AH ⟨⟨by omega,by omega⟩,_,by rw[Int.toNat_natCast];exact aF,?_⟩;have main: ∀v:Int,v=ED G k-> ∀(e:AW×Int×Unit->World->Prop),(∀st w',(∃k:Nat,st.2.1=(k:Int)/\k<=S.uw.length/\Sat (Row E.Ag 1 st.1 (ints .i64 (HX G (64*k)))::Cells b E.Eo (F3 S J sm)::Row E.AE 1 J (ints .u64 (Dl (Uk k) S.uw.length))::Row E.AE 1 sm (ints .u64 S.mw)::Z) w')/\((S.uw.length:Int)-st.2.1).toNat<((S.uw.length:Int)-(k:Int)).toNat->e st w')->
    NC (some (Addr.mk b 0 none)) λbC=> ∃O:AW,w8.cell? (bC.add 11)=some (.slice O.base O.len O.cap)/\NC O.base λbD=>((0:Int)<=(k:Int)/\((k:Int):Int)<(O.len:Nat))/\ ∃aV:Int,w8.cell? (bD.add (Int.toNat (k:Int)*1))=some (.int .u64 aV)/\NC O.base λbE=>((0:Int)<=(k:Int)/\((k:Int):Int)<(O.len:Nat))/\
     stCells (bE.add (Int.toNat (k:Int)*1)) 0 [.int .u64 (DQ .u64 3 aV v)] w8 λaQ=>
      BI (AW×Int×Unit) (fr,v,()) aQ λKr _ aB aD=>
       CND ((Kr.2.1:Int) !=0) (
        (0:Int)<=6/\
        F.BS E Kr.2.1 (λbF bG=>
        AL (.cells ⟨[.int .i64 (i64 ((i64 ((k:Int)*2^(min (Int.toNat 6) (IntKind.bits .i64))))+bF))]⟩ E.Ag) bG λaJ aR=>
        APP E.Ag 1 8 #[.int .i64 0] Kr.1 ⟨(some (Addr.mk aJ 0 none)),1,1⟩ aR λW7 aS=>
        Is (DQ .u64 0 Kr.2.1 (u64 (Kr.2.1-1)):Int) λaU=>
        aD (W7,aU,()) aS
        ) aB
       ) (
        e (Kr.1,i64 ((k:Int)+1),()) aB
       ):=λv hv e aG=>by
   refine AH ⟨J,aC.1,?_⟩;rw[ha];refine AH ⟨⟨by omega,by omega⟩,_,by rw[Int.toNat_natCast];exact aF,AH ⟨⟨by omega,by omega⟩,?_⟩⟩;subst hv;have e1:DQ .u64 3 (ED U k) (ED G k)=ED (Uk (k+1)) k:=by
    unfold ED;rw[Nx];refine HM λi hi=> ?_;show(U _&& !(U _&& !M _))=if 64*k+i<64*(k+1)then _ else _
    grind
   rw[e1,Int.toNat_natCast,Nat.mul_one];refine Km (H8.front 2 rfl) (j:=k) rfl (by simp[ints,FD];omega) ha λaQ aH=> ?_;have e2:(ints .u64 (Dl (Uk k) S.uw.length)).set k (.int .u64 (ED (Uk (k+1)) k))=ints .u64 (Dl (Uk (k+1)) S.uw.length):=by
    rw[<-Uq (U:=Uk k) (V:=Uk (k+1)) (k:=k) λi hi=>by
     show(if i<64*k then _ else _)=if i<64*(k+1)then _ else _
     grind]
    simp only[ints,List.map_set]
   rw[e2]at aH;have aX:=aH.front 1 rfl;refine AM (λst w'=> ∃c:Nat,c<=64/\st.2.1=W (λi=>G (64*k+i)&&decide (c<=i))/\Sat (Row E.Ag 1 st.1 (ints .i64 (HX G (64*k+c)))::Row E.AE 1 J (ints .u64 (Dl (Uk (k+1)) S.uw.length))::Cells b E.Eo (F3 S J sm)::Row E.AE 1 sm (ints .u64 S.mw)::Z) w') (λst _=>64*(k+1)-st.1.len) ⟨0,by omega,HM λi hi=>by simp,aX⟩ ?_;rintro⟨a4,v2,u2⟩ _ aB ⟨c,hc,aO,aA⟩;dsimp only at aO aA⊢;subst aO;have hlen:=aA.Bs;simp only[ints,List.length_map,Nat.mul_one]at hlen;have aL:=fl (64*k+c);refine EO (λbA=>⟨by decide,?_⟩) λhe=> ?_
   .refine Rv (hT aB aA.tail.tail.tail.tail) (λaK=>absurd (Hp.2 aK) bA) λr hr h1 h2=> ?_;rw[Bool.and_eq_true,decide_eq_true_eq]at h1;have h3: ∀i,64*k+c<=i->i<64*k+r->G i=false:=λi i1 i2=>by
     have:=h2 (i-64*k) (by omega)
     grind
    rw[gshl (by omega),AI (n:=((64*k:Nat):Int)+(r:Int))];refine AJ (vs:=[.int .i64 (((64*k:Nat):Int)+(r:Int))]) aA λaJ aR aY _=>GJ (zs:= #[.int .i64 0]) (bytes:=8) aY rfl rfl (by simp[Value.oneCell']) (by omega) (by omega) λW7 aS bN bK=>Ac λt ht=> ?_;have eb:=W_low1 (u:=λi=>G (64*k+i)&&decide (c<=i)) hr (by grind) h2;rw[eb]at ht;have ef:=dE (F:=G) (m:=64*k+c) (n:=64*k+r) (by omega) h3 h1.1;refine⟨⟨r+1,by omega,?_,?_⟩,?_⟩
    .show t=_;rw[ht]
     grind
    .rw[show 64*k+(r+1)=64*k+r+1 by omega,ef];have:ints .i64 (HX G (64*k+c))++[.int .i64 (((64*k:Nat):Int)+(r:Int))]=ints .i64 (HX G (64*k+c)++[((64*k+r:Nat):Int)]):=by
      simp[ints]
     grind
    omega
   .rw[show i64 ((k:Int)+1)=((k+1:Nat):Int) by rw[AI];rfl];refine aG _ _ ⟨⟨k+1,rfl,by omega,?_⟩,by grind⟩;have e3:HX G (64*(k+1))=HX G (64*k+c):=by
     rw[show 64*(k+1)=64*k+c+(64-c) by omega];refine ON λi i1 i2=> ?_;have:=Hp.1 he (i-64*k) (by omega)
     grind
    show Sat (Row E.Ag 1 a4 (ints .i64 (HX G (64*(k+1))))::_) aB;rw[e3];exact aA.perm (.cons _ (.swap _ _ _))
  refine AZ (AH ⟨sm,aC.2,AG (λg2=>AH ⟨sm,aC.2,?_⟩) λg2 j=>main _ ?_ _ λ_ _ h=>h⟩)
  .obtain⟨d,hd,a7⟩:=JK (H8.front 3 rfl) T.mw (k:=k) (by omega);rw[hd];refine AH ⟨⟨by omega,by omega⟩,_,by rw[Int.toNat_natCast];exact a7,λj=>main _ ?_ _ λ_ _ h=>h⟩;unfold ED;rw[Nx]
  .unfold ED;refine HM λi hi=> ?_;show U _=(U _&& !M _);rw[T.mw.2 _ (by omega)];simp
 .have aN:k=S.uw.length:=by omega
  have BX:=H8.front 1 rfl;have hlen:=H8.Bs;simp only[ints,List.length_map,Nat.mul_one]at hlen;have e4:cN G (64*S.uw.length)=cN G S.AP.toNat:=cN_any (λi hi=>by show(U i&& !M i)=false;rw[T.uw.2 i hi];rfl) λi hi=>by show(U i&& !M i)=false;rw[T.out i hi];rfl
  have aL:fr.len=cN G S.AP.toNat:=by rw[<-hlen,P5,aN,e4]
  have aW:=ZR U M S.AP.toNat;have bJ:=T.cnt;have b8:=T.iB;have hle:=fF U S.AP.toNat;have eu:i64 (S.used-((fr.len:Nat):Int))=(cN (λi=>U i&&M i) S.AP.toNat:Nat):=by
   have:cN G S.AP.toNat=cN (λi=>U i&& !M i) S.AP.toNat:=rfl;rw[AI];omega
  refine AH ⟨_,BX.cell rfl,AH ?_⟩;rw[eu];refine Ah BX (o:=0) (m:=7) rfl (by simp[F3]) λcA aZ=>AH (Ah aZ (o:=0) (m:=12) (v:=FJ ⟨none,0,0⟩) rfl (by simp[F3]) λcB a0=>AH (Ah a0 (o:=0) (m:=13) rfl (by simp[F3]) λaT aI=> ?_));have e5:Dl (Uk k) S.uw.length=Dl (λi=>U i&&M i) S.uw.length:=XP λi hi=>by
   show(if i<64*k then _ else _)=_
   grind
  rw[e5,aN]at aI;refine hk hz (Dl (λi=>U i&&M i) S.uw.length) fr (T.HD (RC λi hi=>by show(U i&&M i)=false;rw[T.uw.2 i hi];rfl) (FD _ _)) aL aT ?_;have a1:=((aI.front 3 rfl).tail.nil E.AE 1);have a2:Sat (ZG E b (Us S (Dl (λi=>U i&&M i) S.uw.length) U M) J ⟨none,0,0⟩++Row E.Ag 1 fr (ints .i64 (HX G (64*S.uw.length)))::Z) aT:=
   (((a1.front 0 rfl).front 3 rfl).front 2 rfl)
  have a3:=Sat.span.2 ⟨J,⟨none,0,0⟩,a2⟩;exact a3.perm (.swap _ _ _)
end
def Sat.lB{F:List Pr}{w:World}{t:Nat}{s:AW}{vs us:List Value}(H:Sat (Row t 1 s (vs++us)::F) w):Sat (Row t 1 ⟨s.base,vs.length,s.cap⟩ vs::F) w:=by
 obtain⟨D,h,v⟩:=H.step;have ho:=h.2;have K:vs.length+us.length=s.len:=by have:=ho.len;grind
 refine v w D _ (Ext.refl _ _) ⟨h.1,⟨by simp,by have:=ho.cap;grind,ho.top,?_⟩⟩ λ_ u=>.inl u;rcases ho.row with ⟨h1,a⟩|⟨b,cs,h1,a,d,e,m⟩
 .grind
 .refine .inr ⟨b,cs,h1,a,d,e,?_⟩;have J:((cs.toList.take (s.len*1)).take (vs.length*1))=vs:=by
   rw[m,List.take_left' (by omega)]
  grind
def CPY_up{F:List Pr}{w:World}{t:Nat}{s:AW}{vs:List Value}{v:Value}(H:Sat (Row t 1 s (vs++[v])::F) w)(ho: ∀u∈vs,u.oneCell'=true){i:Nat}(hi:i<=vs.length){K:Nat->World->Prop}
  (T: ∀n w' u,Sat (Row t 1 s (vs.take i++u::vs.drop i)::F) w'->K n w'):
  CPY 1 ⟨KH s.base s.cap (i+1) 1,s.len-(i+1),s.cap-(i+1)⟩ ⟨KH s.base s.cap i 1,s.len-i,s.cap-i⟩ w K:=by
 have hl:=H.Bs;simp at hl;have d:=H.own.cap;have J:Nat.min (s.len-i) (s.len-(i+1))=vs.length-i:=by grind
 obtain⟨b,Y⟩:=H.own.Gj (by omega);have h1:=LJ (z:=1) H.KE rfl (k:=i) (by omega) d H.Bs;have hd:(vs++[v]).drop (i*1)=vs.drop i++[v]:=by grind
 rw[hd]at h1;have O:=Pj h1 (m:=vs.length-i) (by omega) (by simp;omega);rw[List.take_left' (by simp)]at O;unfold CPY;simp only[J];refine⟨vs.drop i,by simpa using O,?_⟩;have a:KH s.base s.cap (i+1) 1=some (if s.cap=i+1 then(Addr.mk b 0 none)else(Addr.mk b 0 none).add (i+1)):=by
  rw[Y];unfold KH
  grind
 rw[a];simp only;by_cases hc:s.cap=i+1
 .have:vs.drop i=[]:=List.drop_eq_nil_iff.2 (by omega);rw[if_pos hc,this];refine T _ w v ?_;have e:vs.take i=vs:=List.take_of_length_le (by omega)
  grind
 .rw[if_neg hc];obtain⟨u,hu⟩: ∃u,(vs++[v])[i]? =some u:=⟨_,List.getElem?_eq_getElem (by simp;omega)⟩;refine XM (vs.drop i) (i+1) 0 H (by simp;omega) (λx hx=>ho x (List.mem_of_mem_drop hx)) Y λw' H'=>T _ w' u ?_;have e1:(vs++[v]).take (i+1+0)=vs.take i++[u]:=by
   rw[Nat.add_zero,List.take_succ,hu,List.take_append_of_le_length hi];rfl
  have e2:(vs++[v]).drop (i+1+0+(vs.drop i).length)=[]:=List.drop_eq_nil_iff.2 (by simp;omega)
  grind
def vY{F:List Pr}{w:World}{t bytes:Nat}{s:AW}{vs:List Value}{zs:Array Value}(H:Sat (Row t 1 s vs::F) w)(ho: ∀u∈vs,u.oneCell'=true){i:Nat}(hi:i<vs.length){K:AW->World->Prop}
  (m: ∀s' w',Sat (Row t 1 s' (vs.eraseIdx i)::F) w'->K s' w'):
  APP t 1 bytes zs ⟨KH s.base s.cap 0 1,i,s.cap⟩ ⟨KH s.base s.cap (i+1) 1,s.len-(i+1),s.cap-(i+1)⟩ w K:=by
 have v:=H.Bs;simp at v;have a:=H.own.cap;obtain⟨b,d⟩:=H.own.Gj (by omega);have h1:=LJ (z:=1) H.KE rfl (k:=i+1) (by omega) a H.Bs;rw[Tv];refine⟨vs.drop (i+1),by simpa using h1,λ_=> ?_,λg=> ?_⟩
 .rw[d];simp only;rw[show i*1=i by omega];refine XM (vs.drop (i+1)) i 0 H (by simp;omega) (λx J=>ho x (List.mem_of_mem_drop J)) d λw' e=> ?_;rw[show i+(s.len-(i+1))=(vs.eraseIdx i).length by grind,<-d];refine m _ w' (Sat.lB (us:=vs.drop (i+0+(vs.drop (i+1)).length)) ?_);rw[List.eraseIdx_eq_take_drop_succ];simpa using e
 grind
structure EH where
 EU:Nat
 id:Int
 base:Int
 kd:Kd
abbrev EH.HD(x:EH):Bool:=x.kd.2.2.2
def I4(x:EH):Value:=.pointer (some ⟨x.EU,0,none⟩)
def MA(x:EH):List Value:=[.int .i64 x.id,.int .u64 x.base,.int .i64 x.kd.1,.bool x.kd.2.1,.bool x.kd.2.2.1,.bool x.kd.2.2.2]
def ZS(E:Env)(x:EH):Pr:=Cells x.EU E.IH (MA x)
def F5(f:EH->Int)(L:List EH):Int->Option Value:=λi=>(L.find? λx=>f x==i).map I4
def FW(L:List EH)(k:Kd):List EH:=L.filter λx=>decide (x.kd=k)
def G5(L:List EH)(x:EH):List EH:=L.take (pos (·.base) L x.base)++x::L.drop (pos (·.base) L x.base)
def Hv(L:List EH)(id:Int):List EH:=L.filter λx=>decide (x.id≠id)
def Lp.ext{α:Type}{key:α->Int}: ∀{A B:List α},Lp key A->Lp key B->(∀x,x∈A↔x∈B)->A=B
 | [],[],_,_,_=>rfl
 | [],b::s,_,_,h=>by have:=(h b).2 List.mem_cons_self;cases this
 | a::r,[],_,_,h=>by have:=(h a).1 List.mem_cons_self;cases this
 | a::r,b::s,hA,hB,h=>by
  have m:=List.pairwise_cons.1 hA;have d:=List.pairwise_cons.1 hB;have e:a=b:=by
   rcases List.mem_cons.1 ((h a).1 List.mem_cons_self)with e|h1
   .exact e
   .rcases List.mem_cons.1 ((h b).2 List.mem_cons_self)with e|u
    .exact e.symm
    .have:=d.1 a h1;grind
  subst e;rw[Lp.ext m.2 d.2 λx=> ?_]
  grind
def G6(L:List EH)(x:EH):(G5 L x).Perm (x::L):=by
 unfold G5;exact List.perm_middle.trans (by rw[List.take_append_drop])
def Dd{L:List EH}{x y:EH}:y∈G5 L x↔y=x∨y∈L:=by rw[(G6 L x).mem_iff,List.mem_cons]
def RD{L:List EH}{x:EH}(e:Lp (·.base) L)(m: ∀y∈L,y.base≠x.base):Lp (·.base) (G5 L x):=by
 unfold G5;have:=Lp.mid (L:=L.take (pos (·.base) L x.base)) (M:=[x]) (N:=L.drop (pos (·.base) L x.base)) (e.take _) (by simp[Lp]) (e.drop _) (a:=x.base) (b:=x.base+1) (by omega) (λc d=>(XK d).2) (λc d=>by grind) λc d=>by
  have h1:=XL e d
  grind
 grind
def Ka{L:List EH}{id:Int}{y:EH}:y∈Hv L id↔y∈L/\y.id≠id:=by simp[Hv]
def E9{L:List EH}{k:Kd}{y:EH}:y∈FW L k↔y∈L/\y.kd=k:=by simp[FW]
def K3{L:List EH}(a:Lp (·.base) L)(k:Kd):Lp (·.base) (FW L k):=a.filter _
def qB{L:List EH}(a:Lp (·.base) L)(id:Int):Lp (·.base) (Hv L id):=a.filter _
def dF{L:List EH}{x:EH}{k:Kd}(a:Lp (·.base) L)(d: ∀y∈L,y.base≠x.base)(h:x.kd≠k):FW (G5 L x) k=FW L k:=
 Lp.ext (K3 (RD a d) k) (K3 a k) λy=>by
  rw[E9,E9,Dd]
  grind
def vZ{L:List EH}{x:EH}(a:Lp (·.base) L)(d: ∀y∈L,y.base≠x.base):FW (G5 L x) x.kd=G5 (FW L x.kd) x:=
 Lp.ext (K3 (RD a d) _) (RD (K3 a _) λy e=>d y (E9.1 e).1) λy=>by
  rw[E9,Dd,Dd,E9]
  grind
def M5{α β:Type}{f:α->β}: ∀{L:List α},(L.map f).Nodup->L.Nodup
 | [],_=>.nil
 | x::r,h=>by
  rw[List.map_cons,List.nodup_cons]at h;rw[List.nodup_cons];exact⟨λa=>h.1 (List.mem_map.2 ⟨x,a,rfl⟩),M5 h.2⟩
def map_inj{α β:Type}{f:α->β}: ∀{L:List α},(L.map f).Nodup-> ∀{x y},x∈L->y∈L->f x=f y->x=y
 | [],_,x,y,d,_,_=>by cases d
 | a::r,h,x,y,d,m,e=>by
  rw[List.map_cons,List.nodup_cons]at h;rcases List.mem_cons.1 d with h1|d
  .rcases List.mem_cons.1 m with u|m
   .rw[h1,u]
   .exact absurd (List.mem_map.2 ⟨y,m,by rw[<-e,h1]⟩) h.1
  .rcases List.mem_cons.1 m with u|m
   .exact absurd (List.mem_map.2 ⟨x,d,by rw[e,u]⟩) h.1
   .exact map_inj h.2 d m e
def WI{α:Type}{key:α->Int}{L:List α}(d:Lp key L):(L.map key).Nodup:=List.Pairwise.map _ (λa b h=>by omega) d
def Mh{f:EH->Int}{L:List EH}{i:Int}:F5 f L i=none↔ ∀x∈L,f x≠i:=by
 unfold F5;rw[Option.map_eq_none_iff,List.find?_eq_none];simp
def lC{f:EH->Int}{L:List EH}(d:(L.map f).Nodup){x:EH}(e:x∈L):F5 f L (f x)=some (I4 x):=by
 unfold F5;cases h:L.find? λy=>f y==f x with
 | none=>grind
 | some y=>
  have h1:=List.find?_some h;have a:=List.mem_of_find?_eq_some h;rw[map_inj d a e (by simpa using h1)];rfl
def RE{f:EH->Int}{L:List EH}{i:Int}{v:Value}(h:F5 f L i=some v): ∃x∈L,f x=i/\v=I4 x:=by
 unfold F5 at h;rw[Option.map_eq_some_iff]at h
 grind
def WJ{f:EH->Int}{L L':List EH}(a:(L.map f).Nodup)(hp:L.Perm L'):F5 f L=F5 f L':=by
 funext i;cases h:F5 f L' i with
 | none=>rw[Mh]at h⊢;grind
 | some v=>
  obtain⟨x,d,rfl,rfl⟩:=RE h;exact lC a (hp.mem_iff.2 d)
def O2{f:EH->Int}{L:List EH}{x:EH}:F5 f (x::L)=λi=>if i=f x then some (I4 x)else F5 f L i:=by
 funext i;unfold F5
 grind
def ZT{f:EH->Int}{L:List EH}{x:EH}(a:(L.map f).Nodup)(d: ∀y∈L,f y≠f x):F5 f (G5 L x)=λi=>if i=f x then some (I4 x)else F5 f L i:=by
 rw[<-O2];refine WJ ?_ (G6 L x);rw[((G6 L x).map f).nodup_iff,List.map_cons,List.nodup_cons]
 grind
def XT: ∀{L:List EH} (d:(L.map (·.id)).Nodup) {j:Nat} {x:EH},L[j]? =some x->Hv L x.id=L.eraseIdx j
 | a::r,d,0,x,h=>by
  have h:a=x:=Option.some.inj h;subst h;rw[List.map_cons,List.nodup_cons]at d;unfold Hv;rw[List.filter_cons,if_neg (by simp),List.eraseIdx_cons_zero];exact List.filter_eq_self.2 λy v=>by grind
 | a::r,d,j+1,x,h=>by
  rw[List.map_cons,List.nodup_cons]at d;have h:r[j]? =some x:=by grind
  have m:=List.mem_of_getElem? h;have ne:a.id≠x.id:=λe=>d.1 (List.mem_map.2 ⟨x,m,e.symm⟩);have u:=XT d.2 h;unfold Hv at u⊢
  grind
def WK{L:List EH}(d:(L.map (·.id)).Nodup){x:EH}(e:x∈L):L.Perm (x::Hv L x.id):=by
 obtain⟨j,a⟩:=List.mem_iff_getElem?.1 e;rw[XT d a];exact D8 a
def ZU{f:EH->Int}{L:List EH}{x:EH}(hi:(L.map (·.id)).Nodup)(a:(L.map f).Nodup)(d:x∈L):F5 f (Hv L x.id)=λi=>if i=f x then none else F5 f L i:=by
 have hp:=WK hi d;rw[WJ a hp,O2];funext i;by_cases e:i=f x
 .rw[if_pos e,Mh]
  grind
 grind
structure Sf(L:List EH):Prop where
 WL:Lp (·.base) L
 nd:(L.map (·.id)).Nodup
 NN:L.length<=1099511627776
structure lT where
 bi:Nat
 bb:Nat
 bm:Nat
 kinds:List Kd
 sl:Kd->AW
def Rz(ks:List Kd)(sl:Kd->AW):Kd->Option Value:=λk=>if k∈ks then some (FJ (sl k))else none
def VM(E:Env)(sl:Kd->AW)(L:List EH)(k:Kd):Pr:=Row E.DB 1 (sl k) ((FW L k).map I4)
def KO(g:lT):List Value:=[.map (some g.bi),.map (some g.bb),.map (some g.bm)]
def NO(E:Env)(b:Nat)(L:List EH)(g:lT):List Pr:=
 [Cells b E.En (KO g),CH g.bi .i64 (F5 (·.id) L),CH g.bb .u64 (F5 (·.base) L),MapK g.bm (Rz g.kinds g.sl),Al (VM E g.sl L) g.kinds,Al (ZS E) L]
structure v7(L:List EH)(g:lT):Prop where
 inv:Sf L
 kn:g.kinds.Nodup
 ks: ∀x∈L,x.kd∈g.kinds
def GB(E:Env)(b:Nat)(L:List EH):Pr:=Ex λg:lT=>KR (v7 L g) (S5 (NO E b L g))
section
variable{E:Env}{w:World}{Z:List Pr}{b:Nat}{L:List EH}{g:lT}
def Sat.Dk:Sat (GB E b L::Z) w↔ ∃g,v7 L g/\Sat (NO E b L g++Z) w:=by
 unfold GB;rw[Sat.ex];constructor
 .rintro⟨g,h⟩;rw[Sat.where,Sat.star]at h
  grind
 .rintro⟨g,h1,a⟩;refine⟨g,?_⟩;rw[Sat.where,Sat.star]
  grind
def dG(H:Sat Z w){K:Option Addr->World->Prop}(O: ∀b w',Sat (GB E b []::Z) w'->K (some ⟨b,0,none⟩) w'):F.Ql E K w:=by
 unfold F.Ql;refine Nv H .i64 λb1 Y d _=>Nv d .u64 λb3 w4 e _=>fI e λa w6 m _=> ?_;refine AJ (vs:=[.map (some b1),.map (some b3),.map (some a)]) m λv T u _=>O v T (Sat.Dk.2 ⟨⟨b1,b3,a,[],λ_=>⟨none,0,0⟩⟩,⟨⟨.nil,.nil,by decide⟩,.nil,λ_ h=>(by cases h)⟩,?_⟩);have J:=((u.Mr (VM E (λ_=>⟨none,0,0⟩) [])).front 0 rfl).Mr (ZS E);exact((((J.front 1 rfl).front 3 rfl).front 4 rfl).front 5 rfl).front 5 rfl
end
structure EnvW(E:Env):Prop extends EnvA E where
 qC: ∀i p1 p2 (R:Value->World->Prop) w,F.Hy E i p1 p2 (λr w'=>R (.bool r) w') w->E.call E.Ip #[.int .i64 i,.pointer p1,.pointer p2] w R EW
section
variable{E:Env}(hE:EnvW E){w:World}
include hE
theorem RF{p:Addr}{bm:Nat}{k:Kd}{a:Int}{s:AW}{l:List EH}{G:Kd->Option Value}{Z:List Pr}(hc:w.cell? (p.add 2)=some (.map (some bm)))(H:Sat (MapK bm G::Z) w)(e:(G k).getD (.slice none 0 0)=FJ s)
  (hr:rowAt w s.base s.len (l.map I4))(hl:l.length=s.len)(aQ:s.len<4611686018427387904)(hi: ∀x∈l,w.cell? ⟨x.EU,1,none⟩=some (.int .u64 x.base))(hs:Lp (·.base) l){K:Int->World->Prop}
  (hK: ∀w',Ext AN w w'->K ((pos (·.base) l a:Nat):Int) w'):F.Di E (some p) k.1 k.2.1 k.2.2.1 k.2.2.2 a K w:=by
 unfold F.Di T0.Di;refine AJ (vs:=NR k) (Sat.start w) λb1 w2 H2 e2=>AJ (vs:=[.int .u64 a]) H2 λb3 w4 H4 e4=> ?_;simp only[AK];have H5:=H4.drew;have e5:=H5.O4 2 rfl;have c5:=H5.front 1 rfl;refine⟨some bm,e5.cell hc (λf=>f),k.1,c5.cell rfl,k.2.1,c5.cell rfl,k.2.2.1,c5.cell rfl,k.2.2.2,c5.cell rfl,?_⟩;refine Ww (n:=k) (H.nothing e5) λes Y=>⟨s,e,?_⟩;refine AJ (vs:=[.slice none 0 0]) H5 λaF aT J aG=> ?_;have aH:=J.O4 3 rfl;have m:=J.front 2 rfl;obtain⟨c,Y⟩:=Y;refine⟨⟨c,aG.obj Y (λf=>f)⟩,⟨m.cell rfl,m.cell rfl,m.cell rfl,m.cell rfl,trivial⟩,aH.cell hc (λf=>f),?_⟩;refine CN (news:=[FJ s]) J rfl (by simp[FJ,Value.oneCell']) λaU O=> ?_;refine⟨s,O.AU rfl,?_⟩;have aI:=O.O4 3 rfl;have hp:=cC (key:=λx:EH=>x.base) l a;refine L4 (λi=>match l[i.toNat]? with|some x=>decide (x.base≥a)|none=>true) (by omega) (by omega) ?_ (pos (λx:EH=>x.base) l a:Nat) (by omega) (by omega) ?_ ?_ λw' v=>hK w' (aI.trans' v)
 .intro i w' aA aP v K' aC;have d:i.toNat<l.length:=by omega
  have e:=List.getElem?_eq_getElem d;simp only[e]at aC;have T:=(O.nothing v).drew;refine hE.qC i (some ⟨aF,0,none⟩) (some ⟨b3,0,none⟩) K' w' ?_;unfold F.Hy;simp only[AK];refine⟨s,T.AU rfl,?_⟩;have aB:=T.O4 3 rfl;have u:rowAt w'.drew s.base s.len (l.map I4):=Vt hr aB λ_ _ _ f=>f;cases hb:s.base with
  | none=>rw[hb]at u;have:l.map I4=[]:=u;simp at this;grind
  | some q=>
   rw[hb]at u;simp only[AK];refine⟨⟨aA,by omega⟩,some ⟨l[i.toNat].EU,0,none⟩,by rw[Nat.mul_one];exact u.2 _ _ (by rw[List.getElem?_map,e];rfl),?_⟩;simp only[AK];refine⟨l[i.toNat].base,?_,a,(T.front 1 rfl).AU rfl,?_⟩
   .rw[add_eq];exact aB.cell (hi _ (List.getElem_mem d)) λf=>f
   .exact aC _ (v.trans' (Ext.drew _ _))
 .intro i aA hi;have d:i.toNat<l.length:=by omega
  have e:=List.getElem?_eq_getElem d;simp only[e];have:=M1 (key:=λx:EH=>x.base) e (n:=a) (by omega)
  grind
 .intro i aA hi;have d:i.toNat<l.length:=by omega
  have e:=List.getElem?_eq_getElem d;simp only[e];have:=V8 hs e (n:=a) (by omega)
  grind
end
def wA(g:lT)(k:Kd):AW:=if k∈g.kinds then g.sl k else⟨none,0,0⟩
def OO(g:lT)(k:Kd):(Rz g.kinds g.sl k).getD (.slice none 0 0)=FJ (wA g k):=by
 unfold Rz wA;split<;>rfl
def qD{L:List EH}{k:Kd}(h: ∀x∈L,x.kd≠k):FW L k=[]:=by
 unfold FW;rw[List.filter_eq_nil_iff]
 grind
def XU(L:List EH)(k:Kd):(FW L k).length<=L.length:=List.length_filter_le _ _
def ZV(l:List EH): ∀v∈l.map I4,v.oneCell'=true:=by
 intro v a;obtain⟨x,_,rfl⟩:=List.mem_map.1 a;rfl
section
variable{E:Env}{w:World}{Z:List Pr}{b:Nat}{L:List EH}{g:lT}
def IV{Y:List Pr}(H:Sat (Cells b E.En (KO g)::Y) w):w.cell? (Addr.mk b 0 none)=some (.map (some g.bi))/\w.cell? ((Addr.mk b 0 none).add 1)=some (.map (some g.bb))/\w.cell? ((Addr.mk b 0 none).add 2)=some (.map (some g.bm)):=
 ⟨H.AU rfl,H.cell rfl,H.cell rfl⟩
def MJ{Y:List Pr}(H:Sat (Al (ZS E) L::Y) w){x:EH}(a:x∈L){j:Nat}{v:Value}(d:(MA x)[j]? =some v):w.cell? ((Addr.mk x.EU 0 none).add j)=some v:=by
 obtain⟨i,hi⟩:=List.mem_iff_getElem?.1 a;exact(H.FO hi).cell (by grind)
def Sat.qE(hI:v7 L g)(H:Sat (NO E b L g++Z) w)(k:Kd):
  Sat (Row E.DB 1 (wA g k) ((FW L k).map I4)::Al (VM E g.sl L) (g.kinds.erase k)::Cells b E.En (KO g)::CH g.bi .i64 (F5 (·.id) L)::CH g.bb .u64 (F5 (·.base) L)::MapK g.bm (Rz g.kinds g.sl)::Al (ZS E) L::Z) w:=by
 by_cases hk:k∈g.kinds
 .have H1:=(H.front 4 rfl).KT (List.perm_cons_erase hk);have a:=Sat.Ix.1 H1;have e:VM E g.sl L k=Row E.DB 1 (wA g k) ((FW L k).map I4):=by unfold VM wA;grind
  rw[e]at a;exact a
 .have e:wA g k=⟨none,0,0⟩:=by unfold wA;grind
  rw[e,qD (k:=k) λx d h=>hk (by rw[<-h];exact hI.ks x d),List.erase_of_not_mem hk];exact(H.front 4 rfl).nil E.DB 1
def Sat.qF{L':List EH}{s:AW}{k:Kd}(hI:v7 L g)(J:Sf L')(T: ∀j,j≠k->FW L' j=FW L j)(O: ∀x∈L',x.kd=k∨x.kd∈g.kinds)
  (H:Sat (Row E.DB 1 s ((FW L' k).map I4)::Al (VM E g.sl L) (g.kinds.erase k)::Cells b E.En (KO g)::CH g.bi .i64 (F5 (·.id) L')::CH g.bb .u64 (F5 (·.base) L')::MapK g.bm (λi=>if i=k then some (FJ s)else Rz g.kinds g.sl i)::Al (ZS E) L'::Z) w):
  Sat (GB E b L'::Z) w:=by
 have a:k∉g.kinds.erase k:=λh=>((hI.kn.mem_erase_iff).1 h).1 rfl;refine Sat.Dk.2 ⟨{g with kinds:=k::g.kinds.erase k,sl:=λj=>if j=k then s else g.sl j},⟨J,List.nodup_cons.2 ⟨a,hI.kn.erase k⟩,λx Y=> ?_⟩,?_⟩
 .grind
 .have d:(λi=>if i=k then some (FJ s)else Rz g.kinds g.sl i)=Rz (k::g.kinds.erase k) (λj=>if j=k then s else g.sl j):=by
   funext i;unfold Rz
   grind
  have m:Al (VM E g.sl L) (g.kinds.erase k)=Al (VM E (λj=>if j=k then s else g.sl j) L') (g.kinds.erase k):=Al.congr λj K=>by
   have:j≠k:=λe=>a (e▸K);unfold VM
   grind
  have u:Row E.DB 1 s ((FW L' k).map I4)=VM E (λj=>if j=k then s else g.sl j) L' k:=by unfold VM;grind
  rw[d,m,u]at H;have v:=Sat.Ix.2 H;exact(((v.front 4 rfl).front 4 rfl).front 4 rfl).front 4 rfl|>.perm (by
   refine List.Perm.refl _)
def qG{x:EH}(h:Sf L)(h1: ∀y∈L,y.id≠x.id/\y.base≠x.base)(d:L.length<1099511627776):Sf (G5 L x):=by
 refine⟨RD h.WL λy a=>(h1 y a).2,?_,?_⟩
 .rw[((G6 L x).map _).nodup_iff,List.map_cons,List.nodup_cons];refine⟨λhm=> ?_,h.nd⟩
  grind
 .rw[(G6 L x).length_eq,List.length_cons];omega
def qH(h:Sf L)(id:Int):Sf (Hv L id):=
 ⟨qB h.WL id,List.Nodup.sublist (List.filter_sublist.map _) h.nd,Nat.le_trans (List.length_filter_le _ _) h.NN⟩
def ZW(id c:Int):Prop:=id<1∨c<0∨68<=c
variable(hE:EnvW E)
include hE
theorem dH(H:Sat (GB E b L::Z) w){id base c:Int}{np full sw:Bool}(hf:L.length<1099511627776){K:Int->World->Prop}
  (aE:ZW id c->K 1 w)(aM: ¬ZW id c->(∃x∈L,x.id=id∨x.base=base)->K 34 w)
  (a3: ¬ZW id c->(∀x∈L,x.id≠id/\x.base≠base)-> ∀EU w',Sat (GB E b (G5 L ⟨EU,id,base,(c,np,full,sw)⟩)::Z) w'->K 0 w'):
  F.Fe E (some ⟨b,0,none⟩) id base c np full sw K w:=by
 obtain⟨g,hI,H⟩:=Sat.Dk.1 H;unfold F.Fe T0.Fe;simp only[AK,add_add];refine AZ (AG (λh j=>Aa rfl (aE (.inl h))) λn1=>AG (λh j=>Aa rfl (aE (.inr (.inl h)))) λn2 j=>AG (λh=>aE (.inr (.inr h))) λn3=> ?_);have nb: ¬ZW id c:=λh=>by rcases h with h|h|h<;>omega
 have hc:=IV H;refine AZ ⟨_,hc.1,MG (H.front 1 rfl) λes _=> ?_⟩;cases e1:F5 (·.id) L id with
 | some v=>
  obtain⟨x,m,h1,rfl⟩:=RE e1;exact⟨some ⟨x.EU,0,none⟩,rfl,Aa rfl λj=>Aa rfl (aM nb ⟨x,m,.inl h1⟩)⟩
 | none=>
 refine⟨none,rfl,AO rfl ⟨_,hc.2.1,MG (H.front 2 rfl) λes _=> ?_⟩⟩;cases e2:F5 (·.base) L base with
 | some v=>
  obtain⟨x,m,h1,rfl⟩:=RE e2;exact⟨some ⟨x.EU,0,none⟩,rfl,λj=>Aa rfl (aM nb ⟨x,m,.inr h1⟩)⟩
 | none=>
 refine⟨none,rfl,λj=>AO rfl ?_⟩;have a5: ∀x∈L,x.id≠id/\x.base≠base:=λx m=>⟨Mh.1 e1 x m,Mh.1 e2 x m⟩;have H0:=H.qE hI (c,np,full,sw);refine AJ (vs:=[.int .i64 id,.int .u64 base,.int .i64 c,.bool np,.bool full,.bool sw]) H0 λe bK aQ _=> ?_;have aG:=aQ.drew;have aL:=IV (aG.front 3 rfl);refine⟨_,aL.1,_,aL.2.1,?_⟩;refine fJ (aG.front 4 rfl) λbL aH=> ?_;have T:=Sat.back (Ps:=_::_::_::_::_::_::_::_::Z) 4 aH;refine fJ (T.front 5 rfl) λbM aI=> ?_;have d:=Sat.back (Ps:=_::_::_::_::_::_::_::_::Z) 5 aI;simp only[List.set_cons_succ,List.set_cons_zero]at d;clear aH T aI;obtain⟨x,m⟩: ∃x:EH,x=⟨e,id,base,(c,np,full,sw)⟩:=⟨_,rfl⟩;have hk:x.kd=(c,np,full,sw):=by rw[m]
 have m1:(λi=>if i=id then some (Value.pointer (some (Addr.mk e 0 none)))else F5 (·.id) L i)=F5 (·.id) (G5 L x):=by
  rw[ZT hI.inv.nd (by grind),m];rfl
 have m2:(λi=>if i=base then some (Value.pointer (some (Addr.mk e 0 none)))else F5 (·.base) L i)=F5 (·.base) (G5 L x):=by
  rw[ZT (WI hI.inv.WL) (by grind),m];rfl
 rw[m1,m2]at d;refine⟨c,d.cell rfl,np,d.cell rfl,full,d.cell rfl,sw,d.cell rfl,?_⟩;have hlen: ∀{w':World} {Y:List Pr} {s:AW},Sat (Row E.DB 1 s ((FW L (c,np,full,sw)).map I4)::Y) w'->(FW L (c,np,full,sw)).length=s.len:=λh=>by simpa using h.Bs
 have a4:=hlen (d.front 1 rfl);have bH:=XU L (c,np,full,sw);have a9:=(d.front 1 rfl).own.cap;refine RF (k:=(c,np,full,sw)) hE (IV (d.front 3 rfl)).2.2 (d.front 6 rfl) (OO _ _) (by simpa using(d.front 1 rfl).KE) a4 (by omega) (λy hy=> ?_) (K3 hI.inv.WL _) λbN aY=> ?_
 .have:=MJ (d.front 7 rfl) (E9.1 hy).1 (j:=1) rfl;rwa[add_eq]at this
 have hp:=cC (key:=λx:EH=>x.base) (FW L (c,np,full,sw)) base;generalize hpp:pos (λx:EH=>x.base) (FW L (c,np,full,sw)) base=i at *
 have O:=(d.nothing aY).drew;have aW:=IV (O.front 3 rfl);have d38: ∀{Y:List Pr} {w':World},Sat (Cells e E.IH [.int .i64 id,.int .u64 base,.int .i64 c,.bool np,.bool full,.bool sw]::Y) w'->w'.cell? ((Addr.mk e 0 none).add (2+0))=some (.int .i64 c)/\w'.cell? ((Addr.mk e 0 none).add (2+1))=some (.bool np)/\w'.cell? ((Addr.mk e 0 none).add (2+2))=some (.bool full)/\w'.cell? ((Addr.mk e 0 none).add (2+3))=some (.bool sw):=
  λh=>⟨h.cell rfl,h.cell rfl,h.cell rfl,h.cell rfl⟩
 obtain⟨d0,d1,d2,d3⟩:=d38 O;refine⟨_,aW.2.2,c,d0,np,d1,full,d2,sw,d3,Ww (n:=(c,np,full,sw)) (O.front 6 rfl) λes aD=>⟨_,OO _ _,?_⟩⟩;refine AJ (vs:=[.pointer none]) O λbC bO aA aZ=> ?_;obtain⟨cc,aD⟩:=aD;obtain⟨d0,d1,d2,d3⟩:=d38 (aA.front 1 rfl);refine⟨⟨cc,aZ.obj aD λf=>f⟩,⟨d0,d1,d2,d3,trivial⟩,(IV (aA.front 4 rfl)).2.2,?_⟩;refine GJ (aA.Bh 1 rfl) rfl rfl (by simp[Value.oneCell']) (by omega) (by omega) λOz bP J bA=> ?_;obtain⟨d0,d1,d2,d3⟩:=d38 (J.front 1 rfl);have aR:=J.drew;have aO:=J.own.cap;have aP:=J.own.top;rw[show i64 ((i:Int)+1)=((i+1:Nat):Int) by rw[AI];rfl,Int.toNat_natCast,Int.toNat_natCast];refine⟨⟨d0,d1,d2,d3,trivial⟩,(IV (J.front 3 rfl)).2.2,⟨by omega,by omega⟩,⟨by omega,by omega⟩,?_⟩;refine CPY_up aR (ZV _) (by simpa using hp) λbJ bQ u aJ=> ?_;obtain⟨bb,aC⟩:=aJ.own.Gj (by omega);rw[aC];simp only[AK];refine⟨⟨by omega,by omega⟩,?_⟩;rw[show i*1=i by omega];refine Km aJ (j:=i) rfl (by simp;omega) aC λbR aS=> ?_;have aB:=aS.drew;have aX:=IV (aB.front 3 rfl);obtain⟨d0,d1,d2,d3⟩:=d38 (aB.front 1 rfl);refine⟨_,aX.2.2,c,d0,np,d1,full,d2,sw,d3,?_⟩
 try rw[<-aC]
 refine Wx (n:=(c,np,full,sw)) (aB.front 6 rfl) λaF aT=> ?_;have aK:=Sat.back (Ps:=_::_::_::_::_::_::_::_::Z) 6 aT;simp only[List.set_cons_succ,List.set_cons_zero]at aK;refine a3 nb a5 e aF ?_;rw[<-m];have hb: ∀y∈L,y.base≠x.base:=by grind
 have er:(List.take i ((FW L (c,np,full,sw)).map I4)++u::List.drop i ((FW L (c,np,full,sw)).map I4)).set i (I4 x)=(FW (G5 L x) (c,np,full,sw)).map I4:=by
  rw[<-hk,vZ hI.inv.WL hb];unfold G5;rw[hk,show x.base=base by rw[m],hpp,List.map_append,List.map_cons,List.map_take,List.map_drop,List.set_append_right _ _ (by simp;omega)];congr 1;rw[show i-(List.take i ((FW L (c,np,full,sw)).map I4)).length=0 by simp;omega];rfl
 have aU:Sat (Row E.DB 1 Oz ((FW (G5 L x) (c,np,full,sw)).map I4)::ZS E x::Al (VM E g.sl L) (g.kinds.erase (c,np,full,sw))::Cells b E.En (KO g)::CH g.bi .i64 (F5 (·.id) (G5 L x))::CH g.bb .u64 (F5 (·.base) (G5 L x))::MapK g.bm (λi=>if i=(c,np,full,sw)then some (FJ Oz)else Rz g.kinds g.sl i)::Al (ZS E) L::Z) aF:=by
  have a1:ZS E x=Cells e E.IH [.int .i64 id,.int .u64 base,.int .i64 c,.bool np,.bool full,.bool sw]:=by rw[m];rfl
  have a0:I4 x= .pointer (some ⟨e,0,none⟩):=by rw[m];rfl
  rw[<-er,a1,a0];exact aK
 have aV:Sat (Al (ZS E) (G5 L x)::Row E.DB 1 Oz ((FW (G5 L x) (c,np,full,sw)).map I4)::Al (VM E g.sl L) (g.kinds.erase (c,np,full,sw))::Cells b E.En (KO g)::CH g.bi .i64 (F5 (·.id) (G5 L x))::CH g.bb .u64 (F5 (·.base) (G5 L x))::MapK g.bm (λi=>if i=(c,np,full,sw)then some (FJ Oz)else Rz g.kinds g.sl i)::Z) aF:=
  (Sat.Ix.2 ((aU.front 7 rfl).front 2 rfl)).KT (G6 L x).symm
 refine Sat.qF (s:=Oz) (k:=(c,np,full,sw)) hI (qG hI.inv (by grind) hf) (λj hj=>dF hI.inv.WL hb (by rw[hk];exact Ne.symm hj)) (λy hy=> ?_) (aV.perm ?_)
 .rcases Dd.1 hy with rfl|hy
  .grind
  .exact .inr (hI.ks y hy)
 .exact(List.perm_middle (a:=Al (ZS E) (G5 L x)) (l₁:=[_,_,_,_,_,_]) (l₂:=Z)).symm
end
def dI{L:List EH}{x:EH}{k:Kd}(d:(L.map (·.id)).Nodup)(m:x∈L)(h:x.kd≠k):FW (Hv L x.id) k=FW L k:=by
 unfold FW Hv;rw[List.filter_filter];refine List.filter_congr λy u=> ?_;by_cases e:y.kd=k
 .have:y.id≠x.id:=λa=>h (by rw[<-e,map_inj d u m a])
  grind
 .simp[e]
def wB{L:List EH}{x:EH}(d:Lp (·.base) L)(a:(L.map (·.id)).Nodup)(e:x∈L):FW (Hv L x.id) x.kd=(FW L x.kd).eraseIdx (pos (·.base) (FW L x.kd) x.base):=by
 have h1:FW (Hv L x.id) x.kd=Hv (FW L x.kd) x.id:=by
  unfold FW Hv;rw[List.filter_filter,List.filter_filter]
  grind
 rw[h1];have hm:x∈FW L x.kd:=E9.2 ⟨e,rfl⟩;exact XT (List.Nodup.sublist (List.filter_sublist.map _) a) (gP (K3 d _) hm rfl)
section
variable{E:Env}{w:World}{Z:List Pr}{b:Nat}{L:List EH}{g:lT}(hE:EnvW E)
include hE
theorem Ut(H:Sat (GB E b L::Z) w){id:Int}{K:Int->World->Prop}(aI:(∀x∈L,x.id≠id)->K 35 w)(aH: ∀x∈L,x.id=id-> ∀w',Sat (GB E b (Hv L id)::Z) w'->K 0 w'):
  F.DF E (some ⟨b,0,none⟩) id K w:=by
 obtain⟨g,hI,H⟩:=Sat.Dk.1 H;unfold F.DF T0.DF;simp only[AK,add_add];have hc:=IV H;refine⟨_,hc.1,MG (H.front 1 rfl) λes _=> ?_⟩;cases e1:F5 (·.id) L id with
 | none=>exact⟨none,rfl,Aa rfl (aI (Mh.1 e1))⟩
 | some v=>
 obtain⟨x,d,Nd,rfl⟩:=RE e1;subst Nd;refine⟨some ⟨x.EU,0,none⟩,rfl,AO rfl ⟨_,hc.1,?_⟩⟩;simp only[AK];have H0:=H.qE hI x.kd;refine Qe (H0.front 3 rfl) λw9 H9=> ?_;have u:=(Sat.back (Ps:=_::_::_::_::_::_::_::Z) 3 H9).drew;have ic: ∀{w':World} {Y:List Pr},Sat (Al (ZS E) L::Y) w'->w'.cell? ((Addr.mk x.EU 0 none).add 1)=some (.int .u64 x.base)/\w'.cell? ((Addr.mk x.EU 0 none).add (2+0))=some (.int .i64 x.kd.1)/\w'.cell? ((Addr.mk x.EU 0 none).add (2+1))=some (.bool x.kd.2.1)/\w'.cell? ((Addr.mk x.EU 0 none).add (2+2))=some (.bool x.kd.2.2.1)/\w'.cell? ((Addr.mk x.EU 0 none).add (2+3))=some (.bool x.kd.2.2.2):=
  λh=>⟨MJ h d rfl,MJ h d rfl,MJ h d rfl,MJ h d rfl,MJ h d rfl⟩
 obtain⟨i1,_⟩:=ic (u.front 6 rfl);refine⟨_,(IV (u.front 2 rfl)).2.1,x.base,i1,Qe (u.front 4 rfl) λaX aB=> ?_⟩;have e:=Sat.back (Ps:=_::_::_::_::_::_::_::Z) 4 aB;simp only[List.set_cons_succ,List.set_cons_zero]at e;clear H9 u aB i1;have m1:(λi=>if i=x.id then none else F5 (·.id) L i)=F5 (·.id) (Hv L x.id):=(ZU (f:=(·.id)) hI.inv.nd hI.inv.nd d).symm;have m2:(λi=>if i=x.base then none else F5 (·.base) L i)=F5 (·.base) (Hv L x.id):=(ZU (f:=(·.base)) hI.inv.nd (WI hI.inv.WL) d).symm;rw[m1,m2]at e;obtain⟨j1,j2,j3,j4,j5⟩:=ic (e.front 6 rfl);refine⟨_,j2,_,j3,_,j4,_,j5,_,j1,?_⟩;have aJ:(FW L x.kd).length=(wA g x.kd).len:=by simpa using e.Bs
 have aV:=XU L x.kd;have aQ:=hI.inv.NN;have m:=e.drew;refine RF (k:=x.kd) hE (IV (m.front 2 rfl)).2.2 (m.front 5 rfl) (OO _ _) (by simpa using m.KE) aJ (by omega) (λy hy=> ?_) (K3 hI.inv.WL _) λaZ aF=> ?_
 .have:=MJ (m.front 6 rfl) (E9.1 hy).1 (j:=1) rfl;rwa[add_eq]at this
 have hm:x∈FW L x.kd:=E9.2 ⟨d,rfl⟩;have aG:=gP (K3 hI.inv.WL x.kd) hm (n:=x.base) rfl;have hp:=(List.getElem?_eq_some_iff.1 aG).1;have aK:=wB hI.inv.WL hI.inv.nd d;generalize hpp:pos (λx:EH=>x.base) (FW L x.kd) x.base=i at *
 have J:=(m.nothing aF).drew;obtain⟨_,j2,j3,j4,j5⟩:=ic (J.front 6 rfl);refine⟨_,(IV (J.front 2 rfl)).2.2,_,j2,_,j3,_,j4,_,j5,Ww (n:=x.kd) (J.front 5 rfl) λes aT=>⟨_,OO _ _,?_⟩⟩;have O:=J.drew;obtain⟨_,j2,j3,j4,j5⟩:=ic (O.front 6 rfl);have aP:=O.own.cap;rw[show i64 ((i:Int)+1)=((i+1:Nat):Int) by rw[AI];rfl,Int.toNat_natCast,Int.toNat_natCast];refine⟨_,(IV (O.front 2 rfl)).2.2,_,j2,_,j3,_,j4,_,j5,⟨by omega,by omega⟩,⟨by omega,by omega⟩,?_⟩;refine vY O (ZV _) (by simpa using hp) λaY a0 T=> ?_;obtain⟨_,j2,j3,j4,j5⟩:=ic (T.front 6 rfl);refine⟨⟨j2,j3,j4,j5,trivial⟩,(IV (T.front 2 rfl)).2.2,Wx (n:=x.kd) (T.front 5 rfl) λaM aD=> ?_⟩;have aA:=Sat.back (Ps:=_::_::_::_::_::_::_::Z) 5 aD;simp only[List.set_cons_succ,List.set_cons_zero]at aA;refine aH x d rfl aM ?_;have er:((FW L x.kd).map I4).eraseIdx i=(FW (Hv L x.id) x.kd).map I4:=by rw[aK,Iw]
 rw[er]at aA;have aE:=(Sat.Ix.1 ((aA.front 6 rfl).KT (WK hI.inv.nd d))).tail;refine Sat.qF (s:=aY) (k:=x.kd) hI (qH hI.inv x.id) (λj hj=>dI hI.inv.nd d (Ne.symm hj)) (λy hy=>.inr (hI.ks y (Ka.1 hy).1)) (aE.perm ?_);exact(List.perm_middle (a:=Al (ZS E) (Hv L x.id)) (l₁:=[_,_,_,_,_,_]) (l₂:=Z)).symm
theorem Sg(H:Sat (GB E b L::Z) w){k:Kd}{K:Int->Bool->World->Prop}(u:FW L k=[]->K 0 false w)(J: ∀x r,FW L k=x::r-> ∀w',Sat (GB E b (Hv L x.id)::Z) w'->K x.id true w'):
  F.Da E (some ⟨b,0,none⟩) k.1 k.2.1 k.2.2.1 k.2.2.2 K w:=by
 have HS:=H;obtain⟨g,hI,H⟩:=Sat.Dk.1 H;unfold F.Da T0.Da;simp only[AK];have m:=H.qE hI k;have d:(FW L k).length=(wA g k).len:=by simpa using m.Bs
 refine⟨_,(IV H).2.2,Ww (n:=k) (H.front 3 rfl) λes aA=>⟨_,OO _ _,Cj (λe=> ?_) λe=> ?_⟩⟩
 .exact u (List.eq_nil_of_length_eq_zero (by omega))
 .cases hr:FW L k with
  | nil=>grind
  | cons x r=>
   have O:x∈L:=(E9.1 (by rw[hr];exact List.mem_cons_self:x∈FW L k)).1;rw[hr]at m d;simp at d;refine m.Ol (j:=0) (v:=I4 x) rfl λa ha Y=>⟨⟨by omega,by omega⟩,some ⟨x.EU,0,none⟩,Y,?_⟩;simp only[AK];have hi:=MJ (H.front 5 rfl) O (j:=0) rfl;rw[add_zero]at hi;refine⟨x.id,hi,Ut hE HS (λh=>absurd rfl (h x O)) λy hy he w' T=>J x r hr w' T⟩
end
def XV{k:Kd}{K:iX (.agg [.int .i64,.bool,.bool,.bool])->Prop}(h:K (k.1,k.2.1,k.2.2.1,k.2.2.2,())):unVT (.agg [.int .i64,.bool,.bool,.bool]) (.agg ⟨NR k⟩) K:=h
def XW{s:AW}{K:AW->Prop}(h:K s):sX (FJ s) K:=h
def TB(L:List EH)(sw:Bool)(done:List Kd):Nat:=(done.map λk=>if k.2.2.2=sw then(FW L k).length else 0).sum
def XX(L:List EH)(sw:Bool):Nat:=(L.filter λx=>x.HD==sw).length
def qI(L:List EH)(sw:Bool)(d:List Kd)(k:Kd):TB L sw (d++[k])=TB L sw d+if k.2.2.2=sw then(FW L k).length else 0:=by simp[TB]
def R0(x:EH)(L:List EH)(sw:Bool): ∀(d:List Kd),d.Nodup->TB (x::L) sw d=TB L sw d+if x.kd∈d/\x.HD=sw then 1 else 0
 | [],_=>by simp[TB]
 | k::d,hn=>by
  rw[List.nodup_cons]at hn;have a:=R0 x L sw d hn.2;have e:FW (x::L) k=if x.kd=k then x::FW L k else FW L k:=by
   unfold FW
   grind
  unfold TB at a⊢
  grind
def R9(sw:Bool): ∀d:List Kd,TB [] sw d=0
 | []=>rfl
 | k::d=>by
  have:=R9 sw d;unfold TB at this⊢;rw[List.map_cons,List.sum_cons,this];split<;>rfl
def ZX: ∀{L:List EH} {sw:Bool} {d:List Kd},d.Nodup->(∀x∈L,x.kd∈d)->TB L sw d=XX L sw
 | [],sw,d,_,_=>R9 sw d
 | x::L,sw,d,hn,h=>by
  have e:=ZX (L:=L) (sw:=sw) hn λy a=>h y (List.mem_cons_of_mem _ a);rw[R0 x L sw d hn,e];unfold XX
  grind
def wC(L:List EH)(sw:Bool){d:List Kd}(a:d.Nodup):TB L sw d<=L.length:=by
 induction L with
 | nil=>rw[R9];omega
 | cons x L ih=>
  rw[R0 x L sw d a,List.length_cons]
  grind
section
variable{E:Env}{w:World}{Z:List Pr}{b:Nat}{L:List EH}{g:lT}
def M6(H:Sat (GB E b L::Z) w){sw:Bool}{K:Int->World->Prop}(hK: ∀w',Sat (GB E b L::Z) w'->K ((XX L sw:Nat):Int) w'):F.GG E (some ⟨b,0,none⟩) sw K w:=by
 obtain⟨g,hI,H⟩:=Sat.Dk.1 H;unfold F.GG;simp only[AK];have aI:=hI.inv.NN;refine⟨_,(IV H).2.2,Wy (H.front 3 rfl) λr4 N w5 H5=> ?_⟩;refine AM (λst w'=> ∃cur done N',st.1=(TB L sw done:Nat)/\Sat (O6 r4 g.bm (Rz g.kinds g.sl) cur done N'::(NO E b L g++Z).eraseIdx 3) w') (λ_ w'=>Ms r4 g.bm w') ⟨none,[],N,rfl,H5⟩ ?_;rintro⟨n,u⟩ _ w7 ⟨cur,done,N',hn,H7⟩;dsimp only at hn⊢;subst hn;rw[H7.MX];refine AZ (Ro H7 (λaE O T j=>AZ (AO rfl ?_)) λk v aU N2 aP aQ hN J j=>AZ (Aa rfl λj2=>UC J λv' S' a=> ?_))
 .rw[ZX O.Yd.1 λx hx=>(T _).2 (by unfold Rz;rw[if_pos (hI.ks x hx)];grind)];exact hK aE (Sat.Dk.2 ⟨g,hI,Sat.back (Ps:=NO E b L g++Z) 3 O.fK (by simp[NO])⟩)
 .have hk:k∈g.kinds:=by
   unfold Rz at a;by_cases h:k∈g.kinds
   .exact h
   .rw[if_neg h]at a;cases a
  have aC:v'=FJ (g.sl k):=by unfold Rz at a;rw[if_pos hk]at a;exact(Option.some.inj a).symm
  subst aC;have hlen:(FW L k).length=(g.sl k).len:=by
   obtain⟨i,hi⟩:=List.mem_iff_getElem?.1 hk;have:=((H.front 4 rfl).FO hi).Bs
   grind
  refine XV (XW (AJ (vs:=[.int .i64 0,.bool false,.bool false,.bool false]) J λaM aV aA _=> ?_));refine CN (news:=NR k) aA rfl (by simp[NR,Value.oneCell']) λaF m=>⟨k.2.2.2,m.cell rfl,?_⟩;have Y:(done++[k]).Nodup:=J.Yd.1;have hle:=wC L sw Y;have d:=qI L sw done k;have hm:Ms r4 g.bm aF<N':=by rw[(m.front 1 rfl).MX];exact hN
  by_cases e:k.2.2.2=sw
  .rw[if_pos e]at d;refine Aa (by simp[e]) (Ac λt ht=>⟨⟨some k,done++[k],N2,?_,m.tail⟩,hm⟩);show t=_;rw[ht,d,AI];omega
  .rw[if_neg e]at d;refine AO (by grind) ⟨⟨some k,done++[k],N2,?_,m.tail⟩,hm⟩;omega
end
def Kb(k:Kd):Kd:=(k.1,k.2.1,k.2.2.1,false)
def Mi(k:Kd):Kd:=(k.1,k.2.1,k.2.2.1,true)
def EH.flip(x:EH):EH:={x with kd:=Kb x.kd}
def lD{L:List EH}{sw:Bool}(h:XX L sw=0): ∀x∈L,x.HD≠sw:=by
 intro x a e;unfold XX at h;rw[List.length_eq_zero_iff,List.filter_eq_nil_iff]at h
 grind
def XY(L:List EH)(x:EH):Prop:=x∈L/\x.HD=false/\ ∀y∈L,y.HD=false->x.base<=y.base
def iC(L:List EH)(done:List Kd)(p:Option Addr):Prop:=
 (p=none/\ ∀k∈done,k.2.2.2=false->FW L k=[])∨ ∃x∈L,p=some ⟨x.EU,0,none⟩/\x.HD=false/\ ∀k∈done,k.2.2.2=false-> ∀y∈FW L k,x.base<=y.base
section
variable{E:Env}{w:World}{Z:List Pr}{b:Nat}{L:List EH}{g:lT}
def qJ{Y:List Pr}(H:Sat (Al (VM E g.sl L) g.kinds::Y) w){k:Kd}(a:k∈g.kinds):rowAt w (g.sl k).base (g.sl k).len ((FW L k).map I4)/\(FW L k).length=(g.sl k).len:=by
 obtain⟨i,hi⟩:=List.mem_iff_getElem?.1 a;have h:=H.FO hi;exact⟨by simpa using h.KE,by simpa using h.Bs⟩
def iD{q:List EH}{s:AW}(h:rowAt w s.base s.len (q.map I4)){i:Nat}{x:EH}(hi:q[i]? =some x): ∃a,s.base=some a/\w.cell? (a.add (i*1))=some (I4 x):=by
 cases hb:s.base with
 | none=>rw[hb]at h;have:q.map I4=[]:=h;simp at this;grind
 | some a=>rw[hb]at h;exact⟨a,rfl,by rw[Nat.mul_one];exact h.2 i _ (by grind)⟩
def iE{k:Kd}{v:Value}(h:Rz g.kinds g.sl k=some v):k∈g.kinds/\v=FJ (g.sl k):=by
 unfold Rz at h
 grind
def kdM_ne{k:Kd}(h:k∈g.kinds):Rz g.kinds g.sl k≠none:=by unfold Rz;grind
def RG(H:Sat (GB E b L::Z) w){K:Int->Bool->World->Prop}(aS:(∀x∈L,x.HD=true)-> ∀w',Sat (GB E b L::Z) w'->K 0 false w')(aT: ∀x,XY L x-> ∀w',Sat (GB E b L::Z) w'->K x.id true w'):
  F.GF E (some ⟨b,0,none⟩) K w:=by
 obtain⟨g,hI,H⟩:=Sat.Dk.1 H;unfold F.GF;simp only[AK];refine⟨_,(IV H).2.2,Wy (H.front 3 rfl) λr4 N w5 H5=> ?_⟩;refine AM (λst w'=> ∃cur done N',iC L done st.1/\Sat (O6 r4 g.bm (Rz g.kinds g.sl) cur done N'::(NO E b L g++Z).eraseIdx 3) w') (λ_ w'=>Ms r4 g.bm w') ⟨none,[],N,.inl ⟨rfl,λk hk=>by cases hk⟩,H5⟩ ?_;rintro⟨p,u⟩ _ w7 ⟨cur,done,N',hp,H7⟩;dsimp only at hp⊢;rw[H7.MX];have aA: ∀{w'} {cur done N},Sat (O6 r4 g.bm (Rz g.kinds g.sl) cur done N::(NO E b L g++Z).eraseIdx 3) w'-> ∀{x},x∈L->w'.cell? (Addr.mk x.EU 0 none)=some (.int .i64 x.id)/\w'.cell? ((Addr.mk x.EU 0 none).add 1)=some (.int .u64 x.base):=λh x m=>
  ⟨by have:=MJ (h.front 5 rfl) m (j:=0) rfl;rwa[add_zero]at this,MJ (h.front 5 rfl) m (j:=1) rfl⟩
 refine AZ (Ro H7 (λaB aE aH j=>AZ (AO rfl ?_)) λk v bD N2 a8 bA hN aF j=>AZ (Aa rfl λj2=>UC aF λv' S' aV=> ?_))
 .have hb:Sat (GB E b L::Z) aB:=Sat.Dk.2 ⟨g,hI,Sat.back (Ps:=NO E b L g++Z) 3 aE.fK (by simp[NO])⟩;have hd: ∀x∈L,x.kd∈done:=λx m=>(aH _).2 (kdM_ne (hI.ks x m));rcases hp with ⟨rfl,h0⟩|⟨x,m,rfl,h1,h2⟩
  .refine Aa rfl (aS (λx m=> ?_) aB hb);cases e:x.HD with
   | true=>rfl
   | false=>
    have:=h0 _ (hd x m) e;have h3:x∈FW L x.kd:=E9.2 ⟨m,rfl⟩
    grind
  .refine AO rfl ?_;simp only[AK];exact⟨x.id,(aA aE m).1,aT x ⟨m,h1,λy J e=>h2 _ (hd y J) e y (E9.2 ⟨J,rfl⟩)⟩ aB hb⟩
 .obtain⟨hk,rfl⟩:=iE aV;refine XV (XW (AJ (vs:=[.int .i64 0,.bool false,.bool false,.bool false]) aF λa5 bE aN _=> ?_));refine CN (news:=NR k) aN rfl (by simp[NR,Value.oneCell']) λO aO=> ?_;have aG:=aO.drew;have d:=aG.tail;obtain⟨aI,hlen⟩:=qJ (d.front 4 rfl) hk;have hm: ∀w',w'=O.drew->Ms r4 g.bm w'<N':=λw' e=>by rw[e,d.MX];exact hN
  refine AZ ⟨k.2.2.2,aG.cell rfl,?_⟩;have GW:(k.2.2.2=false->FW L k=[]∨ ∃x∈L,p=some ⟨x.EU,0,none⟩/\ ∀y∈FW L k,x.base<=y.base)->iC L (done++[k]) p:=λhq=>by
   rcases hp with ⟨h0,h1⟩|⟨x,m,h0,h1,h2⟩
   .refine .inl ⟨h0,λk' Y e=> ?_⟩
    grind
   .refine .inr ⟨x,m,h0,h1,λk' Y e y J=> ?_⟩
    grind
  cases hs:k.2.2.2 with
  | true=>exact AO rfl λj=>AO rfl ⟨⟨_,_,N2,GW (λh=>by grind),d⟩,hm _ rfl⟩
  | false=>
  refine Aa rfl (AG (λa1=> ?_) λbB=> ?_)
  .obtain⟨x,r,hr⟩: ∃x r,FW L k=x::r:=by
    cases h:FW L k with
    | nil=>grind
    | cons x r=>grind
   have aK:=E9.1 (show x∈FW L k by rw[hr];exact List.mem_cons_self);have a0: ∀y∈FW L k,x.base<=y.base:=λy J=>by
    have aJ:=K3 hI.inv.WL k;rw[hr]at J aJ;rcases List.mem_cons.1 J with rfl|J
    .omega
    .exact Int.le_of_lt ((List.pairwise_cons.1 aJ).1 y J)
   obtain⟨a,ha,hc⟩:=iD aI (i:=0) (x:=x) (by grind);have take:(∀y,p=some (Addr.mk y 0 none)-> ∀z∈L,z.EU=y->x.base<z.base)->iC L (done++[k]) (some ⟨x.EU,0,none⟩):=λhq=>by
    refine .inr ⟨x,aK.1,rfl,by grind,λk' Y e y J=> ?_⟩;rcases List.mem_append.1 Y with h|h
    .rcases hp with ⟨h0,h1⟩|⟨z,hz,h0,h1,h2⟩
     .grind
     grind
    grind
   have T:(∀y,p=some (Addr.mk y 0 none)-> ∀z∈L,z.EU=y->x.base<z.base)-> ∀j:Nat->Value,CND true
     (NC (g.sl k).base λaW=>((0:Int)<=0/\(0:Int)<((g.sl k).len:Nat))/\ ∃aL:Option Addr,O.drew.cell? (aW.add (Int.toNat 0*1))=some (.pointer aL)/\((∃cur done N',iC L done aL/\Sat (O6 r4 g.bm (Rz g.kinds g.sl) cur done N'::(NO E b L g++Z).eraseIdx 3) O.drew)/\Ms r4 g.bm O.drew<N')) False:=λhq j=>by
    refine Aa rfl ?_;rw[ha];simp only[AK];exact⟨⟨by decide,by omega⟩,_,hc,⟨_,_,N2,take hq,d⟩,hm _ rfl⟩
   rcases hp with ⟨rfl,h1⟩|⟨z,hz,rfl,h1,h2⟩
   .exact Aa rfl λj=>T (λy J=>by cases J) j
   .refine AO rfl ?_;rw[ha];simp only[AK];refine⟨⟨by decide,by omega⟩,_,hc,?_⟩;simp only[AK];refine⟨_,(aA d aK.1).2,_,(aA d hz).2,λj=>AG (λa9=> ?_) λa7=> ?_⟩
    .have:=T (λy J z' bC e=>by grind) j;rw[ha]at this;simpa only[mQ,AK]using this
    grind
  .refine λj=>AO rfl ⟨⟨_,_,N2,GW (λ_=>.inl (List.eq_nil_of_length_eq_zero (by omega))),d⟩,hm _ rfl⟩
end
def ZY{α:Type}: ∀{l:List α} {i:Nat} {x:α},l.Nodup->l[i]? =some x->x∉l.eraseIdx i
 | [],i,x,_,h=>by simp at h
 | y::l,0,x,hn,h=>by grind
 | y::l,i+1,x,hn,h=>by
  have h:l[i]? =some x:=by grind
  rw[List.eraseIdx_cons_succ];have h1:=List.nodup_cons.1 hn;intro hm;rcases List.mem_cons.1 hm with e|hm
  .grind
  .exact ZY h1.2 h hm
def HE(L:List EH):List EH:=L.map EH.flip
def aE(E:Env)(c:EH->Bool)(x:EH):Pr:=ZS E (if c x=true then x.flip else x)
def qK{L:List EH}(h:Lp (·.base) L):Lp (·.base) (HE L):=List.Pairwise.map _ (λa b h=>h) h
def qL{L:List EH}(h:Sf L):Sf (HE L):=⟨qK h.WL,by
 have:(HE L).map (·.id)=L.map (·.id):=by unfold HE;rw[List.map_map];rfl
 rw[this];exact h.nd,by unfold HE;rw[List.length_map];exact h.NN⟩
def SA{f:EH->Int}(a: ∀x:EH,f x.flip=f x): ∀L:List EH,F5 f (HE L)=F5 f L
 | []=>rfl
 | x::L=>by
  show F5 f (x.flip::HE L)=_;rw[O2,O2,SA a L,a];rfl
def LC{k:Kd}(h:k.2.2.2=true):Mi (Kb k)=k:=by
 obtain⟨a,b,c,d⟩:=k;have:d=true:=h;subst this;rfl
def SB{k:Kd}(h:k.2.2.2=false):Kb (Mi k)=k:=by
 obtain⟨a,b,c,d⟩:=k;have:d=false:=h;subst this;rfl
def qM{L:List EH}(d: ∀x∈L,x.HD=true){k:Kd}(a:k.2.2.2=false):(FW (HE L) k).map I4=(FW L (Mi k)).map I4:=by
 unfold FW HE;rw[List.filter_map,List.map_map];have:L.filter ((λx=>decide (x.kd=k))∘EH.flip)=L.filter λx=>decide (x.kd=Mi k):=by
  refine List.filter_congr λx m=> ?_;show decide (Kb x.kd=k)=decide (x.kd=Mi k);refine decide_eq_decide.2 ⟨λe=> ?_,λe=> ?_⟩
  .rw[<-e,LC (d x m)]
  .rw[e,SB a]
 rw[this];rfl
def lE(L:List EH)(sl:Kd->AW)(done:List Kd):Kd->Option Value:=λk=>if k.2.2.2=false/\Mi k∈done/\FW L (Mi k)≠ []then some (FJ (sl (Mi k)))else none
def qN{L:List EH}{sl:Kd->AW}{done:List Kd}{k:Kd}(h:k.2.2.2=false∨FW L k=[]):lE L sl (done++[k])=lE L sl done:=by
 funext j;unfold lE;by_cases e:Mi j=k
 .have: ¬(j.2.2.2=false/\Mi j∈done++[k]/\FW L (Mi j)≠ []):=λ⟨_,_,q⟩=>by
   rcases h with h|h
   .rw[<-e]at h;cases h
   grind
  grind
 .simp[e]
def wD{L:List EH}{sl:Kd->AW}{done:List Kd}{k:Kd}(h1:k.2.2.2=true)(a:FW L k≠ []):(λj=>if j=Kb k then some (FJ (sl k))else lE L sl done j)=lE L sl (done++[k]):=by
 funext j;unfold lE;by_cases e:j=Kb k
 .rw[if_pos e];have:Mi j=k:=by rw[e,LC h1]
  rw[this,if_pos ⟨by rw[e];rfl,by simp,a⟩]
 .rw[if_neg e];by_cases hj:j.2.2.2=false
  .have:Mi j≠k:=λh=>e (by rw[<-h,SB hj]);simp[this]
  grind
section
variable{E:Env}{w:World}{Z:List Pr}{b:Nat}{L:List EH}{g:lT}
def ZZ(H:Sat (GB E b L::Z) w){K:Int->World->Prop}(bB:0<XX L false-> ∀w',Sat (GB E b L::Z) w'->K 33 w')(bA:(∀x∈L,x.HD=true)-> ∀w',Sat (GB E b (HE L)::Z) w'->K 0 w'):
  F.Ew E (some ⟨b,0,none⟩) K w:=by
 unfold F.Ew T0.Ew;refine M6 H λw2 H2=>AG (λh=>bB (by omega) w2 H2) λh=> ?_;have aG: ∀x∈L,x.HD=true:=λx J=>by
  have:=lD (L:=L) (sw:=false) (by omega) x J
  grind
 obtain⟨g,hI,H⟩:=Sat.Dk.1 H2;refine fI H λb3 w4 H4 _=> ?_;simp only[AK];refine⟨_,(IV (H4.front 1 rfl)).2.2,Wy (H4.front 4 rfl) λr8 N w9 H9=> ?_⟩;have a6:=M5 hI.inv.nd;have e0:lE L g.sl []=λ_=>none:=by funext k;unfold lE;simp
 have e1:Al (ZS E) L=Al (aE E λx=>decide (x.kd∈([]:List Kd))) L:=Al.congr λx _=>by simp[aE]
 refine AM (λ_ w'=> ∃cur done N',Sat (O6 r8 g.bm (Rz g.kinds g.sl) cur done N'::MapK b3 (lE L g.sl done)::Cells b E.En (KO g)::CH g.bi .i64 (F5 (·.id) L)::CH g.bb .u64 (F5 (·.base) L)::Al (VM E g.sl L) g.kinds::Al (aE E λx=>decide (x.kd∈done)) L::Z) w') (λ_ w'=>Ms r8 g.bm w') ⟨none,[],N,by rw[e0,<-e1];exact H9⟩ ?_;rintro _ _ cC ⟨cur,done,N',aJ⟩;rw[aJ.MX];refine AZ (Ro aJ (λcD aY aR j=>AZ (AO rfl ?_)) λk v cE N2 b2 b6 hN aK j=>AZ (Aa rfl λj2=>UC aK λv' S' bE=> ?_))
 .have hd: ∀k,k∈done↔k∈g.kinds:=λk=>by
   rw[aR k];unfold Rz
   grind
  refine Ah (aY.front 2 rfl) (o:=0) (m:=2) rfl (by simp[KO]) λaW aZ=>bA aG aW ?_
  let P:Kd->Bool:=λk=>k.2.2.2&& !(FW L k).isEmpty
  have hP: ∀k,P k=true↔k.2.2.2=true/\FW L k≠ []:=λk=>by simp[P]
  refine Sat.Dk.2 ⟨{g with bm:=b3,kinds:=(g.kinds.filter P).map Kb,sl:=λk=>g.sl (Mi k)},⟨qL hI.inv,?_,?_⟩,?_⟩
  .refine List.Pairwise.map _ (λa c a7=> ?_) (List.Pairwise.and_mem.1 (hI.kn.filter P));obtain⟨ha,hc,T⟩:=a7;intro e;have ha:=((hP a).1 (List.mem_filter.1 ha).2).1;have hc:=((hP c).1 (List.mem_filter.1 hc).2).1;exact T (by rw[<-LC ha,e,LC hc])
  .intro x J;obtain⟨y,O,rfl⟩:=List.mem_map.1 J;refine List.mem_map.2 ⟨y.kd,List.mem_filter.2 ⟨hI.ks y O,(hP _).2 ⟨aG y O,λh=> ?_⟩⟩,rfl⟩;have:y∈FW L y.kd:=E9.2 ⟨O,rfl⟩
   grind
  .have q1:lE L g.sl done=Rz ((g.kinds.filter P).map Kb) (λk=>g.sl (Mi k)):=by
    funext k;unfold lE Rz;have:(k.2.2.2=false/\Mi k∈done/\FW L (Mi k)≠ [])↔k∈(g.kinds.filter P).map Kb:=by
     rw[List.mem_map];constructor
     .rintro⟨h1,h2,h3⟩;exact⟨Mi k,List.mem_filter.2 ⟨(hd _).1 h2,(hP _).2 ⟨rfl,h3⟩⟩,SB h1⟩
     .rintro⟨k',h1,rfl⟩;obtain⟨h2,h3⟩:=List.mem_filter.1 h1;obtain⟨h3,h4⟩:=(hP _).1 h3;rw[LC h3];exact⟨rfl,(hd _).2 h2,h4⟩
    grind
   have q2:Al (aE E λx=>decide (x.kd∈done)) L=Al (ZS E) (HE L):=by
    unfold HE Al;rw[List.map_map];congr 1;refine List.map_congr_left λx J=> ?_;show ZS E _=ZS E x.flip;rw[if_pos (by simpa using(hd _).2 (hI.ks x J))]
   have q3:Al (VM E g.sl L) (g.kinds.filter P)=Al (VM E (λk=>g.sl (Mi k)) (HE L)) ((g.kinds.filter P).map Kb):=by
    unfold Al;rw[List.map_map];congr 1;refine List.map_congr_left λk hk=> ?_;have:=((hP k).1 (List.mem_filter.1 hk).2).1;show VM E g.sl L k=VM E (λk=>g.sl (Mi k)) (HE L) (Kb k);unfold VM;rw[qM aG (k:=Kb k) rfl];simp only[LC this]
   have aL:=Sat.back (Ps:=_::_::_::_::_::_::_::Z) 2 aZ;simp only[List.set_cons_succ,List.set_cons_zero]at aL;have aM:Sat (Al (VM E g.sl L) (g.kinds.filter P)::MapK b3 (lE L g.sl done)::Cells b E.En ((KO g).set 2 (.map (some b3)))::CH g.bi .i64 (F5 (·.id) L)::CH g.bb .u64 (F5 (·.base) L)::Al (aE E λx=>decide (x.kd∈done)) L::Z) aW:=by
    have h1:=(aL.tail.front 4 rfl).KT (L':=g.kinds.filter P++g.kinds.filter λk=> !P k) (List.filter_append_perm P g.kinds).symm;have h2:=Sat.tF.1 h1;exact(h2.front 1 rfl).tail
   rw[q1,q2,q3]at aM;unfold NO;rw[SA (f:=(·.id)) (λ_=>rfl),SA (f:=(·.base)) (λ_=>rfl)];exact((((aM.front 0 rfl).front 1 rfl).front 4 rfl).front 4 rfl).front 4 rfl
 .obtain⟨hk,rfl⟩:=iE bE;refine XV (XW (AJ (vs:=[.int .i64 0,.bool false,.bool false,.bool false]) aK λa4 cG a0 _=> ?_));refine CN (news:=NR k) a0 rfl (by simp[NR,Value.oneCell']) λcH a1=> ?_;refine Ah a1 (o:=0) (m:=3) rfl (by simp[NR]) λcI aD=> ?_;have hlen:=(qJ (aD.front 6 rfl) hk).2;have bD:=XU L k;have bK:=hI.inv.NN;have e2:(λx:EH=>decide (x.kd∈done))=λx=>decide (x.kd∈done)||decide (x.id∈((FW L k).take 0).map (·.id)):=by grind
  rw[e2]at aD;refine AM (λst w'=> ∃i:Nat,st.1=(i:Int)/\i<=(FW L k).length/\Sat (Cells a4 E.JO (NR (Kb k))::O6 r8 g.bm (Rz g.kinds g.sl) (some k) (done++[k]) N2::MapK b3 (lE L g.sl done)::Cells b E.En (KO g)::CH g.bi .i64 (F5 (·.id) L)::CH g.bb .u64 (F5 (·.base) L)::Al (VM E g.sl L) g.kinds::Al (aE E λx=>decide (x.kd∈done)||decide (x.id∈((FW L k).take i).map (·.id))) L::Z) w') (λst _=>((FW L k).length-st.1).toNat)
   ⟨0,rfl,Nat.zero_le _,aD⟩ ?_
  rintro⟨i',u⟩ _ cJ ⟨i,hi,b4,d⟩;dsimp only at hi⊢;subst hi;obtain⟨aU,_⟩:=qJ (d.front 6 rfl) hk;refine AG (λb5=> ?_) λbZ=> ?_
  .obtain⟨x,J⟩: ∃x,(FW L k)[i]? =some x:=⟨_,List.getElem?_eq_getElem (by omega)⟩;obtain⟨a,ha,hc⟩:=iD aU J;have aH:=E9.1 (List.mem_of_getElem? J);rw[ha];simp only[AK];refine⟨⟨by omega,by omega⟩,some ⟨x.EU,0,none⟩,hc,_,d.cell rfl,_,d.cell rfl,_,d.cell rfl,_,d.cell rfl,?_⟩;simp only[AK];obtain⟨jj,hj⟩:=List.mem_iff_getElem?.1 aH.1;have aC:((FW L k).map (·.id)).Nodup:=List.Nodup.sublist (List.filter_sublist.map _) hI.inv.nd;have bM:x.id∉((FW L k).take i).map (·.id):=λhm=>by
    obtain⟨y,O,e⟩:=List.mem_map.1 hm;obtain⟨n,hn⟩:=List.mem_iff_getElem?.1 O;rw[List.getElem?_take]at hn;split at hn
    .rename_i hni;have e2:=map_inj aC (List.mem_of_getElem? hn) (List.mem_of_getElem? J) e;subst e2;have n1:=(List.getElem?_eq_some_iff.1 hn);have n2:=(List.getElem?_eq_some_iff.1 J);have:=(List.getElem_inj (h₀:=n1.1) (h₁:=n2.1) (M5 aC)).1 (by grind);omega
    .cases hn
   have aA:=(d.front 7 rfl).FO hj;have ei:aE E (λx=>decide (x.kd∈done)||decide (x.id∈((FW L k).take i).map (·.id))) x=Cells x.EU E.IH (MA x):=by
    unfold aE;rw[if_neg]
    .rfl
    grind
   rw[ei]at aA;rw[add_eq];refine Qa [.int .i64 (Kb k).1,.bool (Kb k).2.1,.bool (Kb k).2.2.1,.bool (Kb k).2.2.2] (0+2) 0 aA (by simp[MA]) (by simp[Value.oneCell']) λcK aF=> ?_;have ec:List.take (0+2+0) (MA x)++[.int .i64 (Kb k).1,.bool (Kb k).2.1,.bool (Kb k).2.2.1,.bool (Kb k).2.2.2]++List.drop (0+2+0+[Value.int .i64 (Kb k).1,.bool (Kb k).2.1,.bool (Kb k).2.2.1,.bool (Kb k).2.2.2].length) (MA x)=MA x.flip:=by
    rw[<-aH.2];rfl
   rw[ec]at aF;have e3:Cells x.EU E.IH (MA x.flip)=aE E (λx=>decide (x.kd∈done)||decide (x.id∈((FW L k).take (i+1)).map (·.id))) x:=by
    unfold aE;rw[if_pos]
    .rfl
    .rw[Gd J];simp
   have e4:Al (aE E λx=>decide (x.kd∈done)||decide (x.id∈((FW L k).take i).map (·.id))) (L.eraseIdx jj)=Al (aE E λx=>decide (x.kd∈done)||decide (x.id∈((FW L k).take (i+1)).map (·.id))) (L.eraseIdx jj):=Al.congr λy O=>by
    have bF:y∈L:=List.mem_of_mem_eraseIdx O;have T:y.id≠x.id:=λe=>ZY a6 hj (map_inj hI.inv.nd bF aH.1 e▸O);unfold aE;rw[Gd J,List.map_append];simp[T]
   rw[e3,e4]at aF;have aN:=Sat.back (Ps:=_::_::_::_::_::_::_::_::Z) 7 (aF.Jb hj);simp only[List.set_cons_succ,List.set_cons_zero]at aN;refine⟨⟨i+1,by rw[AI];rfl,by omega,aN⟩,?_⟩;rw[AI];omega
  .have a8:i=(FW L k).length:=by omega
   have e5:Al (aE E λx=>decide (x.kd∈done)||decide (x.id∈((FW L k).take i).map (·.id))) L=Al (aE E λx=>decide (x.kd∈done++[k])) L:=Al.congr λx J=>by
    unfold aE;rw[a8,List.take_length];have:(decide (x.kd∈done)||decide (x.id∈(FW L k).map (·.id)))=decide (x.kd∈done++[k]):=by
     have bL:x.id∈(FW L k).map (·.id)↔x.kd=k:=by
      rw[List.mem_map];constructor
      .rintro⟨y,O,e⟩;have O:=E9.1 O;rw[<-map_inj hI.inv.nd O.1 J e];exact O.2
      .intro e;exact⟨x,E9.2 ⟨J,e⟩,rfl⟩
     grind
    grind
   rw[e5]at d;have hm: ∀{w'} {Y},Sat (O6 r8 g.bm (Rz g.kinds g.sl) (some k) (done++[k]) N2::Y) w'->Ms r8 g.bm w'<N':=λh=>by rw[h.MX];exact hN
   refine AG (λbN=> ?_) λb7=> ?_
   .have T:FW L k≠ []:=λh=>by grind
    have bC:k.2.2.2=true:=by
     cases hq:FW L k with
     | nil=>grind
     | cons x r=>
      have J:=E9.1 (show x∈FW L k by rw[hq];exact List.mem_cons_self)
      grind
    refine⟨_,d.cell rfl,_,d.cell rfl,_,d.cell rfl,_,d.cell rfl,Wx (n:=Kb k) (d.front 2 rfl) λcL a2=> ?_⟩;have aB:=Sat.back (Ps:=_::_::_::_::_::_::_::_::Z) 2 a2;simp only[List.set_cons_succ,List.set_cons_zero]at aB;have et:=wD (sl:=g.sl) (done:=done) bC T;unfold FJ at et;rw[et]at aB;exact⟨⟨_,_,_,aB.tail⟩,hm aB.tail⟩
   .have he:FW L k=[]:=List.eq_nil_of_length_eq_zero (by omega);have aA:=d.tail;rw[<-qN (sl:=g.sl) (done:=done) (.inr he)]at aA
    grind
end
def Lh{p:Nat->Prop}(h: ∃n,p n): ∃n,p n/\ ∀m,p m->n<=m:=by
 obtain⟨n,a⟩:=h
 induction n using Nat.strongRecOn with
 | _ n ih=>grind
def iF{σ:Type}{s0:σ}{w0:World}{body:σ->(Nat->Value)->World->(σ->World->Prop)->Prop}(I:Nat->σ->World->Prop)(n0:Nat)(h0:I n0 s0 w0)
  (h: ∀n s j w,I n s w->body s j w λs' w'=> ∃a,a<n/\I a s' w'):BI σ s0 w0 body:=by
 classical
 let m:σ->World->Nat:=λs w=>if g: ∃n,I n s w then(Lh g).choose else 0
 refine AM (λs w=> ∃n,I n s w) m ⟨n0,h0⟩ λs j w g=> ?_;have hm:I (m s w) s w:=by
  show I (if g: ∃n,I n s w then(Lh g).choose else 0) s w;rw[dif_pos g];exact(Lh g).choose_spec.1
 have d:=h (m s w) s j w hm;have e:(λs' w'=> ∃a,a<m s w/\I a s' w')=λs' w'=>(∃n,I n s' w')/\m s' w'<m s w:=by
  funext s' w';refine propext ⟨λ⟨a,h1,h2⟩=>⟨⟨a,h2⟩,?_⟩,λ⟨h1,h2⟩=>⟨m s' w',h2,?_⟩⟩
  .show(if g: ∃n,I n s' w' then(Lh g).choose else 0)<_;rw[dif_pos ⟨a,h2⟩];exact Nat.lt_of_le_of_lt ((Lh ⟨a,h2⟩).choose_spec.2 _ h2) h1
  .show I (if g: ∃n,I n s' w' then(Lh g).choose else 0) s' w';rw[dif_pos h1];exact(Lh h1).choose_spec.1
 grind
structure Rc where
 EU:Nat
 addr:Int
 kind:Int
 data:Int
def Rc.key(x:Rc):Int:=4*x.addr+x.kind
def Gh(x:Rc):Option Addr:=some ⟨x.EU,0,none⟩
def E4:List Rc->Option Addr->Option Addr
 | [],p=>p
 | x::_,_=>Gh x
def dJ(E:Env)(x:Rc)(p:Option Addr):Pr:=Cells x.EU E.MZ [.int .u64 x.addr,.int .i64 x.kind,.int .u64 x.data,.pointer p]
def FY(E:Env):List Rc->Option Addr->List Pr
 | [],_=>[]
 | x::r,p=>dJ E x (E4 r p)::FY E r p
def slotOf(b:Nat)(A:List Rc):Addr:=match A.getLast? with
 | none=>⟨b,0,none⟩
 | some x=>(Addr.mk x.EU 0 none).add 3
def O3(A B:List Rc)(p:Option Addr):E4 (A++B) p=E4 A (E4 B p):=by cases A<;>rfl
def M7(E:Env): ∀(A B:List Rc) (p:Option Addr),FY E (A++B) p=FY E A (E4 B p)++FY E B p
 | [],B,p=>rfl
 | x::A,B,p=>by
  show dJ E x (E4 (A++B) p)::FY E (A++B) p=dJ E x (E4 A (E4 B p))::(FY E A (E4 B p)++FY E B p);rw[O3,M7 E A B p]
def JL{a:Addr}{K:Addr->Prop}(h:K a):NC (some a) K:=by rw[AK];exact h
structure Si(R:List Rc):Prop where
 WL:Lp Rc.key R
 kd: ∀x∈R,1<=x.kind/\x.kind<=3/\0<=x.addr/\x.addr<18446744073709551616
 NN:R.length<=1099511627776
def FE(E:Env)(b:Nat)(A:List Rc)(p:Option Addr)(n:Int):List Pr:=Cells b E.Ct [.pointer (E4 A p),.int .i64 n]::FY E A p
def I5(E:Env)(b:Nat)(R:List Rc):Pr:=KR (Si R) (S5 (FE E b R none R.length))
section
variable{E:Env}{w:World}{Z:List Pr}{b:Nat}{R:List Rc}
def Sat.spec:Sat (I5 E b R::Z) w↔Si R/\Sat (FE E b R none R.length++Z) w:=by
 unfold I5;rw[Sat.where,Sat.star]
def Za(H:Sat Z w){K:Option Addr->World->Prop}(d: ∀b w',Sat (I5 E b []::Z) w'->K (some ⟨b,0,none⟩) w'):F.Ly E K w:=by
 unfold F.Ly;refine AJ (vs:=[.pointer none,.int .i64 0]) H λb w' a _=>d b w' (Sat.spec.2 ⟨⟨.nil,λx e=>(by cases e),by decide⟩,a⟩)
def OP(A:List Rc)(x:Rc):slotOf b (A++[x])=(Addr.mk x.EU 0 none).add 3:=by
 unfold slotOf
 grind
def Zb(A:List Rc)(x:Rc)(p:Option Addr):FY E (A++[x]) p=FY E A (Gh x)++[dJ E x p]:=by rw[M7];rfl
def dK(A:List Rc)(x:Rc)(p:Option Addr):E4 (A++[x]) p=E4 A (Gh x):=by rw[O3];rfl
def Uu{α:Type}(A:List α):A=[]∨ ∃a x,A=a++[x]:=by
 rcases List.eq_nil_or_concat A with h|⟨a,x,h⟩
 .grind
 grind
def Sat.XZ{A:List Rc}{x:Rc}{p:Option Addr}{n:Int}:Sat (FE E b (A++[x]) p n++Z) w↔Sat (dJ E x p::(FE E b A (Gh x) n++Z)) w:=by
 unfold FE;rw[Zb,dK];have hp:(Cells b E.Ct [.pointer (E4 A (Gh x)),.int .i64 n]::(FY E A (Gh x)++[dJ E x p])++Z).Perm (dJ E x p::(Cells b E.Ct [.pointer (E4 A (Gh x)),.int .i64 n]::FY E A (Gh x)++Z)):=by
  rw[List.cons_append,List.cons_append,List.append_assoc];exact(List.Perm.cons _ List.perm_middle).trans (.swap _ _ _)
 exact⟨λh=>h.perm hp,λh=>h.perm hp.symm⟩
def Mj{A:List Rc}{p:Option Addr}{n:Int}(H:Sat (FE E b A p n++Z) w):w.cell? (slotOf b A)=some (.pointer p):=by
 rcases Uu A with rfl|⟨a,x,rfl⟩
 .exact H.AU rfl
 .rw[OP];exact(Sat.XZ.1 H).cell rfl
def qO{A:List Rc}{p q:Option Addr}{n:Int}(H:Sat (FE E b A p n++Z) w){K:World->Prop}(d: ∀w',Sat (FE E b A q n++Z) w'->K w'):stCells (slotOf b A) 0 [.pointer q] w K:=by
 rcases Uu A with rfl|⟨e,x,rfl⟩
 .exact BT H (o:=0) rfl (by simp) λw' a=>d w' a
 .rw[OP];exact Ah (Sat.XZ.1 H) (o:=0) (m:=3) rfl (by simp) λw' a=>d w' (Sat.XZ.2 a)
def Sat.Xa{A B:List Rc}{y:Rc}{p:Option Addr}{n:Int}:Sat (FE E b (A++y::B) p n++Z) w↔Sat (dJ E y (E4 B p)::(FE E b A (Gh y) n++(FY E B p++Z))) w:=by
 unfold FE;rw[M7,O3];show Sat (Cells b E.Ct [.pointer (E4 A (Gh y)),.int .i64 n]::(FY E A (Gh y)++dJ E y (E4 B p)::FY E B p)++Z) w↔_;have hp:(Cells b E.Ct [.pointer (E4 A (Gh y)),.int .i64 n]::(FY E A (Gh y)++dJ E y (E4 B p)::FY E B p)++Z).Perm (dJ E y (E4 B p)::(Cells b E.Ct [.pointer (E4 A (Gh y)),.int .i64 n]::FY E A (Gh y)++(FY E B p++Z))):=by
  rw[List.cons_append,List.cons_append,List.append_assoc,List.cons_append];exact(List.Perm.cons _ List.perm_middle).trans (.swap _ _ _)
 exact⟨λh=>h.perm hp,λh=>h.perm hp.symm⟩
def JQ{A B:List Rc}{p:Option Addr}{n:Int}:Sat (FE E b (A++B) p n++Z) w↔Sat (FE E b A (E4 B p) n++(FY E B p++Z)) w:=by
 unfold FE;rw[M7,O3,List.cons_append,List.cons_append,List.append_assoc]
def M8(H:Sat (I5 E b R::Z) w){a k:Int}(hk:0<=k/\k<=3){K:Option Addr->World->Prop}
  (hK: ∀A B,R=A++B->(∀x∈A,x.key<4*a+k)->(∀x∈B,4*a+k<=x.key)->K (some (slotOf b A)) w):F.DK E (some ⟨b,0,none⟩) a k K w:=by
 obtain⟨hI,H⟩:=Sat.spec.1 H;unfold F.DK;simp only[AK];refine iF (λn st w'=>w'=w/\ ∃A B,st.1=some (slotOf b A)/\R=A++B/\(∀x∈A,x.key<4*a+k)/\n=B.length) R.length ⟨rfl,[],R,rfl,rfl,λx d=>(by cases d),rfl⟩ ?_;rintro n ⟨p,u⟩ _ T ⟨rfl,A,B,hp,hR,hA,hn⟩;dsimp only at hp⊢;subst hp;subst hR;have hs:=JQ.1 H;have m:=Mj hs;have done:(∀x∈B,4*a+k<=x.key)->K (some (slotOf b A)) T:=λJ=>hK A B rfl hA J;refine AZ ?_;simp only[AK];cases B with
 | nil=>exact⟨none,m,AO rfl (done λx d=>by cases d)⟩
 | cons y B=>
  have hy:=Sat.Xa.1 H;have y0:T.cell? (Addr.mk y.EU 0 none)=some (.int .u64 y.addr):=hy.AU rfl;have y1:T.cell? ((Addr.mk y.EU 0 none).add 1)=some (.int .i64 y.kind):=hy.cell rfl;have aJ:=hI.kd y (by simp);have v:=(List.pairwise_append.1 hI.WL).2.1;have J:4*a+k<=y.key-> ∀x∈y::B,4*a+k<=x.key:=λh x d=>by
   rcases List.mem_cons.1 d with rfl|d
   .exact h
   .have:=(List.pairwise_cons.1 v).1 x d;omega
  have go:y.key<4*a+k-> ∃n',n'<n/\True/\ ∃O Y,some ((Addr.mk y.EU 0 none).add 3)=some (slotOf b O)/\A++y::B=O++Y/\(∀x∈O,x.key<4*a+k)/\n'=Y.length:=λh=>by
   refine⟨B.length,by rw[hn];grind,trivial,A++[y],B,by rw[OP],by simp,λx d=> ?_,rfl⟩
   grind
  have aA:y.key=4*y.addr+y.kind:=rfl;refine⟨Gh y,m,Aa rfl ⟨Gh y,m,JL ⟨y.addr,y0,AG (λg=> ?_) λg=>⟨Gh y,m,JL ⟨y.addr,y0,Cj (λe=>⟨Gh y,m,JL ⟨y.kind,y1,AG (λg2=> ?_) λg2=>done (J (by omega))⟩⟩) λe=>done (J (by omega))⟩⟩⟩⟩⟩
  .exact λj=>⟨Gh y,m,JL (go (by omega))⟩
  .exact λj=>⟨Gh y,m,JL (go (by omega))⟩
end
def Re(x:Rc):List Value:=[.int .u64 x.addr,.int .i64 x.kind,.int .u64 x.data]
def Xb(x:Rc):(Re x).length=3:=rfl
def Xc(x:Rc): ∀v∈Re x,v.oneCell'=true:=by intro v a;simp[Re]at a;rcases a with rfl|rfl|rfl<;>rfl
def Zc{A B:List Rc}{a:Int}(hI:Si (A++B))(e: ∀x∈A,x.key<4*a+0)(m: ∀x∈B,4*a+0<=x.key):(∀x∈A,x.addr<a)/\ ∀x∈B,a<=x.addr:=by
 refine⟨λx d=> ?_,λx d=> ?_⟩
 .have:=e x d;have:=hI.kd x (by simp[d]);unfold Rc.key at *;omega
 .have:=m x d;have:=hI.kd x (by simp[d]);unfold Rc.key at *;omega
def Zd{y:Rc}{B:List Rc}(a: ∀x∈y::B,1<=x.kind/\x.kind<=3)(e:Lp Rc.key (y::B)): ∀x∈B,y.addr<=x.addr:=λx d=>by
 have:=(List.pairwise_cons.1 e).1 x d;have h1:=a y (by simp);have m:=a x (by simp[d]);unfold Rc.key at this;omega
def WM{a:Int}: ∀{B:List Rc},Lp Rc.key B->(∀x∈B,1<=x.kind/\x.kind<=3)->(∀x∈B,a<=x.addr)->B.takeWhile (λy=>y.addr==a)=B.filter (λy=>y.addr==a)/\B.dropWhile (λy=>y.addr==a)=B.filter λy=> !(y.addr==a)
 | [],_,_,_=>⟨rfl,rfl⟩
 | y::B,hs,hk,ha=>by
  have m:=WM (a:=a) (List.pairwise_cons.1 hs).2 (λx d=>hk x (by simp[d])) λx d=>ha x (by simp[d]);by_cases e:y.addr=a
  .have v:(y.addr==a)=true:=by grind
   rw[List.takeWhile_cons_of_pos (by omega),List.filter_cons_of_pos (by omega),List.dropWhile_cons_of_pos (by omega),List.filter_cons_of_neg (by simp[e]),m.1,m.2]
   grind
  .have h1:=Zd hk hs;have J:=ha y (by simp);have u: ∀x∈y::B,x.addr≠a:=λx d=>by
    rcases List.mem_cons.1 d with rfl|d
    .exact e
    .have:=h1 x d;omega
   rw[List.takeWhile_cons_of_neg (by grind),List.dropWhile_cons_of_neg (by grind)];refine⟨(List.filter_eq_nil_iff.2 λx d=> ?_).symm,(List.filter_eq_self.2 λx d=> ?_).symm⟩
   .grind
   grind
section
variable{E:Env}{w:World}{Z:List Pr}{b:Nat}{R:List Rc}
def dL{A B:List Rc}{n:Int}(H:Sat (FE E b (A++B) none n++Z) w){a k:Int}{K:Bool->World->Prop}(h1: ∀y d,B=y::d->y.addr=a->y.kind=k->K true w)(h0:(∀y d,B=y::d-> ¬(y.addr=a/\y.kind=k))->K false w):
  F.Mw E (some (slotOf b A)) a k K w:=by
 unfold F.Mw;have m:=Mj (JQ.1 H);simp only[AK];cases B with
 | nil=>exact⟨none,m,AO rfl (h0 λy d h=>by cases h)⟩
 | cons y B=>
  have u:=Sat.Xa.1 H;have v:w.cell? (Addr.mk y.EU 0 none)=some (.int .u64 y.addr):=u.AU rfl;have J:w.cell? ((Addr.mk y.EU 0 none).add 1)=some (.int .i64 y.kind):=u.cell rfl;have no: ¬(y.addr=a/\y.kind=k)->K false w:=λh=>h0 λO d e=>by grind
  refine⟨Gh y,m,Aa rfl ⟨Gh y,m,JL ⟨y.addr,v,Cj (λe=>⟨Gh y,m,JL ⟨y.kind,J,?_⟩⟩) λe=>no λh=>e h.1⟩⟩⟩
  try dsimp only
  by_cases g:y.kind=k
  .rw[show(y.kind==k)=true by grind];exact h1 y B rfl e g
  .rw[show(y.kind==k)=false by grind];exact no λh=>g h.2
def WN{A:List Rc}{p:Option Addr}{n m:Int}(H:Sat (FE E b A p n++Z) w){K:World->Prop}(d: ∀w',Sat (FE E b A p m++Z) w'->K w'):stCells ((Addr.mk b 0 none).add 1) 0 [.int .i64 m] w K:=
 Ah H (o:=0) (m:=1) rfl (by simp) λw' a=>d w' a
def wE{A B:List Rc}{a k:Int}(hI:Si (A++B))(O:1<=k/\k<=3)(J: ∀x∈A,x.key<4*a+k)(K: ∀x∈B,4*a+k<=x.key)(h: ∀y m,B=y::m-> ¬(y.addr=a/\y.kind=k)): ∀x∈A++B,¬(x.addr=a/\x.kind=k):=by
 rintro x d ⟨u,v⟩;have e:x.key=4*a+k:=by unfold Rc.key;rw[u,v]
 rcases List.mem_append.1 d with d|d
 .grind
 .cases B with
  | nil=>cases d
  | cons y B=>
   rcases List.mem_cons.1 d with rfl|d
   .grind
   .have:=(List.pairwise_cons.1 (List.pairwise_append.1 hI.WL).2.1).1 x d
    grind
def Ze(H:Sat (I5 E b R::Z) w){a k:Int}(hk:1<=k/\k<=3){K:Int->Int->World->Prop}(O:(∀x∈R,¬(x.addr=a/\x.kind=k))->K 0 35 w)
  (T: ∀A B y,R=A++y::B->y.addr=a->y.kind=k-> ∀w',Sat (I5 E b (A++B)::Z) w'->K y.data 0 w'):F.Bf E (some ⟨b,0,none⟩) a k K w:=by
 have HS:=H;unfold F.Bf T0.Bf;refine M8 HS (by omega) λA B hR hA hB=> ?_;obtain⟨hI,H⟩:=Sat.spec.1 H;subst hR;refine dL H (λy d e e1 e2=>AO rfl ?_) λaA=>Aa rfl (O (wE hI hk hA hB aA));subst e;have hm:=Sat.Xa.1 H;have hs:=JQ.1 H;simp only[AK];refine⟨Gh y,Mj hs,JL ⟨E4 d none,hm.cell rfl,?_⟩⟩;have Y:Sat (FE E b A (Gh y) ((A++y::d).length:Int)++(dJ E y (E4 d none)::(FY E d none++Z))) w:=hm.perm List.perm_middle.symm;refine qO Y λaB u=>⟨_,(show Sat (Cells b _ _::_) aB from u).cell rfl,WN u λJ m=>JL ⟨y.data,?_,?_⟩⟩
 .exact(show Sat (dJ E y (E4 d none)::_) J from m.perm List.perm_middle).cell rfl
 .refine T A d y rfl e1 e2 J (Sat.spec.2 ⟨⟨hI.WL.sublist (by simp),λx v=>hI.kd x ?_,?_⟩,?_⟩)
  .rcases List.mem_append.1 v with v|v
   .simp[v]
   .simp[v]
  .have:=hI.NN;grind
  .have hf:=hI.NN;have e:i64 (((A++y::d).length:Int)-1)=((A++d).length:Int):=by
    rw[AI]
    grind
   rw[e]at m;exact JQ.2 (m.perm List.perm_middle).tail
def RH{A B:List Rc}{n:Int}(t:Int->Bool)(H:Sat (FE E b (A++B) none n++Z) w)(hf:(A++B).length<=1099511627776){K:AW->World->Prop}
  (hK: ∀s w',s.len=(B.takeWhile λy=>t y.addr).length->Sat (Row E.An 3 s (DI Re (B.takeWhile λy=>t y.addr))::(FE E b (A++B) none n++Z)) w'->K s w'):
  BI (AW×(Option Addr)×Unit) (⟨none,0,0⟩,E4 B none,()) w λs5 _ d J=>
  CND (!s5.2.1.isNone) (
   NC s5.2.1 λp8=>
   ∃x9:Int,d.cell? p8=some (.int .u64 x9)/\
   CND (t x9) (
    NC s5.2.1 λO=>
    ∃aA:Int,d.cell? (O.add 0)=some (.int .u64 aA)/\
    ∃aB:Int,d.cell? (O.add 1)=some (.int .i64 aB)/\
    ∃aC:Int,d.cell? (O.add 2)=some (.int .u64 aC)/\
    AL (.cells ⟨[.int .u64 aA,.int .i64 aB,.int .u64 aC]⟩ E.An) d λY aD=>
    APP E.An 3 24 #[.int .u64 0,.int .i64 0,.int .u64 0] s5.1 ⟨(some (Addr.mk Y 0 none)),1,1⟩ aD λUG T=>
    NC s5.2.1 λaJ=>
    ∃aE:(Option Addr),T.cell? (aJ.add 3)=some (.pointer aE)/\
    J (UG,aE,()) T
   ) (
    K s5.1 d
   )
  ) (
   K s5.1 d
  ):=by
 refine iF (λn' st w'=> ∃C D,st.2.1=E4 D none/\B=C++D/\(∀x∈C,t x.addr=true)/\n'=D.length/\Sat (Row E.An 3 st.1 (DI Re C)::(FE E b (A++B) none n++Z)) w') B.length ⟨[],B,rfl,rfl,λx a=>(by cases a),rfl,H.nil E.An 3⟩ ?_;rintro n' ⟨s,p,u⟩ _ d ⟨C,D,hp,hB,hC,hn,H6⟩;dsimp only at hp H6⊢;subst hp;have hl:=H6.JJ (by decide) Xb;have fin:(∀y D',D=y::D'->t y.addr=false)->K s d:=λh=>by
  have:B.takeWhile (λy=>t y.addr)=C:=by
   rw[hB,List.takeWhile_append_of_pos λx a=>hC x a];cases D with
   | nil=>simp
   | cons y D=>rw[List.takeWhile_cons_of_neg (by grind),List.append_nil]
  grind
 cases D with
 | nil=>exact AO rfl (fin λy D' h=>by cases h)
 | cons y D=>
  have eR:A++B=(A++C)++y::D:=by grind
  have hm: ∀{w':World} {v:List Value} {s':AW},Sat (Row E.An 3 s' v::(FE E b (A++B) none n++Z)) w'->w'.cell? ((Addr.mk y.EU 0 none).add 0)=some (.int .u64 y.addr)/\w'.cell? ((Addr.mk y.EU 0 none).add 1)=some (.int .i64 y.kind)/\w'.cell? ((Addr.mk y.EU 0 none).add 2)=some (.int .u64 y.data)/\w'.cell? ((Addr.mk y.EU 0 none).add 3)=some (.pointer (E4 D none)):=λh=>by
   have h:=h.tail;rw[eR]at h;have h:=Sat.Xa.1 h;exact⟨h.cell rfl,h.cell rfl,h.cell rfl,h.cell rfl⟩
  obtain⟨m0,m1,m2,_⟩:=hm H6;have hlen:C.length+1<=1099511627776:=by grind
  refine Aa rfl (JL ⟨y.addr,by have:=m0;rwa[add_zero]at this,AY (λht=>JL ⟨_,m0,_,m1,_,m2,?_⟩) λht=>fin λy' D' e=>by cases e;exact ht⟩);refine AJ (vs:=Re y) H6 λY aD aH _=> ?_;refine GJ (news:=Re y) (zs:= #[.int .u64 0,.int .i64 0,.int .u64 0]) (bytes:=24) aH rfl rfl (Xc y) (by omega) (by omega) λUG T m _=>JL ⟨_,(hm m).2.2.2,?_⟩;refine⟨D.length,by rw[hn];grind,C++[y],D,rfl,by rw[hB];simp,λx a=> ?_,rfl,?_⟩
  .rcases List.mem_append.1 a with a|a
   .exact hC x a
   .simp at a;subst a;exact ht
  .rw[show DI Re C++Re y=DI Re (C++[y]) by rw[Q4];simp[DI]]at m;exact m
def TC(H:Sat (I5 E b R::Z) w){x y:Int}{K:AW->World->Prop}(O: ∀s l w',l.length=s.len->(s.len=0↔ ∀z∈R,¬(x<=z.addr/\z.addr<y))->Sat (Row E.An 3 s (DI Re l)::I5 E b R::Z) w'->K s w'):
  F.BV E (some ⟨b,0,none⟩) x y K w:=by
 have HS:=H;unfold F.BV T0.BV;refine M8 HS (by omega) λA B T v J=> ?_;obtain⟨hI,H⟩:=Sat.spec.1 H;subst T;refine JL ⟨E4 B none,Mj (JQ.1 H),?_⟩;refine RH (λz=>decide (z<y)) H hI.NN λs w' d m=>O s _ w' d.symm ?_ (((Sat.spec.2 ⟨hI,m.perm List.perm_middle.symm⟩)).perm (.swap _ _ _));obtain⟨h1,u⟩:=Zc hI v J;have a:=(List.pairwise_append.1 hI.WL).2.1;rw[d];cases B with
 | nil=>exact⟨λ_ z hz h=>by grind,λ_=>rfl⟩
 | cons q B=>
  have Y:=Zd (λz hz=>(hI.kd z (by simp;grind)).imp id λh=>h.1) a;have h4:=u q (by simp);by_cases e:q.addr<y
  .rw[List.takeWhile_cons_of_pos (by grind)]
   grind
  .rw[List.takeWhile_cons_of_neg (by grind)]
   grind
def Xd(R:List Rc)(a:Int):List Rc:=R.filter λy=>y.addr==a
def TE(R:List Rc)(a:Int):List Rc:=R.filter λy=> !(y.addr==a)
def yE{A B:List Rc}{a:Int}(hI:Si (A++B))(v: ∀x∈A,x.key<4*a+0)(J: ∀x∈B,4*a+0<=x.key):B.takeWhile (λy=>y.addr==a)=Xd (A++B) a/\A++B.dropWhile (λy=>y.addr==a)=TE (A++B) a:=by
 obtain⟨h1,e⟩:=Zc hI v J;obtain⟨m,u⟩:=WM (a:=a) (List.pairwise_append.1 hI.WL).2.1 (λx d=>(hI.kd x (by simp[d])).imp id λh=>h.1) e;unfold Xd TE;rw[List.filter_append,List.filter_append,m,u];have K:A.filter (λy=>y.addr==a)=[]:=List.filter_eq_nil_iff.2 λx d=>by grind
 have O:A.filter (λy=> !(y.addr==a))=A:=List.filter_eq_self.2 λx d=>by grind
 grind
def dM(H:Sat (I5 E b R::Z) w){a:Int}{K:AW->World->Prop}(J: ∀s w',s.len=(Xd R a).length->Sat (Row E.An 3 s (DI Re (Xd R a))::I5 E b R::Z) w'->K s w'):
  F.Ch E (some ⟨b,0,none⟩) a K w:=by
 have HS:=H;unfold F.Ch T0.Ch;refine M8 HS (by omega) λA B O u v=> ?_;obtain⟨hI,H⟩:=Sat.spec.1 H;subst O;refine JL ⟨E4 B none,Mj (JQ.1 H),?_⟩;have e:=(yE hI u v).1;refine RH (λz=>z==a) H hI.NN λs w' m d=> ?_;rw[e]at m d;exact J s w' m (((Sat.spec.2 ⟨hI,d.perm List.perm_middle.symm⟩)).perm (.swap _ _ _))
def Xe(H:Sat (I5 E b R::Z) w){a:Int}{K:AW->World->Prop}(hK: ∀s w',s.len=(Xd R a).length->Sat (Row E.An 3 s (DI Re (Xd R a))::I5 E b (TE R a)::Z) w'->K s w'):
  F.B6 E (some ⟨b,0,none⟩) a K w:=by
 unfold F.B6 T0.B6;refine dM H λs w2 hs H2=> ?_;have Y:=H2.front 1 rfl;refine M8 Y (by omega) λA B hR hA hB=> ?_;obtain⟨hI,Y⟩:=Sat.spec.1 Y;subst hR;obtain⟨e1,e2⟩:=yE hI hA hB;have v:B=Xd (A++B) a++B.dropWhile (λy=>y.addr==a):=by rw[<-e1,List.takeWhile_append_dropWhile]
 generalize hT:Xd (A++B) a=T at *
 generalize hD:B.dropWhile (λy=>y.addr==a)=D at *
 have m:=hI.NN;have H4:Sat (FE E b A (E4 B none) ((A++B).length:Int)++(FY E B none++(Row E.An 3 s (DI Re T)::Z))) w2:=JQ.1 Y;have aM:B.length=T.length+D.length:=by grind
 simp only[List.length_append]at m;refine AM (λst w'=> ∃i:Nat,st.1=(i:Int)/\i<=T.length/\Sat (FE E b A (E4 (B.drop i) none) ((A++B).length:Int)++(FY E (B.drop i) none++(Row E.An 3 s (DI Re T)::Z))) w') (λst _=>((T.length:Int)-st.1).toNat) ⟨0,rfl,Nat.zero_le _,H4⟩ ?_;rintro⟨i',u⟩ _ O ⟨i,hi,aQ,d⟩;dsimp only at hi⊢;subst hi;rw[hs];refine AG (λg=> ?_) λg=> ?_
 .obtain⟨y,hy⟩: ∃y,B.drop i=y::B.drop (i+1):=⟨B[i]'(by omega),List.drop_eq_getElem_cons (by omega)⟩;rw[hy]at d;have hc:O.cell? ((Addr.mk y.EU 0 none).add 3)=some (.pointer (E4 (B.drop (i+1)) none)):=
   (show Sat (dJ E y (E4 (B.drop (i+1)) none)::_) O from d.perm List.perm_middle).cell rfl
  have H7:Sat (FE E b A (Gh y) ((A++B).length:Int)++(FY E (B.drop (i+1)) none++(Row E.An 3 s (DI Re T)::Z))) O:=(show Sat (dJ E y (E4 (B.drop (i+1)) none)::_) O from d.perm List.perm_middle).tail;simp only[AK];refine⟨Gh y,Mj H7,JL ⟨_,hc,qO H7 λaS aA=>⟨⟨i+1,by rw[AI];rfl,by omega,aA⟩,?_⟩⟩⟩;rw[AI];omega
 .have aC:i=T.length:=by omega
  have aB:B.drop i=D:=by rw[v,aC,List.drop_left]
  rw[aB]at d;simp only[AK];refine⟨_,(show Sat (Cells b _ _::_) O from d).cell rfl,WN d λaD e=>hK s aD hs ?_⟩;have en:i64 (((A++B).length:Int)-((T.length:Nat):Int))=((A++D).length:Int):=by
   rw[AI (by omega) (by grind)]
   grind
  rw[en]at e;rw[<-e2];have hIn:Si (A++D):=⟨hI.WL.sublist (by grind),λx J=>hI.kd x ?_,by grind⟩
  .exact(Sat.spec.2 ⟨hIn,JQ.2 e⟩).perm (.swap _ _ _)
  .rcases List.mem_append.1 J with J|J
   .simp[J]
   .rw[v];simp[J]
end
structure SW where
 S:HS
 L:List EH
 R:List Rc
 em:List Rc
 PV:Int
 Jv:Int
 Br:Int
 Fw:Int
def IB(h s r:Nat)(em:AW)(W:SW):List Value:=[.pointer (some ⟨h,0,none⟩),.pointer (some ⟨s,0,none⟩),.pointer (some ⟨r,0,none⟩),FJ em,.int .u64 W.PV,.int .u64 W.Jv,.int .u64 W.Br,.int .u64 W.Fw]
def MB(E:Env)(b h s r:Nat)(W:SW)(em:AW):List Pr:=[Cells b E.C5 (IB h s r em W),BF E h W.S,GB E s W.L,I5 E r W.R,Row E.An 3 em (DI Re W.em)]
def AQ(E:Env)(b h s r:Nat)(W:SW):Pr:=Ex λem:AW=>S5 (MB E b h s r W em)
structure P6(x:SI):Prop where
 st:x.state=1
 cls:0<=x.cls/\x.cls<68
 el:x.elem=if x.cls=0 then x.AF*8192 else(Au x.cls).1
 slo:x.AP=if x.cls=0 then 1 else(Au x.cls).2.2.1
 mg:x.Mf=(Au x.cls).2.2.2
 pg:1<=x.AF/\x.AF<=134217728/\(0<x.cls->x.AF=(Au x.cls).2.1)
 ba:0<=x.base/\x.base %8192=0/\x.base+x.AF*8192<=281474976710656
abbrev BA:=Int->Nat->Bool
def BA.set(U:BA)(id:Int)(u:Nat->Bool):BA:=λi=>if i=id then u else U i
structure Ai(W:SW)(U M:BA):Prop where
 hI:CF W.S no
 sp: ∀id x,W.S.sp id=some x->P6 x.2/\Rd x.2 (U id) (M id)
 it: ∀x∈W.L,∃y,W.S.sp x.id=some y/\y.2.base=x.base
def lF:(OK.all λc=>decide (0<=c.1)&&(decide (0<=c.2.2.1)&&(decide (c.2.2.1<=1024)&&(decide (c.1*c.2.2.1<=c.2.1*8192)&&(decide (0<=c.2.2.2)&&(decide (c.2.2.2<4294967296)&&(decide (c.2.2.2=0)||(decide (8<=c.1)&&(decide (c.1<=32768)&&(decide (4294967296<=c.2.2.2*c.1)&&(decide ((c.2.2.2*c.1-4294967296)*c.2.2.1<c.2.2.2)&&(decide (1<=c.2.2.1)&&decide (1<=c.2.1)))))))))))))=true:=by decide+kernel
def wF:((OK.drop 1).all λc=>decide (8<=c.1)&&(decide (c.1<=32768)&&(decide (1<=c.2.2.1)&&(decide (1<=c.2.1)&&(decide (c.1 %8=0)&&decide (0<c.2.2.2))))))=true:=by decide+kernel
def cls0:Au 0=(0,0,0,0):=by decide+kernel
def Li{c:Int}(h0:0<c)(h1:c<68):8<=(Au c).1/\(Au c).1<=32768/\1<=(Au c).2.2.1/\1<=(Au c).2.1/\(Au c).1 %8=0/\0<(Au c).2.2.2:=by
 have h:=Lb (c:=c) (by omega) h1;have a:(OK.drop 1)[c.toNat-1]? =some (Au c):=by grind
 have:=List.all_eq_true.1 wF _ (List.mem_of_getElem? a)
 grind
def Uv{c:Int}(h0:0<=c)(h1:c<68):0<=(Au c).1/\0<=(Au c).2.2.1/\(Au c).2.2.1<=1024/\(Au c).1*(Au c).2.2.1<=(Au c).2.1*8192/\0<=(Au c).2.2.2/\(Au c).2.2.2<4294967296/\
  ((Au c).2.2.2=0∨(8<=(Au c).1/\(Au c).1<=32768/\4294967296<=(Au c).2.2.2*(Au c).1/\((Au c).2.2.2*(Au c).1-4294967296)*(Au c).2.2.1<(Au c).2.2.2/\1<=(Au c).2.2.1/\1<=(Au c).2.1)):=by
 have:=List.all_eq_true.1 lF _ (List.mem_of_getElem? (Lb h0 h1))
 grind
def P6.size{x:SI}(h:P6 x):0<x.elem/\x.elem<=1099511627776/\1<=x.AP/\x.AP<=1024/\x.elem*x.AP<=x.AF*8192:=by
 have a:=h.cls;have hp:=h.pg;by_cases e:x.cls=0
 .have h1:=h.el;have d:=h.slo
  grind
 .have h1:=h.el;have d:=h.slo;rw[if_neg e]at h1 d;have m:=Li (c:=x.cls) (by omega) a.2;have u:=Uv a.1 a.2
  grind
def P6.ZQ{x:SI}(h:P6 x):ZQ x:=by
 have O:=h.cls;have hm:=h.mg;have K:=Uv O.1 O.2;have hs:=h.size;refine⟨by omega,by omega,λg=> ?_⟩;have u:x.cls≠0:=λe=>by rw[e,cls0]at hm;grind
 have h1:=h.el;have J:=h.slo;rw[if_neg u]at h1 J;rcases K.2.2.2.2.2.2 with q|⟨q1,q2,q3,q4,q5,q6⟩
 .omega
 .rw[hm,h1,J];generalize (Au x.cls).1=s at *
  generalize (Au x.cls).2.2.1=n at *
  generalize (Au x.cls).2.2.2=m at *
  have hn:n<=1024:=K.2.2.1;have aE:n*s<=1024*32768:=Int.mul_le_mul hn q2 (by omega) (by decide);refine⟨by omega,λoff o0 o1=> ?_⟩;have hr:=Int.emod_nonneg off (show s≠0 by omega);have aH:=Int.emod_lt_of_pos off (show 0<s by omega);have d:=Int.mul_ediv_add_emod off s;have v:0<=off/s:=Int.ediv_nonneg o0 (by omega);have aF:off/s<n:=Int.ediv_lt_of_lt_mul (by omega) o1;generalize off/s=q at *
  generalize off %s=r at *
  have T:off=s*q+r:=d.symm;obtain⟨e,he⟩: ∃e,e=m*s-4294967296:=⟨_,rfl⟩;have a:0<=e:=by omega
  have aC:m*s=4294967296+e:=by omega
  have e1:off*m=q*4294967296+(q*e+r*m):=by grind
  have h6:0<=q*e:=Int.mul_nonneg v a;have h7:0<=r*m:=Int.mul_nonneg hr (by omega);have h8:r*m<=(s-1)*m:=Int.mul_le_mul_of_nonneg_right (by omega) (by omega);have h9:(s-1)*m=m*s-m:=by grind
  have Y:(q+1)*e<=n*e:=Int.mul_le_mul_of_nonneg_right (by omega) a;have aA:(q+1)*e=q*e+e:=by grind
  have aB:e*n<m:=by rw[he];exact q4
  grind
def P6.JT{x y:SI}(h:P6 x)(h1:y.base=x.base)(d:y.AF=x.AF)(e:y.state=x.state)(a:y.cls=x.cls)(m:y.elem=x.elem)(u:y.AP=x.AP)(v:y.Mf=x.Mf):P6 y:=by
 refine⟨by rw[e];exact h.st,by rw[a];exact h.cls,by rw[m,a,d];exact h.el,by rw[u,a];exact h.slo,by rw[v,a];exact h.mg,by rw[d,a];exact h.pg,by rw[h1,d];exact h.ba⟩
def wG{page n c:Int}{np:Bool}(h0:0<=page)(h1:page+n<=34359738368)(d: ¬KY 0 n c)(v:0<=n):P6 (JV page n c np):=by
 unfold KY at d;have a:0<=c/\c<68:=by omega
 have m:=Q5 a.1 a.2;have hp:0<c->n=(Au c).2.1:=λh=>Classical.byContradiction λg=>d (.inr (.inr (.inr (.inr (.inr (.inr ⟨h,g⟩))))));have u:n<=134217728:=by
  by_cases e:c=0
  .omega
  .have:=hp (by omega);omega
 refine⟨rfl,a,rfl,rfl,rfl,⟨by show 1<=n;omega,by show n<=_;omega,hp⟩,by show 0<=page*8192/\page*8192 %8192=0/\page*8192+n*8192<=_;omega⟩
def spOf_g{page n c:Int}{np:Bool}(h:P6 (JV page n c np)):Rd (JV page n c np) (λ_=>false) λ_=>false:=by
 have a:=h.size;refine⟨Ry λ_=>rfl,Ry λ_=>rfl,by show((0:Nat):Int)*64<=_;omega,by show((0:Nat):Int)*64<=_;omega,λi hi=>(by cases hi),λi hi=>(by cases hi),by omega,?_,⟨Int.le_refl 0,by show(0:Int)<=_;omega,λi hi=> ?_⟩⟩
 .show(0:Int)=_;have:cN (λ_=>false) (JV page n c np).AP.toNat=0:=by
   generalize (JV page n c np).AP.toNat=m
   induction m with
   | zero=>rfl
   | succ m ih=>show cN _ m+0=0;rw[ih]
  omega
 .have hi:(i:Int)<0:=hi;omega
section
variable{E:Env}{w:World}{Z:List Pr}{b h s r:Nat}{W:SW}{U M:BA}
def Sat.IC:Sat (AQ E b h s r W::Z) w↔ ∃em,Sat (MB E b h s r W em++Z) w:=by
 unfold AQ;rw[Sat.ex];exact⟨λ⟨g,h⟩=>⟨g,Sat.star.1 h⟩,λ⟨g,h⟩=>⟨g,Sat.star.2 h⟩⟩
def M9{em:AW}(H:Sat (MB E b h s r W em++Z) w):w.cell? (Addr.mk b 0 none)=some (.pointer (some ⟨h,0,none⟩))/\w.cell? ((Addr.mk b 0 none).add 1)=some (.pointer (some ⟨s,0,none⟩))/\w.cell? ((Addr.mk b 0 none).add 2)=some (.pointer (some ⟨r,0,none⟩))/\
  w.cell? ((Addr.mk b 0 none).add 3)=some (.slice em.base em.len em.cap)/\w.cell? ((Addr.mk b 0 none).add 4)=some (.int .u64 W.PV)/\w.cell? ((Addr.mk b 0 none).add 5)=some (.int .u64 W.Jv)/\w.cell? ((Addr.mk b 0 none).add 6)=some (.int .u64 W.Br)/\w.cell? ((Addr.mk b 0 none).add 7)=some (.int .u64 W.Fw):=
 have H:Sat (Cells b E.C5 (IB h s r em W)::_) w:=H
 ⟨H.AU rfl,H.cell rfl,H.cell rfl,H.cell rfl,H.cell rfl,H.cell rfl,H.cell rfl,H.cell rfl⟩
def Sat.Gf(H:Sat (AQ E b h s r W::Z) w): ∃R,Sat (BF E h W.S::R) w/\(∀{w'},Sat R w'->Sat Z w')/\ ∀{S' w'},Sat (BF E h S'::R) w'->Sat (AQ E b h s r {W with S:=S'}::Z) w':=by
 obtain⟨em,H⟩:=Sat.IC.1 H;exact⟨_,H.front 1 rfl,λh=>h.tail.tail.tail.tail,λ{S' w'} h'=>Sat.IC.2 ⟨em,Sat.back (Ps:=MB E b h s r W em++Z) 1 h' (by simp[MB])⟩⟩
def Sat.P7(H:Sat (AQ E b h s r W::Z) w): ∃R,Sat (GB E s W.L::R) w/\(∀{w'},Sat R w'->Sat Z w')/\ ∀{L' w'},Sat (GB E s L'::R) w'->Sat (AQ E b h s r {W with L:=L'}::Z) w':=by
 obtain⟨em,H⟩:=Sat.IC.1 H;exact⟨_,H.front 2 rfl,λh=>h.tail.tail.tail.tail,λ{S' w'} h'=>Sat.IC.2 ⟨em,Sat.back (Ps:=MB E b h s r W em++Z) 2 h' (by simp[MB])⟩⟩
def Sat.qP(H:Sat (AQ E b h s r W::Z) w): ∃Q,Sat (I5 E r W.R::Q) w/\(∀{w'},Sat Q w'->Sat Z w')/\ ∀{R' w'},Sat (I5 E r R'::Q) w'->Sat (AQ E b h s r {W with R:=R'}::Z) w':=by
 obtain⟨em,H⟩:=Sat.IC.1 H;exact⟨_,H.front 3 rfl,λh=>h.tail.tail.tail.tail,λ{S' w'} h'=>Sat.IC.2 ⟨em,Sat.back (Ps:=MB E b h s r W em++Z) 3 h' (by simp[MB])⟩⟩
def Sat.OQ(H:Sat (AQ E b h s r W::Z) w):w.cell? (Addr.mk b 0 none)=some (.pointer (some ⟨h,0,none⟩))/\w.cell? ((Addr.mk b 0 none).add 1)=some (.pointer (some ⟨s,0,none⟩))/\w.cell? ((Addr.mk b 0 none).add 2)=some (.pointer (some ⟨r,0,none⟩)):=by
 obtain⟨em,H⟩:=Sat.IC.1 H;exact⟨(M9 H).1,(M9 H).2.1,(M9 H).2.2.1⟩
def SW.new(S:HS):SW:=⟨S,[],[],[],0,0,0,0⟩
def dN{S:HS}(H:Sat (I5 E r []::GB E s []::BF E h S::Z) w){K:Option Addr->World->Prop}(d: ∀b w',Sat (AQ E b h s r (SW.new S)::Z) w'->K (some ⟨b,0,none⟩) w'):F.Ou E (some ⟨h,0,none⟩) (some ⟨s,0,none⟩) (some ⟨r,0,none⟩) K w:=by
 unfold F.Ou;refine AJ (vs:=IB h s r ⟨none,0,0⟩ (SW.new S)) H λb1 e a _=>d b1 e (Sat.IC.2 ⟨⟨none,0,0⟩,?_⟩);have h1:=a.nil E.An 3;exact((((h1.front 0 rfl).front 2 rfl).front 3 rfl).front 4 rfl).front 4 rfl
def Zf(H:Sat (AQ E b h s r W::Z) w){K:Option Addr->World->Prop}(a:K (some ⟨h,0,none⟩) w):F.Eb E (some ⟨b,0,none⟩) K w:=by
 unfold F.Eb;exact AH ⟨_,H.OQ.1,a⟩
def Jo:List Value:=[.int .u64 0,.int .i64 0,.int .i64 0,.int .i64 0,.bool false,.int .i64 0,.int .i64 0,.int .i64 0,.bool false,.bool false]
def Il(x:SI):List Value:=[.int .u64 x.base,.int .i64 x.AF,.int .i64 x.state,.int .i64 x.cls,.bool x.E3,.int .i64 x.elem,.int .i64 x.AP,.int .i64 x.used,.bool x.f8,.bool x.f9]
def P8(H:Sat (AQ E b h s r W::Z) w)(hI:Ai W U M){id:Int}{K:Option Addr->Int->Int->Int->Int->Bool->Int->Int->Int->Bool->Bool->Int->World->Prop}
  (Y:W.S.sp id=none-> ∀w',Sat (AQ E b h s r W::Z) w'->K none 0 0 0 0 false 0 0 0 false false 35 w')
  (aA: ∀x,W.S.sp id=some x->P6 x.2->Rd x.2 (U id) (M id)-> ∀w',Sat (AQ E b h s r W::Z) w'->K (some ⟨x.1,0,none⟩) x.2.base x.2.AF x.2.state x.2.cls x.2.E3 x.2.elem x.2.AP x.2.used x.2.f8 x.2.f9 0 w'):
  F.BC E (some ⟨b,0,none⟩) id K w:=by
 unfold F.BC T0.BC;refine AJ (vs:=Jo) H λb1 w2 u _=>AH ⟨_,(u.front 1 rfl).OQ.1,?_⟩;obtain⟨R,HH,_,hb⟩:=(u.front 1 rfl:Sat (AQ E b h s r W::Cells b1 E.BM Jo::Z) w2).Gf;refine Ug HH (λhn=> ?_) λx hx=> ?_
 .refine Aa rfl ?_;refine CN (news:=Jo) u rfl (by simp[Jo,Value.oneCell']) λw8 e=> ?_;exact⟨0,e.cell rfl,0,e.cell rfl,0,e.cell rfl,0,e.cell rfl,false,e.cell rfl,0,e.cell rfl,0,e.cell rfl,0,e.cell rfl,false,e.cell rfl,false,e.cell rfl,Y hn w8 e.tail⟩
 .obtain⟨BU,hg⟩:=hI.sp id x hx;obtain⟨R2,aB,T⟩:=HH.KZ hx;refine AO rfl (JP aB λaD v=> ?_);have J:Sat (AQ E b h s r W::Cells b1 E.BM Jo::Z) aD:=hb (T v);refine AJ (vs:=Jo) J λaG aL O _=> ?_;refine CN (news:=Il x.2) O rfl (by simp[Il,Value.oneCell']) λaM m=>⟨x.2.state,m.cell rfl,?_⟩;rw[BU.st];refine AO rfl ?_;have a:=m.drew;refine⟨_,a.cell rfl,_,a.cell rfl,_,a.cell rfl,_,a.cell rfl,_,a.cell rfl,_,a.cell rfl,_,a.cell rfl,_,a.cell rfl,_,a.cell rfl,_,a.cell rfl,?_⟩;refine CN (news:=Il x.2) (a.front 2 rfl) rfl (by simp[Il,Value.oneCell']) λaE d=> ?_;exact⟨_,d.cell rfl,_,d.cell rfl,_,d.cell rfl,_,d.cell rfl,_,d.cell rfl,_,d.cell rfl,_,d.cell rfl,_,d.cell rfl,_,d.cell rfl,_,d.cell rfl,aA x hx BU hg aE d.tail.tail⟩
end
def Uw{S:HS}{fl:Int->Bool}(hI:CF S fl){id:Int}{x:Nat×SI}(d:S.sp id=some x){p:Int}(h1:x.2.base/8192<=p)(a:p<x.2.base/8192+x.2.AF):S.own p=id:=(hI.sp id x d).2.2.2.2 p h1 a
def qQ{S:HS}{fl:Int->Bool}(hI:CF S fl){i j:Int}{x y:Nat×SI}(a:S.sp i=some x)(d:S.sp j=some y)(h:x.2.base=y.2.base):i=j:=by
 have h1:=(hI.sp i x a).2.2.1;have e:=(hI.sp j y d).2.2.1;rw[<-Uw hI a (Int.le_refl _) (by omega),<-Uw hI d (p:=x.2.base/8192) (by omega) (by omega)]
section
variable{E:Env}{w:World}{Z:List Pr}{b h s r:Nat}{W:SW}{U M:BA}
def Ai.ofL(hI:Ai W U M){L:List EH}(a: ∀x∈L,∃y,W.S.sp x.id=some y/\y.2.base=x.base):Ai {W with L:=L} U M:=⟨hI.hI,hI.sp,a⟩
variable(hE:EnvW E)
include hE
theorem P9(H:Sat (AQ E b h s r W::Z) w)(hI:Ai W U M){id:Int}{sw:Bool}(hf:W.L.length<1099511627776){K:Int->World->Prop}
  (aC:W.S.sp id=none-> ∀w',Sat (AQ E b h s r W::Z) w'->K 35 w')(aD:W.S.sp id≠none->(∃x∈W.L,x.id=id)-> ∀w',Sat (AQ E b h s r W::Z) w'->K 34 w')
  (aE: ∀x,W.S.sp id=some x->(∀y∈W.L,y.id≠id)-> ∀EU,Ai {W with L:=G5 W.L ⟨EU,id,x.2.base,(x.2.cls,x.2.E3,x.2.used==x.2.AP,sw)⟩} U M-> ∀w',
   Sat (AQ E b h s r {W with L:=G5 W.L ⟨EU,id,x.2.base,(x.2.cls,x.2.E3,x.2.used==x.2.AP,sw)⟩}::Z) w'->K 0 w'):F.BD E (some ⟨b,0,none⟩) id sw K w:=by
 unfold F.BD T0.BD;refine P8 H hI (λhn w' Y=> ?_) λx hx BU hg w' Y=> ?_
 .refine AJ (vs:=Jo) Y λaA aJ u _=> ?_;refine CN (news:=Jo) u rfl (by simp[Jo,Value.oneCell']) λT v=>Aa rfl (aC hn T v.tail)
 .refine AJ (vs:=Jo) Y λaA aJ u _=> ?_;refine CN (news:=Il x.2) u rfl (by simp[Il,Value.oneCell']) λT v=>AO rfl (AH ?_);have a:=v.drew;have J:=a.front 1 rfl;refine⟨_,J.OQ.2.1,_,a.AU rfl,_,a.cell rfl,_,a.cell rfl,_,a.cell rfl,_,a.cell rfl,?_⟩;obtain⟨R,HH,hz,hb⟩:=J.P7;have aL:=(hI.hI.sp id x hx).1;have hc:=BU.cls;refine dH hE HH hf (λhb=> ?_) (λ_ hex=> ?_) λ_ aF EU aK O=> ?_
  .unfold ZW at hb;omega
  .refine⟨a.cell rfl,a.cell rfl,aD (by grind) ?_ _ a.tail⟩;obtain⟨y,d,e⟩:=hex;refine⟨y,d,?_⟩;rcases e with e|e
   .exact e
   .obtain⟨z,aH,aI⟩:=hI.it y d;exact qQ hI.hI aH hx (by rw[aI,e])
  .have m:=hz O.tail;refine⟨m.cell rfl,m.cell rfl,aE x hx (λy d=>(aF y d).1) EU (hI.ofL λy d=> ?_) aK ?_⟩
   .rcases Dd.1 d with rfl|d
    .grind
    .exact hI.it y d
   .exact((hb O).front 1 rfl).tail
end
section
variable{E:Env}{w:World}{Z:List Pr}{b h s r:Nat}{W:SW}{U M:BA}(hE:EnvW E)
include hE
theorem Sj(H:Sat (AQ E b h s r W::Z) w)(hI:Ai W U M){K:Int->Bool->World->Prop}(v:(∀x∈W.L,x.HD=true)-> ∀w',Sat (AQ E b h s r W::Z) w'->K 0 false w')
  (J: ∀x,XY W.L x->Ai {W with L:=Hv W.L x.id} U M-> ∀w',Sat (AQ E b h s r {W with L:=Hv W.L x.id}::Z) w'->K x.id true w'):F.Bc E (some ⟨b,0,none⟩) K w:=by
 unfold F.Bc T0.Bc;refine AH ⟨_,H.OQ.2.1,?_⟩;obtain⟨R,HH,hz,Y⟩:=H.P7;refine RG HH (λa w5 d=>AO rfl (v a w5 (Y d))) λx hx w5 d=>Aa rfl ?_;have T:=Y d;refine AH ⟨_,T.OQ.2.1,?_⟩;obtain⟨R2,m,aF,u⟩:=T.P7;refine Ut hE m (λO=>absurd rfl (O x hx.1)) λy hy e w9 H9=> ?_;exact J x hx (hI.ofL λy hy=>hI.it y (Ka.1 hy).1) w9 (u H9)
end
structure QA(S S':HS):Prop where
 rest:S'={S with sp:=S'.sp}
 no: ∀id,S.sp id=none->S'.sp id=none
 sp: ∀id x,S.sp id=some x-> ∃mw,S'.sp id=some (x.1,{x.2 with mw:=mw})
def QA.refl(S:HS):QA S S:=⟨rfl,λ_ h=>h,λid x h=>⟨x.2.mw,h⟩⟩
def QA.put{S S':HS}(h:QA S S'){id:Int}{x:Nat×SI}(a:S'.sp id=some x)(mw:List Int):QA S (S'.put id (x.1,{x.2 with mw:=mw})):=by
 refine⟨?_,λi hi=> ?_,λi y m=> ?_⟩
 .have:=h.rest;unfold HS.put;rw[this]
 .show(if i=id then _ else S'.sp i)=none;by_cases e:i=id
  .subst e;rw[h.no i hi]at a;cases a
  .rw[if_neg e];exact h.no i hi
 .obtain⟨d,h0⟩:=h.sp i y m;by_cases e:i=id
  .subst e;rw[a]at h0;have h0:=Option.some.inj h0;subst h0;exact⟨mw,HS.Fv⟩
  .exact⟨d,(HS.HU e).trans h0⟩
def QA.own{S S':HS}(h:QA S S'):S'.own=S.own:=by rw[h.rest]
def mkOf(S:HS)(a:Int):Option (Int×Nat):=match S.sp (S.own (a/8192))with
 | none=>none
 | some x=>if x.2.base<=a/\a<x.2.base+x.2.AP*x.2.elem then some (S.own (a/8192),((a-x.2.base)/x.2.elem).toNat)else none
def Xf{S S':HS}(h:QA S S')(a:Int):mkOf S' a=mkOf S a:=by
 unfold mkOf;rw[h.own];cases e:S.sp (S.own (a/8192))with
 | none=>rw[h.no _ e]
 | some x=>
  obtain⟨mw,h1⟩:=h.sp _ x e;rw[h1]
def BA.mark(M:BA)(S:HS)(as_:List Int):BA:=λid k=>M id k||as_.any λa=>decide (mkOf S a=some (id,k))
def Ai.mark{W:SW}{U M:BA}(hI:Ai W U M){id:Int}{x:Nat×SI}(m:W.S.sp id=some x){n:Nat}{mw:List Int}(J:Rd {x.2 with mw:=mw} (U id) (λi=>M id i||i==n)):
  Ai {W with S:=W.S.put id (x.1,{x.2 with mw:=mw})} U (λj i=>M j i||(decide (j=id)&&i==n)):=by
 obtain⟨BU,_⟩:=hI.sp id x m;refine⟨hI.hI.put m rfl rfl (by show x.2.state≠0;rw[BU.st];decide),λj y a=> ?_,λit d=> ?_⟩
 .by_cases e:j=id
  .subst e;have a:(W.S.put j (x.1,{x.2 with mw:=mw})).sp j=some y:=a;rw[HS.Fv]at a;cases a;refine⟨BU.JT rfl rfl rfl rfl rfl rfl rfl,?_⟩;have:(λi=>M j i||(decide (j=j)&&i==n))=λi=>M j i||i==n:=by grind
   grind
  .have a:(W.S.put id (x.1,{x.2 with mw:=mw})).sp j=some y:=a;rw[HS.HU e]at a;have:=hI.sp j y a;have v:(λi=>M j i||(decide (j=id)&&i==n))=M j:=by funext i;simp[e]
   grind
 .obtain⟨y,h1,u⟩:=hI.it it d;by_cases e:it.id=id
  .rw[e,m]at h1;cases h1;exact⟨(x.1,{x.2 with mw:=mw}),by rw[e];exact HS.Fv,u⟩
  .exact⟨y,(HS.HU e).trans h1,u⟩
section
variable{E:Env}{w:World}{Z:List Pr}{b h s r:Nat}{W:SW}{U M:BA}(hE:EnvW E)
include hE
theorem Zg(H:Sat (AQ E b h s r W::Z) w)(hI:Ai W U M){a1:AW}{as_:List Int}(hA: ∀w',Sat Z w'->rowAt w' a1.base a1.len (ints .u64 as_))(hl:as_.length=a1.len)(bM:a1.len<=1099511627776)(has: ∀a∈as_,0<=a/\a<18446744073709551616)
  {K:Int->World->Prop}(aY:0<XX W.L false-> ∀w',Sat (AQ E b h s r W::Z) w'->K 33 w')
  (aX:(∀x∈W.L,x.HD=true)-> ∀S',QA W.S S'->Ai {W with S:=S',L:=HE W.L} U (M.mark W.S as_)-> ∀w',Sat (AQ E b h s r {W with S:=S',L:=HE W.L}::Z) w'->K 0 w'):
  F.C3 E (some ⟨b,0,none⟩) a1 K w:=by
 unfold F.C3 T0.C3;refine AH ⟨_,H.OQ.2.1,?_⟩;obtain⟨R,HH,hz,hb⟩:=H.P7;refine M6 HH λw4 H4=>AG (λg=>aY (by omega) w4 (hb H4)) λg=> ?_;have H5:=hb H4;have e0:M.mark W.S (as_.take 0)=M:=by funext i k;simp[BA.mark]
 refine AM (λst w'=> ∃(i:Nat) (S':HS),st.1=(i:Int)/\i<=as_.length/\QA W.S S'/\Ai {W with S:=S'} U (M.mark W.S (as_.take i))/\Sat (AQ E b h s r {W with S:=S'}::Z) w') (λst _=>((as_.length:Int)-st.1).toNat) ⟨0,W.S,rfl,Nat.zero_le _,QA.refl _,by rw[e0];exact hI,H5⟩ ?_;rintro⟨i',u⟩ _ w6 ⟨i,S',hi,bL,d,e,H6⟩;dsimp only at hi⊢;subst hi;refine AG (λbN=> ?_) λbK=> ?_
 .obtain⟨a,ha⟩: ∃a,as_[i]? =some a:=⟨_,List.getElem?_eq_getElem (by omega)⟩;have Y:=has a (List.mem_of_getElem? ha);obtain⟨q,hq,a2⟩: ∃q,a1.base=some q/\w6.cell? (q.add (Int.toNat (i:Int)*1))=some (.int .u64 a):=by
   have hr:=hA w6 H6.tail;cases hb1:a1.base with
   | none=>rw[hb1]at hr;have:ints .u64 as_=[]:=hr;simp[ints]at this;grind
   | some q=>rw[hb1]at hr;exact⟨q,rfl,by rw[Int.toNat_natCast,Nat.mul_one];exact hr.2 i _ (Nu ha)⟩
  rw[hq];refine AH ⟨⟨by omega,by omega⟩,a,a2,AH ⟨_,H6.OQ.1,?_⟩⟩;have aV:i64 ((i:Int)+1)=((i+1:Nat):Int):=by rw[AI];rfl
  rw[aV];have aR:as_.take (i+1)=as_.take i++[a]:=Gd ha;obtain⟨R2,O,a5,T⟩:=H6.Gf;have skip:mkOf W.S a=none-> ∀w',Sat (AQ E b h s r {W with S:=S'}::Z) w'->((∃(aA:Nat) (S':HS),((i+1:Nat):Int)=(aA:Int)/\aA<=as_.length/\QA W.S S'/\Ai {W with S:=S'} U (M.mark W.S (as_.take aA))/\Sat (AQ E b h s r {W with S:=S'}::Z) w')/\((as_.length:Int)-((i+1:Nat):Int)).toNat<((as_.length:Int)-(i:Int)).toNat):=λhn w' H'=>by
   refine⟨⟨i+1,S',rfl,by omega,d,?_,H'⟩,by omega⟩;have:M.mark W.S (as_.take (i+1))=M.mark W.S (as_.take i):=by
    funext j k;unfold BA.mark
    grind
   grind
  refine ZH O Y.1 Y.2 λbR aK=> ?_;refine P8 (T aK) e (λhn w' H'=> ?_) λx m BU hg w' H'=> ?_
  .refine AJ (vs:=Jo) H' λaQ a6 v _=> ?_;refine CN (news:=Jo) v rfl (by simp[Jo,Value.oneCell']) λaH J=>Aa rfl ?_;refine skip ?_ aH J.tail;rw[<-Xf d];unfold mkOf
   grind
  .have m:S'.sp (S'.own (a/8192))=some x:=m;refine AJ (vs:=Jo) H' λaQ a6 v _=> ?_;refine CN (news:=Il x.2) v rfl (by simp[Il,Value.oneCell']) λaH J=>AO rfl ?_;obtain⟨R3,aO,bQ,aT⟩:=J.tail.Gf;obtain⟨R4,a3,aD⟩:=aO.gY m;have aG:=BU.size;have bB:=BU.ba;have bO:=BU.pg;have aJ: ∀{S:HS} {id:Int} {y:Nat×SI},S.sp id=some y->S.put id y=S:=λ{S id y} hy=>by
    unfold HS.put;have:(λi=>if i=id then some y else S.sp i)=S.sp:=by grind
    rw[this]
   refine PU a3 BU.ZQ aG.1 (by omega) (by omega) (by omega) Y (λbA w' Hs=> ?_) λh1 h2 w' Hs=> ?_
   .refine AO rfl (skip ?_ w' ?_)
    .rw[<-Xf d];unfold mkOf
     grind
    .have:=aD Hs
     grind
   .have a0:0<=(a-x.2.base)/x.2.elem:=Int.ediv_nonneg (by omega) (by omega);have aF:(a-x.2.base)/x.2.elem<x.2.AP:=Int.ediv_lt_of_lt_mul aG.1 (by omega);obtain⟨n,hn⟩:=Int.eq_ofNat_of_zero_le a0;refine Aa rfl ?_;rw[hn]at aF⊢;refine Se Hs hg BU.st aF λmw' aU bS aL=> ?_;have aM:=aT (aD aL);refine⟨⟨i+1,S'.put (S'.own (a/8192)) (x.1,{x.2 with mw:=mw'}),rfl,by omega,d.put m mw',?_,aM⟩,by omega⟩;have hIn:=e.mark (W:={W with S:=S'}) m aU;have em:M.mark W.S (as_.take (i+1))=λj k=>M.mark W.S (as_.take i) j k||(decide (j=S'.own (a/8192))&&k==n):=by
     funext j k;unfold BA.mark;rw[aR,List.any_append,<-Bool.or_assoc];congr 1;simp only[List.any_cons,List.any_nil,Bool.or_false];have:mkOf W.S a=some (S'.own (a/8192),n):=by
      rw[<-Xf d];unfold mkOf;rw[m]
      grind
     grind
    grind
 .have aW:i=as_.length:=by omega
  refine AH ⟨_,H6.OQ.2.1,?_⟩;obtain⟨R2,O,a5,T⟩:=H6.P7;refine ZZ O (λaE=>absurd aE (by grind)) λa4 a7 aN=> ?_;rw[aW,List.take_length]at e;refine aX a4 S' d (e.ofL λx m=> ?_) a7 (T aN);obtain⟨y,hy,rfl⟩:=List.mem_map.1 m;exact e.it y hy
end
structure lG where
 R:List Rc
 m:Nat->Bool
 em:List Rc
def Jy(a:Int)(y:Rc):Bool:=y.addr==a&&y.kind==1
def qR(R:List Rc)(a:Int):List Rc:=R.filter λy=> !Jy a y
def spStep(u:Nat->Bool)(base elem:Int)(k:Nat)(t:lG):lG:=
 if u k=true/\t.m k=false then
  match t.R.find? (Jy (base+k*elem))with
  | some y=>⟨qR t.R (base+k*elem),λi=>t.m i||i==k,t.em++[⟨0,base+k*elem,1,y.data⟩]⟩
  | none=>⟨TE t.R (base+k*elem),t.m,t.em++Xd t.R (base+k*elem)⟩
 else t
def PW(u:Nat->Bool)(base elem:Int):Nat->lG->lG
 | 0,t=>t
 | n+1,t=>spStep u base elem n (PW u base elem n t)
def Zh{u:Nat->Bool}{base elem:Int}{k:Nat}{t:lG}(h: ∀y∈t.R,y.addr≠base+k*elem):spStep u base elem k t=t:=by
 unfold spStep;split
 .have h1:t.R.find? (Jy (base+k*elem))=none:=by
   rw[List.find?_eq_none];intro y a;unfold Jy
   grind
  have d:TE t.R (base+k*elem)=t.R:=List.filter_eq_self.2 λy a=>by grind
  have e:Xd t.R (base+k*elem)=[]:=List.filter_eq_nil_iff.2 λy a=>by grind
  rw[h1];simp only;rw[d,e,List.append_nil]
 .rfl
def NA{u:Nat->Bool}{base elem:Int}{t:lG}: ∀{n:Nat},(∀k,k<n-> ∀y∈t.R,y.addr≠base+(k:Int)*elem)->PW u base elem n t=t
 | 0,_=>rfl
 | n+1,h=>by
  show spStep u base elem n (PW u base elem n t)=t;rw[NA λk a=>h k (by omega),Zh (h n (by omega))]
def rcF{A B:List Rc}{y:Rc}{a:Int}(hI:Si (A++y::B))(h1:y.addr=a)(v:y.kind=1):(A++y::B).find? (Jy a)=some y/\qR (A++y::B) a=A++B:=by
 have u:=List.pairwise_append.1 hI.WL;have O:Jy a y=true:=by unfold Jy;grind
 have m: ∀x,x.key≠y.key->Jy a x=false:=λx d=>by
  cases e:Jy a x with
  | false=>rfl
  | true=>
   unfold Jy at e;rw[Bool.and_eq_true,beq_iff_eq,beq_iff_eq]at e;exact absurd (by unfold Rc.key;omega) d
 have J: ∀x∈A,Jy a x=false:=λx d=>m x (by have:=u.2.2 x d y (by simp);omega);have K: ∀x∈B,Jy a x=false:=λx d=>m x (by have:=(List.pairwise_cons.1 u.2.1).1 x d;omega);constructor
 .grind
 .unfold qR;rw[List.filter_append,List.filter_cons_of_neg (by grind),List.filter_eq_self.2 λx d=>by grind,List.filter_eq_self.2 λx d=>by grind]
def rcN{R:List Rc}{a:Int}(h: ∀x∈R,¬(x.addr=a/\x.kind=1)):R.find? (Jy a)=none:=by
 rw[List.find?_eq_none];intro x d e;unfold Jy at e
 grind
def qS(R:List Rc)(a:Int):(Xd R a).length+(TE R a).length=R.length:=by
 unfold Xd TE
 induction R with
 | nil=>rfl
 | cons y R ih=>grind
def wH{R:List Rc}{a:Int}{y:Rc}(h:R.find? (Jy a)=some y):(qR R a).length+1<=R.length:=by
 have h1:=List.find?_some h;have d:=List.mem_of_find?_eq_some h;unfold qR;have:(R.filter λy=> !Jy a y).length<R.length:=by
  refine Nat.lt_of_le_of_ne (List.length_filter_le _ _) λe=> ?_;have:=List.length_filter_eq_length_iff.1 e y d
  grind
 omega
def dO{u:Nat->Bool}{base elem:Int}{k:Nat}{t:lG}:(spStep u base elem k t).em.length+(spStep u base elem k t).R.length<=t.em.length+t.R.length:=by
 unfold spStep;split
 .cases h:t.R.find? (Jy (base+k*elem))with
  | some y=>have:=wH h;grind
  | none=>have:=qS t.R (base+k*elem);grind
 omega
def WO{u:Nat->Bool}{base elem:Int}{t:lG}: ∀n,(PW u base elem n t).em.length+(PW u base elem n t).R.length<=t.em.length+t.R.length
 | 0=>Nat.le_refl _
 | n+1=>Nat.le_trans dO (WO n)
def qT{u:Nat->Bool}{base elem:Int}{k:Nat}{t:lG}(h: ∀i,t.m i=true->u i=true): ∀i,(spStep u base elem k t).m i=true->u i=true:=by
 unfold spStep
 grind
def iG{u:Nat->Bool}{base elem:Int}{t:lG}(h: ∀i,t.m i=true->u i=true): ∀n i,(PW u base elem n t).m i=true->u i=true
 | 0=>h
 | n+1=>qT (iG h n)
def HS.TS(S:HS)(id:Int)(a c:Nat×SI):(S.put id a).put id c=S.put id c:=by
 unfold HS.put
 grind
def HS.Zi{S:HS}{id:Int}{x:Nat×SI}(a:S.sp id=some x):S.put id x=S:=by
 unfold HS.put;have:(λi=>if i=id then some x else S.sp i)=S.sp:=by grind
 rw[this]
section
variable{E:Env}{w:World}{Z:List Pr}{b h s r:Nat}{W:SW}{U M:BA}
def Ai.rc(hI:Ai W U M)(R:List Rc)(em:List Rc)(f d p c:Int):Ai {W with R:=R,em:=em,PV:=f,Fw:=d,Br:=p,Jv:=c} U M:=⟨hI.hI,hI.sp,hI.it⟩
def qU{F:List Pr}{t z bytes:Nat}{zs:Array Value}{s1 s2:AW}{vs us:List Value}{K:AW->World->Prop}(H:Sat (Row t z s1 vs::Row t z s2 us::F) w)(hz:zs.size=z)(ho: ∀v∈us,v.oneCell'=true)
  (m:(s1.len+s2.len)*bytes<=140737488355328)(a:s1.len+s2.len<=9223372036854775807)(e: ∀s' w',Sat (Row t z s' (vs++us)::Row t z s2 us::F) w'->K s' w'):APP t z bytes zs s1 s2 w K:=
 Om H hz (H.front 1 rfl).KE (H.front 1 rfl).Bs ho m a λs' w' d _=>e s' w' d
def TF(H:Sat (AQ E b h s r W::Z) w)(hI:Ai W U M){id:Int}{x:Nat×SI}(hx:W.S.sp id=some x)(cX:W.em.length+W.R.length<=1099511627776){K:World->Prop}{Kp:Value->World->Prop}
  (b6:(∃i,M id i=true/\U id i=false)-> ∀w',Sat (AQ E b h s r W::Z) w'->Kp (.iface E.Gp (.agg ⟨[]⟩)) w')
  (hk:(∀i,M id i=true->U id i=true)-> ∀t,t=PW (U id) x.2.base x.2.elem x.2.AP.toNat ⟨W.R,M id,W.em⟩-> ∀mw,Ai {W with S:=W.S.put id (x.1,{x.2 with mw:=mw}),R:=t.R,em:=t.em} U (M.set id t.m)->
   ∀w',Sat (AQ E b h s r {W with S:=W.S.put id (x.1,{x.2 with mw:=mw}),R:=t.R,em:=t.em}::Z) w'->K w'):
  F.A2 E (some ⟨b,0,none⟩) (some ⟨x.1,0,none⟩) x.2.base x.2.AF x.2.state x.2.cls x.2.E3 x.2.elem x.2.AP x.2.used x.2.f8 x.2.f9 K Kp w:=by
 unfold F.A2 T0.A2;obtain⟨BU,hg⟩:=hI.sp id x hx;have cB:=BU.size;have cW:=BU.ba;have dA:=BU.pg;have a:W.S.put id (x.1,{x.2 with mw:=x.2.mw})=W.S:=HS.Zi hx;have aU:M.set id (M id)=M:=by funext i;unfold BA.set;split;rename_i e;rw[e];rfl
 refine AJ (vs:=Il x.2) H λb1 w2 H2 _=> ?_;obtain⟨R2,bJ,dC,bR⟩:=(H2.front 1 rfl:Sat (AQ E b h s r W::Cells b1 E.BM (Il x.2)::Z) w2).Gf;obtain⟨R3,aL,bS⟩:=bJ.KZ hx;have J: ∀{w'},Sat (Cb E x.1 x.2::R3) w'->Sat (AQ E b h s r W::Cells b1 E.BM (Il x.2)::Z) w':=λh'=>bR (bS h');refine PT aL hg (λhz=>Aa rfl (b6 hz w2 ((J aL).front 1 rfl).tail)) λb9=>AO rfl (AH ?_);have H4:=(J aL).drew;have c4:=H4.front 1 rfl;refine⟨_,H4.OQ.2.2,_,c4.AU rfl,_,c4.AU rfl,_,c4.cell rfl,?_⟩;rw[AR (n:=x.2.AF),AR (n:=x.2.AF*8192),AR (n:=x.2.base+x.2.AF*8192)];obtain⟨Q,bL,dE,bU⟩:=H4.qP;refine TC bL λF4 l a2 cH aX a6=> ?_;have aE:=bU a6.tail;have aJ:=aE.front 1 rfl;refine⟨aJ.cell rfl,aJ.AU rfl,Cj (λe0=> ?_) λe0=>⟨x.2.AP,aJ.cell rfl,?_⟩⟩
 .-- no record
  have aV:=aX.1 (by omega);have aD:PW (U id) x.2.base x.2.elem x.2.AP.toNat ⟨W.R,M id,W.em⟩=⟨W.R,M id,W.em⟩:=NA λk hk y hy e=>aV y hy (by
   have h1:0<=(k:Int)*x.2.elem:=Int.mul_nonneg (by omega) (by omega);have h2:((k:Int)+1)*x.2.elem<=x.2.AP*x.2.elem:=Int.mul_le_mul_of_nonneg_right (by omega) (by omega)
   grind)
  refine hk b9 _ rfl x.2.mw ?_ a2 ?_
  .rw[aD,a,aU];exact hI
  .rw[aD,a];exact(aE.front 1 rfl).tail
 .-- slot for slot
  let tk:Nat->lG:=λk=>PW (U id) x.2.base x.2.elem k ⟨W.R,M id,W.em⟩
  let Wk:Nat->List Int->SW:=λk mw=>{W with S:=W.S.put id (x.1,{x.2 with mw:=mw}),R:=(tk k).R,em:=(tk k).em}
  refine AM (λst w'=> ∃(k:Nat) (mw:List Int),st.1=(k:Int)/\k<=x.2.AP.toNat/\Ai (Wk k mw) U (M.set id (tk k).m)/\Sat (AQ E b h s r (Wk k mw)::Z) w') (λst _=>(x.2.AP-st.1).toNat) ⟨0,x.2.mw,rfl,Nat.zero_le _,?_,?_⟩ ?_
  .show Ai {W with S:=W.S.put id (x.1,{x.2 with mw:=x.2.mw}),R:=W.R,em:=W.em} U (M.set id (M id));rw[a,aU];exact hI
  .show Sat (AQ E b h s r {W with S:=W.S.put id (x.1,{x.2 with mw:=x.2.mw}),R:=W.R,em:=W.em}::Z) a2;rw[a];exact(aE.front 1 rfl).tail
  rintro⟨k',u⟩ _ dH ⟨k,mw,aZ,c3,aA,aF⟩;dsimp only at aZ⊢;subst aZ;refine AG (λc6=> ?_) λcZ=> ?_
  .have b5:i64 ((k:Int)+1)=((k+1:Nat):Int):=by rw[AI];rfl
   rw[b5];have aC:(Wk k mw).S.sp id=some (x.1,{x.2 with mw:=mw}):=HS.Fv;obtain⟨a1,aB⟩:=aA.sp id _ aC;have aT:(M.set id (tk k).m) id=(tk k).m:=if_pos rfl;rw[aT]at aB;have O:=WO (u:=U id) (base:=x.2.base) (elem:=x.2.elem) (t:=⟨W.R,M id,W.em⟩) k;have O:(tk k).em.length+(tk k).R.length<=W.em.length+W.R.length:=O;have aN: ∀{t':lG} {mw':List Int} {w'},spStep (U id) x.2.base x.2.elem k (tk k)=t'->Ai {W with S:=W.S.put id (x.1,{x.2 with mw:=mw'}),R:=t'.R,em:=t'.em} U (M.set id t'.m)->Sat (AQ E b h s r {W with S:=W.S.put id (x.1,{x.2 with mw:=mw'}),R:=t'.R,em:=t'.em}::Z) w'->
     (∃(T:Nat) (mw:List Int),((k+1:Nat):Int)=(T:Int)/\T<=x.2.AP.toNat/\Ai (Wk T mw) U (M.set id (tk T).m)/\Sat (AQ E b h s r (Wk T mw)::Z) w')/\(x.2.AP-((k+1:Nat):Int)).toNat<(x.2.AP-(k:Int)).toNat:=λ{t' mw' w'} ht hIn hS=>by
    refine⟨⟨k+1,mw',rfl,by omega,?_,?_⟩,by omega⟩
    .have:tk (k+1)=t':=ht
     grind
    .have:tk (k+1)=t':=ht
     grind
   have same: ∀{w'},¬(U id k=true/\(tk k).m k=false)->Sat (AQ E b h s r (Wk k mw)::Z) w'->_:=λ{w'} aK hS=>aN (t':=tk k) (mw':=mw) (w':=w') (by unfold spStep;rw[if_neg aK]) aA hS;obtain⟨R4,bK,dD,bT⟩:=aF.Gf;obtain⟨R5,aM,aW⟩:=bK.KZ aC;refine Sd aM aB (by omega) ?_;cases hu:U id k with
   | false=>exact Aa rfl (same (by grind) aF)
   | true=>
   refine AO rfl (Vc aM aB (by omega) ?_);cases hm:(tk k).m k with
   | true=>exact Aa rfl (same (by grind) aF)
   | false=>
   have bY:U id k=true/\(tk k).m k=false:=⟨hu,hm⟩;refine AO rfl (Sc aM (by omega) (by omega) λcD a7=> ?_);have aG:Sat (AQ E b h s r (Wk k mw)::Z) cD:=bT (aW a7);have c7:0<=(k:Int)*x.2.elem:=Int.mul_nonneg (by omega) (by omega);have c8:((k:Int)+1)*x.2.elem<=x.2.AP*x.2.elem:=Int.mul_le_mul_of_nonneg_right (by omega) (by omega);have c9:((k:Int)+1)*x.2.elem=k*x.2.elem+x.2.elem:=by grind
   have b8:=cB.2.2.2.2;rw[Int.mul_comm x.2.elem]at b8;have ea:u64 (x.2.base+u64 (u64 (k:Int)*u64 x.2.elem))=x.2.base+k*x.2.elem:=by
    rw[AR (n:=(k:Int)),AR (n:=x.2.elem),AR (n:=(k:Int)*x.2.elem),AR]
   have bO:u64 (({x.2 with mw:=mw}:SI).base+u64 (u64 (k:Int)*u64 ({x.2 with mw:=mw}:SI).elem))=x.2.base+k*x.2.elem:=ea;rw[bO];generalize hA:x.2.base+(k:Int)*x.2.elem=A at *
   refine AH ⟨_,aG.OQ.2.2,?_⟩;obtain⟨Q6,aS,dF,bV⟩:=aG.qP;refine Ze aS (by decide) (λaK=> ?_) λA1 B1 y hR ey ek cE a8=> ?_
   .-- no finalizer
    refine AO rfl ?_;have aH:=aG.drew;obtain⟨em,d⟩:=Sat.IC.1 aH;have Y:=M9 d;refine AH ⟨em,Y.2.2.2.1,AH ⟨_,Y.2.2.1,?_⟩⟩;have b3:(tk k).R.find? (Jy A)=none:=rcN aK;refine Xe (d.front 3 rfl) λaY a4 a0 bG=> ?_;have bH:Sat ((MB E b h s r (Wk k mw) em++Row E.An 3 aY (DI Re (Xd (tk k).R A))::Z).set 3 (I5 E r (TE (tk k).R A))) a4:=by
     have h1:=bG.front 1 rfl;exact Sat.back (Ps:=MB E b h s r (Wk k mw) em++Row E.An 3 aY (DI Re (Xd (tk k).R A))::Z) 3 (h1.perm (by
      refine .cons _ ?_;exact(List.perm_middle (l₁:=[_,_,_,_]) (l₂:=Z)).symm)) (by simp[MB])
    have aI:Sat (Row E.An 3 em (DI Re (tk k).em)::Row E.An 3 aY (DI Re (Xd (tk k).R A))::Cells b E.C5 (IB h s r em (Wk k mw))::BF E h (Wk k mw).S::GB E s W.L::I5 E r (TE (tk k).R A)::Z) a4:=(bH.front 5 rfl).front 5 rfl;have b7:(tk k).em.length=em.len:=(aI.JJ (by decide) Xb).1;have c5:aY.len=(Xd (tk k).R A).length:=a0;have cI:=qS (tk k).R A;refine⟨(aI.front 2 rfl).cell rfl,?_⟩;refine qU (bytes:=24) aI rfl (pE Xc _) (by omega) (by omega) λsQ dL bI=>AH ?_;refine Ah (bI.front 2 rfl) (o:=0) (m:=3) (v:=FJ sQ) rfl (by simp[IB]) λcF aR=> ?_;have et:spStep (U id) x.2.base x.2.elem k (tk k)=⟨TE (tk k).R A,(tk k).m,(tk k).em++Xd (tk k).R A⟩:=by
     unfold spStep
     grind
    refine aN (mw':=mw) et ?_ ?_
    .exact aA.rc (TE (tk k).R A) ((tk k).em++Xd (tk k).R A) W.PV W.Fw W.Br W.Jv
    .refine Sat.IC.2 ⟨sQ,?_⟩;rw[<-Q4]at aR;have h1:Sat (Row E.An 3 sQ (DI Re ((tk k).em++Xd (tk k).R A))::Cells b E.C5 (IB h s r sQ (Wk k mw))::BF E h (Wk k mw).S::GB E s W.L::I5 E r (TE (tk k).R A)::Z) cF:=by
      have h0:=(aR.front 2 rfl).tail;exact h0.front 0 rfl|>.perm (.swap _ _ _)|>.perm (.swap _ _ _)|>.perm (.swap _ _ _)
     exact h1.perm (List.perm_middle (l₁:=[_,_,_,_]) (l₂:=Z)).symm
   .-- a finalizer
    have hR:(tk k).R=A1++y::B1:=hR;have bQ:Si (tk k).R:=(Sat.spec.1 aS).1;obtain⟨bZ,b2⟩:=rcF (hR▸bQ) ey ek;rw[<-hR]at bZ b2;have aH:Sat (AQ E b h s r {Wk k mw with R:=A1++B1}::Z) cE:=bV a8;obtain⟨em,d⟩:=Sat.IC.1 aH;have Y:=M9 d;refine Aa rfl (AH ⟨em,Y.2.2.2.1,?_⟩);refine AJ (vs:=Re ⟨0,A,1,y.data⟩) d λcN dI a9 _=> ?_;have aQ:=a9.Bh 4 rfl;have b7:(tk k).em.length=em.len:=((aQ.front 1 rfl).JJ (by decide) Xb).1;refine GJ (news:=Re ⟨0,A,1,y.data⟩) (bytes:=24) aQ rfl rfl (Xc _) (by omega) (by omega) λW8 dJ bA _=>AH ?_;refine Ah (bA.front 1 rfl) (o:=0) (m:=3) (v:=FJ W8) rfl (by simp[IB]) λa3 bB=> ?_;have er:DI Re (tk k).em++Re ⟨0,A,1,y.data⟩=DI Re ((tk k).em++[⟨0,A,1,y.data⟩]):=by rw[Q4];simp[DI]
    have bC:Sat (Cells b E.C5 (IB h s r W8 (Wk k mw))::Row E.An 3 W8 (DI Re ((tk k).em++[⟨0,A,1,y.data⟩]))::BF E h (Wk k mw).S::GB E s W.L::I5 E r (A1++B1)::Z) a3:=by rw[<-er];exact bB
    have bD:Sat (AQ E b h s r {Wk k mw with R:=A1++B1,em:=(tk k).em++[⟨0,A,1,y.data⟩]}::Z) a3:=Sat.IC.2 ⟨W8,bC.perm (.cons _ (List.perm_middle (l₁:=[_,_,_]) (l₂:=Z)).symm)⟩;obtain⟨R7,bM,dG,bW⟩:=bD.Gf;obtain⟨R8,cA,bX⟩:=bM.gY aC;refine Se cA aB a1.st (by omega) λmw' b4 dK bF=> ?_;have cL:=bW (bX bF);have et:spStep (U id) x.2.base x.2.elem k (tk k)=⟨A1++B1,λi=>(tk k).m i||i==k,(tk k).em++[⟨0,A,1,y.data⟩]⟩:=by
     unfold spStep
     grind
    refine aN (mw':=mw') et ?_ ?_
    .have h1:=(aA.mark aC (n:=k) (mw:=mw') (by rw[aT];exact b4)).rc (A1++B1) ((tk k).em++[⟨0,A,1,y.data⟩]) W.PV W.Fw W.Br W.Jv;have e1:(λj i=>M.set id (tk k).m j i||(decide (j=id)&&i==k))=M.set id λi=>(tk k).m i||i==k:=by
      funext j i;unfold BA.set;by_cases e:j=id
      .simp[e]
      .simp[e]
     rw[e1]at h1;have e2:(Wk k mw).S.put id (x.1,{x.2 with mw:=mw'})=W.S.put id (x.1,{x.2 with mw:=mw'}):=HS.TS _ _ _ _
     grind
    .have e2:(Wk k mw).S.put id (x.1,{x.2 with mw:=mw'})=W.S.put id (x.1,{x.2 with mw:=mw'}):=HS.TS _ _ _ _
     grind
  .have c2:k=x.2.AP.toNat:=by omega
   grind
end
section
variable{E:Env}{h:Nat}{S:HS}{Z:List Pr}{w:World}
def Sat.Zj(H:Sat (BF E h S::Z) w){id:Int}{x:Nat×SI}(d:S.sp id=some x): ∃R:List Pr,Sat (Cb E x.1 x.2::R) w/\(∀{w'},Sat R w'->Sat Z w')/\ ∀{I:SI} {w'},Sat (Cb E x.1 I::R) w'->Sat (BF E h (S.put id (x.1,I))::Z) w':=by
  obtain⟨g,hI,H⟩:=Sat.heap.1 H;have hm:id∈g.ids:=(hI.mem id).2 (by grind);obtain⟨i,hi⟩:=List.mem_iff_getElem?.1 hm;have H1:=(H.front 6 rfl).FO hi;have e:spR E S.sp id=Cb E x.1 x.2:=by unfold spR;rw[d]
  rw[e]at H1;refine⟨_,H1,λh=>h.tail.tail.tail.tail.tail.tail.tail.tail,λ{I w'} h'=>Sat.heap.2 ⟨g,⟨hI.nd,λj=> ?_⟩,?_⟩⟩
  . rw[hI.mem];show _↔(if j=id then some (x.1,I)else S.sp j)≠none
    grind
  . have u:spR E (S.put id (x.1,I)).sp id=Cb E x.1 I:=by unfold spR;rw[HS.Fv]
    have v:Al (spR E S.sp) (g.ids.eraseIdx i)=Al (spR E (S.put id (x.1,I)).sp) (g.ids.eraseIdx i):=Al.congr λj O=>by
      have:j≠id:=λe=>OL hI.nd hi (e▸O);unfold spR;rw[HS.HU this]
    rw[<-u,v]at h';have K:=Sat.Jb h' hi;have h3:=Sat.back (Ps:=Bz E h S g++Z) 6 K (by simp[Bz]);have J:Dc S.sp=Dc (S.put id (x.1,I)).sp:=by
      funext j;unfold Dc;by_cases e:j=id
      . rw[e,HS.Fv,d];rfl
      . rw[HS.HU e]
    have Y:(Bz E h S g++Z).set 6 (Al (spR E (S.put id (x.1,I)).sp) g.ids)=Bz E h (S.put id (x.1,I)) g++Z:=by
      show [Cells h E.Ad (BX g S.hint S.AF),Bj E g.m S.V,BR E g.t S.T,Bq E g.a S.ks S.own,Gi E g.f S.fx,CH g.sm .i64 (Dc S.sp),_,_]++Z=_;rw[J];rfl
    grind
end
def Lj(x:SI)(uw:List Int)(u:Nat->Bool):SI:={x with uw:=uw,mw:=[],used:=(cN u x.AP.toNat:Nat),look:=0}
def FK:Nat->Bool:=λ_=>false
def dP(W:SW)(U M:BA)(id:Int)(GW:Bool)(n:Nat)(gone:Bool)(W':SW)(U' M':BA):Prop:=
  ∃(x:Nat×SI) (t:lG) (uw:List Int),W.S.sp id=some x/\(∀i,M id i=true->U id i=true)/\t=PW (U id) x.2.base x.2.elem x.2.AP.toNat ⟨W.R,M id,W.em⟩/\
    n=cN (λi=>U id i&& !t.m i) x.2.AP.toNat/\U'=U.set id (λi=>U id i&&t.m i)/\M'=M.set id FK/\
    ∃d:SW,d={W with S:=W.S.put id (x.1,Lj x.2 uw λi=>U id i&&t.m i),R:=t.R,em:=t.em,PV:=u64 (W.PV+n),Fw:=u64 (W.Fw+x.2.AF)}/\
    ((GW=true/\((cN (λi=>U id i&&t.m i) x.2.AP.toNat:Nat):Int)<x.2.AP/\gone=false/\W'=d)∨
     (¬(GW=true/\((cN (λi=>U id i&&t.m i) x.2.AP.toNat:Nat):Int)<x.2.AP)/\cN (λi=>U id i&&t.m i) x.2.AP.toNat=0/\gone=true/\ ∃a:Nat,id=(a:Int)+1/\W'={d with S:=d.S.free a (x.2.base/8192) x.2.AF})∨
     (¬(GW=true/\((cN (λi=>U id i&&t.m i) x.2.AP.toNat:Nat):Int)<x.2.AP)/\cN (λi=>U id i&&t.m i) x.2.AP.toNat≠0/\gone=false/\ ∃EU,W'={d with L:=G5 W.L ⟨EU,id,x.2.base,(x.2.cls,x.2.E3,((cN (λi=>U id i&&t.m i) x.2.AP.toNat:Nat):Int)==x.2.AP,true)⟩}))
section
variable{E:Env}{w:World}{Z:List Pr}{b h s r:Nat}{W:SW}{U M:BA}
def dQ{a:Addr}{i:Nat}{w:World}{K:World->Prop}(h:K w):stCells a i [] w K:=h
def dR{b1 b3 a:Nat}{K:World->Prop}(d:K w):F.B9 E (some ⟨b1,0,none⟩) (some ⟨b3,0,none⟩) (some ⟨a,0,none⟩) .nilIface K w:=by
  unfold F.B9;exact⟨rfl,Aa rfl d⟩
def qV{b1 b3 e t1 t3 t5:Nat}{v1 O T:Value}(H:Sat (Cells b1 t1 [v1]::Cells b3 t3 [O]::Cells e t5 [T]::Z) w){K:World->Prop}
    (J: ∀w',Sat (Cells b1 t1 [.int .i64 0]::Cells b3 t3 [.bool false]::Cells e t5 [.int .i64 40]::Z) w'->K w'):F.B9 E (some ⟨b1,0,none⟩) (some ⟨b3,0,none⟩) (some ⟨e,0,none⟩) (.iface E.Gp (.agg ⟨[]⟩)) K w:=by
  unfold F.B9;refine⟨rfl,AO rfl ?_⟩;unfold TAS;simp only[Nat.beq_refl];have go: ∀K:iX (.agg [])->Prop,K ()->unVT (.agg []) (.agg ⟨[]⟩) K:=λK h=>h;refine go _ ?_;refine Aa rfl (AJ (vs:=[]) H λb4 w5 u _=> ?_);refine dQ (AH (BT (u.front 1 rfl) (o:=0) rfl (by simp) λw8 v=>AH (BT (v.front 2 rfl) (o:=0) rfl (by simp) λY a=>AH (BT (a.front 3 rfl) (o:=0) rfl (by simp) λm d=>J m ?_))));exact(((d.front 3 rfl).tail).front 1 rfl).front 2 rfl
def Sat.skip{X P:Pr}{F:List Pr}(H:Sat (X::P::F) w):Sat (X::F) w:=(H.front 1 rfl).tail
def BA.set_set(U:BA)(id:Int)(u v:Nat->Bool):(U.set id u).set id v=U.set id v:=by
  funext i;unfold BA.set
  grind
def BA.Ir(U:BA)(id:Int)(u:Nat->Bool):(U.set id u) id=u:=if_pos rfl
def BA.qW(U:BA)(id:Int):U.set id (U id)=U:=by
  funext i;unfold BA.set;split
  . rename_i e;rw[e]
  . rfl
def Ai.putS{W:SW}{U M:BA}(hI:Ai W U M){id:Int}{x:Nat×SI}(v:W.S.sp id=some x){I:SI}{u m:Nat->Bool}(h1:I.base=x.2.base)(J:I.AF=x.2.AF)(K:I.state=x.2.state)(Y:I.cls=x.2.cls)(h5:I.elem=x.2.elem)(h6:I.AP=x.2.AP)(h7:I.Mf=x.2.Mf)(hg:Rd I u m):
    Ai {W with S:=W.S.put id (x.1,I)} (U.set id u) (M.set id m):=by
  obtain⟨BU,_⟩:=hI.sp id x v;refine⟨hI.hI.put v h1 J (by rw[K,BU.st];decide),λj y a=> ?_,λit d=> ?_⟩
  . by_cases e:j=id
    . subst e;have a:(W.S.put j (x.1,I)).sp j=some y:=a;rw[HS.Fv]at a;cases a;rw[BA.Ir,BA.Ir];exact⟨BU.JT h1 J K Y h5 h6 h7,hg⟩
    . have a:(W.S.put id (x.1,I)).sp j=some y:=a;rw[HS.HU e]at a;have O:U.set id u j=U j:=if_neg e;have T:M.set id m j=M j:=if_neg e;rw[O,T];exact hI.sp j y a
  . obtain⟨y,g1,g2⟩:=hI.it it d;by_cases e:it.id=id
    . rw[e,v]at g1;cases g1;exact⟨(x.1,I),by rw[e];exact HS.Fv,h1.trans g2⟩
    . exact⟨y,(HS.HU e).trans g1,g2⟩
variable(hE:EnvW E)
include hE
theorem dS(hT: ∀w',Sat Z w'->DJ E.AB w')(H:Sat (AQ E b h s r W::Z) w)(hI:Ai W U M){id:Int}{GW:Bool}(hf:W.L.length<1099511627776)(b4:W.em.length+W.R.length<=1099511627776)(hL: ∀y∈W.L,y.id≠id)
    {K:Int->Bool->Int->World->Prop}(b7:W.S.sp id=none-> ∀w',Sat (AQ E b h s r W::Z) w'->K 0 false 35 w')
    (b8: ∀x,W.S.sp id=some x->(∃i,M id i=true/\U id i=false)-> ∀w',Sat (AQ E b h s r W::Z) w'->K 0 false 40 w')
    (hk: ∀n gone W' U' M',dP W U M id GW n gone W' U' M'->Ai W' U' M'-> ∀w',Sat (AQ E b h s r W'::Z) w'->K n gone 0 w'):
    F.BZ E (some ⟨b,0,none⟩) id GW K w:=by
  unfold F.BZ T0.BZ;refine AJ (vs:=[.int .i64 0]) H λb1 w2 H2 _=>AJ (vs:=[.bool false]) H2 λb3 w4 H4 _=>AJ (vs:=[.int .i64 0]) H4 λb5 w6 H6 _=> ?_;have a4:Sat (AQ E b h s r W::Cells b5 E.BB [.int .i64 0]::Cells b3 E.Bb [.bool false]::Cells b1 E.Ag [.int .i64 0]::Z) w6:=H6.front 3 rfl;refine P8 a4 hI (λhn w' H'=> ?_) λx hx BU hg w' H'=> ?_
  . refine AJ (vs:=Jo) H' λaA cE aF _=> ?_;refine CN (news:=Jo) aF rfl (by simp[Jo,Value.oneCell']) λcF aG=> ?_;refine BT (aG.front 2 rfl) (o:=0) rfl (by simp) λcG J=>⟨35,J.AU rfl,Aa rfl ?_⟩;have aY:=J.drew;refine⟨35,aY.AU rfl,BT (aY.front 4 rfl) (o:=0) rfl (by simp) λc7 aZ=>⟨(aZ.front 1 rfl).AU rfl,BT (aZ.front 4 rfl) (o:=0) rfl (by simp) λc8 a0=>⟨(a0.front 2 rfl).AU rfl,BT (a0.front 2 rfl) (o:=0) rfl (by simp) λcH aH=> ?_⟩⟩⟩;exact⟨0,(aH.front 2 rfl).AU rfl,false,(aH.front 1 rfl).AU rfl,35,aH.AU rfl,b7 hn cH aH.tail.tail.tail.tail⟩
  . refine AJ (vs:=Jo) H' λaA cE aF _=> ?_;refine CN (news:=Il x.2) aF rfl (by simp[Il,Value.oneCell']) λcF aG=> ?_;refine BT (aG.front 2 rfl) (o:=0) rfl (by simp) λcG J=>⟨0,J.AU rfl,AO rfl ?_⟩;have d:=J.front 1 rfl;refine⟨_,d.cell rfl,_,d.cell rfl,_,d.cell rfl,_,d.cell rfl,_,d.cell rfl,_,d.cell rfl,_,d.cell rfl,_,d.cell rfl,_,d.cell rfl,_,d.cell rfl,?_⟩;have c4:=BU.size;refine TF (J.front 2 rfl) hI hx b4 (λhz cI aI=> ?_) λbG t ht mw hIn cI aI=> ?_
    . refine qV (((aI.front 1 rfl).front 3 rfl).front 4 rfl) λcM aN=> ?_;exact⟨0,aN.AU rfl,false,(aN.front 1 rfl).AU rfl,40,(aN.front 2 rfl).AU rfl,b8 x hx hz cM aN.tail.tail.tail.skip⟩
    . have cA: ∀i,t.m i=true->U id i=true:=by rw[ht];exact iG bG _
      obtain⟨R1,a7,cC,bB⟩:=aI.Gf;have aX:(W.S.put id (x.1,{x.2 with mw:=mw})).sp id=some (x.1,{x.2 with mw:=mw}):=HS.Fv;obtain⟨bH,bD⟩:=hIn.sp id _ aX;rw[BA.Ir]at bD;obtain⟨R2,bJ,cD,bC⟩:=a7.Zj aX;refine XS (λw' h'=>hT w' (cC (cD h')).tail.tail.tail.tail) bJ bD bH.st (λ⟨i,h1,h2⟩=>absurd (cA i h1) (by grind)) λ_ uw s43 bE O c9 a1=> ?_;have aR:=bB (bC a1.tail);have bK:Us {x.2 with mw:=mw} uw (U id) t.m=Lj x.2 uw λi=>U id i&&t.m i:=rfl;rw[bK,HS.TS]at aR;rw[bK]at bE;have bA:=hIn.putS aX (I:=Lj x.2 uw λi=>U id i&&t.m i) rfl rfl rfl rfl rfl rfl rfl bE;rw[BA.set_set]at bA;have O:s43.len=cN (λi=>U id i&& !t.m i) x.2.AP.toNat:=O;obtain⟨n,hn⟩: ∃n,n=cN (λi=>U id i&& !t.m i) x.2.AP.toNat:=⟨_,rfl⟩;have cR:=fF (λi=>U id i&& !t.m i) x.2.AP.toNat;rw[<-hn]at O;rw[O];refine BT (aR.front 4 rfl) (o:=0) rfl (by simp) λcJ a2=> ?_;have Y:Sat (AQ E b h s r {W with S:=W.S.put id (x.1,Lj x.2 uw λi=>U id i&&t.m i),R:=t.R,em:=t.em}::Cells b1 E.Ag [.int .i64 (n:Int)]::Cells b5 E.BB [.int .i64 0]::Cells aA E.BM (Il x.2)::Cells b3 E.Bb [.bool false]::Z) cJ.drew:=(a2.drew).front 1 rfl;obtain⟨em,aS⟩:=Sat.IC.1 Y;have a9:=M9 aS;refine AH ⟨_,a9.2.2.2.2.1,_,(Y.front 1 rfl).AU rfl,AH ?_⟩;refine Ah (show Sat (Cells b E.C5 _::_) _ from aS) (o:=0) (m:=4) rfl (by simp[IB]) λdA a3=> ?_;have aJ:=a3.drew;refine AH ⟨_,aJ.cell rfl,_,(aJ.front 7 rfl).cell rfl,AH (Ah aJ (o:=0) (m:=7) rfl (by simp[IB]) λcK aT=> ?_)⟩;rw[AR (n:=(n:Int)),AR (n:=x.2.AF) (by have:=BU.pg;omega) (by have:=BU.pg;omega)]at aT;obtain⟨T,aC⟩: ∃T:SW,T={W with S:=W.S.put id (x.1,Lj x.2 uw λi=>U id i&&t.m i),R:=t.R,em:=t.em,PV:=u64 (W.PV+n),Fw:=u64 (W.Fw+x.2.AF)}:=⟨_,rfl⟩;have bN:Sat (AQ E b h s r T::Cells b1 E.Ag [.int .i64 (n:Int)]::Cells b5 E.BB [.int .i64 0]::Cells aA E.BM (Il x.2)::Cells b3 E.Bb [.bool false]::Z) cK:=Sat.IC.2 ⟨em,by rw[aC];exact aT⟩;have aB:Ai T (U.set id λi=>U id i&&t.m i) (M.set id FK):=by
        rw[aC];have h1:=bA.rc t.R t.em (u64 (W.PV+n)) (u64 (W.Fw+x.2.AF)) W.Br W.Jv;rw[show(W.S.put id (x.1,{x.2 with mw:=mw})).put id (x.1,Lj x.2 uw λi=>U id i&&t.m i)=W.S.put id (x.1,Lj x.2 uw λi=>U id i&&t.m i)from HS.TS _ _ _ _]at h1;exact h1
      clear aT aJ a3 aS Y a2 aR a1 bJ bC a7 bB aI J d aG aF H' a4 H6 H4 H2 a9;have aP:T.L=W.L:=by rw[aC]
      have aE:T.S.sp id=some (x.1,Lj x.2 uw λi=>U id i&&t.m i):=by rw[aC];exact HS.Fv
      have mk: ∀gone W',_->dP W U M id GW n gone W' (U.set id λi=>U id i&&t.m i) (M.set id FK):=λgone W' h=>⟨x,t,uw,hx,bG,ht,hn,rfl,rfl,T,aC,h⟩;refine AV (λ_ w'=> ∃gone W',dP W U M id GW n gone W' (U.set id λi=>U id i&&t.m i) (M.set id FK)/\Ai W' (U.set id λi=>U id i&&t.m i) (M.set id FK)/\ ∃vs,Sat (Cells b1 E.Ag [.int .i64 (n:Int)]::Cells b3 E.Bb [.bool gone]::Cells b5 E.BB [.int .i64 0]::AQ E b h s r W'::Cells aA E.BM vs::Z) w') ?_ ?_
      . obtain⟨R3,bV,c5,bY⟩:=bN.Gf;obtain⟨R4,b9,bZ⟩:=bV.KZ aE;refine JP b9 λdD bP=> ?_;have bQ:=bY (bZ bP);refine CN (news:=Il (Lj x.2 uw λi=>U id i&&t.m i)) (bQ.front 3 rfl) rfl (by simp[Il,Value.oneCell']) λbL aK=> ?_;have e1:(Lj x.2 uw λi=>U id i&&t.m i).used=(cN (λi=>U id i&&t.m i) x.2.AP.toNat:Nat):=rfl;have e2:(Lj x.2 uw λi=>U id i&&t.m i).AP=x.2.AP:=rfl;have aL:Sat (AQ E b h s r T::Cells aA E.BM (Il (Lj x.2 uw λi=>U id i&&t.m i))::Cells b1 E.Ag [.int .i64 (n:Int)]::Cells b5 E.BB [.int .i64 0]::Cells b3 E.Bb [.bool false]::Z) bL:=aK.front 1 rfl;refine AV (λst w'=>w'=bL/\(st.1=true↔GW=true/\((cN (λi=>U id i&&t.m i) x.2.AP.toNat:Nat):Int)<x.2.AP)) ?_ ?_
        . cases aW:GW with
          | false=>exact AO rfl ⟨rfl,by simp⟩
          | true=>exact Aa rfl ⟨_,aK.cell rfl,_,aK.cell rfl,rfl,by grind⟩
        . rintro⟨kp,u⟩ _ dE ⟨rfl,aW⟩;dsimp only at aW⊢;refine AY (λv=> ?_) λc2=>⟨_,aK.cell rfl,Cj (λh0=> ?_) λh0=> ?_⟩
          . have bF:=aW.1 v;exact⟨false,T,mk _ _ (.inl ⟨bF.1,bF.2,rfl,rfl⟩),aB,_,((aL.front 3 rfl).front 4 rfl).front 4 rfl⟩
          . have aD: ¬(GW=true/\((cN (λi=>U id i&&t.m i) x.2.AP.toNat:Nat):Int)<x.2.AP):=λh=>by grind
            have aV:cN (λi=>U id i&&t.m i) x.2.AP.toNat=0:=by omega
            refine AH ⟨_,aL.OQ.1,?_⟩;obtain⟨R5,bW,c6,b2⟩:=aL.Gf;refine cX hE.toEnvA bW aB.hI (λhn=>by rw[aE]at hn;cases hn) (λy v hu=> ?_) λy a v hu ha aO dF bR=> ?_
            . rw[aE]at v;cases v;rw[e1]at hu;omega
            . rw[aE]at v;cases v;have bS:=b2 bR;refine BT (bS.front 4 rfl) (o:=0) rfl (by simp) λdG bT=> ?_;refine⟨true,{T with S:=T.S.free a (x.2.base/8192) x.2.AF},mk _ _ (.inr (.inl ⟨aD,aV,rfl,a,ha,rfl⟩)),⟨aO,λj y v=> ?_,λit b6=> ?_⟩,Il (Lj x.2 uw λi=>U id i&&t.m i),?_⟩
              . have v:(if j=(a:Int)+1 then none else T.S.sp j)=some y:=v;split at v
                . cases v
                . exact aB.sp j y v
              . obtain⟨y,g1,g2⟩:=aB.it it b6;refine⟨y,?_,g2⟩;show(if it.id=(a:Int)+1 then none else T.S.sp it.id)=some y
                grind
              . exact((bT.front 4 rfl).front 1 rfl).front 4 rfl
          . have aD: ¬(GW=true/\((cN (λi=>U id i&&t.m i) x.2.AP.toNat:Nat):Int)<x.2.AP):=λh=>by grind
            have aV:cN (λi=>U id i&&t.m i) x.2.AP.toNat≠0:=λh=>h0 (by omega);refine P9 hE aL aB (by grind) (λhn=>by grind) (λ_ ⟨y,v,e⟩=>absurd e (hL y (by rw[<-aP];exact v))) λy v c3 EU aO dH a5=> ?_;rw[aE]at v;cases v;rw[aP]at aO a5;refine⟨false,_,mk _ _ (.inr (.inr ⟨aD,aV,rfl,EU,rfl⟩)),aO,Il (Lj x.2 uw λi=>U id i&&t.m i),?_⟩;exact((a5.front 3 rfl).front 4 rfl).front 4 rfl
      . rintro _ _ dB ⟨gone,W',bI,bX,vs,bO⟩;have aU:=bO.drew;refine⟨_,aU.AU rfl,_,(aU.front 1 rfl).AU rfl,BT aU (o:=0) rfl (by simp) λdI a6=>⟨(a6.front 1 rfl).AU rfl,BT (a6.front 1 rfl) (o:=0) rfl (by simp) λdJ bU=>BT (bU.front 2 rfl) (o:=0) rfl (by simp) λcL aM=>dR ?_⟩⟩;exact⟨_,(aM.front 2 rfl).AU rfl,_,(aM.front 1 rfl).AU rfl,_,aM.AU rfl,hk n gone W' _ _ bI bX cL aM.tail.tail.tail.skip⟩
end
section
variable{E:Env}{w:World}{Rs Z:List Pr}
def Ux(H:Sat Z w){n r:Int}{K:Int->World->Prop}(T: ∀w',Sat Z w'->K (timesV n r) w'):F.Fb E n r K w:=by
 unfold F.Fb T0.Fb F.GP;have main: ∀(x:Nat) w',Sat Z w'->(bif (E6 x 4895412794951729152==some .gt||E6 x 4895412794951729152==some .eq)then(18446744073709551615:Int)else bif (E6 x 4607182418800017408==some .gt||E6 x 4607182418800017408==some .eq)then(WZ x).getD 0 else 0)=timesV n r->
   CND ((E6 x 4895412794951729152==some .gt||E6 x 4895412794951729152==some .eq)) (K 18446744073709551615 w')
    (CND ((E6 x 4607182418800017408==some .gt||E6 x 4607182418800017408==some .eq)) (∃a:Int,WZ x=some a/\(IntKind.min .u64<=a/\a<=IntKind.max .u64)/\K a w') (K 0 w')):=by
  intro x w' O e;have d:=T w' O;refine AY (λm=> ?_) λm=>AY (λh1=> ?_) λh1=> ?_
  .rw[m]at e;rw[<-e]at d;exact d
  .obtain⟨k,u,Y⟩:=gZ h1 (by rw[m];decide);refine⟨k,u,⟨by show(0:Int)<=k;omega,by show(k:Int)<=18446744073709551615;omega⟩,?_⟩;rw[m,h1,cond_false,cond_true,u]at e;rw[<-e]at d;exact d
  .rw[m,h1,cond_false,cond_false]at e;rw[<-e]at d;exact d
 have key:FRES (JW .mul (Lr n) r.toNat) w λv J=>
   CND ((E6 v 4895412794951729152==some .gt||E6 v 4895412794951729152==some .eq)) (K 18446744073709551615 J)
    (CND ((E6 v 4607182418800017408==some .gt||E6 v 4607182418800017408==some .eq)) (∃a:Int,WZ v=some a/\(IntKind.min .u64<=a/\a<=IntKind.max .u64)/\K a J) (K 0 J)):=by
  cases hx:JW .mul (Lr n) r.toNat with
  | some x=>
   refine main x w H ?_;unfold timesV;rw[hx]
  | none=>
   intro t;refine main (mH t) w.drew H.drew ?_;rw[hZ,hZ,OM hx];rfl
 exact key
end
section
variable{W:SW}{U M:BA}
def Ai.GW(hI:Ai W U M){S2:HS}{p n c page id:Int}{np:Bool}{bl:Nat}{X:FX}(hf:Found W.S p n page S2)(Y:Next S2 id X)(h0:0<=page)(h1:page+n<=34359738368)(hb: ¬KY 0 n c)(hn:0<=n)(v:CF (S2.GW id (bl,JV page n c np) page n X) no):
  Ai {W with S:=S2.GW id (bl,JV page n c np) page n X} (U.set id FK) (M.set id FK)/\W.S.sp id=none:=by
 have es:=hf.same;have d:W.S.sp id=none:=by
  refine Classical.byContradiction λg=> ?_;obtain⟨a,ha,h2,v⟩:=(hI.hI.sf id).1 g;rcases Y with ⟨J,K,_⟩|⟨b',r',J,K,_⟩
  .rw[es.fx]at K;omega
  .rw[es.fx]at J
   grind
 have BU:=wG (np:=np) h0 h1 hb hn;refine⟨⟨v,λj y m=> ?_,λit u=> ?_⟩,d⟩
 .have m:(if j=id then some (bl,JV page n c np)else S2.sp j)=some y:=m;by_cases e:j=id
  .rw[if_pos e]at m;cases m;subst e;rw[BA.Ir,BA.Ir];exact⟨BU,spOf_g BU⟩
  .rw[if_neg e,es.sp]at m;have O:U.set id FK j=U j:=if_neg e;have T:M.set id FK j=M j:=if_neg e;rw[O,T];exact hI.sp j y m
 .obtain⟨y,g1,g2⟩:=hI.it it u;have:it.id≠id:=λe=>by grind
  refine⟨y,?_,g2⟩;show(if it.id=id then _ else S2.sp it.id)=_;rw[if_neg this,es.sp];exact g1
def Ai.new(pl:List Int)(rf:List Bool)(fl:List Int):Ai (SW.new (HS.new (Lo pl rf fl))) (λ_=>FK) (λ_=>FK):=
 ⟨CF.Lo pl rf fl,λid x a=>(by cases a),λx a=>(by cases a)⟩
end
section
variable{E:Env}{w:World}{Z:List Pr}{b h s r:Nat}{W:SW}{U M:BA}
def Zk(H:Sat (AQ E b h s r W::Z) w){rt:Int}{K:World->Prop}(u: ∀w',Sat (AQ E b h s r {W with Jv:=rt,Br:=0,Fw:=0}::Z) w'->K w'):F.HP E (some ⟨b,0,none⟩) rt K w:=by
 unfold F.HP;obtain⟨em,H1⟩:=Sat.IC.1 H;refine AH (Ah (show Sat (Cells b E.C5 _::_) _ from H1) (o:=0) (m:=5) rfl (by simp[IB]) λJ a=>AH (Ah a (o:=0) (m:=6) rfl (by simp[IB]) λO d=>AH (Ah d (o:=0) (m:=7) rfl (by simp[IB]) λv e=>u v (Sat.IC.2 ⟨em,e⟩))))
def Lk(c n:Int):Int:=if 18446744073709551616<=c+n then 18446744073709551615 else c+n
def Vd(H:Sat (AQ E b h s r W::Z) w){n:Int}(e:0<=W.Br/\W.Br<18446744073709551616)(u:0<=n/\n<18446744073709551616){K:World->Prop}(d: ∀w',Sat (AQ E b h s r {W with Br:=Lk W.Br n}::Z) w'->K w'):F.Bp E (some ⟨b,0,none⟩) n K w:=by
 unfold F.Bp T0.Bp F.EK;obtain⟨em,H1⟩:=Sat.IC.1 H;refine AH ⟨_,(M9 H1).2.2.2.2.2.2.1,⟨e.1,u.1,by decide,by decide⟩,?_⟩;have fin: ∀v:Int,v=Lk W.Br n->stCells ((Addr.mk b 0 none).add 6) 0 [.int .u64 v] w K:=λv J=>by
  rw[J];exact Ah (show Sat (Cells b E.C5 _::_) _ from H1) (o:=0) (m:=6) rfl (by simp[IB]) λO a=>d O (Sat.IC.2 ⟨em,a⟩)
 rw[show W.Br+n+0=W.Br+n by omega];unfold Lk at fin;refine AZ (AG (λg j=>AH (fin _ ?_)) λg j=>AH (fin _ ?_))
 .rw[if_pos (by omega)]
 .rw[if_neg (by omega),Int.emod_eq_of_lt (by omega) (by omega)]
noncomputable def SW.wI(W:SW):Int:=if timesV W.Br W.Jv<W.Fw then 0 else timesV W.Br W.Jv-W.Fw
def Zl(H:Sat (AQ E b h s r W::Z) w)(Y:0<=W.Fw){K:Int->World->Prop}(J: ∀w',Sat (AQ E b h s r W::Z) w'->K W.wI w'):F.CP E (some ⟨b,0,none⟩) K w:=by
 unfold F.CP T0.CP;have e:=H.drew;obtain⟨em,H1⟩:=Sat.IC.1 e;have c1:=M9 H1;refine AH ⟨_,c1.2.2.2.2.2.2.1,AH ⟨_,c1.2.2.2.2.2.1,Ux e λO d=> ?_⟩⟩;obtain⟨v,u⟩:=Sat.IC.1 d;have m:=M9 u;have T:=WH W.Br W.Jv;have a:=J O d;unfold SW.wI at a;refine AH ⟨_,m.2.2.2.2.2.2.2,AG (λg=> ?_) λg=>AH ⟨_,m.2.2.2.2.2.2.2,?_⟩⟩
 .rw[if_pos g]at a;exact a
 .rw[if_neg g]at a;rw[AR];exact a
end
structure First(T:HS)(bl:Nat)(n c:Int)(np:Bool):Prop where
 sp:T.sp 1=some (bl,JV 512 n c np)
 no: ∀i,i≠1->T.sp i=none
 la:GA T (512+Le n)
 own: ∀p,T.own p=if 512<=p/\p<512+n then 1 else 0
 fx:T.fx=⟨1,[]⟩
 pg:T.AF=n
 fr:FrR T (512+n) (512+Le n)
 ca: ∀j,(T.ca j).empty
def NP:BA:=λ_=>FK
def WQ(id:Int):NP.set id FK=NP:=by funext i;unfold BA.set NP;split<;>rfl
section
variable{E:Env}{w:World}{Z:List Pr}{b h s r:Nat}{W:SW}{U M:BA}
variable(hE:EnvW E)
include hE
end
def u2:Nat->Bool:=λi=>((FK i||i==0)||i==1)
def iH:Au 5=(48,1,170,89478486):=by decide+kernel
section
variable{E:Env}{w:World}{Z:List Pr}(hE:EnvW E)
include hE
end
section
variable{E:Env}{w:World}{Z:List Pr}{b h s r:Nat}{W:SW}{U M:BA}
def Sk(hT: ∀w',Sat Z w'->DJ E.AB w')(H:Sat (AQ E b h s r W::Z) w)(hI:Ai W U M){id:Int}{x:Nat×SI}(u:W.S.sp id=some x){K:Int->Int->World->Prop}
  (O:(∀i:Nat,(i:Int)<x.2.AP->U id i=true)-> ∀w',Sat (AQ E b h s r W::Z) w'->K 0 30 w')
  (T: ∀(n:Nat) a,(n:Int)<x.2.AP->U id n=false->(∀i,i<n->U id i=true)->Ai {W with S:=W.S.put id (x.1,{x.2 with uw:=a,used:=x.2.used+1,look:=(n:Int)+1})} (U.set id λi=>U id i||i==n) M->
   ∀w',Sat (AQ E b h s r {W with S:=W.S.put id (x.1,{x.2 with uw:=a,used:=x.2.used+1,look:=(n:Int)+1})}::Z) w'->K n 0 w'):F.DY E (some ⟨x.1,0,none⟩) K w:=by
 obtain⟨BU,hg⟩:=hI.sp id x u;obtain⟨R,HH,hz,hb⟩:=H.Gf;obtain⟨R2,m,Y,e⟩:=HH.Zj u;refine XR (hT _ (hz (Y m.tail))) m hg (by rw[BU.st];decide) (λd w' v=> ?_) λn a hn hu hl J w' v=> ?_
 .have:=hb (e v);rw[show W.S.put id (x.1,x.2)=W.S from HS.Zi u]at this;exact O d w' this
 .refine T n a hn hu hl ?_ w' (hb (e v));have:=hI.putS u (I:={x.2 with uw:=a,used:=x.2.used+1,look:=(n:Int)+1}) rfl rfl rfl rfl rfl rfl rfl J;rwa[BA.qW]at this
def Kc(H:Sat (AQ E b h s r W::Z) w){id:Int}{x:Nat×SI}(J:W.S.sp id=some x){K:Int->Int->Int->Int->Bool->Int->Int->Int->Bool->Bool->World->Prop}
  (u: ∀w',Sat (AQ E b h s r W::Z) w'->K x.2.base x.2.AF x.2.state x.2.cls x.2.E3 x.2.elem x.2.AP x.2.used x.2.f8 x.2.f9 w'):F.Ax E (some ⟨x.1,0,none⟩) K w:=by
 obtain⟨R,m,hz,v⟩:=H.Gf;obtain⟨O,d,a⟩:=m.KZ J;exact JP d λw' e=>u w' (v (a e))
def OR(H:Sat (AQ E b h s r W::Z) w){id:Int}{K:Option Addr->Int->World->Prop}(a:W.S.sp id=none->K none 35 w)(d: ∀x,W.S.sp id=some x->K (some ⟨x.1,0,none⟩) 0 w):F.De E (some ⟨h,0,none⟩) id K w:=by
 obtain⟨R,e,hz,m⟩:=H.Gf;exact Ug e a d
def lH(H:Sat (AQ E b h s r W::Z) w){x:Int}(h0:0<=x)(u:x<18446744073709551616){K:Int->World->Prop}(e: ∀w',Sat (AQ E b h s r W::Z) w'->K (W.S.own (x/8192)) w'):F.D0 E (some ⟨h,0,none⟩) x K w:=by
 obtain⟨R,d,hz,m⟩:=H.Gf;exact ZH d h0 u λw' a=>e w' (m a)
def Kq(H:Sat (AQ E b h s r W::Z) w)(hI:Ai W U M){id:Int}{x:Nat×SI}(m:W.S.sp id=some x){i:Int}(h0:0<=i)(h1:i<x.2.AP){K:Int->Int->World->Prop}(O: ∀w',Sat (AQ E b h s r W::Z) w'->K (x.2.base+i*x.2.elem) 0 w'):F.CR E (some ⟨x.1,0,none⟩) i K w:=by
 obtain⟨BU,hg⟩:=hI.sp id x m;have e:=BU.size;have Y:=BU.ba;have aA:=BU.pg;obtain⟨R,v,hz,T⟩:=H.Gf;obtain⟨R2,d,a⟩:=v.KZ m;have h2:0<=i*x.2.elem:=Int.mul_nonneg h0 (by omega);have h3:i*x.2.elem<=x.2.AP*x.2.elem:=Int.mul_le_mul_of_nonneg_right (by omega) (by omega);have J:=e.2.2.2.2;rw[Int.mul_comm x.2.elem]at J;refine Sc d h0 h1 λw' u=> ?_;rw[AR (n:=i),AR (n:=x.2.elem),AR (n:=i*x.2.elem),AR (n:=x.2.base+i*x.2.elem)];exact O w' (T (a u))
end
structure EnvC(E:Env):Prop extends EnvW E where
 swept1: ∀a p k n (R:Value->World->Prop) w,F.DT E a p k n (λi b e w'=>R (.tuple ⟨[.int .i64 i,.bool b,.int .i64 e]⟩) w') w->E.call E.Gt #[.pointer a,.agg ⟨[.int .i64 p,.int .i64 k,.bool n]⟩] w R EW
 qX: ∀a p k n (R:Value->World->Prop) w,F.Cp E a p k n (λi b e w'=>R (.tuple ⟨[.int .i64 i,.bool b,.int .i64 e]⟩) w') w->E.call E.GC #[.pointer a,.agg ⟨[.int .i64 p,.int .i64 k,.bool n]⟩] w R EW
 full1: ∀a p k n (R:Value->World->Prop) w,F.Dv E a p k n (λi b e w'=>R (.tuple ⟨[.int .i64 i,.bool b,.int .i64 e]⟩) w') w->E.call E.HO #[.pointer a,.agg ⟨[.int .i64 p,.int .i64 k,.bool n]⟩] w R EW
 fresh1: ∀a p k n (R:Value->World->Prop) w,F.DU E a p k n (λi b e w'=>R (.tuple ⟨[.int .i64 i,.bool b,.int .i64 e]⟩) w') w->E.call E.Gu #[.pointer a,.agg ⟨[.int .i64 p,.int .i64 k,.bool n]⟩] w R EW
def FL(E:Env)(cb b h s r:Nat)(W:SW):Pr:=S5 [Cells cb E.A0 [.pointer (some ⟨b,0,none⟩)],AQ E b h s r W]
section
variable{E:Env}{w:World}{Z:List Pr}{cb b h s r:Nat}{W:SW}{U M:BA}
def Sat.wJ:Sat (FL E cb b h s r W::Z) w↔Sat (Cells cb E.A0 [.pointer (some ⟨b,0,none⟩)]::AQ E b h s r W::Z) w:=Sat.star
def Sat.Uy(H:Sat (FL E cb b h s r W::Z) w):Sat (AQ E b h s r W::Cells cb E.A0 [.pointer (some ⟨b,0,none⟩)]::Z) w:=(Sat.wJ.1 H).perm (.swap _ _ _)
def Sat.Uz(H:Sat (AQ E b h s r W::Cells cb E.A0 [.pointer (some ⟨b,0,none⟩)]::Z) w):Sat (FL E cb b h s r W::Z) w:=Sat.wJ.2 (H.perm (.swap _ _ _))
def Sat.iI(H:Sat (FL E cb b h s r W::Z) w):w.cell? (Addr.mk cb 0 none)=some (.pointer (some ⟨b,0,none⟩)):=(Sat.wJ.1 H).AU rfl
def dT(H:Sat (AQ E b h s r W::Z) w){K:Option Addr->World->Prop}(d: ∀cb w',Sat (FL E cb b h s r W::Z) w'->K (some ⟨cb,0,none⟩) w'):F.Lz E (some ⟨b,0,none⟩) K w:=by
 unfold F.Lz;exact AJ (vs:=[.pointer (some ⟨b,0,none⟩)]) H λb1 e a _=>d b1 e (Sat.wJ.2 a)
def U0(H:Sat (FL E cb b h s r W::Z) w){K:Option Addr->World->Prop}(a:K (some ⟨b,0,none⟩) w):F.Dq E (some ⟨cb,0,none⟩) K w:=by
 unfold F.Dq;exact AH ⟨_,H.iI,a⟩
variable(hE:EnvC E)
include hE
theorem Zm(H:Sat (FL E cb b h s r W::Z) w)(hI:Ai W U M){id:Int}(T:W.L.length<1099511627776){K:Int->World->Prop}
  (e:W.S.sp id=none-> ∀w',Sat (FL E cb b h s r W::Z) w'->K 35 w')(m:W.S.sp id≠none->(∃x∈W.L,x.id=id)-> ∀w',Sat (FL E cb b h s r W::Z) w'->K 34 w')
  (u: ∀x,W.S.sp id=some x->(∀y∈W.L,y.id≠id)-> ∀EU,Ai {W with L:=G5 W.L ⟨EU,id,x.2.base,(x.2.cls,x.2.E3,x.2.used==x.2.AP,true)⟩} U M-> ∀w',
   Sat (FL E cb b h s r {W with L:=G5 W.L ⟨EU,id,x.2.base,(x.2.cls,x.2.E3,x.2.used==x.2.AP,true)⟩}::Z) w'->K 0 w'):F.CK E (some ⟨cb,0,none⟩) id K w:=by
 unfold F.CK T0.CK;exact AH ⟨_,H.iI,P9 hE.toEnvW H.Uy hI T (λv w' a=>e v w' a.Uz) (λv O w' a=>m v O w' a.Uz) λx O J EU d w' a=>u x O J EU d w' a.Uz⟩
end
section
variable{E:Env}{w:World}{Rs Z:List Pr}
end
structure EnvK(E:Env):Prop extends EnvC E where
 wK: ∀a b c (R:Value->World->Prop) w,F.EG E a b c (λe w'=>R (.int .i64 e) w') w->E.call E.Jx #[.pointer a,.pointer b,.pointer c] w R EW
structure KS where
 p:Int
 hd:Nat->Int
 qY:Int
 Vb:Int
def EE(cb:Nat)(C:KS):List Value:=.pointer (some ⟨cb,0,none⟩):: .int .i64 C.p::(((List.range 136).map λj=>.int .i64 (C.hd j))++[.int .u64 C.qY,.int .i64 C.Vb])
def Ee(E:Env)(c cb:Nat)(C:KS):Pr:=Cells c E.GZ (EE cb C)
def dU(cb:Nat)(C:KS):(EE cb C).length=140:=by simp[EE]
def ks_hd(cb:Nat)(C:KS){j:Nat}(a:j<136):(EE cb C)[j+2]? =some (.int .i64 (C.hd j)):=by
 unfold EE;rw[List.getElem?_cons_succ,List.getElem?_cons_succ,List.getElem?_append_left (by simpa using a)];simp[a]
def wL(cb:Nat)(C:KS):(EE cb C)[138]? =some (.int .u64 C.qY):=by
 unfold EE
 grind
def wM(cb:Nat)(C:KS):(EE cb C)[139]? =some (.int .i64 C.Vb):=by
 unfold EE
 grind
def qZ(f:Nat->Int)(n k:Nat)(v:Int):((List.range n).map λj=>Value.int .i64 (f j)).set k (.int .i64 v)=(List.range n).map λj=>Value.int .i64 (if j=k then v else f j):=by
 refine List.ext_getElem (by simp) λi h1 a=> ?_
 grind
def rA(cb:Nat)(C:KS){j:Nat}(a:j<136)(v:Int):(EE cb C).set (j+2) (.int .i64 v)=EE cb {C with hd:=λi=>if i=j then v else C.hd i}:=by
 unfold EE;rw[List.set_cons_succ,List.set_cons_succ,List.set_append_left _ _ (by simpa using a),qZ]
def dV(cb:Nat)(C:KS)(v:Int):(EE cb C).set 138 (.int .u64 v)=EE cb {C with qY:=v}:=by
 unfold EE;rw[show 138=136+1+1 from rfl,List.set_cons_succ,List.set_cons_succ,List.set_append_right _ _ (by simp)];simp
def dW(cb:Nat)(C:KS)(v:Int):(EE cb C).set 139 (.int .i64 v)=EE cb {C with Vb:=v}:=by
 unfold EE;rw[show 139=137+1+1 from rfl,List.set_cons_succ,List.set_cons_succ,List.set_append_right _ _ (by simp)];simp
def iJ(k:Int)(np:Bool):Nat:=k.toNat*2+if np=true then 1 else 0
def rC{k:Int}{np:Bool}(h0:0<=k)(h1:k<68):iJ k np<136:=by unfold iJ;grind
def KS.held(C:KS)(k:Int)(np:Bool):Int:=if 0<k/\k<68 then C.hd (iJ k np)else 0
def KS.hold(C:KS)(k:Int)(np:Bool)(id:Int):KS:={C with hd:=λi=>if i=iJ k np then id else C.hd i}
section
variable{E:Env}{w:World}{Z:List Pr}{c cb:Nat}{C:KS}
def yF(H:Sat (Ee E c cb C::Z) w):w.cell? (Addr.mk c 0 none)=some (.pointer (some ⟨cb,0,none⟩))/\w.cell? ((Addr.mk c 0 none).add 1)=some (.int .i64 C.p)/\w.cell? ((Addr.mk c 0 none).add 138)=some (.int .u64 C.qY)/\w.cell? ((Addr.mk c 0 none).add 139)=some (.int .i64 C.Vb):=
 have H:Sat (Cells c E.GZ (EE cb C)::Z) w:=H
 ⟨H.AU rfl,H.cell rfl,H.cell (by rw[Nat.zero_add];exact wL cb C),H.cell (by rw[Nat.zero_add];exact wM cb C)⟩
def dX(H:Sat Z w){p:Int}{K:Option Addr->World->Prop}(d: ∀c w',Sat (Ee E c cb ⟨p,λ_=>0,0,0⟩::Z) w'->K (some ⟨c,0,none⟩) w'):F.Ow E (some ⟨cb,0,none⟩) p K w:=by
 unfold F.Ow;exact AJ (vs:=EE cb ⟨p,λ_=>0,0,0⟩) H λc w' a _=>d c w' a
def rD{np:Bool}{K:Int->World->Prop}(a:K (if np=true then 1 else 0) w):F.LW E np K w:=by
 unfold F.LW;cases np
 .exact AO rfl a
 .exact Aa rfl a
def wO{k:Int}{K:Bool->World->Prop}(h1:0<k/\k<68->K true w)(h0: ¬(0<k/\k<68)->K false w):F.L1 E k K w:=by
 unfold F.L1;refine AG (λg=> ?_) λg=>h0 (by omega);by_cases e:k<68
 .rw[decide_eq_true e];exact h1 ⟨g,e⟩
 .rw[decide_eq_false e];exact h0 (by omega)
def OS(H:Sat (Ee E c cb C::Z) w){k:Int}{np:Bool}{K:Int->World->Prop}(a: ∀w',Sat (Ee E c cb C::Z) w'->K (C.held k np) w'):F.DE E (some ⟨c,0,none⟩) k np K w:=by
 unfold F.DE T0.DE;refine wO (λg=>AO rfl (AH ⟨by omega,rD ?_⟩)) λg=>Aa rfl ?_
 .have m:((0:Int)<=(if np=true then 1 else 0)/\((if np=true then 1 else 0:Int))<(2:Nat)):=by omega
  refine⟨m,C.hd (iJ k np),?_,?_⟩
  .have d:Sat (Cells c E.GZ (EE cb C)::Z) w.drew:=H.drew;rw[add_add,add_add];have e:2+(Int.toNat k*2+Int.toNat (if np=true then 1 else 0)*1)=iJ k np+2:=by unfold iJ;grind
   rw[e];exact d.cell (by rw[Nat.zero_add];exact ks_hd cb C (rC (by omega) g.2))
  .have:=a _ H.drew;unfold KS.held at this
   grind
 .have:=a _ H;unfold KS.held at this
  grind
def Sl(H:Sat (Ee E c cb C::Z) w){k id:Int}{np:Bool}(u:0<k/\k<68){K:World->Prop}(m: ∀w',Sat (Ee E c cb (C.hold k np id)::Z) w'->K w'):F.CE E (some ⟨c,0,none⟩) k np id K w:=by
 unfold F.CE T0.CE;have v:((0:Int)<=(if np=true then 1 else 0)/\((if np=true then 1 else 0:Int))<(2:Nat)):=by omega
 refine AH ⟨by omega,rD ⟨v,?_⟩⟩;have d:Sat (Cells c E.GZ (EE cb C)::Z) w.drew:=H.drew;rw[add_add,add_add];have e:2+(Int.toNat k*2+Int.toNat (if np=true then 1 else 0)*1)=iJ k np+2:=by unfold iJ;grind
 rw[e];refine Ah d (o:=0) rfl (by rw[dU];omega) λw' a=>m w' ?_;rw[Nat.zero_add,rA cb C (rC (by omega) u.2)]at a;exact a
end
def iK{W:SW}{U M:BA}(hI:Ai W U M):W.S.sp 0=none:=by
 refine Classical.byContradiction λg=> ?_;obtain⟨a,d,_⟩:=(hI.hI.sf 0).1 g;omega
def LD(C:KS){k:Int}{np:Bool}(h0:0<k)(h1:k<68)(id:Int):(C.hold k np id).held k np=id:=by
 unfold KS.held KS.hold;rw[if_pos ⟨h0,h1⟩];simp
def wP{k l:Int}{np mp:Bool}(h0:0<=k)(h1:0<=l)(h:iJ k np=iJ l mp):k=l/\np=mp:=by
 unfold iJ at h
 grind
def NB(C:KS){k l:Int}{np mp:Bool}(h0:0<k)(h: ¬(l=k/\mp=np))(id:Int):(C.hold k np id).held l mp=C.held l mp:=by
 unfold KS.held;by_cases g:0<l/\l<68
 .rw[if_pos g,if_pos g];unfold KS.hold;simp only;rw[if_neg];intro e;have:=wP (by omega) (by omega) e
  grind
 omega
section
variable{E:Env}{w:World}{Z:List Pr}{c cb b h s r:Nat}{C:KS}{W:SW}{U M:BA}
def Zn(hT: ∀w',Sat Z w'->DJ E.AB w')(H:Sat (Ee E c cb C::FL E cb b h s r W::Z) w)(hI:Ai W U M){k:Int}{np:Bool}{K:Int->Bool->World->Prop}
  (T:W.S.sp (C.held k np)=none-> ∀w',Sat (Ee E c cb C::FL E cb b h s r W::Z) w'->K 0 false w')
  (Y: ∀x,W.S.sp (C.held k np)=some x->(∀i:Nat,(i:Int)<x.2.AP->U (C.held k np) i=true)-> ∀w',Sat (Ee E c cb C::FL E cb b h s r W::Z) w'->K 0 false w')
  (aA: ∀x (n:Nat) a,W.S.sp (C.held k np)=some x->(n:Int)<x.2.AP->U (C.held k np) n=false->(∀i,i<n->U (C.held k np) i=true)->
   Ai {W with S:=W.S.put (C.held k np) (x.1,{x.2 with uw:=a,used:=x.2.used+1,look:=(n:Int)+1})} (U.set (C.held k np) λi=>U (C.held k np) i||i==n) M->
   ∀w',Sat (Ee E c cb C::FL E cb b h s r {W with S:=W.S.put (C.held k np) (x.1,{x.2 with uw:=a,used:=x.2.used+1,look:=(n:Int)+1})}::Z) w'->K (x.2.base+n*x.2.elem) true w'):
  F.Dr E (some ⟨c,0,none⟩) k np K w:=by
 unfold F.Dr T0.Dr;have O: ∀w',Sat (Cells cb E.A0 [.pointer (some ⟨b,0,none⟩)]::Ee E c cb C::Z) w'->DJ E.AB w':=λw' J=>hT w' J.tail.tail;refine AH ⟨_,(yF H).1,U0 (H.front 1 rfl) (Zf (H.front 1 rfl:Sat (FL E cb b h s r W::Ee E c cb C::Z) w).Uy ?_)⟩;refine OS H λw8 H8=> ?_;have H9:Sat (AQ E b h s r W::Cells cb E.A0 [.pointer (some ⟨b,0,none⟩)]::Ee E c cb C::Z) w8:=(H8.front 1 rfl:Sat (FL E cb b h s r W::Ee E c cb C::Z) w8).Uy;have bk: ∀{W':SW} {w'},Sat (AQ E b h s r W'::Cells cb E.A0 [.pointer (some ⟨b,0,none⟩)]::Ee E c cb C::Z) w'->Sat (Ee E c cb C::FL E cb b h s r W'::Z) w':=λJ=>(J.Uz).perm (.swap _ _ _);refine OR H9 (λm=>Aa rfl (T m w8 H8)) λx hx=>AO rfl ?_;refine Sk O H9 hI hx (λe w' H'=>Aa rfl (Y x hx e w' (bk H'))) λn a m hu hl d aJ u=>AO rfl ?_;refine Kq u d (id:=C.held k np) (x:=(x.1,{x.2 with uw:=a,used:=x.2.used+1,look:=(n:Int)+1})) HS.Fv (by omega) m λaC v=> ?_;exact aA x n a hx m hu hl d aC (bk v)
variable(hE:EnvK E)
include hE
def SC(W:SW)(C:KS)(k:Int)(np:Bool):Prop:=C.held k np=0∨(0<C.held k np/\ ∃y,W.S.sp (C.held k np)=some y/\ ∀x∈W.L,x.id≠C.held k np)
def PA(W:SW)(C:KS)(k:Int)(np:Bool)(a:SW):Prop:=(C.held k np=0/\a=W)∨(0<C.held k np/\ ∃y EU,W.S.sp (C.held k np)=some y/\(∀x∈W.L,x.id≠C.held k np)/\a={W with L:=G5 W.L ⟨EU,C.held k np,y.2.base,(y.2.cls,y.2.E3,y.2.used==y.2.AP,true)⟩})
theorem U1(H:Sat (Ee E c cb C::FL E cb b h s r W::Z) w)(hI:Ai W U M){k:Int}{np:Bool}(hk:0<k/\k<68)(hf:W.L.length<1099511627776)(hH:SC W C k np){K:World->Prop}
  (v: ∀d,PA W C k np d->Ai d U M-> ∀w',Sat (Ee E c cb (C.hold k np 0)::FL E cb b h s r d::Z) w'->K w'):F.BY E (some ⟨c,0,none⟩) k np K w:=by
 unfold F.BY T0.BY;refine OS H λT u=> ?_;rcases hH with h0|⟨hp,y,O,a⟩
 .rw[h0];refine AO rfl ?_;have e:C.hold k np 0=C:=by
   unfold KS.hold;have:(λi=>if i=iJ k np then 0 else C.hd i)=C.hd:=by
    funext i;split
    .rename_i e;have h1:=h0;unfold KS.held at h1
     grind
    .rfl
   rw[this]
  have:=v W (.inl ⟨h0,rfl⟩) hI T
  grind
 .refine Aa (by grind) (AH ⟨_,(yF u).1,?_⟩);refine Zm hE.toEnvC (u.front 1 rfl:Sat (FL E cb b h s r W::Ee E c cb C::Z) T) hI hf (λhn=>by grind) (λ_ ⟨z,hz,e⟩=>absurd e (a z hz)) λx J _ EU m w6 Y=> ?_;rw[O]at J;cases J;refine Sl (Y.front 1 rfl:Sat (Ee E c cb C::FL E cb b h s r _::Z) w6) hk λw7 H7=> ?_;exact v _ (.inr ⟨hp,y,EU,O,a,rfl⟩) m w7 H7
end
structure sV where
 m:Nat
 h:Nat
 s:Nat
 r:Nat
 b:Nat
 cb:Nat
 sk:Nat
 d:Nat
 mq:Nat
 cs:AW
 ca:Nat->Nat
def K4(A:sV)(dead:Bool)(ma cy:Int):List Value:=[.pointer (some ⟨A.h,0,none⟩),.pointer (some ⟨A.s,0,none⟩),.pointer (some ⟨A.r,0,none⟩),.pointer (some ⟨A.b,0,none⟩),FJ A.cs,.pointer (some ⟨A.sk,0,none⟩),.map (some A.d),.pointer (some ⟨A.mq,0,none⟩),.int .i64 100,.bool dead,.int .u64 ma,.int .u64 cy]
abbrev MK(E:Env)(A:sV)(dead:Bool)(ma cy:Int):Pr:=Cells A.m E.Cc (K4 A dead ma cy)
structure iL(W:SW)(U:BA)(id:Int)(n:Nat)(x:Nat×SI):Prop where
 sp:W.S.sp id=some x
 lt:(n:Int)<x.2.AP
 u:U id n=true
def rE(x:SI)(n:Nat)(a:Int):Prop:=x.base+n*x.elem<=a/\a<x.base+n*x.elem+x.elem
def rE.W9{x:SI}(m:P6 x){n:Nat}(J:(n:Int)<x.AP){a:Int}(h:rE x n a):x.base<=a/\a<x.base+x.AP*x.elem/\x.base+x.AP*x.elem<=x.base+x.AF*8192/\(a-x.base)/x.elem=n:=by
 have u:=m.size;have h1:(n:Int)*x.elem+x.elem<=x.AP*x.elem:=by
  have:=Int.mul_le_mul_of_nonneg_right (show(n:Int)+1<=x.AP by omega) (show 0<=x.elem by omega);rw[Int.add_mul]at this;omega
 have v:0<=(n:Int)*x.elem:=Int.mul_nonneg (by omega) (by omega);have d:=u.2.2.2.2;rw[Int.mul_comm]at d;obtain⟨g1,g2⟩:=h;refine⟨by omega,by omega,by omega,?_⟩;have e:a-x.base=(a-x.base-n*x.elem)+n*x.elem:=by omega
 rw[e,Int.add_mul_ediv_right _ _ (by omega),Int.ediv_eq_zero_of_lt (by omega) (by omega)];omega
def iL.own{W:SW}{U M:BA}{id:Int}{n:Nat}{x:Nat×SI}(h:iL W U id n x)(hI:Ai W U M){a:Int}(e:rE x.2 n a):W.S.own (a/8192)=id/\0<=a/\a<281474976710656:=by
 have d:=(hI.sp id x h.sp).1;obtain⟨h1,m,u,v⟩:=e.W9 d h.lt;have J:=d.ba;exact⟨Uw hI.hI h.sp (by omega) (by omega),by omega,by omega⟩
section
variable{E:Env}{w:World}{Z:List Pr}{b h s r:Nat}{W:SW}{U M:BA}
def Xg(H:Sat (AQ E b h s r W::Z) w)(hI:Ai W U M){id:Int}{x:Nat×SI}(v:W.S.sp id=some x){n:Nat}(hn:(n:Int)<x.2.AP){a:Int}(ha:rE x.2 n a){K:Int->Int->World->Prop}
  (hK: ∀w',Sat (AQ E b h s r W::Z) w'->K n 0 w'):F.C7 E (some ⟨x.1,0,none⟩) a K w:=by
 obtain⟨d,hg⟩:=hI.sp id x v;have hs:=d.size;have hb:=d.ba;obtain⟨h1,T,h3,Y⟩:=ha.W9 d hn;obtain⟨R,O,hz,e⟩:=H.Gf;obtain⟨R2,u,m⟩:=O.KZ v;refine PU u d.ZQ hs.1 (by omega) (by omega) (by omega) (by omega) (λg=>absurd ⟨h1,T⟩ g) λ_ _ w' J=> ?_;rw[Y];exact hK w' (e (m J))
def Sm(H:Sat (AQ E b h s r W::Z) w)(hI:Ai W U M){id:Int}{x:Nat×SI}(d:W.S.sp id=some x){n:Nat}(J:(n:Int)<x.2.AP){K:Bool->World->Prop}(m:K (U id n) w):F.Cx E (some ⟨x.1,0,none⟩) n K w:=by
 obtain⟨R,e,hz,u⟩:=H.Gf;obtain⟨O,a,v⟩:=e.KZ d;exact Sd a (hI.sp id x d).2 J m
variable{A:sV}{dead:Bool}{ma cy:Int}
def QB(H:Sat (MK E A dead ma cy::AQ E A.b A.h A.s A.r W::Z) w)(hI:Ai W U M){id:Int}{K:Option Addr->Bool->World->Prop}(a:W.S.sp id=none->K none false w)
  (d: ∀x,W.S.sp id=some x-> ∀w',Sat (MK E A dead ma cy::AQ E A.b A.h A.s A.r W::Z) w'->K (some ⟨x.1,0,none⟩) true w'):F.Bx E (some ⟨A.m,0,none⟩) id K w:=by
 unfold F.Bx T0.Bx;refine AH ⟨_,H.AU rfl,?_⟩;refine OR (H.front 1 rfl) (λv=>AZ (Aa rfl λ_=>Aa rfl (a v))) λx e=>AZ (AO rfl ?_);refine Kc (H.front 1 rfl) e λw' u j=>EO (λc=>absurd (hI.sp id x e).1.st c) λ_=>d x e w' (u.front 1 rfl)
def Sn(H:Sat (MK E A dead ma cy::AQ E A.b A.h A.s A.r W::Z) w)(hI:Ai W U M){id:Int}{n:Nat}{x:Nat×SI}(d:iL W U id n x){a:Int}(J:rE x.2 n a){K:Int->Int->Bool->World->Prop}
  (hK: ∀w',Sat (MK E A dead ma cy::AQ E A.b A.h A.s A.r W::Z) w'->K (x.2.base+n*x.2.elem) x.2.elem true w'):F.B7 E (some ⟨A.m,0,none⟩) a K w:=by
 unfold F.B7 T0.B7;obtain⟨ho,h0,h1⟩:=d.own hI J;have hs:=(hI.sp id x d.sp).1.size;refine AH ⟨_,H.AU rfl,lH (H.front 1 rfl) h0 (by omega) λw1 H1=> ?_⟩;rw[ho];refine QB (H1.front 1 rfl) hI (λO=>by rw[d.sp]at O;cases O) λy e w2 T=>AO rfl ?_;obtain rfl:y=x:=Option.some.inj (e.symm.trans d.sp);refine Xg (T.front 1 rfl) hI e d.lt J λw3 v=>AZ (AO rfl (Sm v hI e d.lt λj=>AO (by rw[d.u];rfl) ?_));refine Kq v hI e (by omega) d.lt λw4 Y=>Kc Y e λw5 H5=> ?_;rw[AR];exact hK w5 (H5.front 1 rfl)
def So(H:Sat (MK E A dead ma cy::AQ E A.b A.h A.s A.r W::Z) w)(hI:Ai W U M){id:Int}{n:Nat}{x:Nat×SI}(d:iL W U id n x){a:Int}(e:rE x.2 n a)(u:a %8=0){K:Int->World->Prop}
  (v: ∀w',Sat (MK E A dead ma cy::AQ E A.b A.h A.s A.r W::Z) w'->K 0 w'):F.B8 E (some ⟨A.m,0,none⟩) a K w:=by
 unfold F.B8 T0.B8;obtain⟨ho,h0,h1⟩:=d.own hI e;refine⟨by decide,EO (λc=>absurd (by rw[Int.tmod_eq_emod_of_nonneg h0];exact u) c) λ_=> ?_⟩;exact Sn H hI d e λw1 H1=>AO rfl (v w1 H1)
def iL.ready{id:Int}{n:Nat}{x:Nat×SI}(h:iL W U id n x)(hI:Ai W U M)(e:SZ W.S){a:Int}(d:rE x.2 n a):mem W.S.V.ready (a/8192):=by
 obtain⟨ho,h0,h1⟩:=h.own hI d;exact hI.hI.ready e (by rw[ho];exact(hI.hI.sp id x h.sp).1)
def Zo(hE:EnvS E)(H:Sat (AQ E b h s r W::Z) w){a:Int}(h0:0<=a)(h1:a<18446744073709551616)(J:a %8=0)(Y:mem W.S.V.ready (a/8192)){K:Int->Int->World->Prop}
  (O: ∀w',Sat (AQ E b h s r W::Z) w'->K (W.S.V.wd (a/8192) (a %8192/8)) 0 w'):F.Et E (some ⟨h,0,none⟩) (λr5 w6=>F.DX E r5 a K w6) w:=by
 obtain⟨R,u,hz,T⟩:=H.Gf;refine WC u λm R2 v d=>kG hE v h0 h1 λw' e=> ?_;unfold UY;rw[if_neg (λc=>c J),if_pos (Ig.2 Y)];exact O w' (T (S':=W.S) (d (V':=W.S.V) e))
def HS.U4(S:HS)(V:VS):HS:={S with V:=V}
def Xh(hE:EnvS E)(H:Sat (AQ E b h s r W::Z) w)(hI:Ai W U M){a v:Int}(h0:0<=a)(h1:a<18446744073709551616)(Y:a %8=0)(hr:mem W.S.V.ready (a/8192)){K:Int->World->Prop}
  (hK:Ai {W with S:=W.S.U4 (EC W.S.V a v)} U M-> ∀w',Sat (AQ E b h s r {W with S:=W.S.U4 (EC W.S.V a v)}::Z) w'->K 0 w'):F.Et E (some ⟨h,0,none⟩) (λr5 w6=>F.Cy E r5 a v K w6) w:=by
 obtain⟨R,O,hz,hb⟩:=H.Gf;refine WC O λm R2 T d=>cA hE T h0 h1 λw' J=> ?_;have e:La W.S.V a=0:=by unfold La;rw[if_neg (λc=>c Y),if_pos (Ig.2 hr)]
 rw[e];refine hK ?_ w' (hb (S':=W.S.U4 (EC W.S.V a v)) (d J));have u:(EC W.S.V a v).laid=W.S.V.laid/\(EC W.S.V a v).ready=W.S.V.ready:=by unfold EC;split<;>exact⟨rfl,rfl⟩
 exact⟨hI.hI.vP u.1 u.2,hI.sp,hI.it⟩
def Zp(hE:EnvS E)(H:Sat (MK E A dead ma cy::AQ E A.b A.h A.s A.r W::Z) w)(hI:Ai W U M)(O:SZ W.S){id:Int}{n:Nat}{x:Nat×SI}(d:iL W U id n x){a:Int}(e:rE x.2 n a)(u:a %8=0){K:Int->Int->World->Prop}
  (J: ∀w',Sat (MK E A dead ma cy::AQ E A.b A.h A.s A.r W::Z) w'->K (W.S.V.wd (a/8192) (a %8192/8)) 0 w'):F.Cf E (some ⟨A.m,0,none⟩) a K w:=by
 unfold F.Cf T0.Cf;obtain⟨ho,h0,h1⟩:=d.own hI e;refine So H hI d e u λw1 H1=>AO rfl (AH ⟨_,H1.AU rfl,?_⟩);exact Zo hE (H1.front 1 rfl) h0 (by omega) u (d.ready hI O e) λT v=>J T (v.front 1 rfl)
def Xi(hE:EnvS E)(H:Sat (MK E A dead ma cy::AQ E A.b A.h A.s A.r W::Z) w)(hI:Ai W U M)(Y:SZ W.S){id:Int}{n:Nat}{x:Nat×SI}(d:iL W U id n x){a v:Int}(e:rE x.2 n a)(u:a %8=0){K:Int->World->Prop}
  (T:Ai {W with S:=W.S.U4 (EC W.S.V a v)} U M-> ∀w',Sat (MK E A dead ma cy::AQ E A.b A.h A.s A.r {W with S:=W.S.U4 (EC W.S.V a v)}::Z) w'->K 0 w'):F.CJ E (some ⟨A.m,0,none⟩) a v K w:=by
 unfold F.CJ T0.CJ;obtain⟨ho,h0,h1⟩:=d.own hI e;refine So H hI d e u λw1 H1=>AO rfl (AH ⟨_,H1.AU rfl,?_⟩);exact Xh hE (H1.front 1 rfl) hI h0 (by omega) u (d.ready hI Y e) λO w2 J=>T O w2 (J.front 1 rfl)
end
structure IsC(n k:Int):Prop where
 k0:0<k
 k1:k<68
 le:n<=(Au k).1
 lt: ∀j,0<j->j<k->(Au j).1<n
def IsC.uniq{n k l:Int}(h:IsC n k)(g:IsC n l):k=l:=by
 rcases Int.lt_trichotomy k l with c|c|c
 .have:=g.lt k h.k0 c;have:=h.le;omega
 .exact c
 .have:=h.lt l g.k0 c;have:=g.le;omega
def rF:(List.range 67).all (λi=>decide ((Au (i:Nat)).1<(Au ((i+1:Nat):Int)).1))=true:=by decide+kernel
def rG{i j:Nat}(h:i<j)(a:j<68):(Au i).1<(Au j).1:=by
 induction j with
 | zero=>omega
 | succ j ih=>
  have h1:=of_decide_eq_true (List.all_eq_true.1 rF j (List.mem_range.2 (by omega)));rcases Nat.lt_or_ge i j with g|g
  .have:=ih g (by omega);omega
  .obtain rfl:i=j:=by omega
   exact h1
def cls67:(Au 67).1=32768:=by decide+kernel
def isC_ex{n:Int}(h:n<=32768): ∃k:Nat,IsC n k:=by
 have key: ∀m:Nat,m<=67->n<=(Au m).1-> ∃k:Nat,(k:Int)<=m/\n<=(Au k).1/\(0<m->0<k)/\ ∀j:Int,0<j->j<k->(Au j).1<n:=by
  intro m
  induction m with
  | zero=>intro _ h0;exact⟨0,by omega,h0,λc=>by omega,λj _ _=>by omega⟩
  | succ m ih=>
   intro hm h0;by_cases g:0<m/\n<=(Au (m:Nat)).1
   .obtain⟨k,h1,a,d,e⟩:=ih (by omega) g.2;exact⟨k,by omega,a,λ_=>d g.1,e⟩
   .refine⟨m+1,by omega,h0,λ_=>by omega,λj j0 j1=> ?_⟩;obtain⟨i,rfl⟩: ∃i:Nat,j=i:=⟨j.toNat,by omega⟩;have u:(Au (m:Nat)).1<n:=by omega
    rcases Nat.lt_or_ge i m with c|c
    .have:=rG c (by omega);omega
    .obtain rfl:i=m:=by omega
     exact u
 obtain⟨k,h1,a,d,e⟩:=key 67 (by omega) (by rw[show((67:Nat):Int)=67 from rfl,cls67];exact h);exact⟨k,by have:=d (by omega);omega,by omega,a,e⟩
section
variable{E:Env}{w:World}{Z:List Pr}(hS:EnvS E)
include hS
theorem RI(hO: ∀x p1 p2 K w,F.Gc E x p1 p2 K w->E.call E.Kw #[.int .i64 x,.pointer p1,.pointer p2] w (λr w'=> ∃b,r= .bool b/\K b w') EW)
  (H:Sat Z w){n k:Int}(h0:0<=n)(h1:n<=32768)(u:IsC n k){K:Int->Int->World->Prop}(hK: ∀w',Sat Z w'->K k 0 w'):F.Jf E n K w:=by
 unfold F.Jf T0.Jf;refine AJ (vs:=[.int .i64 n]) H λb1 w2 J _=> ?_;have aL:=u.k0;have aM:=u.k1;refine AZ ⟨_,J.AU rfl,AO (decide_eq_false (by omega)) ⟨_,J.AU rfl,λj=>AO (decide_eq_false (by omega)) (M4 J λs w3 H3=> ?_)⟩⟩;refine AJ (vs:=[.slice none 0 0]) H3 λb4 w4 H4 _=>BT H4 rfl (by decide) λw5 m=>⟨_,m.AU rfl,?_⟩;have hl:=(m.front 1 rfl:Sat (Row E.Cv 4 s (DI NU OK)::_) w5).JJ (by decide) BW;rw[K1]at hl;rw[show i64 (((s.len:Nat):Int)-1)=67 by rw[<-hl.1];decide];obtain⟨a,rfl⟩: ∃a:Nat,k=a:=⟨k.toNat,by omega⟩;refine L4 (λi=>decide (n<=(Au (i+1)).1)) (by decide) (by decide) (λi w' i0 i1 he K' T=> ?_) ((a:Int)-1) (by omega) (by omega) (λi i0 i1=>decide_eq_false ?_) (λi i0 i1=>decide_eq_true ?_) λw' he=> ?_
 .have H':=m.nothing he;refine hS.mono _ _ _ _ _ ?_ (hO i (some ⟨b4,0,none⟩) (some ⟨b1,0,none⟩) (λr e=>K' (.bool r) e) w' ?_)
  .rintro v e ⟨b,rfl,hb⟩;exact hb
  .unfold F.Gc;have O:=H'.drew;have Y:Sat (Row E.Cv 4 s (DI NU OK)::_) w'.drew:=O.front 1 rfl;obtain⟨x,hx⟩:=Y.L9 (by decide) BW (i:=(i+1).toNat) (by rw[K1];omega);refine AH ⟨s,O.AU rfl,?_⟩;show NC s.base _;rw[hx,AI (n:=i+1)];refine AH ⟨⟨by omega,by omega⟩,_,Y.Gk BW hx (Lb (c:=i+1) (by omega) (by omega)) (j:=0) rfl,?_⟩;exact AH ⟨_,(O.front 2 rfl:Sat (Cells b1 E.Ag [.int .i64 n]::_) w'.drew).AU rfl,T _ (he.trans' (Ext.drew _ _))⟩
 .exact Int.not_le.2 (u.lt (i+1) (by omega) (by omega))
 .obtain⟨d,rfl⟩: ∃d:Nat,i=d:=⟨i.toNat,by omega⟩;have:=u.le;rcases Nat.lt_or_ge a (d+1)with c|c
  .have:=rG c (by omega);rw[show((d+1:Nat):Int)=(d:Int)+1 from rfl]at this;omega
  .rw[show(d:Int)+1=a by omega];exact this
 .rw[show(1:Int)+((a:Int)-1)=a by omega,AI];exact hK w' (m.nothing he).tail.tail.tail
end
def Xj{t z bytes:Nat}{zs:Array Value}{s x:AW}{w:World}{K:AW->World->Prop}(d:x.len=0)(e:s.len<=s.cap)(m:K s w):APP t z bytes zs s x w K:=by
 obtain⟨b,l,c⟩:=s;obtain⟨b2,u,c2⟩:=x;have d:u=0:=d;have e:l<=c:=e;subst d;refine⟨[],?_,λ_=> ?_,λh=>absurd (show c<l+0 from h) (by omega)⟩
 .show rowAt w b2 (0*z) [];rw[Nat.zero_mul];unfold rowAt;cases b2 with
  | none=>rfl
  | some a=>exact⟨rfl,λj v h=>by cases h⟩
 .cases b<;>exact m
def rH{t:Nat}{v z:Value}{K:Value->Bool->Prop}(h:K v true):TAS (.iface t v) t z K:=by
 unfold TAS;show(match Nat.beq t t with|true=>K v true|false=>K z false);rw[Nat.beq_refl];exact h
def IW(E:Env)(q:Nat):Pr:=Ex λs:AW=>KR (s.len=0/\s.cap<9223372036854775808) (Cells q E.GY [FJ s])
section
variable{E:Env}{w:World}{Z:List Pr}{q:Nat}
def Sat.mask:Sat (IW E q::Z) w↔ ∃s:AW,(s.len=0/\s.cap<9223372036854775808)/\Sat (Cells q E.GY [FJ s]::Z) w:=by
 unfold IW;rw[Sat.ex];simp only[Sat.where]
def Xk(H:Sat Z w){K:Option Addr->World->Prop}(d: ∀q w',Sat (IW E q::Z) w'->K (some ⟨q,0,none⟩) w'):F.Ot E K w:=by
 unfold F.Ot;exact AJ (vs:=[.slice none 0 0]) H λq w' a _=>d q w' (Sat.mask.2 ⟨⟨none,0,0⟩,⟨rfl,by decide⟩,a⟩)
def U5(hS:EnvS E)(H:Sat (IW E q::Z) w){a n:Int}(h0:0<=a)(h8:a %8=0)(v:n %8=0)(hn:0<n)(aF:n<=1099511627776)(hb:a+n<=281474976710656){K:Int->World->Prop}
  (hK: ∀w',Sat (IW E q::Z) w'->K 0 w'):F.DN E (some ⟨q,0,none⟩) a n K w:=by
 unfold F.DN T0.DN F.L3 F.EM T0.EM F.Ft T0.Ft;rw[Int.tmod_eq_emod_of_nonneg h0,Int.tmod_eq_emod_of_nonneg (show 0<=n by omega),AR (n:=281474976710656-a)];refine⟨by decide,Cj (λ_=>⟨by decide,Cj (λ_=>EO (λ_=> ?_) λc=>by omega) λc=>absurd v c⟩) λc=>absurd h8 c⟩;refine Aa (decide_eq_true (by omega)) (Aa (decide_eq_true (by omega)) (AO (by rw[decide_eq_true (by omega)];rfl) ⟨by decide,by decide,?_⟩));obtain⟨s,O,H⟩:=Sat.mask.1 H;refine AJ (vs:=[.pointer (some ⟨q,0,none⟩)]) H λb1 w2 Y _=>AJ (vs:=[.int .u64 _]) Y λb3 T m _=> ?_;refine⟨_,(m.front 1 rfl:Sat (Cells b1 E.LQ [.pointer (some ⟨q,0,none⟩)]::_) T).AU rfl,AH ⟨s,(m.front 2 rfl:Sat (Cells q E.GY [FJ s]::_) T).AU rfl,?_⟩⟩
 try dsimp only
 rw[O.1];refine L4 (λ_=>true) (by decide) (by decide) (λi _ i0 i1=>by omega) 0 (by decide) (by decide) (λi i0 i1=>by omega) (λi _ _=>rfl) λw5 he=> ?_;have H5:Sat (Cells q E.GY [FJ s]::Z) w5:=(m.nothing he).tail.tail;refine Lw (t:=E.Cd) (n:=0) (z:=4) (vs:=[]) H5 rfl (by decide) λJ w6 u=> ?_;have d: ∀{X:List Pr} {w'},Sat (Cells q E.GY [FJ s]::X) w'->w'.cell? (Addr.mk q 0 none)=some (.slice s.base s.len s.cap):=λh=>h.AU rfl;refine AH ⟨s,d (u.front 1 rfl),⟨by omega,by omega⟩,Xj rfl (Nat.le_refl _) (AZ (AM (λst w'=>st=(0,⟨some ⟨J,0,none⟩,0,0⟩,⟨none,0,0⟩,())/\w'=w6) (λ_ _=>0) ⟨rfl,rfl⟩ ?_))⟩;rintro _ _ _ ⟨rfl,rfl⟩;refine AH ⟨s,d (u.front 1 rfl),AO (by rw[O.1];rfl) λj=>AZ (rH ?_)⟩;have go: ∀K:iX (.agg [])->Prop,K ()->unVT (.agg []) (.agg ⟨[]⟩) K:=λK h=>h;refine go _ ?_;refine AJ (vs:=[]) u λb7 w7 H7 _=>dQ (AO rfl λj2=> ?_);have e:=H7.drew;refine AH ⟨s,d (e.front 2 rfl),⟨by omega,by show(0:Int)<=(s.len:Nat);omega⟩,Xj rfl (Nat.le_refl _) ⟨d (e.front 2 rfl),Xj (by show s.len-0=0;omega) (Nat.le_refl _) ⟨d (e.front 2 rfl),AH (BT (e.front 2 rfl) rfl (by simp) λw8 H8=>hK w8 ?_)⟩⟩⟩;exact Sat.mask.2 ⟨⟨some ⟨J,0,none⟩,0,0⟩,⟨rfl,by show(0:Nat)<9223372036854775808;decide⟩,(H8.skip).skip⟩
end
def Whole(b t:Nat)(vs:List Value):Pr where
 holds D w:=(∀k,D k↔k=b)/\w.heap[b]? =some (.cells ⟨vs⟩ t)
 loc h he hS:=⟨h.1,he.obj h.2 (hS _ ((h.1 _).2 rfl))⟩
 lt h hk:=by have:=(h.1 _).1 hk;grind
section
variable{b t:Nat}{vs:List Value}{F:List Pr}{w:World}
def Sat.whole(H:Sat (Whole b t vs::F) w):Sat (Cells b t vs::F) w:=
 let⟨D,D1,D2,h1,h2,h3⟩:=H
 ⟨D,D1,D2,Ns h1.1 h1.2,h2,h3⟩
def Sat.wholeAt(H:Sat (Whole b t vs::F) w):w.heap[b]? =some (.cells ⟨vs⟩ t):=let⟨_,h⟩:=H.head;h.2
def Sat.wQ(H:Sat (Whole b t vs::F) w):okA w ⟨b,0,none⟩:=by
 have h:=H.wholeAt;refine⟨t,vs.length,?_,?_,?_⟩
 .simp[World.shape?,h]
 .simp[World.frozen?,h]
 .simp[World.frozen?,h]
def rJ(H:Sat F w){K:Nat->World->Prop}(a: ∀b w',Sat (Whole b t vs::F) w'->K b w'):AL (.cells ⟨vs⟩ t) w K:=
 A8 λw1 d m he=>a _ w1 (H.new (D:=λk=>k=w.heap.size) he ⟨λ_=>Iff.rfl,d⟩ λk e=>by rw[e];exact Nat.le_refl _)
def rK(H:Sat (Whole b t vs::F) w){m:Nat}{v:Value}(ho:v.oneCell'=true)(u:m<vs.length){K:World->Prop}(a: ∀w',Sat (Whole b t (vs.set m v)::F) w'->K w'):
  stCells ((Addr.mk b 0 none).add m) 0 [v] w K:=by
 obtain⟨D,h,J⟩:=H.step;rw[add_eq,Nat.zero_add];refine IF [v] b m 0 ⟨vs⟩ w _ h.2 (by simp;omega) (by simpa using ho) λw' he O d=>a w' ?_;refine J w' D _ (he.mono λi _ hi=>(h.1 i).2 hi) ⟨h.1,?_⟩ λk e=>.inl e;rw[d];have:vs.take m++v::vs.drop (m+1)=vs.set m v:=(List.set_eq_take_append_cons_drop ..).symm▸by rw[if_pos u]
 simp only[Nat.add_zero,List.length_singleton,List.append_assoc,List.singleton_append];rw[this]
end
abbrev pv(b:Nat):Value:=.pointer (some ⟨b,0,none⟩)
def PL{α:Type}(tp:Nat)(R:Nat->α->Pr)(s:AW)(L:List (Nat×α)):Pr:=S5 [Row tp 1 s (L.map λx=>pv x.1),Al (λx=>R x.1 x.2) L]
section
variable{α:Type}{tp:Nat}{R:Nat->α->Pr}{s:AW}{L:List (Nat×α)}{Z:List Pr}{w:World}
def Sat.pl:Sat (PL tp R s L::Z) w↔Sat (Row tp 1 s (L.map λx=>pv x.1)::Al (λx=>R x.1 x.2) L::Z) w:=Sat.star
def Sat.rL(H:Sat Z w)(tp:Nat)(R:Nat->α->Pr):Sat (PL tp R ⟨none,0,0⟩ []::Z) w:=Sat.pl.2 ((H.Mr _).nil tp 1)
def Sat.Jp(H:Sat (PL tp R s L::Z) w):L.length=s.len:=by
 have:=(Sat.pl.1 H).Bs;rw[List.length_map,Nat.mul_one]at this;exact this
def Sat.Ke(H:Sat (PL tp R s L::Z) w){i:Nat}{x:Nat×α}(e:L[i]? =some x): ∃a,s.base=some a/\w.cell? (a.add i)=some (pv x.1):=by
 have m:=H.Jp;obtain⟨b,d⟩:=(Sat.pl.1 H).own.Gj (by have:=(List.getElem?_eq_some_iff.1 e).1;omega);exact⟨_,d,(Sat.pl.1 H).own.cell d (by rw[List.getElem?_map,e];rfl)⟩
def Sat.wR(H:Sat (PL tp R s L::Z) w){i:Nat}{x:Nat×α}(a:L[i]? =some x): ∃Q,Sat (R x.1 x.2::Q) w/\(∀{w'},Sat Q w'->Sat Z w')/\ ∀{y w'},Sat (R x.1 y::Q) w'->Sat (PL tp R s (L.set i (x.1,y))::Z) w':=by
 have d:=(List.getElem?_eq_some_iff.1 a).1;have h1:=((Sat.pl.1 H).front 1 rfl).FO a;refine⟨_,h1,λh=>h.tail.tail,λ{y w'} h'=> ?_⟩;have m:=(Sat.Wq (R:=λx:Nat×α=>R x.1 x.2) (y:=(x.1,y)) h' d).perm (.swap _ _ _);refine Sat.pl.2 ?_;have e:(L.set i (x.1,y)).map (λx=>pv x.1)=L.map λx=>pv x.1:=by
  rw[List.map_set];refine List.ext_getElem? λj=> ?_;rw[List.getElem?_set];split
  .rename_i e;subst e;rw[List.getElem?_map,a];simp[d]
  .rfl
 rw[e];exact m
def U6{β:Type}{l:List β}{i:Nat}{x:β}(h:l[i]? =some x):l.set i x=l:=by
 refine List.ext_getElem? λj=> ?_;rw[List.getElem?_set]
 grind
def Sat.wS(H:Sat (PL tp R s L::Z) w){i:Nat}{x:Nat×α}(a:L[i]? =some x): ∃Q,Sat (R x.1 x.2::Q) w/\ ∀{w'},Sat (R x.1 x.2::Q) w'->Sat (PL tp R s L::Z) w':=by
 obtain⟨Q,h1,_,d⟩:=H.wR a;refine⟨Q,h1,λh=> ?_⟩;have:=d h;rwa[U6 a]at this
def dY{b b1:Nat}{y:α}{zs:Array Value}(H:Sat (Cells b1 tp [pv b]::R b y::PL tp R s L::Z) w)(hz:zs.size=1)(m:s.len<=1099511627776){K:AW->World->Prop}
  (e: ∀s' w',Sat (PL tp R s' (L++[(b,y)])::Z) w'->K s' w'):APP tp 1 8 zs s ⟨some (Addr.mk b1 0 none),1,1⟩ w K:=by
 have h1:Sat (Cells b1 tp [pv b]::Row tp 1 s (L.map λx=>pv x.1)::Al (λx:Nat×α=>R x.1 x.2) L::R b y::Z) w:=(Sat.pl.1 (H.front 2 rfl)).front 2 rfl;refine GJ h1 hz rfl (by intro v a;simp at a;subst a;rfl) (by omega) (by omega) λs' w' d _=>e s' w' ?_;refine Sat.pl.2 ?_;rw[List.map_append];exact((d.front 2 rfl).Bh 1 rfl|>.T6 (R:=λx:Nat×α=>R x.1 x.2) (x:=(b,y))).perm (.swap _ _ _)
end
def NV(t:Nat)(s:AW)(vs:List Value):Pr where
 holds D w:=(∀k,D k↔O5 s k)/\(vs.length=s.len/\s.len<=s.cap/\s.cap<9223372036854775808)/\((s.base=none/\s.cap=0)∨ ∃b o cs,s.base=some ⟨b,o,none⟩/\w.heap[b]? =some (.cells cs t)/\o+s.cap<=cs.size/\(cs.toList.drop o).take s.len=vs)
 loc h he hS:=⟨h.1,h.2.1,h.2.2.imp (λg=>g) λ⟨b,o,cs,g1,g2,g3⟩=>⟨b,o,cs,g1,he.obj g2 (hS _ ((h.1 _).2 ⟨_,g1,rfl⟩)),g3⟩⟩
 lt h hk:=by
  obtain⟨a,d,rfl⟩:=(h.1 _).1 hk;rcases h.2.2 with ⟨g,_⟩|⟨b,o,cs,g1,g2,_⟩
  .rw[g]at d;cases d
  .rw[g1]at d;cases d;have:=(Array.getElem?_eq_some_iff.1 g2).1;exact this
section
variable{t:Nat}{s:AW}{vs:List Value}{F:List Pr}{w:World}
def Sat.wT(H:Sat (NV t s vs::F) w):(vs.length=s.len/\s.len<=s.cap/\s.cap<9223372036854775808)/\((s.base=none/\s.cap=0)∨ ∃b o cs,s.base=some ⟨b,o,none⟩/\w.heap[b]? =some (.cells cs t)/\o+s.cap<=cs.size/\(cs.toList.drop o).take s.len=vs):=let⟨_,h⟩:=H.head;h.2
def Sat.wU(H:Sat F w)(t:Nat):Sat (NV t ⟨none,0,0⟩ []::F) w:=
 H.new (D:=λ_=>False) (Ext.refl _ _) ⟨λk=>⟨λf=>f.elim,λ⟨a,ha,_⟩=>by cases ha⟩,⟨rfl,Nat.le_refl _,by decide⟩,.inl ⟨rfl,rfl⟩⟩ λk f=>f.elim
def Sat.Zq(H:Sat (NV t s vs::F) w){j:Nat}{v:Value}(d:vs[j]? =some v): ∃a,s.base=some a/\w.cell? (a.add j)=some v:=by
 obtain⟨⟨h1,e,m⟩,h⟩:=H.wT;have u:=(List.getElem?_eq_some_iff.1 d).1;rcases h with ⟨g,g2⟩|⟨b,o,cs,g1,g2,g3,rfl⟩
 .omega
 .refine⟨_,g1,?_⟩;rw[add_eq,AS g2];rw[List.getElem?_take,if_pos (by omega),List.getElem?_drop]at d;simpa using d
def Sat.rM{v:Value}(H:Sat (NV t s (v::vs)::F) w):Sat (NV t ⟨KH s.base s.cap 1 1,s.len-1,s.cap-1⟩ vs::F) w:=by
 obtain⟨D,h,u⟩:=H.step;obtain⟨⟨h1,J,K⟩,a⟩:=h.2;rw[List.length_cons]at h1;refine u w D _ (Ext.refl _ _) ⟨λk=>(h.1 k).trans ?_,⟨by show vs.length=s.len-1;omega,by show s.len-1<=s.cap-1;omega,by show s.cap-1<_;omega⟩,?_⟩ λk d=>.inl d
 .exact(Wp (b:=s.base) (c:=s.cap) (m:=1) (z:=1)).symm
 .rcases a with ⟨g,g2⟩|⟨b,o,cs,g1,g2,g3,g4⟩
  .omega
  .refine .inr ?_;have e:((cs.toList.drop (o+1)).take (s.len-1))=vs:=by
    have:(cs.toList.drop o).take s.len=v::vs:=g4;rw[<-List.drop_drop,<-List.drop_take,this];rfl
   by_cases hc:s.cap=1
   .refine⟨b,o,cs,by unfold KH;rw[if_pos hc];exact g1,g2,by show o+(s.cap-1)<=_;omega,?_⟩;have:s.len-1=0:=by omega
    show(cs.toList.drop o).take (s.len-1)=vs;rw[this]at e⊢;simpa using e
   .exact⟨b,o+1,cs,by unfold KH;rw[if_neg hc,g1];rfl,g2,by show o+1+(s.cap-1)<=_;omega,e⟩
def rN{b1 bytes:Nat}{v:Value}{zs:Array Value}(H:Sat (Cells b1 t [v]::NV t s vs::F) w)(hz:zs.size=1)(ho:v.oneCell'=true)(hb:(s.len+1)*bytes<=140737488355328)(Y:s.len+1<=9223372036854775807){K:AW->World->Prop}
  (hK: ∀s' w',Sat (NV t s' (vs++[v])::F) w'->K s' w'):APP t 1 bytes zs s ⟨some (Addr.mk b1 0 none),1,1⟩ w K:=by
 have O: ∀x∈[v],x.oneCell'=true:=by intro x hx;simp at hx;rw[hx];exact ho
 obtain⟨D,h,hs⟩:=H.tail.step;obtain⟨⟨h1,h2,h3⟩,h4⟩:=h.2;refine⟨[v],⟨rfl,λj u hj=>H.cell (by rw[Nat.zero_add];exact hj)⟩,λd=> ?_,λaB=>⟨hb,Y,vs,?_,λcap m J=> ?_⟩⟩
 .rcases h4 with ⟨g,g2⟩|⟨b,o,cs,g1,g2,g3,g4⟩
  .exact absurd (show s.len+1<=s.cap from d) (by omega)
  .rw[g1];have d:s.len+1<=s.cap:=d;show stCells ((Addr.mk b o none).add (s.len*1)) 0 [v] w _;rw[add_eq,Nat.mul_one];refine IF [v] b (o+s.len) 0 cs w _ g2 (by simp;omega) O λw' he aM aA=>hK _ w' ?_;refine hs w' D _ (he.mono λi _ hi=>(h.1 i).2 ⟨_,g1,hi⟩) ⟨λk=>(h.1 k).trans (by show _↔ ∃a,some _=some a/\_;unfold O5;rw[g1]),⟨by simp[h1],d,h3⟩,.inr ⟨b,o,_,rfl,aA,?_,?_⟩⟩ λk hk=>.inl hk
   .simp;omega
   .show List.take (s.len+1) (List.drop o _)=_;simp only[Nat.add_zero,List.length_singleton];have hl:(cs.toList.take (o+s.len)).length=o+s.len:=by simp;omega
    rw[List.append_assoc,List.drop_append,hl,show o-(o+s.len)=0 by omega,List.drop_zero,List.drop_take,show o+s.len-o=s.len by omega,g4,List.take_append,h1,show s.len+1-s.len=1 by omega,List.take_of_length_le (by omega)];rfl
 .show rowAt w s.base (s.len*1) vs;rw[Nat.mul_one];rcases h4 with ⟨g,g2⟩|⟨b,o,cs,g1,g2,g3,g4⟩
  .rw[g];exact List.eq_nil_of_length_eq_zero (by omega)
  .rw[g1];refine⟨h1,λj u hj=> ?_⟩;obtain⟨a,T,hc⟩:=H.tail.Zq hj;rw[g1]at T;cases T;exact hc
 .have m:s.len+1<=cap:=m;refine hK _ _ (hs _ (λk=>k=w.heap.size) _ (((Ext.drew AN w).trans' (Ext.alloc AN w.drew _)).mono λi _ f=>False.elim f) ⟨λk=>⟨λe=>⟨_,rfl,e⟩,λ⟨a,T,e⟩=>by cases T;exact e⟩,⟨by simp[h1],m,J⟩,.inr ⟨w.heap.size,0,_,rfl,heap_alloc_new w.drew _,?_,?_⟩⟩ λk hk=>.inr (by rw[hk];exact Nat.le_refl _))
  .simp only[Array.size_append,List.size_toArray,Builtin.zeroCells,Array.size_map,Array.size_range,h1,hz,List.length_singleton];show 0+cap<=s.len+1+(cap-(s.len+1))*1;omega
  .show List.take (s.len+1) _=_;simp only[Array.toList_append,List.drop_zero];rw[List.take_append_of_le_length (by simp[h1]),List.take_of_length_le (by simp[h1])]
end
structure Tk where
 n:Int
 ask:Int
 step:Int
 tr:Int
 cls:Int
 np:Bool
 ti:Bool
 pg:Int
 sw:Int
structure Ak where
 op:Int
 p:Int
 n:Int
 set:AW
 ad:Int
 nn:Int
 co:Int
 done:Bool
def MC(t:Tk):List Value:=[.int .i64 t.n,.int .i64 t.ask,.int .i64 t.step,.int .i64 t.tr,.int .i64 t.cls,.bool t.np,.bool t.ti,.int .u64 t.pg,.int .u64 t.sw]
def ND(a:Ak):List Value:=[.int .i64 a.op,.int .i64 a.p,.int .u64 a.n,.int .u64 0,.int .i64 0,.int .u64 0,.bool false,.int .i64 0,.slice none 0 0,FJ a.set,.int .u64 a.ad,.int .u64 a.nn,.int .i64 a.co,.bool a.done]
structure NW where
 a:sV
 pa:Option Addr
 sm:Nat
 ts:AW
 qs:AW
 ks:AW
 os:AW
structure Cr where
 T:List (Nat×Tk)
 Q:List (AW×List Int)
 L:List (Nat×Ak)
 ord:List Int
 ho:Int
 wo:Int
 W:SW
 C:List (Nat×KS)
 ma:Int
 cy:Int
def Ih(g:NW)(ho wo:Int):List Value:=[pv g.a.m,.pointer g.pa,FJ g.ts,FJ g.qs,FJ g.ks,FJ g.os,.int .i64 ho,.int .i64 wo,.bool false,.bool false,.map (some g.sm)]
def QL(E:Env)(s:AW)(Q:List (AW×List Int)):Pr:=S5 [Row E.Jc 1 s (Q.map λx=>FJ x.1),Al (λx:AW×List Int=>NV E.Ag x.1 (ints .i64 x.2)) Q]
def Im(E:Env):List (Int×Nat):=[(1,E.Ep),(2,E.GD),(4,E.Gr),(6,E.Gs),(7,E.Fs),(10,E.II),(11,E.Iy),(12,E.IJ),(13,E.IK),(14,E.Hb),(16,E.IL)]
def WR(E:Env)(q:Nat):Pr:=Ex λg:Int->Option Value=>KR (∀p∈Im E,g p.1=some (.func (.func p.2) #[] #[])) (CH q .i64 g)
abbrev TkL(E:Env):=PL (α:=Tk) E.CI λb t=>Whole b E.LN (MC t)
abbrev AkL(E:Env):=PL (α:=Ak) E.LO λb a=>Cells b E.MY (ND a)
abbrev aF(E:Env)(cb:Nat):=PL (α:=KS) E.Gn λc C=>Ee E c cb C
def AA(E:Env)(rb:Nat)(g:NW)(S:Cr):List Pr:=[Cells rb E.EY (Ih g S.ho S.wo),TkL E g.ts S.T,QL E g.qs S.Q,AkL E g.ks S.L,Row E.Ag 1 g.os (ints .i64 S.ord),WR E g.sm,
 MK E g.a false S.ma S.cy,aF E g.a.cb g.a.cs S.C,Ex λe=>CH g.a.d .i64 e,IW E g.a.mq,Cells g.a.cb E.A0 [pv g.a.b],AQ E g.a.b g.a.h g.a.s g.a.r S.W]
structure FM(S:Cr):Prop where
 tn:S.T.length=S.Q.length+2
 ti: ∀(i:Nat) x,S.T[i]? =some x->x.2.n=(i:Int)
 qa: ∀(i:Nat) x,S.Q[i]? =some x-> ∀a∈x.2,0<=a/\a<S.L.length
 NN:S.T.length<1000000/\S.L.length<1000000
def Gl(op:Int):Int:=if op=1 then 1 else if op=4∨op=5 then 9 else if op=7 then 10 else if op=6 then 12 else 6
def lI(S:Cr)(a:Int):Int:=match S.L[a.toNat]? with
 | some y=>y.2.op
 | none=>0
def U7(S:Cr)(b:Nat)(x:Nat×Tk):Bool:= !(x.1==b)&&(x.2.step !=0||(decide (0<x.2.tr)||S.ho==x.2.n))
def ML(S:Cr)(b:Nat)(st:Int):Bool:=if st=6 then S.ho != -1 else if st=13 then S.T.any (U7 S b)else false
def sW(S:Cr)(i:Nat)(x:Nat×Tk):Bool:=if x.2.step≠0 then !ML S x.1 x.2.step else if S.wo≠ -1 then false else match S.Q[i]? with
 | some (_,a::_)=> !ML S x.1 (Gl (lI S a))
 | _=>false
def lU(S:Cr)(i:Nat):Bool:=match S.T[i]? with
 | some x=>sW S i x
 | none=>false
def TT(S:Cr):List Nat:=(List.range S.T.length).filter (lU S)
section
variable{E:Env}{rb:Nat}{g:NW}{S:Cr}{Z:List Pr}{w:World}
def Kf{A:sV}{ma cy:Int}(H:Sat (MK E A false ma cy::Z) w){K:Bool->World->Prop}(a:K false w):F.A4 E (some ⟨A.m,0,none⟩) K w:=by
 unfold F.A4;exact AH ⟨_,H.cell rfl,a⟩
def U8{op:Int}{K:Int->World->Prop}(a:K (Gl op) w):F.Ho E op K w:=by
 unfold F.Ho;unfold Gl at a;refine Cj (λe=>by rw[if_pos e]at a;exact a) λe=> ?_;rw[if_neg e]at a;refine AZ (Cj (λd j=>Aa (by rw[d];rfl) (by rw[if_pos (.inl d)]at a;exact a)) λd j=>Cj (λm=>by rw[if_pos (.inr m)]at a;exact a) λm=> ?_);rw[if_neg (by omega)]at a;refine Cj (λe=>by rw[if_pos e]at a;exact a) λe=> ?_;rw[if_neg e]at a;refine Cj (λe=>by rw[if_pos e]at a;exact a) λe=> ?_;rw[if_neg e]at a;exact a
def Sat.plOk{α:Type}{tp:Nat}{s:AW}{L:List (Nat×α)}{t:Nat}{cells:α->List Value}(H:Sat (PL tp (λb y=>Whole b t (cells y)) s L::Z) w){i:Nat}{x:Nat×α}(a:L[i]? =some x):Go.Sh.okA w ⟨x.1,0,none⟩:=by
 obtain⟨Q,h,_⟩:=H.wR a;exact h.wQ
def Sat.plNe{α:Type}{tp:Nat}{s:AW}{L:List (Nat×α)}{t:Nat}{cells:α->List Value}(H:Sat (PL tp (λb y=>Whole b t (cells y)) s L::Z) w){i j:Nat}{x y:Nat×α}(O:L[i]? =some x)(a:L[j]? =some y)(v:i≠j):x.1≠y.1:=by
 intro e;have h1:=((Sat.pl.1 H).front 1 rfl).FO O;have J: ∃k:Nat,(L.eraseIdx i)[k]? =some y:=by
  rcases Nat.lt_or_ge j i with c|c
  .exact⟨j,by rw[List.getElem?_eraseIdx,if_pos c];exact a⟩
  .exact⟨j-1,by rw[List.getElem?_eraseIdx,if_neg (by omega),show j-1+1=j by omega];exact a⟩
 obtain⟨k,K⟩:=J;obtain⟨D,T,Y,m,⟨D3,D4,u,_,_,d⟩,hd,_⟩:=((h1.front 1 rfl).FO K).front 2 rfl;exact hd x.1 ((m.1 _).2 rfl) ((d _).2 (.inl ((u.1 _).2 e)))
def rO{a b:Nat}{K:Bool->Prop}(h:a=b∨(okA w ⟨a,0,none⟩/\okA w ⟨b,0,none⟩))(d:K (a==b)):mF (some ⟨a,0,none⟩) (some ⟨b,0,none⟩) w K:=by
 refine⟨h,?_⟩;have:peqB (some ⟨a,0,none⟩) (some ⟨b,0,none⟩)=(a==b):=by
  show((⟨a,0,none⟩:Addr)==⟨b,0,none⟩)=(a==b);by_cases e:a=b
  .subst e;simp
  .have:(⟨a,0,none⟩:Addr)≠⟨b,0,none⟩:=λc=>e (congrArg Addr.block c);rw[beq_eq_false_iff_ne.2 this,beq_eq_false_iff_ne.2 e]
 rw[this];exact d
end
section
variable{E:Env}{rb:Nat}{g:NW}{S:Cr}{Z:List Pr}{w:World}
def Xl(H:Sat (AA E rb g S++Z) w):Sat (TkL E g.ts S.T::(AA E rb g S++Z).eraseIdx 1) w:=H.front 1 rfl
def K6(H:Sat (AA E rb g S++Z) w){i:Nat}{x:Nat×Tk}(d:S.T[i]? =some x){k:Nat}{v:Value}(a:(MC x.2)[k]? =some v):w.cell? ((Addr.mk x.1 0 none).add k)=some v:=by
 obtain⟨Q,h,_⟩:=(Xl H).wS d;exact h.whole.cell (by rw[Nat.zero_add];exact a)
def Ll(H:Sat (AA E rb g S++Z) w){i:Nat}{x:Nat×Tk}(a:S.T[i]? =some x):w.cell? (Addr.mk x.1 0 none)=some (.int .i64 x.2.n):=by
 obtain⟨Q,h,_⟩:=(Xl H).wS a;exact h.whole.AU rfl
def MM(H:Sat (AA E rb g S++Z) w){k:Nat}{v:Value}(a:(Ih g S.ho S.wo)[k]? =some v):w.cell? ((Addr.mk rb 0 none).add k)=some v:=
 Sat.cell (F:=(AA E rb g S++Z).eraseIdx 0) H (by rw[Nat.zero_add];exact a)
def G7(H:Sat (AA E rb g S++Z) w):w.cell? (Addr.mk rb 0 none)=some (pv g.a.m):=
 Sat.AU (F:=(AA E rb g S++Z).eraseIdx 0) H rfl
def VN(H:Sat (AA E rb g S++Z) w){k:Nat}{v:Value}(d:(K4 g.a false S.ma S.cy)[k]? =some v):w.cell? ((Addr.mk g.a.m 0 none).add k)=some v:=
 Sat.cell (F:=(AA E rb g S++Z).eraseIdx 6) (H.front 6 rfl) (by rw[Nat.zero_add];exact d)
def U9(H:Sat (AA E rb g S++Z) w){i j:Nat}{x y:Nat×Tk}(d:S.T[i]? =some x)(e:S.T[j]? =some y){K:Bool->Prop}(a:K (x.1==y.1)):mF (some ⟨x.1,0,none⟩) (some ⟨y.1,0,none⟩) w K:=
 rO (.inr ⟨(Xl H).plOk d,(Xl H).plOk e⟩) a
def lJ(H:Sat (AA E rb g S++Z) w){i j:Nat}{x y:Nat×Tk}(a:S.T[i]? =some x)(d:S.T[j]? =some y)(h:i≠j):(x.1==y.1)=false:=beq_eq_false_iff_ne.2 ((Xl H).plNe a d h)
def RJ(H:Sat (AA E rb g S++Z) w)(hI:FM S){i:Nat}{x:Nat×Tk}(hx:S.T[i]? =some x){st:Int}{K:Bool->World->Prop}(v: ∀w',Sat (AA E rb g S++Z) w'->K (ML S x.1 st) w'):
  F.KL E (some ⟨rb,0,none⟩) (some ⟨x.1,0,none⟩) st K w:=by
 unfold F.KL;unfold ML at v;refine Cj (λe=> ?_) λe=> ?_
 .rw[if_pos e]at v;exact AH ⟨_,MM H (k:=6) rfl,v w H⟩
 rw[if_neg e]at v;refine Cj (λe=> ?_) λe=>by rw[if_neg e]at v;exact v w H
 rw[if_pos e]at v;have hl:=(Xl H).Jp;refine AH ⟨_,MM H (k:=2) rfl,AM (λst w'=> ∃k:Nat,st.1=(k:Int)/\(∀j y,S.T[j]? =some y->j<k->U7 S x.1 y=false)/\k<=S.T.length/\Sat (AA E rb g S++Z) w') (λst _=>((S.T.length:Int)-st.1).toNat) ⟨0,rfl,λ_ _ _ c=>by omega,Nat.zero_le _,H⟩ ?_⟩;rintro⟨k',u⟩ _ w2 ⟨k,hk,hb,aI,H2⟩;dsimp only at hk⊢;subst hk;refine AG (λaJ=> ?_) λaH=> ?_
 .have Y:k<S.T.length:=by omega
  obtain⟨y,J⟩: ∃y,S.T[k]? =some y:=⟨_,List.getElem?_eq_getElem Y⟩;obtain⟨a,ha,hc⟩:=(Xl H2).Ke J;have O:=H2.drew;have m:U7 S x.1 y=true->K true w2.drew:=λc=>by
   have:=v _ O;rwa[List.any_eq_true.2 ⟨y,List.mem_of_getElem? J,c⟩]at this
  have nx:U7 S x.1 y=false->(∃k1:Nat,i64 ((k:Int)+1)=(k1:Int)/\(∀j y,S.T[j]? =some y->j<k1->U7 S x.1 y=false)/\k1<=S.T.length/\Sat (AA E rb g S++Z) w2.drew)/\((S.T.length:Int)-i64 ((k:Int)+1)).toNat<((S.T.length:Int)-(k:Int)).toNat:=λc=>by
   have hf:=hI.NN;rw[AI];refine⟨⟨k+1,rfl,λj z hz hj=> ?_,by omega,O⟩,by omega⟩;rcases Nat.lt_or_ge j k with d|d
   .exact hb j z hz d
   .obtain rfl:j=k:=by omega
    obtain rfl:z=y:=Option.some.inj (hz.symm.trans J);exact c
  rw[ha];refine AH ⟨⟨by omega,by omega⟩,_,by rw[Int.toNat_natCast,Nat.mul_one];exact hc,AZ (U9 O J hx ?_)⟩;unfold U7 at m nx;cases e1:(y.1==x.1)with
  | true=>exact AO rfl λj=>AO rfl (nx (by rw[e1];rfl))
  | false=>
   rw[e1]at m nx;refine Aa rfl (AH ⟨_,K6 O J (k:=2) rfl,EO (λc j=>Aa rfl (m (by simp[c]))) λc=>AH ⟨_,K6 O J (k:=3) rfl,AG (λc2 j=>Aa rfl (m (by simp[c2]))) λc2=>AH ⟨_,MM O (k:=6) rfl,AH ⟨_,Ll O J,λj=>AY (λc3=>m ?_) λc3=>nx ?_⟩⟩⟩⟩)
   .simp only[Bool.not_false,Bool.true_and];rw[show(S.ho==y.2.n)=true from c3];simp
   .simp only[Bool.not_false,Bool.true_and];rw[show(S.ho==y.2.n)=false from c3];simp[c];omega
 .have:=v w2 H2;rwa[List.any_eq_false.2 λy J=>by
   obtain⟨j,hj⟩:=List.mem_iff_getElem?.1 J;rw[hb j y hj (by have:=(List.getElem?_eq_some_iff.1 hj).1;omega)];decide]at this
def QC(H:Sat (AA E rb g S++Z) w):S.Q.length=g.qs.len:=by
 have h:Sat (Row E.Jc 1 g.qs (S.Q.map λx=>FJ x.1)::_) w:=Sat.star.1 (H.front 2 rfl:Sat (QL E g.qs S.Q::_) w);have:=h.Bs;rw[List.length_map,Nat.mul_one]at this;exact this
def Xm(H:Sat (AA E rb g S++Z) w){i:Nat}{x:AW×List Int}(e:S.Q[i]? =some x): ∃a,g.qs.base=some a/\w.cell? (a.add i)=some (FJ x.1):=by
 have h:Sat (Row E.Jc 1 g.qs (S.Q.map λx=>FJ x.1)::_) w:=Sat.star.1 (H.front 2 rfl:Sat (QL E g.qs S.Q::_) w);obtain⟨b,d⟩:=h.own.Gj (by have:=QC H;have:=(List.getElem?_eq_some_iff.1 e).1;omega);exact⟨_,d,h.own.cell d (by rw[List.getElem?_map,e];rfl)⟩
def yG(H:Sat (AA E rb g S++Z) w){i:Nat}{x:AW×List Int}(a:S.Q[i]? =some x): ∃R,Sat (NV E.Ag x.1 (ints .i64 x.2)::R) w:=by
 have h:=(Sat.star.1 (H.front 2 rfl:Sat (QL E g.qs S.Q::_) w)).front 1 rfl;exact⟨_,Sat.FO (R:=λx:AW×List Int=>NV E.Ag x.1 (ints .i64 x.2)) h a⟩
def Xn(H:Sat (AA E rb g S++Z) w){i:Nat}{s:AW}{a:Int}{l:List Int}(e:S.Q[i]? =some (s,a::l)):s.len=l.length+1/\ ∃p,s.base=some p/\w.cell? (p.add 0)=some (.int .i64 a):=by
 obtain⟨R,h⟩:=yG H e;have h1:=h.wT.1.1;rw[ints,List.length_map]at h1;obtain⟨p,hp,d⟩:=h.Zq (j:=0) rfl;exact⟨h1.symm,p,hp,d⟩
def rnQnil(H:Sat (AA E rb g S++Z) w){i:Nat}{s:AW}(a:S.Q[i]? =some (s,[])):s.len=0:=by
 obtain⟨R,h⟩:=yG H a;exact h.wT.1.1.symm
def Jq(H:Sat (AA E rb g S++Z) w){x:Nat×Tk}(e:S.T[S.Q.length]? =some x){K:Option Addr->World->Prop}(m: ∀w',Sat (AA E rb g S++Z) w'->K (some ⟨x.1,0,none⟩) w'):F.FA E (some ⟨rb,0,none⟩) K w:=by
 unfold F.FA;have d:=H.drew;have Y:=(Xl H).Jp;have O:=QC H;have J:=(List.getElem?_eq_some_iff.1 e).1;obtain⟨a,u,v⟩:=(Xl d).Ke e;refine AH ⟨_,MM d (k:=2) rfl,AH ⟨_,MM d (k:=3) rfl,?_⟩⟩
 try dsimp only
 rw[u,<-O];exact AH ⟨⟨by omega,by omega⟩,_,by rw[Int.toNat_natCast,Nat.mul_one];exact v,m _ d⟩
def Sp(H:Sat (AA E rb g S++Z) w)(hI:FM S){x:Nat×Tk}(e:S.T[S.Q.length+1]? =some x){K:Option Addr->World->Prop}(m: ∀w',Sat (AA E rb g S++Z) w'->K (some ⟨x.1,0,none⟩) w'):F.GN E (some ⟨rb,0,none⟩) K w:=by
 unfold F.GN;have d:=H.drew;have hl:=(Xl H).Jp;have O:=QC H;have Y:=hI.NN;have J:=(List.getElem?_eq_some_iff.1 e).1;obtain⟨a,u,v⟩:=(Xl d).Ke e;refine AH ⟨_,MM d (k:=2) rfl,AH ⟨_,MM d (k:=3) rfl,?_⟩⟩
 try dsimp only
 rw[u,<-O,AI];exact AH ⟨⟨by omega,by omega⟩,_,by rw[show Int.toNat ((S.Q.length:Int)+1)=S.Q.length+1 by omega,Nat.mul_one];exact v,m _ d⟩
end
def E5{b:Option Addr}{a:Addr}{K:Addr->Prop}(h:b=some a)(d:K a):NC b K:=by subst h;exact AH d
section
variable{E:Env}{rb:Nat}{g:NW}{S:Cr}{Z:List Pr}{w:World}
def dZ(H:Sat (AA E rb g S++Z) w):Sat (AkL E g.ks S.L::(AA E rb g S++Z).eraseIdx 3) w:=H.front 3 rfl
def QD(H:Sat (AA E rb g S++Z) w){i:Nat}{x:Nat×Ak}(d:S.L[i]? =some x){k:Nat}{v:Value}(a:(ND x.2)[k]? =some v):w.cell? ((Addr.mk x.1 0 none).add k)=some v:=by
 obtain⟨Q,h,_⟩:=(dZ H).wS d;exact h.cell (by rw[Nat.zero_add];exact a)
def rnAk0(H:Sat (AA E rb g S++Z) w){i:Nat}{x:Nat×Ak}(a:S.L[i]? =some x):w.cell? (Addr.mk x.1 0 none)=some (.int .i64 x.2.op):=by
 obtain⟨Q,h,_⟩:=(dZ H).wS a;exact h.AU rfl
def Xo(H:Sat (AA E rb g S++Z) w){K:Int->Bool->World->Prop}(e: ∀a b w',Sat (AA E rb g S++Z) w'->K a b w'):F.GF E (some ⟨g.a.s,0,none⟩) K w:=by
 obtain⟨R,h1,u,m⟩:=(H.front 11 rfl:Sat (AQ E g.a.b g.a.h g.a.s g.a.r S.W::_) w).P7;have bk: ∀{w'},Sat (GB E g.a.s S.W.L::R) w'->Sat (AA E rb g S++Z) w':=λh=>Sat.back (Ps:=AA E rb g S++Z) 11 (m (L':=S.W.L) h) (by simp[AA]);exact RG h1 (λ_ w' d=>e _ _ _ (bk d)) λx _ w' d=>e _ _ _ (bk d)
def VA(H:Sat (AA E rb g S++Z) w)(hI:FM S){i:Nat}{x:Nat×Tk}(J:S.T[i]? =some x){K:Bool->World->Prop}(u: ∀w',Sat (AA E rb g S++Z) w'->K (sW S i x) w'):
  F.EJ E (some ⟨rb,0,none⟩) (some ⟨x.1,0,none⟩) K w:=by
 unfold F.EJ T0.EJ;unfold sW at u;have hf:=hI.NN;have hn:=hI.tn;have aN:=(List.getElem?_eq_some_iff.1 J).1;refine AH ⟨_,K6 H J (k:=2) rfl,EO (λc=>AH ⟨_,K6 H J (k:=2) rfl,RJ H hI J λw1 H1=> ?_⟩) λc=> ?_⟩
 .rw[if_pos c]at u;exact u w1 H1
 rw[if_neg (λd=>d c)]at u;refine AH ⟨_,MM H (k:=7) rfl,EO (λc=>by rw[if_pos c]at u;exact u w H) λc=> ?_⟩;rw[if_neg (λd=>d c)]at u;obtain⟨y,hy⟩: ∃y,S.T[S.Q.length]? =some y:=⟨_,List.getElem?_eq_getElem (by omega)⟩;obtain⟨z,hz⟩: ∃z,S.T[S.Q.length+1]? =some z:=⟨_,List.getElem?_eq_getElem (by omega)⟩;refine Jq H hy λw1 H1=>U9 H1 J hy ?_;by_cases e1:i=S.Q.length
 .subst e1;obtain rfl:x=y:=Option.some.inj (J.symm.trans hy);rw[List.getElem?_eq_none (Nat.le_refl _)]at u;refine Aa (by simp) (AH ⟨_,G7 H1,AH ⟨_,VN H1 (k:=1) rfl,Xo H1 λa b w2 O=>AH ⟨⟨by decide,by decide⟩,_,by rw[add_add];exact MM O (k:=8) rfl,AO rfl (u w2 O)⟩⟩⟩)
 refine AO (lJ H1 J hy e1) (Sp H1 hI hz λw2 O=>U9 O J hz ?_);by_cases e2:i=S.Q.length+1
 .subst e2;obtain rfl:x=z:=Option.some.inj (J.symm.trans hz);rw[List.getElem?_eq_none (Nat.le_succ _)]at u;exact Aa (by simp) (AH ⟨⟨by decide,by decide⟩,_,by rw[add_add];exact MM O (k:=9) rfl,AO rfl (u w2 O)⟩)
 have hq:i<S.Q.length:=by omega
 obtain⟨q,v⟩: ∃q,S.Q[i]? =some q:=⟨_,List.getElem?_eq_getElem hq⟩;rw[v]at u;have e:=O.drew;have aP:=QC e;obtain⟨a,ha,hc⟩:=Xm e v;have aE:=hI.ti i x J;refine AO (lJ O J hz e2) (AH ⟨_,MM e (k:=3) rfl,AH ⟨_,Ll e J,?_⟩⟩);rw[ha,aE];refine AH ⟨⟨by omega,by omega⟩,q.1,by rw[Int.toNat_natCast,Nat.mul_one];exact hc,?_⟩;obtain⟨s,l⟩:=q;cases l with
 | nil=>
  have:=rnQnil e v;exact AO (by show decide (((s.len:Nat):Int)>0)=false;rw[this];rfl) (u _ e.drew)
 | cons n l=>
  obtain⟨aQ,p,hp,aK⟩:=Xn e.drew v;obtain⟨n0,n1⟩:=hI.qa i _ v n (List.mem_cons_self ..);obtain⟨m,rfl⟩: ∃m:Nat,n=m:=⟨n.toNat,by omega⟩;obtain⟨k,hk⟩: ∃k,S.L[m]? =some k:=⟨_,List.getElem?_eq_getElem (by omega)⟩;have aM:=(dZ H).Jp;obtain⟨b,hb,aL⟩:=(dZ e.drew).Ke hk;have aF:lI S (m:Int)=k.2.op:=by unfold lI;rw[Int.toNat_natCast,hk]
  refine Aa (decide_eq_true (by show((s.len:Nat):Int)>0;omega)) (AH ⟨_,MM e.drew (k:=4) rfl,?_⟩);have rd: ∀{w'},Sat (AA E rb g S++Z) w'->w'.cell? (b.add (Int.toNat (m:Int)*1))=some (pv k.1)/\w'.cell? (p.add (Int.toNat 0*1))=some (.int .i64 (m:Int)):=λh=>by
   obtain⟨_,p',aA,h0⟩:=Xn h v;obtain⟨b',Y,h1⟩:=(dZ h).Ke hk;rw[hp]at aA;cases aA;rw[hb]at Y;cases Y;rw[Int.toNat_natCast,Nat.mul_one];exact⟨h1,h0⟩
  refine E5 (b:=s.base) hp ⟨⟨by decide,by show(0:Int)<(s.len:Nat);omega⟩,_,(rd e.drew).2,E5 hb ⟨⟨by omega,by omega⟩,_,(rd e.drew).1,AH ⟨_,rnAk0 e.drew hk,U8 ⟨(rd e.drew).1,(rd e.drew).2,MM e.drew (k:=4) rfl,?_⟩⟩⟩⟩;refine RJ e.drew hI J λw5 H5=>⟨(rd H5).1,(rd H5).2,MM H5 (k:=4) rfl,?_⟩;rw[<-aF];exact u w5 H5
def OT(H:Sat (AA E rb g S++Z) w)(hI:FM S){K:AW->World->Prop}(hK: ∀s w',Sat (Row E.Ag 1 s (ints .i64 ((TT S).map λi:Nat=>(i:Int)))::(AA E rb g S++Z)) w'->K s w'):
  F.Bm E (some ⟨rb,0,none⟩) K w:=by
 unfold F.Bm T0.Bm;have hl:=(Xl H).Jp;have hf:=hI.NN;refine AH ⟨_,MM H (k:=2) rfl,AM (λst w'=> ∃k:Nat,st.2.1=(k:Int)/\k<=S.T.length/\Sat (Row E.Ag 1 st.1 (ints .i64 (((List.range k).filter (lU S)).map λi:Nat=>(i:Int)))::(AA E rb g S++Z)) w') (λst _=>((S.T.length:Int)-st.2.1).toNat) ⟨0,rfl,Nat.zero_le _,H.nil E.Ag 1⟩ ?_⟩;rintro⟨s,k',u⟩ _ w2 ⟨k,hk,aI,d⟩;dsimp only at hk d⊢;subst hk;refine AG (λaJ=> ?_) λaH=> ?_
 .have m:k<S.T.length:=by omega
  obtain⟨x,v⟩: ∃x,S.T[k]? =some x:=⟨_,List.getElem?_eq_getElem m⟩;obtain⟨a,ha,hc⟩:=(Xl (Z:=Row E.Ag 1 s _::Z) (d.perm (List.perm_middle (l₁:=AA E rb g S) (l₂:=Z)).symm)).Ke v;have J:=d.perm (List.perm_middle (l₁:=AA E rb g S) (l₂:=Z)).symm;have e:lU S k=sW S k x:=by unfold lU;rw[v]
  rw[ha];refine AH ⟨⟨by omega,by omega⟩,_,by rw[Int.toNat_natCast,Nat.mul_one];exact hc,?_⟩;refine AZ (AH ⟨_,G7 J,Kf (J.front 6 rfl) (Aa rfl (VA J hI v λw4 O j=> ?_))⟩);have aK:((List.range k).filter (lU S)).length=s.len:=by
   have:=d.Bs;rw[ints,List.length_map,List.length_map,Nat.mul_one]at this;exact this
  have hle:((List.range k).filter (lU S)).length<=k:=Nat.le_trans (List.length_filter_le ..) (by rw[List.length_range];exact Nat.le_refl _);have Y:=hI.ti k x v;have ei:i64 ((k:Int)+1)=((k+1:Nat):Int):=by rw[AI];rfl
  refine AY (λc=> ?_) λc=> ?_
  .have c:sW S k x=true:=c;refine AH ⟨_,Ll O v,AJ (vs:=[.int .i64 x.2.n]) (O.perm (List.perm_middle (l₁:=AA E rb g S) (l₂:=Z))) λb5 w5 H5 _=>GJ (news:=[.int .i64 x.2.n]) H5 rfl rfl (by simp[Value.oneCell']) (by omega) (by omega) λs6 w6 H6 _=> ?_⟩;rw[ei];refine⟨⟨k+1,rfl,by omega,?_⟩,by omega⟩;rw[List.range_succ,List.filter_append];rw[List.filter_cons,e,c,List.filter_nil];rw[Y]at H6;rw[if_pos rfl,List.map_append,ints,List.map_append];exact H6
  .have c:sW S k x=false:=c;rw[ei];refine⟨⟨k+1,rfl,by omega,?_⟩,by omega⟩;rw[List.range_succ,List.filter_append];rw[List.filter_cons,e,c,List.filter_nil];rw[if_neg (by decide),List.append_nil];exact O.perm (List.perm_middle (l₁:=AA E rb g S) (l₂:=Z))
 .obtain rfl:k=S.T.length:=by omega
  exact hK s w2 d
end
end Go.Sh

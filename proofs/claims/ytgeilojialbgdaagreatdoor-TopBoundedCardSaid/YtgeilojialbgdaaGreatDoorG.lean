/- What the law's functions do. No further condition. -/
import Derived.Test.YtgeilojialbgdaaGreatDoorJ
import Derived.Test.YtgeilojialbgdaaGreatDoorB
import Derived.Test.YtgeilojialbgdaaGreatDoorM
import Derived.Test.YtgeilojialbgdaaGreatDoorQ
import Derived.Test.YtgeilojialbgdaaGreatDoorA
import Derived.Test.YtgeilojialbgdaaGreatDoorL
set_option linter.all false
set_option maxRecDepth 50000
set_option maxHeartbeats 16000000
namespace Go.Sh
structure IdR(P:Nat)(S:B4):Prop where
 ok:F5 S
 qk:Qk S
 ql:S.Q.length=P
 cl:S.C.length=P
 pc:S.pc≠none
 wo:S.wo= -1
 ho:S.ho= -1
 t: ∀(i:Nat) x,S.T[i]? =some x->x.2.step=0/\x.2.tr=0
 q: ∀(i:Nat) q,S.Q[i]? =some q->q.2=[]
 dn: ∀(k:Nat) y,S.L[k]? =some y->y.2.done=true
section
variable{E:Env}{rb:Nat}{g:Nu}{Z:List Pr}{k0:Int}{o:Option Nat}{κ:Aq}{B0 B:List Bk}{as_:List Int}{yc:Nat×Ak}{d:Bool}{P c ln m:Nat}{M0:Int}{S S':B4}{U M:Aq}{tr I:List Int}{x x0 x1 x2:Nat×Tk}{kc:Nat}{l:List Int}{σ w0 w1:Nat}
theorem Qk.waits(h:Qk S){i:Nat}{a:Int}(e:a∈pls S i):GB S=false:=by
 obtain⟨k,y,_,j,hd,_⟩:=h.un i a e;have:I0 S=true:=List.any_eq_true.2 ⟨y,List.mem_of_getElem? j,by grind⟩;unfold GB
 grind
theorem PB.loud(h:PB k0 o κ B0 as_ yc d P c ln M0 m S U x0 x1 x2 kc l σ):GB S=false:=by
 refine h.b.qk.waits (i:=0) (a:=(kc:Int)) ?_;rcases h.st with ⟨_,e0,_,s,eq⟩|⟨e,_,⟨s,eq⟩,j⟩
 .rw[Hf h.t0 eq,if_pos e0];grind
 .rw[Hf h.t0 eq,if_neg (by omega),e];grind
theorem PC.tT(h:PC o κ B0 d P c ln M0 m S U M tr I B x0 x1 x2 l w0 w1){i:Nat}{y:Nat×Tk}(a:S.T[i]? =some y):(i=0/\y=x0)∨(i=P/\y=x1)∨(i=P+1/\y=x2)∨((i≠0/\i<P)/\y.2.step=0/\y.2.tr=0):=by
 have j:=(List.getElem?_eq_some_iff.1 a).1;have v:=h.b.ok.tn;have u:=h.b.ql;rcases(by omega:i=0∨(i≠0/\i<P)∨i=P∨i=P+1)with rfl|⟨h1,e⟩|rfl|rfl
 .rw[h.t0]at a;grind
 .exact .inr (.inr (.inr ⟨⟨h1,e⟩,h.b.ti i y a h1 e⟩))
 .rw[h.t1]at a;grind
 .rw[h.t2]at a;grind
theorem PC.quiet(h:PC o κ B0 d P c ln M0 m S U M tr I B x0 x1 x2 l w0 w1)(J:GB S=true):IdR P S/\x0.2.step=0/\l=[]/\tr=[]/\m=3*I.length:=by
 have aD:=h.b.p0;have O:=h.b.ql;have hw: ∀i,pls S i=[]:=λi=>List.eq_nil_iff_forall_not_mem.2 λa ha=>by rw[h.b.qk.waits ha]at J;cases J
 have j:=J;unfold GB at j;simp only[Bool.and_eq_true,Bool.not_eq_true',beq_iff_eq]at j;have Y: ∀(i:Nat) y,S.T[i]? =some y-> ¬0<y.2.tr:=λi y u=>by grind
 obtain⟨⟨s,eq⟩,aE⟩:=h.st;have e0:=hw 0;rw[Hf h.t0 eq]at e0;have h0:x0.2.step=0:=Classical.byContradiction λc=>by grind
 rw[if_pos h0]at e0;have e0:l=[]:=e0;have v: ∀id∈tr,0<id:=λid Kv=>by
  obtain⟨y,u⟩:=Option.ne_none_iff_exists'.1 (h.mc.cI id Kv).1;exact(h.mc.inv.hI.sp id y u).1
 have h1:x1.2.step=0/\x1.2.tr=0/\w1=0:=by
  rcases h.s1 with ⟨e,e2⟩|⟨_,e⟩
  .omega
  .exact absurd (v _ ((h.vF _).2 (.inr ⟨e,rfl⟩))) (Y P x1 h.t1)
 have h2:x2.2.step=0:=by
  rcases h.e2.2 with ⟨e,_⟩|⟨_,e⟩
  .exact e
  omega
 have aA:x0.2.tr=0/\w0=0:=by grind
 refine⟨⟨h.b.ok,h.b.qk,O,h.b.cl,h.b.pc,h.wo,j.2.1,λi y u=> ?_,λi q K=> ?_,λk y u=> ?_⟩,h0,e0,List.eq_nil_iff_forall_not_mem.2 λid Kv=> ?_,?_⟩
 .rcases h.tT u with ⟨_,rfl⟩|⟨_,rfl⟩|⟨_,rfl⟩|⟨_,e⟩
  .omega
  .omega
  .exact⟨h2,h.e2.1⟩
  simp_all
 .by_cases e:i=0
  .grind
  .exact h.b.q0 i q e K
 .cases e:y.2.done with
  | true=>rfl
  | false=>
   obtain⟨i,hi⟩:=h.b.qk.cv k y u e
   grind
 .rcases(h.vF id).1 Kv with ⟨e,_⟩|⟨e,_⟩<;>omega
 .have:=h.me
  grind
theorem oJ.en(h:oJ k0 o κ B0 as_ yc d P c ln M0 m S)(hq:GB S=false): ∃(i:Nat) (x:Nat×Tk),S.T[i]? =some x/\enB S i x=true/\(i<=S.Q.length∨x.2.step≠0):=by
 rcases h with ⟨U,x0,x1,x2,kc,l,σ,h⟩|⟨U,M,tr,I,B,x0,x1,x2,l,w0,w1,h⟩
 .have O:=h.b.p0;have Y:=h.b.ql;have hn:=h.b.ok.tn;rcases h.e2.2 with ⟨e2,K⟩|⟨e2,_⟩
  .refine⟨0,x0,h.t0,?_,.inl (Nat.zero_le _)⟩;rcases h.st with ⟨_,e0,ew,s,eq⟩|⟨ea,_,_,v⟩
   .refine Sa e0 ew eq ?_;have:opOf S (kc:Int)=6:=by unfold opOf;rw[Int.toNat_natCast,h.yc.1];exact h.yc.2
    rw[this];decide
   .rcases v with ⟨_,e⟩|⟨_,e,_⟩|⟨_,e,_⟩
    .rw[Rk (by omega),e];unfold Kt;rw[if_neg (by decide),if_pos rfl,List.any_eq_false.2 λy u=> ?_]
     .rfl
     .obtain⟨j,a⟩:=List.mem_iff_getElem?.1 u;have aG:=(List.getElem?_eq_some_iff.1 a).1;have aH:=h.b.ok.ti j y a;unfold TR;by_cases ej:j=0
      .subst ej;rw[h.t0]at a;grind
      .have aL:y.2.step=0/\y.2.tr=0:=by
        rcases(by omega:j<P∨j=P∨j=P+1)with g|rfl|rfl
        .exact h.b.ti j y a ej g
        .rw[h.t1]at a;cases a;exact h.e1
        .rw[h.t2]at a;cases a;exact⟨e2,h.e2.1⟩
       grind
    .exact O1 (by omega) (λc=>by omega) (by omega)
    .exact O1 (by omega) (λc=>by omega) (by omega)
  .exact⟨P+1,x2,h.t2,O1 (by omega) (λc=>by omega) (by omega),.inr (by omega)⟩
 .have O:=h.b.p0;have Y:=h.b.ql;obtain⟨⟨s,eq⟩,v⟩:=h.st;rcases v with ⟨_,e0,aD,aA⟩|⟨_,_,ks,y,_,_,⟨_,e,_⟩|⟨_,e,_⟩,_⟩
  .rcases aA with rfl|⟨ks,y,rfl,u,aI,_⟩
   .rcases h.e2.2 with ⟨e2,K⟩|⟨e2,_⟩
    .rcases h.s1 with ⟨_,e1,aC⟩|⟨_,e1⟩
     .exfalso;have hz: ∀(i:Nat) y,S.T[i]? =some y->y.2.step=0/\y.2.tr=0:=λi y u=>by
       rcases h.tT u with ⟨_,rfl⟩|⟨_,rfl⟩|⟨_,rfl⟩|⟨_,e⟩
       .omega
       .omega
       .exact⟨e2,h.e2.1⟩
       simp_all
      have aJ: ∀i,pls S i=[]:=λi=>by
       by_cases hi:i<S.Q.length
       .obtain⟨q,J⟩: ∃q,S.Q[i]? =some q:=⟨_,List.getElem?_eq_getElem hi⟩;obtain⟨x,hx⟩: ∃x,S.T[i]? =some x:=⟨_,List.getElem?_eq_getElem (by have:=h.b.ok.tn;omega)⟩;rw[Hf hx J,if_pos (hz i x hx).1];by_cases e:i=0
        .grind
        .exact h.b.q0 i q e J
       .exact T4 (by omega)
      unfold GB at hq;have h1:I0 S=false:=List.any_eq_false.2 λy u=>by
       obtain⟨k,hk⟩:=List.mem_iff_getElem?.1 u;intro c;obtain⟨i,hi⟩:=h.b.qk.cv k y hk (by grind)
       grind
      have h2:S.T.any (λx=>decide (x.2.tr>0))=false:=List.any_eq_false.2 λy u=>by
       obtain⟨i,hi⟩:=List.mem_iff_getElem?.1 u
       grind
      grind
     .exact⟨P,x1,h.t1,O1 (by omega) (λc=>by omega) (by omega),.inr (by omega)⟩
    .exact⟨P+1,x2,h.t2,O1 (by omega) (λc=>by omega) (by omega),.inr (by omega)⟩
   .refine⟨0,x0,h.t0,Sa e0 h.wo eq ?_,.inl (Nat.zero_le _)⟩;have:opOf S (ks:Int)=7:=by unfold opOf;grind
    rw[this];decide
  .exact⟨0,x0,h.t0,O1 (by omega) (λc=>by omega) (by omega),.inl (Nat.zero_le _)⟩
  .exact⟨0,x0,h.t0,O1 (by omega) (λc=>by omega) (by omega),.inl (Nat.zero_le _)⟩
variable(hE:Ku E)(hH:QI E)(hT: ∀w',Sat Z w'->Ec E.AH w')
include hE hH hT
theorem kQ(Bl:F5 S)(aD:S.Q.length=P)(O:S.T[P+1]? =some x2)(he:ScS S x2 P)(hp:S.pc≠none)(hI:Ae S.W U M)(aC:enB S (P+1) x2=true){S1:B4}{y1:Nat×Tk}(hb:Beg S (P+1) x2 S1)(e:S1.T[P+1]? =some y1){Q:Nat->B4->Prop}
  (h1:x2.2.step=0->S.wo= -1->Q m {S.tk (P+1) (x2.1,{x2.2 with step:=8})with ho:=((P+1:Nat):Int)})
  (h2: ∀S2,MM S.W.S S2->Ae {S.W with S:=S2} U M->Q m {S.tk (P+1) (x2.1,{x2.2 with step:=0})with ho:= -1,W:={S.W with S:=S2}}):Re E rb g Z S1 x2.1 y1.2.step (SX Q m S (P+1) x2):=by
 have v:=(List.getElem?_eq_some_iff.1 O).1;subst aD;rcases he.2 with ⟨h0,_⟩|⟨h8,_⟩
 .have hw:S.wo= -1:=Classical.byContradiction λc=>by
   unfold enB at aC
   grind
  rcases hb with ⟨c,_⟩|⟨_,⟨s,s',a,l,y,aL,_⟩|⟨_,rfl⟩⟩
  .omega
  .grind
  .rw[if_neg (by omega)]at e⊢;have e2:(S.tk (S.Q.length+1) (x2.1,{x2.2 with step:=6})).T[S.Q.length+1]? =some (x2.1,{x2.2 with step:=6}):=List.getElem?_set_self v;rw[e2]at e;cases e;have J:F5 (S.tk (S.Q.length+1) (x2.1,{x2.2 with step:=6})):=Bl.tk O rfl;refine⟨E.Fu,by simp[Jq],λR Z' w' K Y hK=>hE.kJ _ _ R w' (Rj Y J e2 λj u=>hK g {S.tk (S.Q.length+1) (x2.1,{x2.2 with step:=8})with ho:=((S.Q.length+1:Nat):Int)} j ⟨rfl,⟨_,List.getElem?_set_self v,λ_=>⟨λc=>absurd c (by grind),λc=>absurd h0 c⟩⟩,.inr ⟨rfl,h1 h0 hw⟩⟩ ?_)⟩;have e3:({(S.tk (S.Q.length+1) (x2.1,{x2.2 with step:=6})).tk (S.Q.length+1) (x2.1,{x2.2 with step:=8})with ho:=((S.Q.length+1:Nat):Int)}:B4)={S.tk (S.Q.length+1) (x2.1,{x2.2 with step:=8})with ho:=((S.Q.length+1:Nat):Int)}:=by simp[B4.tk]
   exact(congrArg (λs=>Sat (AA E rb g s++Z') j) e3).mp u
 .rcases hb with ⟨_,rfl⟩|⟨c,_⟩
  .rw[O]at e;cases e;rw[h8];refine⟨E.IP,by simp[Jq],λR Z' w' K Y hK=>hE.do1 _ _ R w' (Vr hE Y Bl O hp hI λS2 n m' hs aA j u=>hK _ _ j ?_ u)⟩;exact⟨rfl,⟨_,List.getElem?_set_self v,λ_=>⟨λ_=>by omega,λ_=>rfl⟩⟩,.inr ⟨rfl,h2 S2 hs.EB aA⟩⟩
  .omega
theorem oJ.adv(hA: ∀w',Sat Z w'->rowAt w' yc.2.set.base yc.2.set.len (ints .u64 as_))(hl:as_.length=yc.2.set.len)(aQ:yc.2.set.len<=1000000)(has: ∀a∈as_,0<=a/\a<18446744073709551616)
  (h:oJ k0 o κ B0 as_ yc d P c ln M0 m S)(hq:GB S=false):Adv E rb Z (oJ k0 o κ B0 as_ yc d P c ln M0) m S:=by
 refine⟨?_,h.en hq,?_,?_⟩
 .rcases h with ⟨U,x0,x1,x2,kc,l,σ,h⟩|⟨U,M,tr,I,B,x0,x1,x2,l,w0,w1,h⟩<;>exact h.b.ok
 .intro i x v j h0 hi;have key: ∀(aF:Qk S) (hw:S.wo= -1),∃s a l y,S.Q[i]? =some (s,((a:Nat):Int)::l)/\S.L[a]? =some y:=λaF hw=>by
   obtain⟨s,a,l,O⟩:=Rl h0 hw j hi;obtain⟨k,y,rfl,hy,_⟩:=aF.un i a (by rw[Hf v O,if_pos h0];exact List.mem_cons_self)
   grind
  have hw:S.wo= -1:=Classical.byContradiction λc=>by
   unfold enB at j
   grind
  rcases h with ⟨U,x0,x1,x2,kc,l,σ,h⟩|⟨U,M,tr,I,B,x0,x1,x2,l,w0,w1,h⟩<;>exact key h.b.qk hw
 .intro g i x S1 y1 v j hb u he;rcases h with ⟨U,x0,x1,x2,kc,l,σ,h⟩|⟨U,M,tr,I,B,x0,x1,x2,l,w0,w1,h⟩
  .have aT:=h.b.p0;have J:=h.b.ql;have hn:=h.b.ok.tn;have K:=(List.getElem?_eq_some_iff.1 v).1;have aO:i≠0->i≠P+1->False:=λe1 e2=>by
    have h0:x.2.step=0:=by
     rcases(by omega:i<P∨i=P)with g|rfl
     .exact(h.b.ti i x v e1 g).1
     .rw[h.t1]at v;cases v;exact h.e1.1
    have hw:S.wo= -1:=Classical.byContradiction λc=>by
     unfold enB at j
     grind
    rcases(by omega:i<P∨i=P)with g|rfl
    .obtain⟨s,a,l,O⟩:=Rl h0 hw j (by omega);have:=h.b.q0 i _ e1 O
     simp_all
    .rw[<-J]at j;exact(Sb h0 hw j).2 λz hz=>(h.ma.tp.Vu z hz).1
   by_cases e0:i=0
   .subst e0;rw[h.t0]at v;cases v;exact h.go0 hE hH hA hl aQ has j hb u
   .by_cases e2:i=P+1
    .subst e2;rw[h.t2]at v;cases v;refine kQ hE hH hT h.b.ok J h.t2 h.e2 h.b.pc h.ma.inv j hb u (λh0 hw=> ?_) λS2 hk aA=> ?_
     .have hσ:σ=3:=by rcases h.st with ⟨e,_⟩|⟨_,e,_⟩;exact e;omega
      exact .inl ⟨U,x0,x1,_,kc,l,σ,h.sc (st:=8) rfl rfl ⟨rfl,rfl,rfl,rfl,rfl,rfl,rfl⟩ (.inl ⟨rfl,hσ,rfl⟩) (MM.refl _) h.ma.inv rfl⟩
     .exact .inl ⟨U,x0,x1,_,kc,l,σ,h.sc (st:=0) rfl rfl ⟨rfl,rfl,rfl,rfl,rfl,rfl,rfl⟩ (.inr ⟨rfl,rfl⟩) hk aA rfl⟩
    grind
  .have aT:=h.b.p0;have J:=h.b.ql;have hn:=h.b.ok.tn;have K:=(List.getElem?_eq_some_iff.1 v).1;have up: ∀{S1:B4} {p:Nat} {st:Int} {m1:Nat} {xx:Nat×Tk},xx.1=p->m1<=m->S1.Q.length=S.Q.length->i<=P->x.1=p->Re E rb g Z S1 p st (λS'=>S'.Q.length=S1.Q.length/\(∃t',S'.T[i]? =some (p,t'))/\ ∃m',m'<m1/\oJ k0 o κ B0 as_ yc d P c ln M0 m' S')->Re E rb g Z S1 p st (SX (oJ k0 o κ B0 as_ yc d P c ln M0) m S i x):=λ{S1 p st m1 xx} _ e1 e2 e3 Y hg=>hg.mono λS' ⟨g1,⟨t',g2⟩,m',g3,g4⟩=>⟨g1.trans e2,⟨t',by grind,λc=>by omega⟩,.inl ⟨by omega,m',by omega,g4⟩⟩;rcases h.tT v with ⟨rfl,rfl⟩|⟨rfl,rfl⟩|⟨rfl,rfl⟩|⟨⟨g1,g2⟩,h0,_⟩
   .-- the first P
    obtain⟨⟨s,eq⟩,aV⟩:=h.st;rcases hb with ⟨h0,rfl⟩|⟨h0,⟨s1,s',a,l1,y,aE,hy,rfl⟩|⟨c,_⟩⟩
    .rw[v]at u;cases u;rcases aV with ⟨_,e,_⟩|⟨_,_,ks,y,_,_,⟨_,e,_⟩|⟨_,e,_⟩,_⟩
     .omega
     .rw[e];exact up (xx:=x) rfl (Nat.le_refl _) rfl (by omega) rfl (h.next hE e)
     .rw[e];exact up (xx:=x) rfl (Nat.le_refl _) rfl (by omega) rfl (h.one hE hT v e (.inl ⟨rfl,rfl⟩))
    .obtain⟨⟨y',aH,hf⟩,hP,hm⟩:=h.QY (s':=s') h0 aE;rw[hy]at aH;cases aH;rw[hf]at u⊢;have Y:(S.QY 0 x a s' l1 10).T[0]? =some (x.1,{x.2 with ask:=(a:Int),sw:=0,step:=10}):=List.getElem?_set_self K;rw[Y]at u;cases u;have hg:=hP.next (E:=E) (rb:=rb) (g:=g) (Z:=Z) (k0:=k0) (as_:=as_) (yc:=yc) hE rfl;exact up (xx:=x) rfl (Nat.sub_le m 1) (List.length_set ..) (by omega) rfl hg
    .omega
   .-- the sweeper
    rcases h.s1 with ⟨rfl,h0,a2⟩|⟨_,e⟩
    .rw[<-J]at j;obtain⟨_,aG⟩:=Sb h0 h.wo j;rcases hb with ⟨c,_⟩|⟨_,⟨s1,s',a,l1,y,aE,_⟩|⟨_,rfl⟩⟩
     .omega
     .grind
     .rw[if_pos J.symm]at u⊢;have Y:(S.tk i (x.1,{x.2 with step:=10})).T[(S.tk i (x.1,{x.2 with step:=10})).Q.length]? =some (x.1,{x.2 with step:=10}):=by
       show(S.T.set i _)[S.Q.length]? =_
       grind
      have e5:(S.tk i (x.1,{x.2 with step:=10})).T[i]? =some (x.1,{x.2 with step:=10}):=List.getElem?_set_self K;rw[e5]at u;cases u;refine up (xx:=x) (S1:=S.tk i (x.1,{x.2 with step:=10})) (m1:=m) rfl (Nat.le_refl _) rfl (Nat.le_refl _) rfl ⟨E.Gq,by simp[Jq],λR Z' w' aX H' hK=>hE.uD _ _ R w' (Yl hE H' Y aG h.mc.inv λz hz hI aJ aL=> ?_)⟩;obtain⟨aB,aI⟩:=h.mc.got hz hI;have aR:=(List.nodup_cons.1 aB.tn).1;have a4:=List.length_erase_of_mem aI;have a5:=List.length_pos_of_mem aI;have hm:=h.me;have bB:=h.b.or;have aS: ∀id,id∈tr↔x0.2.step=11/\x0.2.tr=id:=λid=>by
       rw[h.vF id];omega
      let S2:B4:={S.tk i (x.1,{x.2 with tr:=z.id,step:=11})with W:={S.W with L:=IZ S.W.L z.id}}
      have e6:({(S.tk i (x.1,{x.2 with step:=10})).tk (S.tk i (x.1,{x.2 with step:=10})).Q.length (x.1,{x.2 with tr:=z.id,step:=11})with W:={S.W with L:=IZ S.W.L z.id}}:B4)=S2:=by
       show({(S.tk i (x.1,{x.2 with step:=10})).tk S.Q.length _ with W:=_}:B4)=_;rw[J];simp[B4.tk,S2]
      have H3:=(congrArg (λs=>Sat (AA E rb g s++Z') aJ) e6).mp aL;refine hK _ S2 aJ ⟨rfl,⟨_,List.getElem?_set_self K⟩,m-2,by omega,.inr ⟨U,M,z.id::tr,I.erase z.id,B,x0,(x.1,{x.2 with tr:=z.id,step:=11}),x2,l,w0,1,?_⟩⟩ H3;refine⟨h.b.Fk (S':=S2) v (.inr (Nat.le_refl _)) (t':={x.2 with tr:=z.id,step:=11}) rfl rfl (.inl rfl) rfl rfl rfl aB.inv.hI rfl (h.b.qk.same (Me v rfl rfl (.inl (by omega))) rfl) (by omega) (.inl rfl) rfl,by show(S.T.set i _)[0]? =_;rw[List.getElem?_set_ne (by omega)];exact h.t0,List.getElem?_set_self K,by show(S.T.set i _)[i+1]? =_;rw[List.getElem?_set_ne (by omega)];exact h.t2,h.e2,h.wo,?_,.inr ⟨rfl,rfl⟩,λid=> ?_,λe _=>λc=>aR ((aS _).2 ⟨e,c⟩),aB.mono (by omega),h.bb,h.c0,h.ar,λe1 e2 e3=>absurd (h.dn e1 e2 e3) aG,by omega⟩
      .obtain⟨hq,hs⟩:=h.st;refine⟨hq,hs.imp (λ⟨e1,e2,e3,Y⟩=>⟨e1,e2,e3,Y.EB rfl (by omega)⟩) λ⟨e1,e2,ks,y,e3,Y,e5,e6⟩=>⟨e1,e2,ks,y,e3,Y,?_,e6⟩⟩;omega
      grind
    .rcases hb with ⟨_,rfl⟩|⟨c,_⟩
     .rw[v]at u;cases u;rw[e];exact up (xx:=x) rfl (Nat.le_refl _) rfl (Nat.le_refl _) rfl (h.one hE hT v e (.inr ⟨rfl,rfl⟩))
     .omega
   .refine kQ hE hH hT h.b.ok J h.t2 h.e2 h.b.pc h.mc.inv j hb u (λh0 hw=> ?_) λS2 hk aA=> ?_
    .exact .inr ⟨U,M,tr,I,B,x0,x1,_,l,w0,w1,h.sc (st:=8) rfl rfl ⟨rfl,rfl,rfl,rfl,rfl,rfl,rfl⟩ (.inl ⟨rfl,rfl⟩) (MM.refl _) h.mc.inv rfl⟩
    .exact .inr ⟨U,M,tr,I,B,x0,x1,_,l,w0,w1,h.sc (st:=0) rfl rfl ⟨rfl,rfl,rfl,rfl,rfl,rfl,rfl⟩ (.inr ⟨rfl,rfl⟩) hk aA rfl⟩
   .obtain⟨s,a,l,O⟩:=Rl h0 h.wo j (by omega);have:=h.b.q0 i _ g1 O
    simp_all
end
section
variable{E:Env}{rb:Nat}{g:Nu}{Z:List Pr}{k0:Int}{o:Option Nat}{κ:Aq}{B0 B:List Bk}{as_:List Int}{yc:Nat×Ak}{d:Bool}{P c ln m n N k1:Nat}{F0 M0:Int}{ns:Nat->Int}{S S':B4}{U M:Aq}{ms:List Nat}{tr I:List Int}{x x0 x1 x2:Nat×Tk}{kc:Nat}{l:List Int}{σ w0 w1:Nat}{w:World}
theorem Yp(hE:Ku E)(hH:QI E)(hT: ∀w',Sat Z w'->Ec E.AH w')(T: ∀w',Sat Z w'->rowAt w' yc.2.set.base yc.2.set.len (ints .u64 as_))(hl:as_.length=yc.2.set.len)(v:yc.2.set.len<=1000000)(has: ∀a∈as_,0<=a/\a<18446744073709551616)
  (h:oJ k0 o κ B0 as_ yc d P c ln M0 m S)(hm:m<=2000)(H:Sat (AA E rb g S++Z) w){K:Bool->World->Prop}
  (Y: ∀u S' J U M tr I B x0 x1 x2 l w0 w1,PC o κ B0 d P c ln M0 J S' U M tr I B x0 x1 x2 l w0 w1->GB S'=true-> ∀w',Sat (AA E rb u S'++Z) w'->K true w'):F.CN E (sM rb) ⟨none,0,0⟩ K w:=by
 refine Vs hE (λJ S' e=>⟨?_,?_,λj=>e.adv hE hH hT T hl v has j⟩) hm h H (a1:=⟨none,0,0⟩) (vs:=[]) rfl (by decide) (λ_ _=>rfl) λu S' μ _ e j w' O=> ?_
 .rcases e with ⟨U,x0,x1,x2,kc,l,σ,h⟩|⟨U,M,tr,I,B,x0,x1,x2,l,w0,w1,h⟩<;>exact h.b.ok
 .rcases e with ⟨U,x0,x1,x2,kc,l,σ,h⟩|⟨U,M,tr,I,B,x0,x1,x2,l,w0,w1,h⟩<;>(have h1:=h.b.ok.tn;have h2:=h.b.ql;have h3:=h.b.p0;omega)
 .rcases e with ⟨U,x0,x1,x2,kc,l,σ,h⟩|⟨U,M,tr,I,B,x0,x1,x2,l,w0,w1,h⟩
  .rw[h.loud]at j;cases j
  .exact Y u S' μ U M tr I B x0 x1 x2 l w0 w1 h j w' O
theorem zY{S:B4}{y:Nat×Ak}{k:Nat}(e:S.L[k]? =some y){a:Nat×Ak}:(S.L++[a])[k]? =some y:=by grind
theorem Yq{S:B4}{a:Nat×Ak}:(S.L++[a])[S.L.length]? =some a:=by grind
theorem Yr{S:B4}{y a:Nat×Ak}{k:Nat}(e:(S.L++[a])[k]? =some y):S.L[k]? =some y∨(k=S.L.length/\y=a):=by grind
theorem PA.start(h:IdR P S)(J:MA S.W S.C U n [] k0 S.ma)(O:S.ord.length<=n/\n<=50000)(u:SZ o P S.W.S 0)(K:S.L.length=k1):PA k0 o n 0 k1 ns S.W.CD 0 S U (List.replicate P 0) []:=by
 have hz: ∀f c,f 0=0->Ie f c (List.replicate P 0) S.Q=0:=λf c h0=>SY h0 (λi μ a=>by rw[List.getElem?_replicate]at a;split at a<;>cases a;rfl) h.q;refine⟨h.ok,h.qk,h.cl.trans h.ql.symm,⟨h.wo,h.pc⟩,by rw[List.length_replicate,h.ql],λk y j hd=>(by rw[h.dn k y j]at hd;cases hd),λi x e=>⟨(h.t i x e).2,λ_=>.inl (h.t i x e).1,?_⟩,.inl h.ho,λi x μ e a=>⟨λ_=> ?_,λc=>absurd (h.t i x e).1 c⟩,⟨(hz id 9 rfl).symm,Nat.zero_le _,O⟩,J,by rw[hz gP 1 rfl];rfl,by rw[h.ql,hz gG 1 rfl];exact u,λk y v j _=> ?_,K,rfl,λk y v j=> ?_⟩
 .rw[h.ho,(h.t i x e).1];omega
 .rw[List.getElem?_replicate]at a;split at a<;>cases a;rfl
 .grind
 .have:=(List.getElem?_eq_some_iff.1 j).1;omega
theorem PA.asked(h:PA k0 o c N k1 ns F0 m S U ms B){i:Nat}{q:AY×List Int}(hq:S.Q[i]? =some q){nn:Int}{s':AY}{b:Nat}(hA:WR k0 o (.new 1 (i:Int) nn ⟨none,0,0⟩))(Bl:F5 (S.asked i s' q.2 b (.new 1 (i:Int) nn ⟨none,0,0⟩)))(hc:c+9<=50000)(J:SZ o S.Q.length S.W.S (Ie gG 1 ms S.Q+1))(K:nn=ns S.L.length):
  PA k0 o (c+9) (N+1) k1 ns F0 (m+9) (S.asked i s' q.2 b (.new 1 (i:Int) nn ⟨none,0,0⟩)) U ms B:=by
 have u:(S.asked i s' q.2 b (.new 1 (i:Int) nn ⟨none,0,0⟩)).Q.length=S.Q.length:=List.length_set ..;have Y: ∀f c,Ie f c ms (S.asked i s' q.2 b (.new 1 (i:Int) nn ⟨none,0,0⟩)).Q=Ie f c ms S.Q+c:=λf c=>XO hq s' _;obtain⟨h1,h2,h3,h4⟩:=h.me;refine⟨Bl,h.qk.asked h.ok hq,by rw[u];exact h.cl,h.wo,by rw[u];exact h.ml,λk y a hd=> ?_,by rw[u];exact h.t0,h.h1,λj x μ O T=>⟨(h.ta j x μ O T).1,λh0 k y v a=> ?_⟩,⟨by grind,by omega,by rw[show c+9-(m+9)=c-m by omega];exact h3,hc⟩,by rw[show c+9-(m+9)=c-m by omega];exact h.ma,by rw[Y];have:=h.np;omega,by rw[Y,u];exact J,λk y v a hd=> ?_,by show(S.L++[_]).length=_;rw[List.length_append,h.ln];rfl,h.fz,λk y v a=> ?_⟩
 .rcases Yr a with a|⟨_,rfl⟩
  .exact h.ask k y a hd
  .exact hA
 .have hj:j<S.Q.length:=by rw[<-h.ml];exact(List.getElem?_eq_some_iff.1 T).1
  obtain⟨k',y',μ',e,aF,_⟩:=h.cur O hj h0;rcases Yr a with a|⟨e2,_⟩
  .exact(h.ta j x μ O T).2 h0 k y v a
  grind
 .rcases Yr a with a|⟨_,rfl⟩
  .exact h.rep k y v a hd
  .cases hd
 .rcases Yr a with a|⟨rfl,rfl⟩
  .exact h.nz k y v a
  .exact K
theorem PA.idle(h:PA k0 o c N k1 ns F0 m S U ms B)(J:GB S=true):IdR S.Q.length S:=by
 obtain⟨_,e,j,u,v,_⟩:=h.quiet J;exact⟨h.ok,h.qk,rfl,h.cl,h.wo.2,h.wo.1,e,λi x a=>⟨j i x a,(h.t0 i x a).1⟩,u,v⟩
theorem PB.start(h:IdR P S)(hp:0<P/\P<=800)(hM:MA S.W S.C U n B0 k0 S.ma){set s':AY}{b:Nat}(Bl:F5 (S.asked 0 s' [] b (.new 6 0 0 set)))(v:SZ o P S.W.S 0)(O:S.ord.length<=n/\n+(3+3*(B0.length+P)+P+3)<=50000)
  (hu: ∀a∈as_,∀id j,mkOf S.W.S a=some (id,j)->U id j=true):
  ∃x0 x1 x2,PB k0 o (Gf.mark S.W.S as_) B0 as_ (b,.new 6 0 0 set) false P (n+(3+3*(B0.length+P)+P+3)) (S.L.length+1) S.ma (3+3*(B0.length+P)+P+3) (S.asked 0 s' [] b (.new 6 0 0 set)) U x0 x1 x2 S.L.length [] 3:=by
 have aC:=h.ok.tn;have K:=h.ql;obtain⟨x0,t0⟩: ∃x,S.T[0]? =some x:=⟨_,List.getElem?_eq_getElem (by omega)⟩;obtain⟨x1,t1⟩: ∃x,S.T[P]? =some x:=⟨_,List.getElem?_eq_getElem (by omega)⟩;obtain⟨x2,t2⟩: ∃x,S.T[P+1]? =some x:=⟨_,List.getElem?_eq_getElem (by omega)⟩;obtain⟨q,Y⟩: ∃q,S.Q[0]? =some q:=⟨_,List.getElem?_eq_getElem (by omega)⟩;have J:=h.q 0 q Y;have u:=h.qk.asked h.ok Y (s':=s') (b:=b) (op:=6) (n:=0) (set:=set);rw[J]at u;refine⟨x0,x1,x2,⟨Bl,u,(List.length_set ..).trans K,h.cl,h.pc,hp,λi q' hi e=> ?_,λi x hx _ _=>h.t i x hx,⟨by omega,by rw[Nat.add_sub_cancel];exact O.1,O.2⟩,by show(S.L++[_]).length=_;grind,rfl⟩,t0,t1,t2,(h.t 0 x0 t0).2,h.t P x1 t1,⟨(h.t _ x2 t2).2,.inl ⟨(h.t _ x2 t2).1,h.ho⟩⟩,.inl ⟨rfl,(h.t 0 x0 t0).1,h.wo,s',?_⟩,⟨Yq,rfl⟩,⟨.inl rfl,λ_=>rfl⟩,by rw[Nat.add_sub_cancel];exact hM,⟨rfl,hu⟩,v,by simp⟩
 .have e:(S.Q.set 0 (s',[]++[(S.L.length:Int)]))[i]? =some q':=e;rw[List.getElem?_set_ne (λc=>hi c.symm)]at e;exact h.q i q' e
 .show(S.Q.set 0 _)[0]? =_
  grind
theorem PB.ask(h:PB k0 o κ B0 as_ yc false P c ln M0 m S U x0 x1 x2 kc [] 3){nn:Int}{s':AY}{b:Nat}(Bl:F5 (S.asked 0 s' [(kc:Int)] b (.new 7 0 nn ⟨none,0,0⟩)))(O:c+2<=50000)(T:((B0.length+P:Nat):Int)<nn/\nn<=1000000):
  PB k0 o κ B0 as_ yc true P (c+2) (ln+1) M0 (m+2) (S.asked 0 s' [(kc:Int)] b (.new 7 0 nn ⟨none,0,0⟩)) U x0 x1 x2 kc [(S.L.length:Int)] 3:=by
 have v:=h.b.ql;have u:=h.b.p0;obtain⟨e0,K,s,eq⟩:x0.2.step=0/\S.wo= -1/\ ∃s,S.Q[0]? =some (s,(kc:Int)::[]):=by
  rcases h.st with ⟨_,e⟩|⟨_,_,_,e⟩
  .exact e
  .omega
 have j:=h.b.or;have hm:=h.me;have es:c+2-(m+2)=c-m:=by omega
 refine⟨⟨Bl,h.b.qk.asked h.b.ok eq,(List.length_set ..).trans v,h.b.cl,h.b.pc,u,λi J hi a=> ?_,h.b.ti,⟨by omega,by rw[es];exact j.2.1,O⟩,by show(S.L++[_]).length=_;rw[List.length_append,h.b.ln];rfl,h.b.mz⟩,h.t0,h.t1,h.t2,h.e0,h.e1,h.e2,.inl ⟨rfl,e0,K,s',?_⟩,⟨zY h.yc.1,h.yc.2⟩,⟨.inr ⟨S.L.length,_,rfl,Yq,rfl,T⟩,λe=>(by cases e)⟩,by rw[es];exact h.ma,h.ka,h.ar,by grind⟩
 .have a:(S.Q.set 0 (s',[(kc:Int)]++[(S.L.length:Int)]))[i]? =some J:=a;rw[List.getElem?_set_ne (λc=>hi c.symm)]at a;exact h.b.q0 i J hi a
 .show(S.Q.set 0 _)[0]? =_
  grind
theorem PC.ask(h:PC o κ B0 d P c ln M0 m S U M tr I B x0 x1 x2 l w0 w1)(T:GB S=true){nn:Int}{s':AY}{b:Nat}(Bl:F5 (S.asked 0 s' [] b (.new 7 0 nn ⟨none,0,0⟩)))(K:c+2<=50000)(O:(I.length:Int)<nn/\nn<=1000000):
  ∃w0 w1,PC o κ B0 true P (c+2) (ln+1) M0 (m+2) (S.asked 0 s' [] b (.new 7 0 nn ⟨none,0,0⟩)) U M tr I B x0 x1 x2 [(S.L.length:Int)] w0 w1:=by
 obtain⟨hi,e0,rfl,rfl,em⟩:=h.quiet T;have v:=h.b.ql;have u:=h.b.p0;obtain⟨⟨s,eq⟩,_⟩:=h.st;have j:=h.b.or;have es:c+2-(m+2)=c-m:=by omega
 refine⟨0,0,⟨Bl,h.b.qk.asked h.b.ok eq,(List.length_set ..).trans v,h.b.cl,h.b.pc,u,λi J hi a=> ?_,h.b.ti,⟨by omega,by rw[es];exact j.2.1,K⟩,by show(S.L++[_]).length=_;rw[List.length_append,h.b.ln];rfl,h.b.mz⟩,h.t0,h.t1,h.t2,h.e2,h.wo,⟨⟨s',?_⟩,.inl ⟨rfl,e0,(hi.t 0 x0 h.t0).2,.inr ⟨S.L.length,_,rfl,Yq,rfl,O⟩⟩⟩,.inl ⟨rfl,hi.t P x1 h.t1⟩,h.vF,h.tne,by rw[es];exact h.mc,h.bb,h.c0,h.ar,λ_ _ e=>(by cases e),by grind⟩
 .have a:(S.Q.set 0 (s',[]++[(S.L.length:Int)]))[i]? =some J:=a;rw[List.getElem?_set_ne (λc=>hi c.symm)]at a;exact h.b.q0 i J hi a
 .show(S.Q.set 0 _)[0]? =_
  grind
end
def vG(a:Int)(n:Nat):List Int:=(List.range n).map λj:Nat=>a+(j:Int)
def Sd(s:AY):Value:=.slice s.base s.len s.cap
def rise:Iv->List Int
 | []=>[]
 | p::r=>vG p.1 (p.2-p.1).toNat++rise r
theorem Ys(a:Int)(n:Nat):(vG a n).length=n:=by simp[vG]
theorem zZ{a:Int}{n j:Nat}(h:j<n):(vG a n)[j]? =some (a+j):=by simp[vG,h]
theorem kR{a x:Int}{n:Nat}:x∈vG a n↔a<=x/\x<a+n:=by
 unfold vG;rw[List.mem_map];constructor
 .grind
 .rintro⟨h1,e⟩;exact⟨(x-a).toNat,List.mem_range.2 (by omega),by omega⟩
theorem Rm{x:Int}: ∀{l:Iv},x∈rise l↔mem l x
 | []=>by simp[rise,mem]
 | p::r=>by
  simp only[rise,List.mem_append,kR,Rm (l:=r)];unfold mem
  grind
theorem bU(l m:Iv):rise (l++m)=rise l++rise m:=by
 induction l with
 | nil=>rfl
 | cons p r ih=>simp[rise,ih]
theorem XP{l:Iv}{i:Nat}{p:Int×Int}(h:l[i]? =some p):rise (l.take (i+1))=rise (l.take i)++vG p.1 (p.2-p.1).toNat:=by
 have a:=(List.getElem?_eq_some_iff.1 h).1;rw[List.take_succ_eq_append_getElem a,bU];rw[(List.getElem?_eq_some_iff.1 h).2];simp[rise]
theorem z2{l:Iv}{i j:Nat}{p:Int×Int}(h:l[i]? =some p)(u:(j:Int)<p.2-p.1):(rise l)[(rise (l.take i)).length+j]? =some (p.1+j):=by
 have a:=(List.getElem?_eq_some_iff.1 h).1;have e:rise l=rise (l.take (i+1))++rise (l.drop (i+1)):=by rw[<-bU,List.take_append_drop]
 rw[e,XP h,List.append_assoc,List.getElem?_append_right (by omega),List.getElem?_append_left (by rw[Ys];omega)];rw[show(rise (l.take i)).length+j-(rise (l.take i)).length=j by omega];exact zZ (by omega)
theorem iG(a:Int)(n:Nat):(vG a n).Pairwise (· < ·):=by
 unfold vG;rw[List.pairwise_map];exact List.pairwise_lt_range.imp λh=>by omega
theorem O2: ∀{l:Iv},Ok l->(rise l).Pairwise (· < ·)
 | [],_=>List.Pairwise.nil
 | p::r,h=>by
  obtain⟨h0,h1,J,K,e⟩:=h;refine List.pairwise_append.2 ⟨iG _ _,O2 e,λx a y j=> ?_⟩;have a:=kR.1 a;obtain⟨q,O,u,v⟩:=Rm.1 j
  grind
theorem Rn{l:List Int}(h:l.Pairwise (· < ·)):l.Nodup:=h.imp λh=>by omega
theorem kS: ∀{l:Iv},Ok l-> ∀q∈l,0<=q.1/\q.1<q.2
 | [],_,q,a=>by cases a
 | p::r,h,q,a=>by
  obtain⟨g0,g1,g2,g3,g4⟩:=h;rcases List.mem_cons.1 a with rfl|a
  .omega
  .exact kS g4 q a
theorem bV: ∀{l:Iv},Ok l->l.length<=(rise l).length
 | [],_=>Nat.zero_le _
 | p::r,h=>by
  obtain⟨g0,g1,g2,g3,g4⟩:=h;have:=bV g4;simp only[rise,List.length_append,Ys,List.length_cons];omega
theorem uS{l:Iv}(h:Ok l)(e: ∀q∈l,q.2<=67108864):l.length<=67108864:=
 Nat.le_trans (bV h) (Uy 67108864 (rise l) (Rn (O2 h)) λx j=>by
  obtain⟨q,a,u,v⟩:=Rm.1 j;have:=e q a;have:=kS h q a;omega)
theorem XQ: ∀(l:Iv),∀v∈flat l,v.oneCell'=true
 | [],v,h=>by cases h
 | p::r,v,h=>by
  simp only[flat,List.mem_cons]at h;rcases h with rfl|rfl|h
  .rfl
  .rfl
  .exact XQ r v h
theorem z3{F:List Pr}{w:World}{t z:Nat}(H:Sat F w){K:Nat->World->Prop}(j: ∀b w',Sat (Row t z ⟨some ⟨b,0,none⟩,0,0⟩ []::F) w'->K b w'):AL (.cells ⟨[]⟩ t) w K:=
 A4 λw' u J he=>j _ _ (H.new (P:=Row t z ⟨some ⟨w.heap.size,0,none⟩,0,0⟩ []) (D:=λk=>k=w.heap.size) he
  ⟨λk=>⟨λe=>⟨_,rfl,e⟩,λ⟨a,ha,e⟩=>by cases ha;exact e⟩,⟨by simp,Nat.le_refl _,show(0:Nat)<9223372036854775808 by decide,.inr ⟨_,#[],rfl,Nat.zero_le _,u,by simp,by simp⟩⟩⟩ λk v=>by omega)
structure nX(E:Env):Prop extends EnvA E where
 uT: ∀l args w (K K':Value->World->Prop),(∀v w',K v w'->K' v w')->E.pT l args w K->E.pT l args w K'
 kT: ∀c xs Q,(∀(l:Nat) (J:Nat->List Pr->Prop) (Jx:List Pr->Prop) (W:World) (Rs:List Pr),
  (∀(i:Nat) (x:Int) (Rs:List Pr) (W1:World) (X:Pr),xs[i]? =some x->J i Rs->Sat (X::Q::Rs) W1->
   E.pT l #[.int .u64 x] W1 λv W'=>(v= .bool true/\ ∃Rs',J (i+1) Rs'/\Sat (X::Q::Rs') W')∨(v= .bool false/\ ∃Rs',Jx Rs'/\Sat (X::Q::Rs') W'))->
  J 0 Rs->Sat (Q::Rs) W->
  F.II E (.func (.yield l) #[] #[]) c (λW'=>(∃Rs',J xs.length Rs'/\Sat (Q::Rs') W')∨ ∃Rs',Jx Rs'/\Sat (Q::Rs') W') W)->E.seq E.Gr #[.pointer c] xs Q
 kU: ∀c xs Q,(∀(l:Nat) (J:Nat->List Pr->Prop) (Jx:List Pr->Prop) (W:World) (Rs:List Pr),
  (∀(i:Nat) (x:Int) (Rs:List Pr) (W1:World) (X:Pr),xs[i]? =some x->J i Rs->Sat (X::Q::Rs) W1->
   E.pT l #[.int .u64 x] W1 λv W'=>(v= .bool true/\ ∃Rs',J (i+1) Rs'/\Sat (X::Q::Rs') W')∨(v= .bool false/\ ∃Rs',Jx Rs'/\Sat (X::Q::Rs') W'))->
  J 0 Rs->Sat (Q::Rs) W->
  F.Cc E (.func (.yield l) #[] #[]) c (λW'=>(∃Rs',J xs.length Rs'/\Sat (Q::Rs') W')∨ ∃Rs',Jx Rs'/\Sat (Q::Rs') W') W)->E.seq E.Dv #[.pointer c] xs Q
section
variable{E:Env}{b:Nat}{ks:Iv}{own:Int->Int}{Z:List Pr}{w:World}
def Js(E:Env)(b:Nat)(s:AY)(ks:Iv):Pr:=Kx [Cells b E.Ag [Sd s],Row E.AB 2 s (flat ks)]
theorem nY{ks:Iv}{i:Nat}{p:Int×Int}(h:ks[i]? =some p):(flat ks)[i*2]? =some (.int .u64 p.1)/\(flat ks)[i*2+1]? =some (.int .u64 p.2):=Mt ks i p h
variable(hE:nX E)
include hE
theorem iH{s:AY}{c:Nat}(Bl:Ok ks)(hb: ∀q∈ks,q.2<=67108864):E.seq E.Gr #[.pointer (sM c)] (rise ks) (Js E c s ks):=by
 refine hE.kT _ _ _ λl J Jx W Rs hY h0 HS=> ?_;unfold F.II;simp only[AK];have cut: ∀{X:List Pr} {W'},Sat (Js E c s ks::X) W'->Sat (Cells c E.Ag [Sd s]::Row E.AB 2 s (flat ks)::X) W':=λH=>Sat.star.1 H;have glue: ∀{X:List Pr} {W'},Sat (Cells c E.Ag [Sd s]::Row E.AB 2 s (flat ks)::X) W'->Sat (Js E c s ks::X) W':=λH=>Sat.star.2 H;refine⟨s,(cut HS).AW rfl,?_⟩;have hlen: ∀{X:List Pr} {W'},Sat (Js E c s ks::X) W'->s.len=ks.length:=λH=>by
  have:=((cut H).front 1 rfl).CK;rw[D7]at this;omega
 refine AM (λst w'=> ∃(i:Nat) (Rs:List Pr),st.1=(i:Int)/\i<=ks.length/\J (rise (ks.take i)).length Rs/\Sat (Js E c s ks::Rs) w') (λst _=>((ks.length:Int)-st.1).toNat) ⟨0,Rs,rfl,Nat.zero_le _,h0,HS⟩ ?_;rintro⟨i',u⟩ _ w4 ⟨i,R1,hi,aT,hJ,H4⟩;dsimp only at hi⊢;subst hi;have hl:=hlen H4;have hk:=uS Bl hb;refine AE (λaV=> ?_) λaS=> ?_
 .obtain⟨p,Y⟩: ∃p,ks[i]? =some p:=⟨_,List.getElem?_eq_getElem (by omega)⟩;have O:=List.mem_of_getElem? Y;have aX:=hb p O;have aW:=kS Bl p O;obtain⟨f0,f1⟩:=nY Y;have HR:=(cut H4).front 1 rfl;refine HR.O6 (j:=i*2) f0 λp6 aH c0=>⟨⟨by omega,by omega⟩,p.1,by rw[aD,Int.toNat_natCast,add_add,Nat.add_zero];exact c0,p.2,?_,?_⟩
  .have:=HR.own.cell aH f1;rw[aD,Int.toNat_natCast,add_add];exact this
  refine AJ (vs:=[.int .u64 0,.int .u64 0]) H4 λb9 aZ aA _=> ?_;refine Bm aA (news:=[.int .u64 p.1,.int .u64 p.2]) rfl (by simp[Value.oneCell']) λa0 K=>⟨p.1,K.AW rfl,?_⟩;refine AM (λst w'=> ∃(j:Nat) (Rs:List Pr),st.1=p.1+j/\(j:Int)<=p.2-p.1/\J ((rise (ks.take i)).length+j) Rs/\Sat (Cells b9 E.AB [.int .u64 p.1,.int .u64 p.2]::Js E c s ks::Rs) w') (λst _=>(p.2-st.1).toNat)
   ⟨0,R1,by omega,by omega,hJ,K⟩ ?_
  rintro⟨x',u⟩ _ T ⟨j,R2,hx,aU,aF,a⟩;dsimp only at hx⊢;subst hx;refine⟨p.2,a.cell rfl,AE (λaM=> ?_) λaL=> ?_⟩
  .have aG:=z2 Y (show(j:Int)<p.2-p.1 by omega);show E.pT l (#[]++ #[.int .u64 (p.1+j)]) T _;rw[Array.empty_append];refine hE.uT _ _ _ _ _ (λv w' hv=> ?_) (hY _ _ R2 T _ aG aF a);rcases hv with ⟨rfl,R3,e,H3⟩|⟨rfl,R3,e,H3⟩
   .refine⟨true,rfl,AR rfl ⟨⟨j+1,R3,?_,by omega,e,H3⟩,?_⟩⟩
    .rw[AP];omega
    .rw[AP];omega
   .exact⟨false,rfl,Aa rfl (.inr ⟨R3,e,H3.tail⟩)⟩
  .rw[AI (n:=(i:Int)+1)];refine⟨⟨i+1,R2,rfl,by omega,?_,a.tail⟩,by omega⟩;rw[XP Y,List.length_append,Ys];have:(p.2-p.1).toNat=j:=by omega
   grind
 grind
theorem iJ{s:AY}{c:Nat}(Bl:Ok ks)(hb: ∀q∈ks,q.2<=67108864):E.seq E.Dv #[.pointer (sM c)] (rise ks) (Js E c s ks):=by
 refine hE.kU _ _ _ λl J Jx W Rs hY h0 HS=> ?_;unfold F.Cc T0.Cc F.IW;simp only[AK];refine AJ (vs:=[.func (.yield l) #[] #[]]) HS λb1 w2 O _=> ?_;have T:Sat (Cells c E.Ag [Sd s]::Row E.AB 2 s (flat ks)::Cells b1 E.As [.func (.yield l) #[] #[]]::Rs) w2:=Sat.star.1 (O.front 1 rfl);refine⟨s,T.AW rfl,?_⟩;refine AJ (vs:=[Sd s]) T λa w6 H6 _=> ?_;have H7:Sat (Js E a s ks::Cells b1 E.As [.func (.yield l) #[] #[]]::Cells c E.Ag [Sd s]::Rs) w6:=by
  refine Sat.star.2 ?_;exact H6.perm (.cons _ ((List.Perm.swap _ _ _).trans (.cons _ (.swap _ _ _))))
 refine⟨E.Gr,#[.pointer (sM a)],rise ks,Js E a s ks,rfl,iH hE Bl hb,
  λi u=> ∃e,J i e/\u=Cells b1 E.As [.func (.yield l) #[] #[]]::Cells c E.Ag [Sd s]::e,
  λu=> ∃e,Jx e/\u=Cells b1 E.As [.func (.yield l) #[] #[]]::Cells c E.Ag [Sd s]::e,λ_ _=>False,_,⟨Rs,h0,rfl⟩,H7,?_,?_,?_,trivial⟩
 .rintro i x _ B Y hx ⟨e,hJ,rfl⟩ H;have Hc:Sat (Cells b1 E.As [.func (.yield l) #[] #[]]::B::Js E a s ks::Cells c E.Ag [Sd s]::e) Y:=H.front 2 rfl;refine⟨.func (.yield l) #[] #[],Hc.AW rfl,?_⟩;show E.pT l (#[]++ #[.int .u64 x]) Y _;rw[Array.empty_append];have e1: ∀{R:List Pr} {W'},Sat (B::Js E a s ks::Cells b1 E.As [.func (.yield l) #[] #[]]::Cells c E.Ag [Sd s]::R) W'↔
    Sat (Kx [B,Cells a E.Ag [Sd s],Cells b1 E.As [.func (.yield l) #[] #[]]]::Js E c s ks::R) W':=λ{R W'}=>by
   constructor
   .intro H;have H1:Sat (Cells a E.Ag [Sd s]::Row E.AB 2 s (flat ks)::B::Cells b1 E.As [.func (.yield l) #[] #[]]::Cells c E.Ag [Sd s]::R) W':=Sat.star.1 (H.front 1 rfl);refine Sat.star.2 ?_;have O:Sat (Cells c E.Ag [Sd s]::Row E.AB 2 s (flat ks)::B::Cells a E.Ag [Sd s]::Cells b1 E.As [.func (.yield l) #[] #[]]::R) W':=by
     have j:=H1.front 4 rfl;exact j.perm (.cons _ ((List.Perm.swap _ _ _).trans (.cons _ (.swap _ _ _))))
    have j:Sat (Js E c s ks::B::Cells a E.Ag [Sd s]::Cells b1 E.As [.func (.yield l) #[] #[]]::R) W':=Sat.star.2 O;exact j.perm ((List.Perm.swap _ _ _).trans (.cons _ ((List.Perm.swap _ _ _).trans (.cons _ (.swap _ _ _)))))
   .intro H;have H1:Sat (B::Cells a E.Ag [Sd s]::Cells b1 E.As [.func (.yield l) #[] #[]]::Js E c s ks::R) W':=Sat.star.1 H;have O:Sat (Cells c E.Ag [Sd s]::Row E.AB 2 s (flat ks)::B::Cells a E.Ag [Sd s]::Cells b1 E.As [.func (.yield l) #[] #[]]::R) W':=Sat.star.1 (H1.front 3 rfl);have j:Sat (Js E a s ks::B::Cells b1 E.As [.func (.yield l) #[] #[]]::Cells c E.Ag [Sd s]::R) W':=by
     refine Sat.star.2 ?_;have H4:Sat (Cells a E.Ag [Sd s]::Cells c E.Ag [Sd s]::Row E.AB 2 s (flat ks)::B::Cells b1 E.As [.func (.yield l) #[] #[]]::R) W':=O.front 3 rfl;exact H4.perm (.cons _ ((List.Perm.swap _ _ _).trans (.cons _ ((List.Perm.swap _ _ _).trans (.cons _ (.swap _ _ _))))))
    exact j.perm (.swap _ _ _)
  refine hE.uT _ _ _ _ _ (λv w' hv=> ?_) (hY i x e Y _ hx hJ (e1.1 H));rcases hv with ⟨rfl,R3,K,j⟩|⟨rfl,R3,K,j⟩
  .exact⟨true,rfl,AR rfl ⟨_,⟨R3,K,rfl⟩,e1.2 j⟩⟩
  .exact⟨false,rfl,Aa rfl ⟨_,⟨R3,K,rfl⟩,e1.2 j⟩⟩
 all_goals
  rintro D _ Y ⟨e,hJ,rfl⟩ H;refine iS H λw' H'=> ?_;have H1:Sat (Cells a E.Ag [Sd s]::Row E.AB 2 s (flat ks)::Cells b1 E.As [.func (.yield l) #[] #[]]::Cells c E.Ag [Sd s]::e) w':=Sat.star.1 H';have O:Sat (Js E c s ks::e) w':=Sat.star.2 ((H1.tail.perm ((List.Perm.swap _ _ _))).tail.perm (.swap _ _ _))
  grind
theorem bW(H:Sat (BR E b ks own::Z) w)(hb: ∀q∈ks,q.2<=67108864){K:Value->World->Prop}
  (Y: ∀c s w',Sat (Js E c s ks::BR E b ks own::Z) w'->K (.func (.func E.Dv) #[] #[.pointer (sM c)]) w'):F.Dx E (sM b) K w:=by
 unfold F.Dx T0.Dx F.Dq;simp only[AK];refine z3 (z:=2) H λb1 w2 v=> ?_;obtain⟨G,h1,j,h3,_⟩:=(v.front 1 rfl).W7;have a:=h1.set.row;have hl:G.s.len=ks.length:=by
  have:=a.own.len;rw[D7,j]at this;omega
 have aB:=uS (j▸a.ok:Ok ks) hb;refine⟨G.s,a.c0,?_⟩;refine O7 v rfl a.own.rowAt a.own.len (XQ _) (by grind) (by grind) λs6 w7 J _=> ?_;rw[j,List.nil_append]at J;refine AJ (vs:=[Sd ⟨none,0,0⟩]) J λT w9 O _=> ?_;refine Bm O (news:=[Sd s6]) rfl (by simp[Sd,Value.oneCell']) λu e=> ?_;exact Y T s6 u (Sat.star.2 e)
end
section
variable{E:Env}{w:World}{Z:List Pr}{h sk b s r:Nat}{S:HS}{W:SW}{U M:Aq}
theorem ks_bnd(hI:HInv S no)(a:Pf S): ∀q∈S.ks,q.2<=67108864:=λq e=>by
 have h0:=kS a.ok q e;have h1:mem S.ks ((512*(q.2-1))/512):=⟨q,e,by omega⟩;have:=(a.tv.OZ _ ((hI.ks _).1 h1)).2;omega
theorem Yt(hR:nX E)(H:Sat (Ax E h S::Z) w)(hI:HInv S no)(hf:(rise S.ks).length<=1000){K:AY->World->Prop}(hK: ∀s w',s.len=(rise S.ks).length->Sat (Ax E h S::Z) w'->K s w'):F.Dd E (sM h) K w:=by
 have Bl:=H.Bl;have v:=ks_bnd hI Bl;obtain⟨g,aB,H1⟩:=Sat.heap.1 H;unfold F.Dd T0.Dd F.Ca T0.Ca F.Bd;refine AG ⟨_,H1.cell (o:=0) (m:=2) rfl,bW hR (H1.front 3 rfl) v λc s0 w4 H4=> ?_⟩;refine AJ (vs:=[.slice none 0 0]) H4 λb1 w5 H5 _=> ?_;have H6:Sat (Js E c s0 S.ks::Cells b1 E.Db [.slice none 0 0]::Row E.AF 1 ⟨none,0,0⟩ []::BR E g.a S.ks S.own::(Bf E h S g++Z).eraseIdx 3) w5:=(H5.front 1 rfl).nil E.AF 1|>.perm (((List.Perm.swap _ _ _).trans ((List.Perm.swap _ _ _).cons _)));have back: ∀{w'},Sat (BR E g.a S.ks S.own::(Bf E h S g++Z).eraseIdx 3) w'->Sat (Ax E h S::Z) w':=λH=>Sat.heap.2 ⟨g,aB,Sat.back (Ps:=Bf E h S g++Z) 3 H (by simp[Bf])⟩;refine⟨E.Dv,#[.pointer (sM c)],rise S.ks,Js E c s0 S.ks,rfl,iJ hR Bl.ok v,
  λi Rs=> ∃s1:AY,i<=(rise S.ks).length/\Rs=Cells b1 E.Db [FI s1]::Row E.AF 1 s1 (ints .u64 ((rise S.ks).take i))::BR E g.a S.ks S.own::(Bf E h S g++Z).eraseIdx 3,λ_=>False,λ_ _=>False,_,⟨⟨none,0,0⟩,Nat.zero_le _,rfl⟩,H6,?_,?_,λ_ _ _ f=>f.elim,trivial⟩
 .rintro i x _ B O hx ⟨s1,aK,rfl⟩ j;have aC:=(List.getElem?_eq_some_iff.1 hx).1;have hl:i=s1.len:=by
   have:=(j.front 3 rfl:Sat (Row E.AF 1 s1 _::_) O).CK;rw[ints,List.length_map,List.length_take,Nat.mul_one]at this;omega
  refine⟨s1,(j.front 2 rfl:Sat (Cells b1 E.Db [FI s1]::_) O).AW rfl,?_⟩;refine AJ (vs:=[.int .u64 x]) j λb9 aL T _=>GH (news:=[.int .u64 x]) (T.BQ 3 rfl) rfl rfl (by simp[Value.oneCell']) (by omega) (by omega) λvC aD Y _=> ?_;refine Bc (Y.front 3 rfl:Sat (Cells b1 E.Db [FI s1]::_) aD) rfl (by simp) λaM aA=>⟨_,⟨vC,aC,rfl⟩,?_⟩;have e:ints .u64 ((rise S.ks).take (i+1))=ints .u64 ((rise S.ks).take i)++[.int .u64 x]:=by
   rw[List.take_add_one,hx];simp[ints]
  rw[e];exact(aA.front 2 rfl).BQ 2 rfl
 .rintro D _ O ⟨s1,_,rfl⟩ j;refine⟨s1,(j.front 2 rfl:Sat (Cells b1 E.Db [FI s1]::_) O).AW rfl,iS j λJ u=>hK s1 J ?_ (back u.tail.tail.tail)⟩;have:=(u.front 2 rfl:Sat (Row E.AF 1 s1 _::_) J).CK;rw[ints,List.length_map,List.length_take,Nat.mul_one,Nat.min_self]at this;omega
theorem nZ(hH:QI E)(H:Sat (AQ E b h s r W::Z) w)(Y: ∀w',Sat Z w'->w'.cell? (Addr.mk sk 0 none)=some (pv h))(hI:Ae W U M){K:Int->World->Prop}(hK: ∀n w',Sat (AQ E b h s r W::Z) w'->K n w'):F.CZ E (sM sk) K w:=by
 unfold F.CZ T0.CZ;refine AG ⟨_,Y w H.tail,?_⟩;obtain⟨em,H1⟩:=Sat.Gw.1 H;refine Ol hH (H1.front 1 rfl) (λl h1 h2=>hI.hI.Nx l h1 h2) λs1 l w2 aB J H2=> ?_;have H3:Sat (AQ E b h s r W::Row E.Ar 1 s1 (ints .i64 l)::Z) w2:=Sat.Gw.2 ⟨em,(H2.BQ 1 rfl).perm (List.perm_middle (l₁:=Lk E b h s r W em)).symm⟩;have hlen:l.length=s1.len:=by
  have:=H2.CK;rw[ints,List.length_map,Nat.mul_one]at this
  simp_all
 have aG:l.length<1000000000000000000:=by
  have:=hI.hI.Nx l aB λn hn=>(J n).1 hn;omega
 refine AM (λst w'=> ∃k:Nat,st.2.1=(k:Int)/\k<=l.length/\Sat (AQ E b h s r W::Row E.Ar 1 s1 (ints .i64 l)::Z) w') (λst _=>((l.length:Int)-st.2.1).toNat) ⟨0,rfl,Nat.zero_le _,H3⟩ ?_;rintro⟨n,k',u⟩ _ w6 ⟨k,hk,aS,O⟩;dsimp only at hk⊢;subst hk;refine AE (λaT=> ?_) λaR=>hK n w6 (O.front 1 rfl).tail;have T:k<l.length:=by omega
 obtain⟨id,Kv⟩: ∃id,l[k]? =some id:=⟨_,List.getElem?_eq_getElem T⟩;obtain⟨x,hx⟩: ∃x,W.S.sp id=some x:=Option.ne_none_iff_exists'.1 ((J id).1 (List.mem_of_getElem? Kv));have ei:i64 ((k:Int)+1)=((k+1:Nat):Int):=by rw[AI];rfl
 refine(O.front 1 rfl:Sat (Row E.Ar 1 s1 (ints .i64 l)::_) w6).O6 (j:=k) (v:=.int .i64 id) (by rw[ints,List.getElem?_map,Kv];rfl) λa ha hc=>⟨⟨by omega,by omega⟩,_,by rw[aD,Int.toNat_natCast,Nat.mul_one];exact hc,AG ⟨_,Y w6 O.tail.tail,?_⟩⟩;refine ML O (λhn=>by rw[hx]at hn;cases hn) λy hy=> ?_;obtain rfl:y=x:=Option.some.inj (hy.symm.trans hx);refine JW O hx λw8 H8=>AJ (vs:=JV) H8 λaM w9 H9 _=> ?_;refine Bm (news:=Hl y.2) H9 rfl (by intro v hv;simp only[Hl,List.mem_cons,List.not_mem_nil,or_false]at hv;rcases hv with rfl|rfl|rfl|rfl|rfl|rfl|rfl|rfl|rfl|rfl<;>rfl) λaV e=>⟨_,e.cell (o:=0) (m:=2) rfl,?_⟩;rw[ei];refine AX (λ_=>⟨_,e.cell (o:=0) (m:=1) rfl,AZ λn2 _=> ?_⟩) λ_=> ?_
 .exact⟨⟨k+1,rfl,by omega,e.tail⟩,by omega⟩
 .exact⟨⟨k+1,rfl,by omega,e.tail⟩,by omega⟩
end
section
variable{E:Env}{rb:Nat}{g:Nu}{S:B4}{Z:List Pr}{w:World}{U M:Aq}
theorem rnstk(K:S.pc≠none): ∀w',Sat ((AA E rb g S++Z).eraseIdx 11) w'->w'.cell? (Addr.mk g.a.sk 0 none)=some (pv g.a.h):=by
 obtain⟨pb,j⟩:=Option.ne_none_iff_exists'.1 K;intro w' h;have u:=Sat.star.1 (h.front 5 rfl:Sat (Kx [Rb E g.sm,zP E g S.pc]::_) w');rw[j]at u;obtain⟨e,v⟩:=Sat.where.1 (u.front 1 rfl:Sat (Jt (g.pa=some ⟨pb,0,none⟩) (Kx [Cells pb E.El [pv g.a.h,.int .u64 TQ],Ov E g.a.sk g.a.h])::_) w');obtain⟨vs,J⟩:=Sat.ex.1 ((Sat.star.1 v:Sat (Cells pb E.El [pv g.a.h,.int .u64 TQ]::Ov E g.a.sk g.a.h::_) w').front 1 rfl:Sat (Ov E g.a.sk g.a.h::_) w');exact J.AW rfl
theorem WS(J:nX E)(H:Sat (AA E rb g S++Z) w)(hI:Ae S.W U M)(O:(rise S.W.S.ks).length<=1000){K:AY->World->Prop}(v: ∀s w',s.len=(rise S.W.S.ks).length->Sat (AA E rb g S++Z) w'->K s w'):F.CG E (sM g.a.m) K w:=by
 unfold F.CG T0.CG;refine AG ⟨_,rnM0 H,?_⟩;have H1:Sat (AQ E g.a.b g.a.h g.a.s g.a.r S.W::(AA E rb g S++Z).eraseIdx 11) w:=H.front 11 rfl;obtain⟨R,u,Y,e⟩:=H1.GA;exact Yt J u hI.hI O λs w' T j=>v s w' T (Sat.back (Ps:=AA E rb g S++Z) 11 (e (S':=S.W.S) j) (by simp[AA]))
theorem Ro(hH:QI E)(H:Sat (AA E rb g S++Z) w)(hp:S.pc≠none)(hI:Ae S.W U M){K:Int->Int->Int->Int->Int->Int->Int->Int->Int->Int->Int->World->Prop}
  (hK: ∀lv pg q0 q2 j w',((∀id,S.W.S.sp id=none)->pg=0)->Sat (AA E rb g S++Z) w'->K S.ma S.W.CD lv (u64 (S.ma-S.W.CD)) (u64 (u64 (q0*8192)-j)) (u64 (pg*8192)) (u64 (u64 (u64 (q0*8192)-j)-u64 (pg*8192))) (u64 (q2*8192)) j S.cy (u64 (S.ma-S.W.CD)) w'):F.CU E (sM g.a.m) K w:=by
 unfold F.CU T0.CU F.Im;have hz: ∀A:List Value,A=List.replicate 11 (.int .u64 0)->(Array.replicate 11 (Value.int .u64 0))=⟨A⟩:=λA e=>by rw[e];rfl
 let z11:List Value:=[.int .u64 0,.int .u64 0,.int .u64 0,.int .u64 0,.int .u64 0,.int .u64 0,.int .u64 0,.int .u64 0,.int .u64 0,.int .u64 0,.int .u64 0]
 have ez:(Array.replicate 11 (Value.int .u64 0))=⟨z11⟩:=hz z11 rfl;rw[ez];refine AJ (vs:=z11) H λb1 w2 H2 _=> ?_
 let C1:Pr:=Cells b1 E.Fa z11
 have Hr:Sat (AA E rb g S++C1::Z) w2:=E8 H2;obtain⟨R3,aV,bI,aE⟩:=SV Hr;refine Vw hH aV hI λlv pg w5 _ a2 H5=> ?_;have H6:Sat (AA E rb g S++C1::Z) w5:=aE (ma:=S.ma) (W':=S.W) H5;refine AG ⟨_,rnM0 H6,?_⟩;have H7:Sat (AQ E g.a.b g.a.h g.a.s g.a.r S.W::(AA E rb g S++C1::Z).eraseIdx 11) w5:=H6.front 11 rfl;obtain⟨R,HH,bJ,a1⟩:=H7.GA;refine TE HH hI.hI λa4 aQ=> ?_;generalize cP S.W.S.T.Lt=q0;generalize cP S.W.S.gone=q2;have aR:Sat (AA E rb g S++C1::Z) a4:=Sat.back (Ps:=AA E rb g S++C1::Z) 11 (a1 (S':=S.W.S) aQ) (by simp[AA]);have Hd:=aR.drew;have CD: ∀{X:List Pr} {w'},Sat (AA E rb g S++X) w'->w'.cell? ((Addr.mk g.a.b 0 none).add 4)=some (.int .u64 S.W.CD):=λ{X w'} h=>by
  obtain⟨em,h1⟩:=Sat.Gw.1 (h.front 11 rfl:Sat (AQ E g.a.b g.a.h g.a.s g.a.r S.W::_) w');exact h1.cell (o:=0) (m:=4) rfl
 have aA: ∀{X:List Pr} {w'} {K':Int->World->Prop},Sat (AA E rb g S++X) w'->(∀n aF,Sat (AA E rb g S++X) aF->K' n aF)->F.CZ E (sM g.a.sk) K' w':=λ{X w' K'} h hk=>
  nZ hH (h.front 11 rfl:Sat (AQ E g.a.b g.a.h g.a.s g.a.r S.W::(AA E rb g S++X).eraseIdx 11) w') (rnstk hp) hI λn aF a0=>hk n aF (Sat.back (Ps:=AA E rb g S++X) 11 a0 (by simp[AA]))
 let L0:Int->List Value:=λj=>[.int .u64 S.ma,.int .u64 S.W.CD,.int .u64 lv,.int .u64 0,.int .u64 0,.int .u64 (u64 (pg*8192)),.int .u64 0,.int .u64 (u64 (q2*8192)),.int .u64 j,.int .u64 S.cy,.int .u64 0]
 have oc: ∀j,∀v∈L0 j,v.oneCell'=true:=by intro j v hv;simp only[L0,List.mem_cons,List.not_mem_nil,or_false]at hv;rcases hv with rfl|rfl|rfl|rfl|rfl|rfl|rfl|rfl|rfl|rfl|rfl<;>rfl
 refine AV (λst w'=> ∃b2 j,st.1=some ⟨b2,0,none⟩/\Sat (Cells b2 E.Fa (L0 j)::(AA E rb g S++C1::Z)) w') ?_ ?_
 .refine AG ⟨_,K9 Hd (k:=10) rfl,AG ⟨_,K9 Hd (k:=3) rfl,AG ⟨_,K9 Hd (k:=5) rfl,AG ⟨_,K9 Hd (k:=11) rfl,?_⟩⟩⟩⟩;refine⟨AG ⟨_,CD Hd,K9 Hd (k:=11) rfl,K9 Hd (k:=5) rfl,K9 Hd (k:=10) rfl,?_,?_⟩,?_⟩
  .refine aA Hd λj bL aG=>⟨K9 aG (k:=11) rfl,K9 aG (k:=10) rfl,AJ (vs:=z11) aG λaX bM aH _=>⟨K9 (E8 aH) (k:=11) rfl,K9 (E8 aH) (k:=10) rfl,Bm (news:=L0 j) aH rfl (oc j) λbN aS=>⟨aX,j,rfl,aS⟩⟩⟩
  .refine AJ (vs:=z11) Hd λaY bO aD _=>⟨K9 (E8 aD) (k:=11) rfl,K9 (E8 aD) (k:=5) rfl,K9 (E8 aD) (k:=10) rfl,aA (E8 aD) λj bP aI=>⟨K9 aI (k:=11) rfl,K9 aI (k:=10) rfl,Bm (news:=L0 j) (Vk aI) rfl (oc j) λbQ aT=>⟨aY,j,rfl,aT⟩⟩⟩
  .refine AJ (vs:=z11) Hd λaZ bR Y _=>⟨K9 (E8 Y) (k:=11) rfl,K9 (E8 Y) (k:=5) rfl,K9 (E8 Y) (k:=3) rfl,K9 (E8 Y) (k:=10) rfl,AG ⟨_,CD (E8 Y),K9 (E8 Y) (k:=11) rfl,K9 (E8 Y) (k:=5) rfl,K9 (E8 Y) (k:=10) rfl,aA (E8 Y) λj bS aJ=>⟨K9 aJ (k:=11) rfl,K9 aJ (k:=10) rfl,Bm (news:=L0 j) (Vk aJ) rfl (oc j) λbT aU=>⟨aZ,j,rfl,aU⟩⟩⟩⟩
 .rintro⟨_,u⟩ _ a5 ⟨b2,j,rfl,aB⟩;have aB:Sat (Cells b2 E.Fa [.int .u64 S.ma,.int .u64 S.W.CD,.int .u64 lv,.int .u64 0,.int .u64 0,.int .u64 (u64 (pg*8192)),.int .u64 0,.int .u64 (u64 (q2*8192)),.int .u64 j,.int .u64 S.cy,.int .u64 0]::(AA E rb g S++C1::Z)) a5:=aB;refine AG ⟨_,aB.AW rfl,AG ⟨_,aB.cell (o:=0) (m:=1) rfl,AG (Af aB (o:=0) (m:=10) rfl (by simp) λbU aM=>AG ⟨_,aM.cell (o:=0) (m:=10) rfl,AG (Af aM (o:=0) (m:=3) rfl (by simp) λbV aN=>AG ⟨_,aN.cell (o:=0) (m:=8) rfl,AG (Af aN (o:=0) (m:=4) rfl (by simp) λbW aK=>AG ⟨_,aK.cell (o:=0) (m:=4) rfl,AG ⟨_,aK.cell (o:=0) (m:=5) rfl,AG (Af aK (o:=0) (m:=6) rfl (by simp) λa6 J=>AG ?_)⟩⟩)⟩)⟩)⟩⟩;refine⟨_,J.cell (o:=0) (m:=0) rfl,_,J.cell (o:=0) (m:=1) rfl,_,J.cell (o:=0) (m:=2) rfl,_,J.cell (o:=0) (m:=3) rfl,_,J.cell (o:=0) (m:=4) rfl,_,J.cell (o:=0) (m:=5) rfl,_,J.cell (o:=0) (m:=6) rfl,_,J.cell (o:=0) (m:=7) rfl,_,J.cell (o:=0) (m:=8) rfl,_,J.cell (o:=0) (m:=9) rfl,_,J.cell (o:=0) (m:=10) rfl,?_⟩;refine Bm (news:=[.int .u64 S.ma,.int .u64 S.W.CD,.int .u64 lv,.int .u64 (u64 (S.ma-S.W.CD)),.int .u64 (u64 (u64 (q0*8192)-j)),.int .u64 (u64 (pg*8192)),.int .u64 (u64 (u64 (u64 (q0*8192)-j)-u64 (pg*8192))),.int .u64 (u64 (q2*8192)),.int .u64 j,.int .u64 S.cy,.int .u64 (u64 (S.ma-S.W.CD))]) (J.tail.front 12 rfl:Sat (C1::_) a6) rfl (by intro v hv;simp only[List.mem_cons,List.not_mem_nil,or_false]at hv;rcases hv with rfl|rfl|rfl|rfl|rfl|rfl|rfl|rfl|rfl|rfl|rfl<;>rfl) λa7 O=> ?_;refine⟨_,O.cell (o:=0) (m:=0) rfl,_,O.cell (o:=0) (m:=1) rfl,_,O.cell (o:=0) (m:=2) rfl,_,O.cell (o:=0) (m:=3) rfl,_,O.cell (o:=0) (m:=4) rfl,_,O.cell (o:=0) (m:=5) rfl,_,O.cell (o:=0) (m:=6) rfl,_,O.cell (o:=0) (m:=7) rfl,_,O.cell (o:=0) (m:=8) rfl,_,O.cell (o:=0) (m:=9) rfl,_,O.cell (o:=0) (m:=10) rfl,?_⟩;exact hK lv pg q0 q2 j a7 a2 O.tail
end
def blOf(W:SW)(U:Aq)(id:Int):List (Int×Nat):=match W.S.sp id with
 | some x=>((List.range x.2.AO.toNat).filter λm=>U id m).map λm=>(id,m)
 | none=>[]
def Se(W:SW)(p:Int×Nat):Int:=match W.S.sp p.1 with
 | some x=>x.2.base+p.2*x.2.elem
 | none=>0
def partOf(U:Aq)(id:Int)(m:Nat):List (Int×Nat):=((List.range m).filter λm=>U id m).map λm=>(id,m)
theorem O3{W:SW}{U:Aq}{id:Int}{p:Int×Nat}:p∈blOf W U id↔p.1=id/\ ∃x,W.S.sp id=some x/\(p.2:Int)<x.2.AO/\U id p.2=true:=by
 unfold blOf
 grind
theorem iK(W:SW)(U:Aq)(id:Int):(blOf W U id).Nodup:=by
 unfold blOf;cases h:W.S.sp id with
 | none=>grind
 | some x=>exact List.Pairwise.map _ (λa b e=>by grind) (List.Pairwise.filter _ List.nodup_range)
theorem Sf{W:SW}{U:Aq}: ∀{l:List Int},l.Nodup->(l.flatMap (blOf W U)).Nodup
 | [],_=>List.nodup_nil
 | id::l,h=>by
  rw[List.flatMap_cons,List.nodup_append];refine⟨iK W U id,Sf (List.nodup_cons.1 h).2,λa v b u e=> ?_⟩;subst e;obtain⟨j,K,u⟩:=List.mem_flatMap.1 u;have h1:=(O3.1 v).1;have J:=(O3.1 u).1
  grind
section
variable{E:Env}{w:World}{Z:List Pr}{W:SW}{U M:Aq}{A:vE}{dead:Bool}{ma cy:Int}
theorem WT(hH:QI E)(H:Sat (Ou E A dead ma cy::AQ E A.b A.h A.s A.r W::Z) w)(hI:Ae W U M)(aQ: ∀L:List (Int×Nat),L.Nodup->(∀p∈L,∃x,W.S.sp p.1=some x/\(p.2:Int)<x.2.AO/\U p.1 p.2=true)->L.length<=1000000){K:AY->World->Prop}
  (hK: ∀(s:AY) (L:List (Int×Nat)) w',L.Nodup->(∀p:Int×Nat,p∈L↔ ∃x,W.S.sp p.1=some x/\(p.2:Int)<x.2.AO/\U p.1 p.2=true)->Sat (Row E.AF 1 s (ints .u64 (L.map (Se W)))::Ou E A dead ma cy::AQ E A.b A.h A.s A.r W::Z) w'->K s w'):F.BM E (sM A.m) K w:=by
 unfold F.BM T0.BM;refine AG ⟨_,H.AW rfl,?_⟩;obtain⟨em,H1⟩:=Sat.Gw.1 (H.front 1 rfl:Sat (AQ E A.b A.h A.s A.r W::Ou E A dead ma cy::Z) w);refine Ol hH (H1.front 1 rfl) (λl h1 h2=>hI.hI.Nx l h1 h2) λs l w2 aA J H2=> ?_;have H3:Sat (AQ E A.b A.h A.s A.r W::Row E.Ar 1 s (ints .i64 l)::Ou E A dead ma cy::Z) w2:=Sat.Gw.2 ⟨em,(H2.BQ 1 rfl).perm (List.perm_middle (l₁:=Lk E A.b A.h A.s A.r W em)).symm⟩;have hlen:l.length=s.len:=by
  have:=H2.CK;rw[ints,List.length_map,Nat.mul_one]at this
  simp_all
 have a6:(l.flatMap (blOf W U)).length<=1000000:=aQ _ (Sf aA) λp hp=>by
  obtain⟨j,_,hb⟩:=List.mem_flatMap.1 hp;obtain⟨rfl,x,h1,h2,h3⟩:=O3.1 hb
  grind
 have aV:l.length<1000000000000000000:=by
  have:=hI.hI.Nx l aA λn hn=>(J n).1 hn;omega
 have sub: ∀(k:Nat) {id:Int} {x:Nat×SI} (m:Nat),l[k]? =some id->W.S.sp id=some x->(m:Int)<=x.2.AO->((l.take k).flatMap (blOf W U)++partOf U id m).length<=1000000:=λk id x m hk O hm=>by
  have h1:l=l.take k++id::l.drop (k+1):=by
   have:=(List.getElem?_eq_some_iff.1 hk);rw[<-this.2,<-List.drop_eq_getElem_cons this.1,List.take_append_drop]
  have h2:(partOf U id m).Sublist (blOf W U id):=by
   unfold blOf partOf;rw[O];exact List.Sublist.map _ (List.Sublist.filter _ (List.range_sublist.2 (by omega)))
  grind
 have H4:Sat (Row E.AF 1 ⟨none,0,0⟩ []::Ou E A dead ma cy::AQ E A.b A.h A.s A.r W::Row E.Ar 1 s (ints .i64 l)::Z) w2:=((H3.front 2 rfl).nil E.AF 1);refine AM (λst w'=> ∃k:Nat,st.2.1=(k:Int)/\k<=l.length/\Sat (Row E.AF 1 st.1 (ints .u64 (((l.take k).flatMap (blOf W U)).map (Se W)))::Ou E A dead ma cy::AQ E A.b A.h A.s A.r W::Row E.Ar 1 s (ints .i64 l)::Z) w') (λst _=>((l.length:Int)-st.2.1).toNat) ⟨0,rfl,Nat.zero_le _,H4⟩ ?_;rintro⟨s5,k',u⟩ _ w6 ⟨k,hk,a9,H6⟩;dsimp only at hk H6⊢;subst hk;refine AE (λbA=> ?_) λa8=> ?_
 .have aG:k<l.length:=by omega
  obtain⟨id,Kv⟩: ∃id,l[k]? =some id:=⟨_,List.getElem?_eq_getElem aG⟩;obtain⟨x,O⟩: ∃x,W.S.sp id=some x:=Option.ne_none_iff_exists'.1 ((J id).1 (List.mem_of_getElem? Kv));have Bl:=(hI.sp id x O).1;have bC:=Bl.size;have ei:i64 ((k:Int)+1)=((k+1:Nat):Int):=by rw[AI];rfl
  have aN:l.take (k+1)=l.take k++[id]:=by rw[List.take_add_one,Kv];rfl
  refine(H6.front 3 rfl:Sat (Row E.Ar 1 s (ints .i64 l)::_) w6).O6 (j:=k) (v:=.int .i64 id) (by rw[ints,List.getElem?_map,Kv];rfl) λa ha hc=>⟨⟨by omega,by omega⟩,_,by rw[aD,Int.toNat_natCast,Nat.mul_one];exact hc,?_⟩;refine QR ((H6.front 1 rfl).BQ 1 rfl) hI (λhn=>by grind) λy hy w7 H7=> ?_;obtain rfl:y=x:=Option.some.inj (hy.symm.trans O);refine AR rfl ?_;have H8:Sat (Row E.AF 1 s5 (ints .u64 (((l.take k).flatMap (blOf W U)++partOf U id 0).map (Se W)))::Ou E A dead ma cy::AQ E A.b A.h A.s A.r W::Row E.Ar 1 s (ints .i64 l)::Z) w7:=by
   have:partOf U id 0=[]:=rfl;rw[this,List.append_nil];exact H7.front 2 rfl
  refine AM (λst w'=> ∃m:Nat,st.2.1=(m:Int)/\(m:Int)<=y.2.AO/\Sat (Row E.AF 1 st.1 (ints .u64 (((l.take k).flatMap (blOf W U)++partOf U id m).map (Se W)))::Ou E A dead ma cy::AQ E A.b A.h A.s A.r W::Row E.Ar 1 s (ints .i64 l)::Z) w') (λst _=>(y.2.AO-st.2.1).toNat) ⟨0,rfl,by omega,H8⟩ ?_;rintro⟨IS,m',u⟩ _ bE ⟨m,hm,bB,aC⟩;dsimp only at hm aC⊢;subst hm;have em:i64 ((m:Int)+1)=((m+1:Nat):Int):=by rw[AI];rfl
  refine JW (aC.front 2 rfl) O λbF T=> ?_;refine AE (λY=> ?_) λY=> ?_
  .refine TO T hI O Y ?_;have e:partOf U id (m+1)=if U id m=true then partOf U id m++[(id,m)]else partOf U id m:=by
    unfold partOf;rw[List.range_succ,List.filter_append,List.map_append,List.filter_cons]
    grind
   have aI:=sub k (m+1) Kv O (by omega);refine AX (λhu=> ?_) λhu=> ?_
   .rw[if_pos hu]at e;refine Kr T hI O (by omega) Y λbG aK=> ?_;refine AJ (vs:=[.int .u64 (y.2.base+(m:Int)*y.2.elem)]) aK λa3 aS aE _=> ?_;have aH:=(aE.front 2 rfl:Sat (Row E.AF 1 IS _::_) aS).CK;rw[ints,List.length_map,List.length_map,Nat.mul_one]at aH;rw[e,<-List.append_assoc,List.length_append,aH,List.length_singleton]at aI;refine GH (news:=[.int .u64 (y.2.base+(m:Int)*y.2.elem)]) (aE.BQ 1 rfl) rfl rfl (by simp[Value.oneCell']) (by omega) (by omega) λpV aT aL _=> ?_;rw[em];refine⟨⟨m+1,rfl,by omega,?_⟩,by omega⟩;rw[e,<-List.append_assoc,List.map_append,ints,List.map_append];have aM:Se W (id,m)=y.2.base+(m:Int)*y.2.elem:=by unfold Se;rw[O]
    show Sat (Row E.AF 1 pV (_++[.int .u64 (Se W (id,m))])::_) aT;rw[aM];exact aL.BQ 1 rfl
   .have hu: ¬U id m=true:=by grind
    rw[if_neg hu]at e;rw[em];refine⟨⟨m+1,rfl,by omega,?_⟩,by omega⟩;rw[e];exact(T.front 1 rfl).BQ 1 rfl
  .obtain rfl:m=y.2.AO.toNat:=by omega
   rw[ei];refine⟨⟨k+1,rfl,by omega,?_⟩,by omega⟩;rw[aN,List.flatMap_append,List.flatMap_cons,List.flatMap_nil,List.append_nil];have:blOf W U id=partOf U id y.2.AO.toNat:=by unfold blOf partOf;rw[O]
   rw[this];exact(T.front 1 rfl).BQ 1 rfl
 .obtain rfl:k=l.length:=by omega
  rw[List.take_length]at H6;refine hK s5 _ w6 (Sf aA) (λp=> ?_) ((H6.front 3 rfl).tail);constructor
  .intro hp;obtain⟨j,_,hb⟩:=List.mem_flatMap.1 hp;obtain⟨rfl,x,h1,h2,h3⟩:=O3.1 hb
   grind
  .rintro⟨x,h1,h2,h3⟩;exact List.mem_flatMap.2 ⟨p.1,(J _).2 (by grind),O3.2 ⟨rfl,x,h1,h2,h3⟩⟩
end
theorem z5(v:Value)(n:Nat):LJ #[v] n=⟨List.replicate n v⟩:=by
 unfold LJ
 grind
section
variable{E:Env}{w:World}{Z:List Pr}
theorem WU(H:Sat Z w){h:Nat}{K:Option Addr->World->Prop}(Y: ∀sk w',Sat (Ov E sk h::Z) w'->K (sM sk) w'):F.PH E (sM h) K w:=by
 unfold F.PH;refine OK H .i64 λb1 w2 v _=>AJ (vs:=pv h::(List.replicate 256 (.slice none 0 0)++[.map none,.map none,.map none,.map none,.map (some b1)])) v λj w4 J _=> ?_;refine AM (λst w'=> ∃(i:Nat) (vs:List Value),st.1=(i:Int)/\i<=4/\vs.length=261/\Sat (Cells j E.Jc (pv h::vs)::Z) w') (λst _=>(4-st.1).toNat) ⟨0,_,rfl,by decide,by simp,(J.front 1 rfl).tail⟩ ?_;rintro⟨i',u⟩ _ w6 ⟨i,vs,hi,aB,hl,e⟩;dsimp only at hi⊢;subst hi;refine AE (λaC=> ?_) λaA=>Y j w6 (Sat.ex.2 ⟨vs,e⟩);refine OK e .i64 λT w9 O _=>⟨⟨by omega,by omega⟩,?_⟩;rw[Int.toNat_natCast,Nat.mul_one,add_add,AI (n:=(i:Int)+1)];refine Af (O.front 1 rfl) (o:=0) (m:=257+i) rfl (by grind) λaD a=>⟨⟨i+1,vs.set (256+i) (.map (some T)),rfl,by omega,?_,?_⟩,by omega⟩
 .grind
 .have:=(a.front 1 rfl).tail
  grind
theorem QU(H:Sat Z w){K:Option Nat->World->Prop}(hK: ∀q w',Sat (Rb E q::Z) w'->K (some q) w'):F.PJ E K w:=by
 unfold F.PJ;refine OK H .i64 λb1 w2 H2 _=> ?_;refine FP H2 λw3 j=>FP j λw4 u=>FP u λw5 v=>FP v λw6 J=>FP J λw7 O=>FP O λw8 T=>FP T λw9 Y=>FP Y λe a=> ?_;refine FP a λw3 j=>FP j λw4 u=>FP u λw5 v=>FP v λw6 J=>FP J λw7 O=>FP O λw8 T=>FP T λw9 Y=>FP Y λe a=> ?_;refine hK b1 e (Sat.ex.2 ⟨_,Sat.where.2 ⟨?_,a⟩⟩);intro p hp;simp only[Jq,List.mem_cons,List.not_mem_nil,or_false]at hp;rcases hp with rfl|rfl|rfl|rfl|rfl|rfl|rfl|rfl|rfl|rfl|rfl|rfl<;>rfl
end
def Rp(E:Env)(A:vE)(C:List (Nat×KS))(W:SW):List Pr:=[Ou E A false 0 0,gX E A.cb A.cs C,Ex λa=>CM A.d .i64 a,Iz E A.mq,Cells A.cb E.A5 [pv A.b],AQ E A.b A.h A.s A.r W]
def uU(C:List (Nat×KS)):Prop:= ∀(i:Nat) c,C[i]? =some c->c.2=⟨(i:Int),λ_=>0,0,0⟩
section
variable{E:Env}{w:World}{Z:List Pr}
theorem Vx(H:Sat Z w){a0 a1 a2:AY}{rf:List Bool}
  (h0: ∀w',Sat Z w'->rowAt w' a0.base a0.len [])(l0:0=a0.len)
  (h1: ∀w',Sat Z w'->rowAt w' a1.base a1.len (Hu rf))(l1:rf.length=a1.len)(k1:a1.len<=1099511627776)
  (h2: ∀w',Sat Z w'->rowAt w' a2.base a2.len [])(l2:0=a2.len){ps:Nat}(p0:1<=ps)(p1:ps<=64){K:Option Addr->Int->World->Prop}
  (hK: ∀A C w',C.length=ps->uU C->Sat (Rp E A C (SW.new (HS.new (Kq [] rf [])))++Ov E A.sk A.h::Z) w'->K (sM A.m) 0 w'):F.IC E a0 a1 a2 (ps:Int) 100 K w:=by
 unfold F.IC T0.IC;refine AJ (vs:=[FI a0,FI a1,FI a2]) H λb1 w2 H2 _=> ?_;refine Ad (AR (decide_eq_false (by omega)) λjj=>AR (decide_eq_false (by omega)) ?_);refine⟨a0,H2.cell (o:=0) (m:=0) rfl,a1,H2.cell (o:=0) (m:=1) rfl,a2,H2.cell (o:=0) (m:=2) rfl,?_⟩;refine mN (pl:=[]) (rf:=rf) (fl:=[]) H2.tail (by simp) h0 l0 (by omega) h1 l1 k1 h2 l2 (by omega) λv w3 H3=> ?_;refine nA H3 λh w4 H4=>gA H4 λs w5 H5=>aQ H5 λr w6 H6=>OK H6 .i64 λd w7 H7 _=>Yb H7 λmq w8 H8=> ?_;refine AJ (vs:=[pv h,pv s,pv r,.pointer none,.slice none 0 0,.pointer none,.map (some d),pv mq,.int .i64 100,.bool false,.int .u64 0,.int .u64 0]) H8 λm w9 H9 _=> ?_;have Hd:=H9.drew;refine⟨_,Hd.AW (o:=0) rfl,_,Hd.cell (o:=0) (m:=1) rfl,_,Hd.cell (o:=0) (m:=2) rfl,?_⟩;have aE:Sat (Ix E r []::F8 E s []::Ax E h (HS.new (Kq [] rf []))::Cells m E.Cn [pv h,pv s,pv r,.pointer none,.slice none 0 0,.pointer none,.map (some d),pv mq,.int .i64 100,.bool false,.int .u64 0,.int .u64 0]::Iz E mq::CM d .i64 (λ_=>none)::Z) w9.drew:=
  ((Hd.front 3 rfl).BQ 3 rfl).Md 3 rfl
 refine gJ aE λb bC aF=> ?_;refine Af (aF.front 1 rfl) (o:=0) (m:=3) rfl (by simp) λbD J=>⟨_,J.AW (o:=0) rfl,?_⟩;refine WU J λsk bE a=> ?_;have a:=a.perm (List.perm_middle (l₁:=[_,_,_,_]) (l₂:=Z)).symm;refine Af a (o:=0) (m:=5) rfl (by simp) λbF O=>⟨_,O.cell (o:=0) (m:=3) rfl,?_⟩;refine gO (O.front 1 rfl) λcb aM aG=> ?_;have aH:Sat (Cells m E.Cn (K7 ⟨m,h,s,r,b,cb,sk,d,mq,⟨none,0,0⟩,λ_=>0⟩ false 0 0)::gX E cb ⟨none,0,0⟩ []::FO E cb b h s r (SW.new (HS.new (Kq [] rf [])))::Iz E mq::CM d .i64 (λ_=>none)::Ov E sk h::Z) aM:=
  ((aG.front 1 rfl).tX E.Gn (λc C=>Ej E c cb C)).front 1 rfl
 refine AM (λst w'=> ∃(k:Nat) (C:List (Nat×KS)) (cs:AY),st.1=(k:Int)/\k<=ps/\C.length=k/\uU C/\Sat (Cells m E.Cn (K7 ⟨m,h,s,r,b,cb,sk,d,mq,cs,λ_=>0⟩ false 0 0)::gX E cb cs C::FO E cb b h s r (SW.new (HS.new (Kq [] rf [])))::Iz E mq::CM d .i64 (λ_=>none)::Ov E sk h::Z) w') (λst _=>((ps:Int)-st.1).toNat)
  ⟨0,[],⟨none,0,0⟩,rfl,Nat.zero_le _,rfl,λi c hc=>by simp_all,aH⟩ ?_
 rintro⟨k',u⟩ _ j ⟨k,C,cs,hk,a9,aL,hC,T⟩;dsimp only at hk⊢;subst hk;refine AE (λbA=> ?_) λa8=> ?_
 .have e:=T.drew;have a7:=(e.front 1 rfl:Sat (gX E cb cs C::_) _).Jp;refine⟨cs,e.cell (o:=0) (m:=4) rfl,gT e λc aN Y=>⟨(Y.front 1 rfl:Sat (Cells m E.Cn _::_) aN).cell (o:=0) (m:=4) rfl,?_⟩⟩;refine AJ (vs:=[pv c]) Y λaY aO aA _=>⟨(aA.front 2 rfl:Sat (Cells m E.Cn _::_) aO).cell (o:=0) (m:=4) rfl,?_⟩;refine gW (R:=λc C=>Ej E c cb C) (y:=⟨(k:Int),λ_=>0,0,0⟩) (aA.Md 1 rfl) rfl (by omega) λwI bG aI=> ?_;refine Af (aI.front 1 rfl) (o:=0) (m:=4) (v:=.slice wI.base wI.len wI.cap) rfl (by simp[K7]) λbH aJ=> ?_;rw[show i64 ((k:Int)+1)=((k+1:Nat):Int) by rw[AI];rfl];refine⟨⟨k+1,C++[(c,KS.mk (k:Int) (λ_=>0) 0 0)],wI,rfl,by omega,by grind,λi c' aB=> ?_,aJ⟩,by omega⟩;rcases Nat.lt_or_ge i k with g|g
  .rw[List.getElem?_append_left (by omega)]at aB;exact hC i c' aB
  grind
 .obtain rfl:k=ps:=by omega
  refine hK ⟨m,h,s,r,b,cb,sk,d,mq,cs,λ_=>0⟩ C j aL hC ?_;have h1:=(T.front 2 rfl).VZ;have h2:Sat (CM d .i64 (λ_=>none)::AQ E b h s r (SW.new (HS.new (Kq [] rf [])))::Cells cb E.A5 [pv b]::Cells m E.Cn (K7 ⟨m,h,s,r,b,cb,sk,d,mq,cs,λ_=>0⟩ false 0 0)::gX E cb cs C::Iz E mq::Ov E sk h::Z) j:=h1.front 5 rfl;have h3:Sat ((Ex λdd=>CM d .i64 dd)::AQ E b h s r (SW.new (HS.new (Kq [] rf [])))::Cells cb E.A5 [pv b]::Cells m E.Cn (K7 ⟨m,h,s,r,b,cb,sk,d,mq,cs,λ_=>0⟩ false 0 0)::gX E cb cs C::Iz E mq::Ov E sk h::Z) j:=Sat.ex.2 ⟨_,h2⟩;have h4:=((h3.front 3 rfl).BQ 3 rfl).Md 0 rfl;exact h4.perm (.cons _ (.cons _ (.cons _ (((List.Perm.swap _ _ _).cons _).trans ((List.Perm.swap _ _ _))|>.trans ((List.Perm.swap _ _ _).cons _)))))
end
def tk0(n:Int):Tk:=⟨n,0,0,0,0,false,false,0,0⟩
structure XR(S:B4)(ps:Nat)(rf:List Bool):Prop where
 tl:S.T.length=ps+2
 t: ∀(i:Nat) x,S.T[i]? =some x->x.2=tk0 (i:Int)
 q:S.Q=List.replicate ps (⟨none,0,0⟩,[])
 l:S.L=[]
 or:S.ord=[]
 ho:S.ho= -1
 wo:S.wo= -1
 w:S.W=SW.new (HS.new (Kq [] rf []))
 cl:S.C.length=ps
 c:uU S.C
 ma:S.ma=0
 cy:S.cy=0
 on:S.o0=false/\S.o1=false
 pc:S.pc≠none
section
variable{E:Env}{w:World}{Z:List Pr}
theorem bX(t:Nat): ∀(n:Nat) {Y:List Pr},Sat Y w->Sat (Aj (λx:AY×List Int=>Nt t x.1 (ints .i64 x.2)) (List.replicate n (⟨none,0,0⟩,[]))::Y) w
 | 0,_,H=>H.NI _
 | n+1,_,H=>by
  rw[List.replicate_succ];exact Sat.Iq.2 ((bX t n H).zO t)
theorem TU(H:Sat Z w){a0 a1 a2:AY}{rf:List Bool}
  (h0: ∀w',Sat Z w'->rowAt w' a0.base a0.len [])(l0:0=a0.len)
  (h1: ∀w',Sat Z w'->rowAt w' a1.base a1.len (Hu rf))(l1:rf.length=a1.len)(k1:a1.len<=1099511627776)
  (h2: ∀w',Sat Z w'->rowAt w' a2.base a2.len [])(l2:0=a2.len){ps:Nat}(p0:1<=ps)(p1:ps<=64){K:Option Addr->Int->World->Prop}
  (hK: ∀rb g S w',XR S ps rf->Sat (AA E rb g S++Z) w'->K (sM rb) 0 w'):F.K1 E a0 a1 a2 (ps:Int) 100 K w:=by
 unfold F.K1 T0.K1;refine AJ (vs:=[FI a0,FI a1,FI a2]) H λb1 w2 H2 _=> ?_;refine⟨a0,H2.cell (o:=0) (m:=0) rfl,a1,H2.cell (o:=0) (m:=1) rfl,a2,H2.cell (o:=0) (m:=2) rfl,?_⟩;refine Vx H2.tail h0 l0 h1 l1 k1 h2 l2 p0 p1 λA C w3 aL hC H3=>AR rfl ?_;have Hd:Sat (Rp E A C (SW.new (HS.new (Kq [] rf [])))++Ov E A.sk A.h::Z) w3.drew:=H3.drew;have mv: ∀{P:Pr} {w'},Sat (P::(Rp E A C (SW.new (HS.new (Kq [] rf [])))++Ov E A.sk A.h::Z)) w'->Sat (Rp E A C (SW.new (HS.new (Kq [] rf [])))++P::Ov E A.sk A.h::Z) w':=λh=>h.perm (List.perm_middle (l₁:=Rp E A C (SW.new (HS.new (Kq [] rf []))))).symm;refine AV (λs w'=> ∃rb pb j sm,s.1=some ⟨rb,0,none⟩/\Sat (Cells rb E.Ee [pv A.m,pv pb,.slice none 0 0,.slice (sM j) ps ps,.slice none 0 0,.slice none 0 0,.int .i64 (-1),.int .i64 (-1),.bool false,.bool false,.map (some sm)]::Rb E sm::Row E.I3 1 ⟨some ⟨j,0,none⟩,ps,ps⟩ (List.replicate ps (.slice none 0 0))::(Rp E A C (SW.new (HS.new (Kq [] rf [])))++Cells pb E.El [pv A.h,.int .u64 4607632778762754458]::Ov E A.sk A.h::Z)) w') ?_ ?_
 .refine AG ⟨_,Hd.AW (o:=0) rfl,?_⟩;rw[Int.toNat_natCast,Nat.mul_one,z5];have J:(0:Int)<=(ps:Int)/\(ps:Int)<=(ps:Int)/\(ps:Int)<9223372036854775808/\((24:Nat):Int)*(ps:Int)<=140737488355328:=⟨by omega,by omega,by omega,by omega⟩;unfold F.Ui;refine⟨?_,J,?_⟩
  .refine AJ (vs:=[pv A.h,.int .u64 4607632778762754458]) Hd λpb w4 Y _=>⟨⟨J,?_⟩,?_⟩
   .refine NJ (n:=ps) (z:=1) (vs:=List.replicate ps (.slice none 0 0)) (mv Y) (by grind) (by omega) λj w5 H5=>QU H5 λsm w6 H6=> ?_;refine AJ (vs:=[pv A.m,pv pb,.slice none 0 0,.slice (sM j) ps ps,.slice none 0 0,.slice none 0 0,.int .i64 (-1),.int .i64 (-1),.bool false,.bool false,.map (some sm)]) H6 λrb w7 H7 _=>⟨rb,_,j,sm,rfl,H7⟩
   .refine QU (mv Y) λsm w5 H5=>⟨J,?_⟩;refine NJ (n:=ps) (z:=1) (vs:=List.replicate ps (.slice none 0 0)) H5 (by grind) (by omega) λj w6 H6=> ?_;refine AJ (vs:=[pv A.m,pv pb,.slice none 0 0,.slice (sM j) ps ps,.slice none 0 0,.slice none 0 0,.int .i64 (-1),.int .i64 (-1),.bool false,.bool false,.map (some sm)]) H6 λrb w7 H7 _=>⟨rb,_,j,sm,rfl,H7.BQ 1 rfl⟩
  .refine NJ (n:=ps) (z:=1) (vs:=List.replicate ps (.slice none 0 0)) Hd (by grind) (by omega) λj w4 Y=>⟨(Y.front 1 rfl:Sat (Ou E A false 0 0::_) w4).AW (o:=0) rfl,?_⟩;refine AJ (vs:=[pv A.h,.int .u64 4607632778762754458]) Y λpb w5 H5 _=>QU (H5.perm (List.perm_middle (l₁:=Row E.I3 1 ⟨some ⟨j,0,none⟩,ps,ps⟩ (List.replicate ps (.slice none 0 0))::Rp E A C (SW.new (HS.new (Kq [] rf []))))).symm) λsm w6 H6=> ?_;refine AJ (vs:=[pv A.m,pv pb,.slice none 0 0,.slice (sM j) ps ps,.slice none 0 0,.slice none 0 0,.int .i64 (-1),.int .i64 (-1),.bool false,.bool false,.map (some sm)]) H6 λrb w7 H7 _=>⟨rb,_,j,sm,rfl,H7⟩
 .rintro⟨_,u⟩ _ w8 ⟨rb,pb,j,sm,rfl,H8⟩;have H9:=((H8.tX E.CR (λb t=>Whole b E.LR (MN t))).front 1 rfl);have e2:i64 ((ps:Int)+2)=((ps+2:Nat):Int):=by rw[AI];rfl
  rw[e2];refine AM (λst w'=> ∃(k:Nat) (T:List (Nat×Tk)) (ts:AY),st.1=(k:Int)/\k<=ps+2/\T.length=k/\(∀(i:Nat) x,T[i]? =some x->x.2=tk0 (i:Int))/\Sat (Cells rb E.Ee [pv A.m,pv pb,FI ts,.slice (sM j) ps ps,.slice none 0 0,.slice none 0 0,.int .i64 (-1),.int .i64 (-1),.bool false,.bool false,.map (some sm)]::TkL E ts T::Rb E sm::Row E.I3 1 ⟨some ⟨j,0,none⟩,ps,ps⟩ (List.replicate ps (.slice none 0 0))::(Rp E A C (SW.new (HS.new (Kq [] rf [])))++Cells pb E.El [pv A.h,.int .u64 4607632778762754458]::Ov E A.sk A.h::Z)) w') (λst _=>(((ps+2:Nat):Int)-st.1).toNat)
   ⟨0,[],⟨none,0,0⟩,rfl,Nat.zero_le _,rfl,λi c hc=>by simp_all,H9⟩ ?_
  rintro⟨k',u⟩ _ aD ⟨k,T,ts,hk,a9,aM,hT,O⟩;dsimp only at hk⊢;subst hk;refine AE (λbA=> ?_) λa8=> ?_
  .have bC:=(O.front 1 rfl:Sat (TkL E ts T::_) _).Jp;refine AG ⟨ts,O.cell (o:=0) (m:=2) rfl,?_⟩;refine tV (vs:=MN (tk0 (k:Int))) O λtb bE aF=>AJ (vs:=[pv tb]) aF λaW bF aG _=> ?_;refine gW (R:=λb t=>Whole b E.LR (MN t)) (y:=tk0 (k:Int)) (aG.Md 1 rfl) rfl (by omega) λIS bG aH=>AG ?_;refine Af (aH.front 1 rfl) (o:=0) (m:=2) (v:=.slice IS.base IS.len IS.cap) rfl (by simp) λbH aI=> ?_;rw[show i64 ((k:Int)+1)=((k+1:Nat):Int) by rw[AI];rfl];refine⟨⟨k+1,T++[(tb,tk0 (k:Int))],IS,rfl,by omega,by grind,λi c' a7=> ?_,aI⟩,by omega⟩
   grind
  .obtain rfl:k=ps+2:=by omega
   have hq:Sat (QL E ⟨some ⟨j,0,none⟩,ps,ps⟩ (List.replicate ps (⟨none,0,0⟩,[]))::Cells rb E.Ee [pv A.m,pv pb,FI ts,.slice (sM j) ps ps,.slice none 0 0,.slice none 0 0,.int .i64 (-1),.int .i64 (-1),.bool false,.bool false,.map (some sm)]::TkL E ts T::Rb E sm::(Rp E A C (SW.new (HS.new (Kq [] rf [])))++Cells pb E.El [pv A.h,.int .u64 4607632778762754458]::Ov E A.sk A.h::Z)) aD:=by
    refine Sat.star.2 ?_;have h1:=bX E.Ar ps O;have e:(List.replicate ps ((⟨none,0,0⟩,[]):AY×List Int)).map (λx=>FI x.1)=List.replicate ps (.slice none 0 0):=by rw[List.map_replicate];rfl
    rw[e];exact(h1.front 4 rfl)
   have h2:=(hq.tX E.LS (λb a=>Cells b E.Mo (Nb a))).nil E.Ar 1;have h3:=((h2.front 3 rfl).BQ 3 rfl).Md 2 rfl;have h4:=h3.perm (.cons _ (.cons _ (.cons _ (.swap _ _ _))));have h5:=((h4.front 5 rfl).BQ 11 rfl).Md 11 rfl;have h6:=(Sat.star (Qs:=[_,_])).2 (h5.perm ((List.Perm.swap _ _ _).trans ((List.Perm.swap _ _ _).cons _)));have h7:=Sat.where.2 ⟨show(⟨A,some ⟨pb,0,none⟩,sm,ts,⟨some ⟨j,0,none⟩,ps,ps⟩,⟨none,0,0⟩,⟨none,0,0⟩⟩:Nu).pa=some ⟨pb,0,none⟩from rfl,h6⟩;have h8:=(Sat.star (Qs:=[_,_])).2 (h7.perm (.swap _ _ _));exact hK rb ⟨A,some ⟨pb,0,none⟩,sm,ts,⟨some ⟨j,0,none⟩,ps,ps⟩,⟨none,0,0⟩,⟨none,0,0⟩⟩ ⟨T,List.replicate ps (⟨none,0,0⟩,[]),[],[],-1,-1,SW.new (HS.new (Kq [] rf [])),C,0,0,false,false,some pb⟩ aD ⟨aM,hT,rfl,rfl,rfl,rfl,rfl,rfl,aL,hC,rfl,rfl,⟨rfl,rfl⟩,nofun⟩ (h8.perm (List.perm_middle (l₁:=[_,_,_,_,_])).symm)
theorem XR.tp{S:B4}{ps:Nat}{rf:List Bool}(h:XR S ps rf):Kh S.W S.C (λ_=>D8) (λ_=>D8) 0 [] []:=by
 rw[h.w];refine⟨Ae.new [] rf [],⟨λx a=>(by cases a),λx a=>(by cases a),rfl,Int.le_refl _,⟨Int.le_refl _,by show(0:Int)<_;decide⟩⟩,λx a=>(by cases a),⟨512,F7.new [],by decide⟩,Nat.le_refl _,λi c u k np=> ?_,λi j c d u hd _ k np g=> ?_,List.nodup_nil,λid x m a=>(by cases a),λp e=>(by cases e),λp e=>e,λp e=>(by cases e)⟩
 .have:=h.c i c u;refine .inl ?_;rw[this];unfold KS.held
  grind
 .have:=h.c i c u;rw[this]at g;unfold KS.held at g
  grind
end
section
variable{E:Env}{w:World}{Rs Z:List Pr}
theorem WV(H:Sat Rs w){a0 a1 a2:AY}{pl:List Int}{rf:List Bool}{fl:List Int}
  (h0: ∀w',Sat Rs w'->rowAt w' a0.base a0.len (ints .u64 pl))(l0:pl.length=a0.len)(k0:a0.len<=1099511627776)
  (h1: ∀w',Sat Rs w'->rowAt w' a1.base a1.len (Hu rf))(l1:rf.length=a1.len)(k1:a1.len<=1099511627776)
  (h2: ∀w',Sat Rs w'->rowAt w' a2.base a2.len (ints .u64 fl))(l2:fl.length=a2.len)(k2:a2.len<=1099511627776)
  {K:AY->AY->AY->World->Prop}(hK: ∀s0 s1 s2 w',Sat (Row E.AF 1 s0 (ints .u64 pl)::Row E.Be 1 s1 (Hu rf)::Row E.AF 1 s2 (ints .u64 fl)::Rs) w'->K s0 s1 s2 w'):F.I4 E a0 a1 a2 K w:=by
 unfold F.I4;have j:(ints IntKind.u64 pl).length=a0.len:=by rw[ints,List.length_map];exact l0
 have J:(Hu rf).length=a1.len:=by rw[Hu,List.length_map];exact l1
 have u:(ints IntKind.u64 fl).length=a2.len:=by rw[ints,List.length_map];exact l2
 refine AJ (vs:=[FI a0,FI a1,FI a2]) H λb1 w2 O _=> ?_;refine AJ (vs:=[.slice none 0 0,.slice none 0 0,.slice none 0 0]) O λb3 w4 T _=> ?_;have v:Sat (Cells b1 E.Ek [FI a0,FI a1,FI a2]::dD::dD::dD::Cells b3 E.Ek [.slice none 0 0,.slice none 0 0,.slice none 0 0]::Rs) w4.drew:=(T.drew.emp.emp.emp).front 4 rfl;clear O T;have t4: ∀{P0 P1 P2 P3:Pr} {w'},Sat (P0::P1::P2::P3::Rs) w'->Sat Rs w':=λh=>h.tail.tail.tail.tail;refine⟨a0,v.AW rfl,a1,v.cell rfl,a2,v.cell rfl,?_⟩
 repeat' first
  | (exact Sat.cell (by assumption) (by rfl))
  | (exact Sat.AW (by assumption) (by rfl))
  | (refine My 1 (a:=a0) (vs:=ints .u64 pl) (by assumption) (by rfl) rfl (by grind) j k0 (by decide) (RS _ _) λs' w' e=> ?_)
  | (refine My 1 (a:=a2) (vs:=ints .u64 fl) (by assumption) (by rfl) rfl (by grind) u k2 (by decide) (RS _ _) λs' w' e=> ?_)
  | (refine My 2 (a:=a1) (vs:=Hu rf) (by assumption) (by rfl) rfl (by grind) J k1 (by decide) (nF _) λs' w' e=> ?_)
  | (refine My 3 (a:=a0) (vs:=ints .u64 pl) (by assumption) (by rfl) rfl (by intro w' h;exact h0 w' (t4 h)) j k0 (by decide) (RS _ _) λs' w' e=> ?_)
  | (refine My 3 (a:=a2) (vs:=ints .u64 fl) (by assumption) (by rfl) rfl (by intro w' h;exact h2 w' (t4 h)) u k2 (by decide) (RS _ _) λs' w' e=> ?_)
  | (refine VJ 2 (t:=E.Be) (by assumption) (by rfl) λY w' e=> ?_)
  | (refine VJ 1 (t:=E.AF) (by assumption) (by rfl) λY w' e=> ?_)
  | (refine VJ 3 (t:=E.AF) (by assumption) (by rfl) λY w' e=> ?_)
  | (exact VK hK (by assumption))
  | (exact VK hK (Sat.perm (by assumption) (.cons _ (((List.Perm.swap _ _ _).trans (.cons _ (.swap _ _ _))).trans (.swap _ _ _)))))
  | (refine And.intro ?_ ?_)
end
theorem SZ.reset{o:Option Nat}{ps G0:Nat}{S:HS}(h:SZ o ps S G0)(e: ∀id,S.sp id=none){G:Nat}(a:G<=20):SZ o ps S G:=by
 cases o with
 | none=>trivial
 | some n=>exact⟨h.1,h.2.1,h.2.2.1,[],λid x j=>(by grind),by grind⟩
structure XS(o:Option Nat)(k0:Int)(P n:Nat)(S:B4)(U:Aq):Prop where
 id:IdR P S
 ma:MA S.W S.C U n [] k0 S.ma
 sp: ∀id,S.W.S.sp id=none
 ar: ∀G,G<=20->SZ o P S.W.S G
 or:S.ord.length<=n
theorem XR.rest0{S:B4}{ps:Nat}(h:XR S ps [])(p1:ps<=64)(o:Option Nat)(ho: ∀n,o=some n->1<=n/\n<=10){k0:Int}(hk:0<k0/\k0<68)(a b:Bool):XS o k0 ps 0 {S with o0:=a,o1:=b} (λ_=>D8):=by
 have v:S.Q.length=ps:=by rw[h.q,List.length_replicate]
 have Y: ∀(j:Nat) z,S.Q[j]? =some z->z.2=[]:=λj z hz=>by
  rw[h.q,List.getElem?_replicate]at hz
  grind
 have aE: ∀i,pls {S with o0:=a,o1:=b} i=[]:=λi=>by
  unfold pls;cases e1:S.T[i]? with
  | none=>rfl
  | some x=>
   cases e2:S.Q[i]? with
   | none=>rfl
   | some q=>
    show(if x.2.step=0 then q.2 else x.2.ask::q.2)=[];rw[h.t i x e1,if_pos (by rfl)];grind
 have hh: ∀(j:Nat) d,S.C[j]? =some d-> ∀k np,d.2.held k np=0:=λj d hd k np=>by
  rw[h.c j d hd];unfold KS.held
  grind
 have aA: ∀id,S.W.S.sp id=none:=λid=>by rw[h.w];rfl
 refine⟨⟨⟨by show S.T.length=S.Q.length+2;rw[h.tl,v],λi x J=>by rw[h.t i x J];rfl,λj z hz a ha=>(by grind),by show S.T.length<_/\S.L.length<_;rw[h.tl,h.l];grind,λ_=>⟨h.pc,by show HInv S.W.S no;rw[h.w];exact HInv.Kq [] [] []⟩⟩,⟨λi=>by grind,λi a ha=>(by grind),λk y e=>by have e:S.L[k]? =some y:=e;rw[h.l]at e;simp_all⟩,v,h.cl,h.pc,h.wo,h.ho,λi x J=>by rw[h.t i x J];exact⟨rfl,rfl⟩,Y,λk y e=>by have e:S.L[k]? =some y:=e;rw[h.l]at e;simp_all⟩,?_,aA,λG hG=> ?_,by show S.ord.length<=0;rw[h.or];grind⟩
 .show MA S.W S.C _ 0 [] k0 S.ma;rw[h.ma];refine⟨?_,λi c K k np _=>hh i c K k np,λid x J=>(by grind),by rw[h.w];exact⟨rfl,rfl⟩,by rw[h.w];rfl,by rw[h.w];exact⟨Int.le_refl _,rfl,Int.le_refl _⟩,hk⟩;have hw:Kh S.W S.C (λ_=>D8) Gf 0 [] []:=h.tp;rw[h.w]at hw⊢;exact hw
 .cases o with
  | none=>trivial
  | some n=>
   refine⟨ho n rfl,λi _ p u=> ?_,λks _ O=> ?_,[],λid x J=> ?_,by grind⟩
   .have u:(S.W.S.ca i).own p=true:=u;rw[h.w]at u;rw[show((SW.new (HS.new (Kq [] [] []))).S.ca i).own p=CS.nil.own p from rfl,YA]at u;cases u
   .have:ks=[]:=List.eq_nil_iff_forall_not_mem.2 λc K=>by
     have h1:mem S.W.S.ks c:=O c K;rw[h.w]at h1;exact Bz c h1
    grind
   grind
structure WdG where
 zs:AY
 ks:AY
 es:AY
def LA(rb:Nat)(G:WdG):List Value:=[pv rb,.slice none 0 0,.slice none 0 0,FI G.zs,FI G.ks,.int .i64 0,.bool true,.int .i64 0,FI G.es]
def kV(E:Env)(wb rb:Nat)(G:WdG)(zs ks:List Int)(es:List Value):List Pr:=[Cells wb E.EI (LA rb G),Row E.AF 1 G.zs (ints .u64 zs),Row E.Ar 1 G.ks (ints .i64 ks),Row E.Db 1 G.es es]
def Yz(E:Env)(wb rb m:Nat):Pr:=Ex λG:WdG=>Ex λx:List Int×List Int×List Value=>Jt (x.1.length=m/\x.2.1.length=m/\x.2.2.length=m) (Kx (kV E wb rb G x.1 x.2.1 x.2.2))
section
variable{E:Env}{rb wb:Nat}{g:Nu}{S:B4}{Z:List Pr}{w:World}
theorem Sat.wd{m:Nat}:Sat (Yz E wb rb m::Z) w↔ ∃G zs ks es,(zs.length=m/\ks.length=m/\es.length=m)/\Sat (kV E wb rb G zs ks es++Z) w:=by
 unfold Yz;rw[Sat.ex];simp only[Sat.ex,Sat.where,Sat.star];simp
theorem Nf{m:Nat}(H:Sat (AA E rb g S++Yz E wb rb m::Z) w):w.cell? (Addr.mk wb 0 none)=some (pv rb):=by
 obtain⟨G,zs,ks,es,_,h⟩:=Sat.wd.1 (H.front 12 rfl:Sat (Yz E wb rb m::_) w);exact Sat.AW (F:=_) h rfl
theorem MR(H:Sat (AA E rb g S++Z) w)(hI:F5 S){op p n:Int}{i:Nat}(hp:p=(i:Int)){q:AY×List Int}(hq:S.Q[i]? =some q)(e:1<=op/\op<=9)(O:S.L.length<999999/\q.2.length<999999){K:Int->Int->World->Prop}
  (J: ∀a s' b w',F5 (S.asked i s' q.2 b (.new op p n ⟨none,0,0⟩))->Sat (AA E rb a (S.asked i s' q.2 b (.new op p n ⟨none,0,0⟩))++Z) w'->K (S.L.length:Int) 0 w'):F.Ev E (sM rb) op p n 0 0 0 false 0 ⟨none,0,0⟩ ⟨none,0,0⟩ K w:=by
 refine Vn H hI hp hq e O (λs'=>[Jt (s'=⟨none,0,0⟩) dD]) (λY w' K' h T=>WN (T ⟨none,0,0⟩ w' ?_)) λa s1 s' b v Bl u=> ?_
 .exact(Sat.where.2 ⟨rfl,h.emp⟩:Sat (Jt ((⟨none,0,0⟩:AY)=⟨none,0,0⟩) dD::(Y++Z)) w').perm (List.perm_middle (l₁:=Y)).symm
 .have j:s1=⟨none,0,0⟩:=(Sat.where.1 (u.front 12 rfl:Sat (Jt (s1=⟨none,0,0⟩) dD::_) v)).1;subst j;exact J a s' b v Bl (u.front 12 rfl).tail
theorem QV(H:Sat (AA E rb g S++Yz E wb rb S.L.length::Z) w)(hI:F5 S){op p n O:Int}{i:Nat}(hp:p=(i:Int)){q:AY×List Int}(hq:S.Q[i]? =some q)(aL:1<=op/\op<=9)(hf:S.L.length<500000/\q.2.length<999999){K:Bool->World->Prop}
  (hK: ∀j s' b w',F5 (S.asked i s' q.2 b (.new op p n ⟨none,0,0⟩))->Sat (AA E rb j (S.asked i s' q.2 b (.new op p n ⟨none,0,0⟩))++Yz E wb rb (S.asked i s' q.2 b (.new op p n ⟨none,0,0⟩)).L.length::Z) w'->K true w'):
  F.Ct E (sM wb) op p n 0 0 0 false 0 ⟨none,0,0⟩ ⟨none,0,0⟩ O K w:=by
 unfold F.Ct T0.Ct;have a0:=Nf H
 let cv:List Value:=[.int .i64 op,.int .i64 p,.int .u64 n,.int .u64 0,.int .i64 0,.int .u64 0,.bool false,.int .i64 0,.slice none 0 0,.slice none 0 0]
 refine AJ (vs:=cv) H λb1 w2 H2 _=> ?_;have a:Sat (Cells b1 E.BN cv::(AA E rb g S++Yz E wb rb S.L.length::Z)) w2.drew:=H2.drew;refine AG ⟨_,Nf a.tail,_,a.cell (o:=0) (m:=0) rfl,_,a.cell (o:=0) (m:=1) rfl,_,a.cell (o:=0) (m:=2) rfl,_,a.cell (o:=0) (m:=3) rfl,_,a.cell (o:=0) (m:=4) rfl,_,a.cell (o:=0) (m:=5) rfl,_,a.cell (o:=0) (m:=6) rfl,_,a.cell (o:=0) (m:=7) rfl,⟨none,0,0⟩,a.cell (o:=0) (m:=8) rfl,⟨none,0,0⟩,a.cell (o:=0) (m:=9) rfl,?_⟩;refine MR (E8 a) hI hp hq aL ⟨by omega,hf.2⟩ λj s' b w4 Bl H4=> ?_;have hk:=hK j s' b;have aK:(S.asked i s' q.2 b (.new op p n ⟨none,0,0⟩)).L.length=S.L.length+1:=by show(S.L++[_]).length=_;grind
 rw[aK]at hk;generalize S.asked i s' q.2 b (.new op p n ⟨none,0,0⟩)=S1 at H4 Bl hk;obtain⟨G,zs,ks,es,⟨l1,l2,l3⟩,e⟩:=Sat.wd.1 ((Vk H4).front 13 rfl:Sat (Yz E wb rb S.L.length::_) w4);have e:Sat (Cells wb E.EI (LA rb G)::Row E.AF 1 G.zs (ints .u64 zs)::Row E.Ar 1 G.ks (ints .i64 ks)::Row E.Db 1 G.es es::Cells b1 E.BN cv::(AA E rb j S1++Z)) w4:=e;have a1:zs.length=G.zs.len:=by
  have:=(e.front 1 rfl:Sat (Row E.AF 1 G.zs (ints .u64 zs)::_) w4).CK;rw[ints,List.length_map,Nat.mul_one]at this
  simp_all
 have aX:ks.length=G.ks.len:=by
  have:=(e.front 2 rfl:Sat (Row E.Ar 1 G.ks (ints .i64 ks)::_) w4).CK;rw[ints,List.length_map,Nat.mul_one]at this
  simp_all
 have aV:es.length=G.es.len:=by
  have:=(e.front 3 rfl:Sat (Row E.Db 1 G.es es::_) w4).CK;omega
 refine AR rfl (AG ⟨_,e.cell (o:=0) (m:=3) rfl,Gm (λc=>absurd (by omega) c) λ_=>AG ⟨_,e.cell (o:=0) (m:=3) rfl,?_⟩⟩);refine AJ (vs:=[.int .u64 O]) e λb6 w6 H6 _=>GH (news:=[.int .u64 O]) (H6.BQ 1 rfl) rfl rfl (by simp[Value.oneCell']) (by omega) (by omega) λs7 w7 H7 _=>AG ?_;refine Af (H7.front 1 rfl) (o:=0) (m:=3) (v:=.slice s7.base s7.len s7.cap) rfl (by simp[LA]) λw9 H9=>AG ?_;have u:Sat (Cells wb E.EI (LA rb ⟨s7,G.ks,G.es⟩)::Row E.AF 1 s7 (ints .u64 zs++[.int .u64 O])::Row E.Ar 1 G.ks (ints .i64 ks)::Row E.Db 1 G.es es::Cells b1 E.BN cv::(AA E rb j S1++Z)) w9.drew:=H9.drew;refine⟨_,u.cell (o:=0) (m:=4) rfl,_,(u.front 4 rfl).AW (o:=0) rfl,?_⟩;refine AJ (vs:=[.int .i64 op]) u λaS a2 Y _=>⟨(Y.front 1 rfl).cell (o:=0) (m:=4) rfl,GH (news:=[.int .i64 op]) (Y.BQ 2 rfl) rfl rfl (by simp[Value.oneCell']) (by grind) (by grind) λFj a3 aC _=>AG ?_⟩;refine Af (aC.front 1 rfl) (o:=0) (m:=4) (v:=.slice Fj.base Fj.len Fj.cap) rfl (by simp[LA]) λaM aD=>AG ?_;have J:Sat (Cells wb E.EI (LA rb ⟨s7,Fj,G.es⟩)::Row E.Ar 1 Fj (ints .i64 ks++[.int .i64 op])::Row E.AF 1 s7 (ints .u64 zs++[.int .u64 O])::Row E.Db 1 G.es es::Cells b1 E.BN cv::(AA E rb j S1++Z)) aM.drew:=aD.drew;refine⟨_,J.cell (o:=0) (m:=8) rfl,⟨none,0,0⟩,(J.front 4 rfl).cell (o:=0) (m:=9) rfl,?_⟩;refine AJ (vs:=[.slice none 0 0]) J λaT a4 aA _=>⟨(aA.front 1 rfl).cell (o:=0) (m:=8) rfl,GH (news:=[.slice none 0 0]) (aA.BQ 3 rfl) rfl rfl (by simp[Value.oneCell']) (by grind) (by grind) λUl a5 aE _=>AG ?_⟩;refine Af (aE.front 1 rfl) (o:=0) (m:=8) (v:=.slice Ul.base Ul.len Ul.cap) rfl (by simp[LA]) λT aF=>hk T Bl ?_;have aG:Sat (Cells wb E.EI (LA rb ⟨s7,Fj,Ul⟩)::Row E.Db 1 Ul (es++[.slice none 0 0])::Row E.Ar 1 Fj (ints .i64 ks++[.int .i64 op])::Row E.AF 1 s7 (ints .u64 zs++[.int .u64 O])::Cells b1 E.BN cv::(AA E rb j S1++Z)) T:=aF;have aH:=((aG.BQ 2 rfl).Md 1 rfl);have aI:Sat (kV E wb rb ⟨s7,Fj,Ul⟩ (zs++[O]) (ks++[op]) (es++[.slice none 0 0])++(AA E rb j S1++Z)) T:=by
  unfold kV;rw[ints,List.map_append,ints,List.map_append];exact((aH.front 4 rfl).tail)
 exact E8 (Sat.wd.2 ⟨_,_,_,_,⟨by grind,by grind,by grind⟩,aI⟩)
theorem iL(H:Sat Z w){ps:Nat}(p0:1<=ps)(p1:ps<=64){back:Int}{K:Option Addr->World->Prop}
  (hK: ∀wb rb g S a b w',XR S ps []->Sat (AA E rb g {S with o0:=a,o1:=b}++Yz E wb rb 0::Z) w'->K (sM wb) w'):F.EO E ⟨none,0,0⟩ ⟨none,0,0⟩ ⟨none,0,0⟩ (ps:Int) 100 back K w:=by
 unfold F.EO T0.EO;refine AJ (vs:=[.slice none 0 0,.slice none 0 0,.slice none 0 0]) H λb1 w2 e _=>⟨⟨none,0,0⟩,e.cell (o:=0) (m:=0) rfl,⟨none,0,0⟩,e.cell (o:=0) (m:=1) rfl,⟨none,0,0⟩,e.cell (o:=0) (m:=2) rfl,?_⟩;have hz: ∀(Z:List Pr) (w':World),Sat Z w'->rowAt w' (⟨none,0,0⟩:AY).base (⟨none,0,0⟩:AY).len []:=λ_ _ _=>show([]:List Value)=[]from rfl
 refine WV (a0:=⟨none,0,0⟩) (a1:=⟨none,0,0⟩) (a2:=⟨none,0,0⟩) (pl:=[]) (rf:=[]) (fl:=[]) e.tail (hz _) rfl (by decide) (hz _) rfl (by decide) (hz _) rfl (by decide) λs0 s1 s2 w3 j=> ?_;have e0:0=s0.len:=by have:=(j.front 0 rfl).CK;simpa[ints]using this
 have e1:([]:List Bool).length=s1.len:=by have:=(j.front 1 rfl).CK;rw[Hu,List.length_map]at this;omega
 have e2:0=s2.len:=by have:=(j.front 2 rfl).CK;simpa[ints]using this
 refine TU j (λw' h=>by simpa[ints]using(h.front 0 rfl).LP) e0 (λw' h=>by simpa using(h.front 1 rfl).LP) e1 (by grind) (λw' h=>by simpa[ints]using(h.front 2 rfl).LP) e2 p0 p1 λrb g S w4 hN T=> ?_;refine Ad (AR rfl λjj=>AR rfl ?_);unfold F.JD;refine AG ?_;generalize (((EA .i64 0 back 1):Int)==1)=a;generalize (((EA .i64 0 back 2):Int)==2)=b;have u:Sat (Cells rb E.Ee (Ib g S.ho S.wo S.o0 S.o1)::(AA E rb g S++(Row E.AF 1 s0 (ints .u64 [])::Row E.Be 1 s1 (Hu [])::Row E.AF 1 s2 (ints .u64 [])::Z)).eraseIdx 0) w4:=T;refine Qt [.bool a,.bool b] 8 0 u (by simp[Ib]) (by intro v O;simp at O;rcases O with rfl|rfl<;>rfl) λJ Y=> ?_;have H6:Sat (AA E rb g {S with o0:=a,o1:=b}++(Row E.AF 1 s0 (ints .u64 [])::Row E.Be 1 s1 (Hu [])::Row E.AF 1 s2 (ints .u64 [])::Z)) J:=Y;have H7:Sat (AA E rb g {S with o0:=a,o1:=b}++Z) J:=((((H6.front 12 rfl).tail.front 12 rfl).tail.front 12 rfl).tail:Sat _ J);refine AJ (vs:=LA rb ⟨⟨none,0,0⟩,⟨none,0,0⟩,⟨none,0,0⟩⟩) H7 λwb w8 H8 _=>hK wb rb g S a b w8 hN (E8 (Sat.wd.2 ⟨⟨⟨none,0,0⟩,⟨none,0,0⟩,⟨none,0,0⟩⟩,[],[],[],⟨rfl,rfl,rfl⟩,?_⟩));exact((((H8.nil E.Db 1).nil E.Ar 1).nil E.AF 1).front 3 rfl)
theorem KP(hH:QI E){U M:Aq}(H:Sat (AA E rb g S++Z) w)(hI:Ae S.W U M){B:List Bk}(aE:(B.map keyOf).Nodup)(T: ∀id x (m:Nat),S.W.S.sp id=some x->(m:Int)<x.2.AO->(U id m=true↔(id,m)∈B.map keyOf))
  (Y: ∀p∈B,∃x,S.W.S.sp p.id=some x/\(p.m:Int)<x.2.AO/\p.a=x.2.base+p.m*x.2.elem/\p.z=x.2.elem)(hB:B.length<=1000000){K:AY->World->Prop}
  (hK: ∀s w',s.len=B.length->(∀p,B=[p]-> ∃a,s.base=some a/\w'.cell? (a.add 0)=some (.int .u64 p.a))->Sat (AA E rb g S++Z) w'->K s w'):F.BM E (sM g.a.m) K w:=by
 have used: ∀p:Int×Nat,(∃x,S.W.S.sp p.1=some x/\(p.2:Int)<x.2.AO/\U p.1 p.2=true)↔p∈B.map keyOf:=λp=>by
  constructor
  .rintro⟨x,h1,h2,h3⟩;exact(T p.1 x p.2 h1 h2).1 h3
  .intro J;obtain⟨q,hq,e⟩:=List.mem_map.1 J;obtain⟨x,h1,h2,_⟩:=Y q hq;obtain rfl:keyOf q=p:=e;exact⟨x,h1,h2,(T _ x _ h1 h2).2 J⟩
 obtain⟨R3,aC,aK,u⟩:=SV H;refine WT hH aC hI (λL hL j=> ?_) λs L w' hL j O=> ?_
 .have:=Vf hL λp J=>(used p).1 (j p J)
  grind
 .have J:L.Perm (B.map keyOf):=(List.perm_ext_iff_of_nodup hL aE).2 λp=>(j p).trans (used p);have aA:(L.map (Se S.W)).Perm (B.map Bk.a):=by
   have:=J.map (Se S.W);rw[List.map_map]at this;rwa[show B.map (Se S.W∘keyOf)=B.map Bk.a from List.map_congr_left λp J=>by
    obtain⟨x,h1,_,h3,_⟩:=Y p J;show Se S.W (p.id,p.m)=p.a;unfold Se
    simp_all]at this
  have hl:=O.CK;rw[ints,List.length_map,List.length_map,Nat.mul_one,J.length_eq,List.length_map]at hl;refine hK s w' hl.symm (λp e=> ?_) (u (ma:=S.ma) (W':=S.W) O.tail);rw[e]at aA;have e2:L.map (Se S.W)=[p.a]:=List.perm_singleton.1 aA;rw[e2]at O;obtain⟨b,hb⟩:=O.own.G7 (by grind);exact⟨_,hb,O.own.cell hb (v:=.int .u64 p.a) rfl⟩
end
theorem arg_at{w:World}{k:IntKind}{s:AY}{z:Nat->Int}(h:RowA w (.int k) s z){i:Nat}(hi:i<s.len): ∃a,s.base=some a/\ ∀w',Ext AN w w'->w'.cell? (a.add (Int.toNat (i:Int)*1))=some (.int k (z i)):=by
 obtain⟨x,j,e,_⟩:=h.2.2 i hi;refine⟨x,j,λw' he=> ?_⟩;have:=e 0 (.int k (z i)) rfl;rw[Int.toNat_natCast];exact he.cell this λf=>f
theorem cls_pg:(PX.all λc=>decide (c.2.1<=10))=true:=by decide+kernel
theorem z6{n:Int}(h0:16<=n)(h1:n<=40000): ∃(k0:Int) (pg:Nat),(0<k0/\k0<68)/\(1<=pg/\pg<=10)/\ ∀cls p,HK n cls p->(cls=0∨cls=k0)/\p=(pg:Int):=by
 by_cases h:n<=32768
 .obtain⟨k,a⟩:=tR h;have j:=Ll a.k0 a.k1;have e:(A0 (k:Int)).2.1<=10:=by
   have:=Ma (c:=(k:Int)) (by omega) a.k1;exact of_decide_eq_true (List.all_eq_true.1 cls_pg _ (List.mem_of_getElem? this))
  refine⟨k,(A0 (k:Int)).2.1.toNat,⟨a.k0,a.k1⟩,by omega,λcls p hw=> ?_⟩;obtain⟨e1,e2⟩:=hw.uniq (.inl ⟨h,a,rfl⟩);omega
 .refine⟨1,((n+8191)/8192).toNat,by decide,by omega,λcls p hw=> ?_⟩;obtain⟨e1,e2⟩:=hw.uniq (.inr ⟨by omega,rfl,rfl⟩);omega
structure bY(o:Option Nat)(k0:Int)(ns:Nat->Int)(P n:Nat)(S0:B4)(U:Aq)(i:Nat)(S:B4):Prop where
 pa:PA k0 o (n+9*i) i S0.L.length ns S0.W.CD (9*i) S U (List.replicate P 0) []
 W:S.W=S0.W
 ql:S.Q.length=P
 tg:Ie gG 1 (List.replicate P 0) S.Q=i
 qs: ∀(j:Nat) q,S.Q[j]? =some q->q.2.length<=i
theorem bY.start{o:Option Nat}{k0:Int}{ns:Nat->Int}{P n:Nat}{S:B4}{U:Aq}(h:XS o k0 P n S U)(e:n<=50000):bY o k0 ns P n S U 0 S:=
 ⟨PA.start h.id h.ma ⟨h.or,e⟩ (h.ar 0 (by decide)) rfl,rfl,h.id.ql,SY rfl (λi μ a=>by rw[List.getElem?_replicate]at a;split at a<;>cases a;rfl) h.id.q,λj q u=>by rw[h.id.q j q u];grind⟩
theorem bY.step{o:Option Nat}{k0:Int}{ns:Nat->Int}{P n i:Nat}{u S:B4}{U:Aq}(h:bY o k0 ns P n u U i S)(h0:XS o k0 P n u U){j:Nat}{q:AY×List Int}(e:S.Q[j]? =some q){nn:Int}{s':AY}{b:Nat}(J:WR k0 o (.new 1 (j:Int) nn ⟨none,0,0⟩))(Bl:F5 (S.asked j s' q.2 b (.new 1 (j:Int) nn ⟨none,0,0⟩)))(O:n+9*(i+1)<=50000)(hi:i<20)(v:nn=ns S.L.length):
  bY o k0 ns P n u U (i+1) (S.asked j s' q.2 b (.new 1 (j:Int) nn ⟨none,0,0⟩)):=by
 refine⟨h.pa.asked e J Bl (by omega) ?_ v,h.W,(List.length_set ..).trans h.ql,?_,λm K a=> ?_⟩
 .rw[h.tg,h.W,h.ql];exact h0.ar _ (by omega)
 .exact(XO e s' _).trans (by rw[h.tg])
 .rcases FZ (List.getElem?_eq_some_iff.1 e).1 a with ⟨_,rfl⟩|⟨_,a⟩
  .have:=h.qs j q e
   grind
  .have:=h.qs m K a;omega
section
variable{E:Env}{w:World}
theorem Yu(hE:Ku E)(hH:QI E)(hR:nX E)(hT:Ec E.AH w)
  (cV: ∀(Y:List Pr) w',Sat Y w'->(∀aA,Sat Y aA->Ec E.AH aA)-> ∀K':Bool->World->Prop,(∀aA,Sat Y aA->K' true aA)->F.Dr E K' w')
  {a0 a1 a2 a3:Int}{a4:AY}{z4:Nat->Int}(h4:RowA w (.int .i64) a4 z4){K:Bool->World->Prop}(hK: ∀w',Ext AN w w'->K true w'):F.BJ E a0 a1 a2 a3 a4 K w:=by
 unfold F.BJ T0.BJ
 let z11:List Value:=[.int .u64 0,.int .u64 0,.int .u64 0,.int .u64 0,.int .u64 0,.int .u64 0,.int .u64 0,.int .u64 0,.int .u64 0,.int .u64 0,.int .u64 0]
 have ez:(Array.replicate 11 (Value.int .u64 0))=⟨z11⟩:=rfl;rw[ez];refine AV (λs w'=>w'=w/\(s.1=false->1<=a0/\a0<=8/\16<=a2/\a2<=40000/\1<=a3/\a3<=20/\a4.len<=3000)) (AE (λ_=>⟨rfl,λc=>by cases c⟩) λg0=>AE (λ_=>⟨rfl,λc=>by cases c⟩) λg1=>AE (λ_=>⟨rfl,λc=>by cases c⟩) λg2=>AE (λ_=>⟨rfl,λc=>by cases c⟩) λg3=>AE (λ_=>⟨rfl,λc=>by cases c⟩) λg4=>AE (λ_=>⟨rfl,λc=>by cases c⟩) λg5=>⟨rfl,λc=>by grind⟩) ?_;rintro⟨s,u⟩ _ _ ⟨rfl,hs⟩;refine AX (λ_=>hK _ (Ext.refl _ _)) λes=> ?_;obtain⟨p0,p1,n0,n1,q0,q1,l4⟩:=hs es;clear hs;obtain⟨P,rfl⟩: ∃P:Nat,a0=(P:Int):=⟨a0.toNat,by omega⟩;obtain⟨N,rfl⟩: ∃N:Nat,a3=(N:Int):=⟨a3.toNat,by omega⟩;rename_i w;obtain⟨k0,pg,bS,eH,aM⟩:=z6 n0 n1;have bP: ∀p:Int,WR k0 (some pg) (.new 1 p a2 ⟨none,0,0⟩):=λp=>⟨rfl,n0,by show a2<=_;omega,λcls q hw=>⟨(aM cls q hw).1,λn e=>by cases e;exact(aM cls q hw).2⟩⟩;have aR: ∀{Y:List Pr} {w'} (i:Nat),Sat Y w'->Y[i]? =some (Old w)->Ec E.AH w':=λi h hi=>hT.ext (h.Pq i hi);refine iL (Sat.start w) (by omega) (by omega) λwb rb g S fa fb w5 hN H5=>AR rfl ?_;have bL:=hN.rest0 (by omega) (some pg) (λn e=>by grind) bS fa fb;have bM:S.L.length=0/\S.ma=0:=⟨by rw[hN.l];rfl,hN.ma⟩;refine AM (λst w'=> ∃(nx c:Nat) (g:Nu) (S:B4) (U:Aq) (n:Nat),st.1=(nx:Int)/\nx<=a4.len/\st.2.1=(c:Int)/\c<=6/\XS (some pg) k0 P n S U/\n<=300*c/\S.L.length=(N+2)*c/\S.ma=(N:Int)*c/\Sat (AA E rb g S++Yz E wb rb S.L.length::[Old w]) w') (λst _=>(6-st.2.1).toNat)
  ⟨0,0,g,_,_,0,rfl,Nat.zero_le _,rfl,by decide,bL,Nat.le_refl _,by grind,by grind,by rw[show({S with o0:=fa,o1:=fb}:B4).L.length=0 from bM.1];exact H5⟩ ?_
 clear bL H5 bM hN S g;rintro⟨cB,c',u⟩ _ w7 ⟨nx,c,g,S,U,n,T,j,hc,d7,aB,hn,d4,eF,H7⟩;dsimp only at T hc⊢;subst T hc;refine AE (λeC=> ?_) λd9=> ?_
 .-- a round: blocks are asked for
  have cW:c<=5:=by omega
  have d3:(N+2)*c<=110:=Nat.le_trans (Nat.mul_le_mul (show N+2<=22 by omega) cW) (by decide);refine AM (λst w'=> ∃(i:Nat) (g:Nu) (S2:B4),st.1=(i:Int)/\i<=N/\bY (some pg) k0 (λ_=>a2) P n S U i S2/\Sat (AA E rb g S2++Yz E wb rb S2.L.length::[Old w]) w') (λst _=>((N:Int)-st.1).toNat) ⟨0,g,S,rfl,Nat.zero_le _,bY.start aB (by omega),H7⟩ ?_;clear H7 g;rintro⟨i',u⟩ _ eQ ⟨i,g,S2,hi,eA,hI,bA⟩;dsimp only at hi⊢;subst hi;have cZ:=hI.pa.ln;refine AE (λdK=> ?_) λdG=> ?_
  .have cX:i %P<S2.Q.length:=by rw[hI.ql];exact Nat.mod_lt _ (by omega)
   have emod:Int.tmod (i:Int) (P:Int)=((i %P:Nat):Int):=by grind
   obtain⟨q,hq⟩: ∃q,S2.Q[i %P]? =some q:=⟨_,List.getElem?_eq_getElem cX⟩;have eI:=hI.qs _ q hq;refine⟨by omega,?_⟩;rw[emod];refine QV bA hI.pa.ok rfl hq (by decide) ⟨by omega,by omega⟩ λg' s' b eR Bl cG=>AR rfl ⟨⟨i+1,g',_,by rw[AI];rfl,by omega,hI.step aB hq (bP _) Bl (by omega) (by omega) rfl,cG⟩,by rw[AI];omega⟩
  obtain rfl:N=i:=by omega
  refine AV (λs w'=> ∃(nx:Nat) (vs:List Int),s.1=(nx:Int)/\nx<=a4.len/\vs.length=s.2.1.len/\s.2.1.len<=400/\Sat (AA E rb g S2++Yz E wb rb S2.L.length::[Row E.Ar 1 s.2.1 (ints .i64 vs),Old w]) w') ?_ ?_
  .refine AM (λs w'=> ∃(nx:Nat) (vs:List Int),s.1=(nx:Int)/\nx<=a4.len/\vs.length=s.2.1.len/\s.2.1.len<=400/\Sat (AA E rb g S2++Yz E wb rb S2.L.length::[Row E.Ar 1 s.2.1 (ints .i64 vs),Old w]) w') (λst _=>((a4.len:Int)-st.1).toNat)
    ⟨nx,[],rfl,j,rfl,by grind,(bA.nil E.Ar 1).perm (List.perm_middle (l₁:=AA E rb g S2++[Yz E wb rb S2.L.length]) (l₂:=[Old w])).symm⟩ ?_
   rintro⟨cB,oF,u⟩ _ eT ⟨nx,vs,T,j,aD,a9,aF⟩;dsimp only at T aD a9 aF⊢;subst T;refine AE (λdL=> ?_) λ_=>⟨nx,vs,rfl,j,aD,a9,aF⟩;refine AE (λc1=> ?_) λ_=>⟨nx,vs,rfl,j,aD,a9,aF⟩;obtain⟨p4,c4,bO⟩:=arg_at h4 (i:=nx) (by omega);refine Ij c4 ⟨⟨by omega,by omega⟩,_,bO _ (aF.Pq 14 rfl),?_⟩;refine AJ (vs:=[.int .i64 (z4 nx)]) aF λdT eU cH _=>GH (news:=[.int .i64 (z4 nx)]) (cH.BQ 13 rfl) rfl rfl (by simp[Value.oneCell']) (by omega) (by omega) λeN eV cI dH=> ?_;have e1:i64 ((nx:Int)+1)=((nx+1:Nat):Int):=by rw[AI];rfl
   rw[e1];refine⟨⟨nx+1,vs++[z4 nx],rfl,by omega,by grind,by omega,?_⟩,by omega⟩;rw[ints,List.map_append];exact cI.perm (List.perm_middle (l₁:=AA E rb g S2++[Yz E wb rb S2.L.length]) (l₂:=[Old w])).symm
  clear j nx;rintro⟨cB,own,u⟩ _ eS ⟨nx,vs,T,j,aD,b0,aO⟩;dsimp only at T aD b0 aO⊢;subst T;have c6:=hI.ql;refine AG ⟨_,Nf aO,kO hE (λw' h=>aR 2 h rfl) hI.pa (by omega) (by omega) aO aD (by omega) (λw' h=>(h.front 1 rfl:Sat (Row E.Ar 1 own (ints .i64 vs)::_) w').LP) λg3 J U3 eJ B3 c8 hP aC cC bB=>AR rfl ?_⟩;have aE:Sat (AA E rb g3 J++Yz E wb rb J.L.length::[Old w]) cC:=by
   rw[show J.L.length=S2.L.length from hP.ln.trans cZ.symm];exact(bB.front 13 rfl).tail
  clear bB aO;have aI:=hP.idle aC;have d0:=(hP.quiet aC).1;have bQ:=hP.ma.fr;have d8:=hP.fz;have aL:J.Q.length=P:=c8.trans c6;rw[aL]at aI;have bI:=hP.ma.inv;have bR:=aB.ma.fr;rw[List.length_nil]at bR;have bV:J.ma=(N:Int)*c+N:=by omega
  have d6:(rise J.W.S.ks).length<=P+1:=by
   have Bl:Pf J.W.S:=by
    obtain⟨R,HH,_⟩:=(aE.front 11 rfl:Sat (AQ E g3.a.b g3.a.h g3.a.s g3.a.r J.W::_) cC).GA;exact HH.Bl
   have h:=hP.ar;rw[aL]at h;exact h.2.2.1 _ (Rn (O2 Bl.ok)) λx hx=>Rm.1 hx
  refine AG ⟨_,Nf aE,AG ⟨_,Gx aE,Ro hH aE aI.pc bI λlv pgs e0 e2 e3 eW _ bC=> ?_⟩⟩;refine AJ (vs:=z11) bC λdU eX bD _=> ?_;refine Bm (news:=[.int .u64 J.ma,.int .u64 J.W.CD,.int .u64 lv,.int .u64 (u64 (J.ma-J.W.CD)),.int .u64 (u64 (u64 (e0*8192)-e3)),.int .u64 (u64 (pgs*8192)),.int .u64 (u64 (u64 (u64 (e0*8192)-e3)-u64 (pgs*8192))),.int .u64 (u64 (e2*8192)),.int .u64 e3,.int .u64 J.cy,.int .u64 (u64 (J.ma-J.W.CD))]) bD rfl (by intro v hv;simp only[List.mem_cons,List.not_mem_nil,or_false]at hv;rcases hv with rfl|rfl|rfl|rfl|rfl|rfl|rfl|rfl|rfl|rfl|rfl<;>rfl) λeY aG=> ?_;refine AV (λs w'=>s.1=false/\Sat (AA E rb g3 J++Yz E wb rb J.L.length::[Old w]) w') ?_ ?_
  .refine⟨_,aG.cell (o:=0) (m:=10) rfl,AR (decide_eq_false ?_) (AG ⟨_,Nf aG.tail,AG ⟨_,Gx aG.tail,WS hR aG.tail bI (by omega) λUj e4 bT cK=>⟨by decide,decide_eq_false ?_,cK⟩⟩⟩)⟩
   .grind
   .rw[AI (n:=(N:Int)*6),Int.tdiv_eq_ediv_of_nonneg (by omega),show(N:Int)*6/512=0 by omega,bT];rw[show i64 0=0 from rfl,show i64 (1+0)=1 from rfl,AI (n:=1+(P:Int))];omega
  rintro⟨wD,u⟩ _ eZ ⟨aY,cJ⟩;dsimp only at aY⊢;subst aY;refine AR rfl ?_;clear aG bD bC aE;refine AV (λs w'=>s.1=false/\ ∃(g:Nu) (S5:B4) (U:Aq) (n:Nat),XS (some pg) k0 P n S5 U/\n<=300*(c+1)/\S5.L.length=(N+2)*(c+1)/\S5.ma=(N:Int)*((c+1:Nat):Int)/\Sat (AA E rb g S5++Yz E wb rb S5.L.length::[Old w]) w') ?_ ?_
  .obtain⟨qz,b5⟩: ∃q,J.Q[0]? =some q:=⟨_,List.getElem?_eq_getElem (by omega)⟩;have b7:=aI.q 0 qz b5;have dJ:=hP.ln;refine QV (p:=0) (i:=0) cJ aI.ok rfl b5 (by decide) ⟨by omega,by grind⟩ λg4 s4 b4 e6 aV a5=>AR rfl (AG ⟨_,Nf a5,?_⟩);rw[b7]at aV a5;have c2:=hP.me;rw[Nat.sub_zero]at c2;have aU:=hP.ma;rw[Nat.sub_zero]at aU;have aS:=hP.ar;rw[aL]at aS;obtain⟨x0,x1,x2,cS⟩:=PB.start (as_:=[]) (o:=some pg) aI (by omega) aU aV (aS.Fk rfl rfl (λid x hx=>⟨x,hx,rfl⟩) (Nat.zero_le _)) (by omega) (λa ha=>by cases ha);refine Yp hE hH (λw' h=>aR 1 h rfl) (yc:=(b4,.new 6 0 0 ⟨none,0,0⟩)) (as_:=[]) (λ_ _=>rfl) rfl (by show(0:Nat)<=1000000;decide) (λa ha=>by cases ha) (.inl ⟨_,_,_,_,_,_,_,cS⟩) (by omega) a5 λg5 S5 m5 U5 M5 eO I5 B5 y0 y1 y2 l5 v0 v1 aQ b2 e7 bE=>AR rfl ?_;obtain⟨aJ,_,_,dO,eD⟩:=aQ.quiet b2;have aT:=aQ.b.ln;have dM:=aQ.b.or;rw[show(J.asked 0 s4 [] b4 (.new 6 0 0 ⟨none,0,0⟩)).L.length=S5.L.length by rw[aT];show(J.L++[_]).length=_;grind]at bE;obtain⟨q5,aX⟩: ∃q,S5.Q[0]? =some q:=⟨_,List.getElem?_eq_getElem (by rw[aJ.ql];omega)⟩;have b3:=aJ.q 0 q5 aX;refine QV (p:=0) (i:=0) bE aJ.ok rfl aX (by decide) ⟨by omega,by grind⟩ λg6 s6 b6 e8 aW a6=>AR rfl (AG ⟨_,Nf a6,?_⟩);rw[b3]at aW a6;obtain⟨u0,u1,cT⟩:=aQ.ask b2 aW (by omega) (by omega);refine Yp (k0:=k0) hE hH (λw' h=>aR 1 h rfl) (yc:=(b4,.new 6 0 0 ⟨none,0,0⟩)) (as_:=[]) (λ_ _=>rfl) rfl (by show(0:Nat)<=1000000;decide) (λa ha=>by cases ha) (.inr ⟨_,_,_,_,_,_,_,_,_,_,_,cT⟩) (by omega) a6 λg7 S7 m7 U7 M7 eP I7 B7 t0 t1 t2 l7 r0 r1 O c7 e9 aP=>AR rfl ?_;obtain⟨bJ,c9,cY,b9,eE⟩:=O.quiet c7;have bU:=O.b.ln;have bZ:=O.b.or;rw[show(S5.asked 0 s6 [] b6 (.new 7 0 100000 ⟨none,0,0⟩)).L.length=S7.L.length by rw[bU,<-aT];show(S5.L++[_]).length=_;grind]at aP;have bX:=O.mc;rw[b9]at bX;have hk:Gf.mark J.W.S []=Gf:=by rfl
   obtain⟨rfl,b8,d2,bK⟩:=bX.fin (C:=S7.C) (k0:=k0) hk (O.dn rfl c9 cY) O.c0 bS;refine AG ⟨_,Nf aP,AG ⟨_,Gx aP,KP hH aP bK.inv (B:=[]) List.nodup_nil (λid x m hx=>by grind) (λp hp=>by cases hp) (by decide) λs79 fA dI _ cM=>⟨?_,g7,S7,U7,_,⟨bJ,bK,b8,λG hG=>O.ar.reset b8 hG,bZ.2.1⟩,by omega,?_,?_,cM⟩⟩⟩
   .grind
   .grind
   .rw[O.b.mz,bV,Int.natCast_add,Int.mul_add];omega
  rintro⟨s60,u⟩ _ e5 ⟨aZ,g8,S8,U8,n8,cU,c3,cR,bW,cL⟩;dsimp only at aZ⊢;subst aZ;refine AR rfl ?_;rw[show i64 ((c:Int)+1)=((c+1:Nat):Int) by rw[AI];rfl];exact⟨⟨nx,c+1,g8,S8,U8,n8,rfl,j,rfl,by omega,cU,c3,cR,bW,cL⟩,by omega⟩
 .-- all rounds are over
  obtain rfl:c=6:=by omega
  have hI:=aB.ma.inv;have bQ:=aB.ma.fr;rw[List.length_nil]at bQ;refine AG ⟨_,Nf H7,AG ⟨_,Gx H7,Ro hH H7 aB.id.pc hI λlv pgs e0 e2 e3 fB b1 cN=> ?_⟩⟩;have bH:=b1 aB.sp;refine AJ (vs:=z11) cN λdW fC cO _=> ?_;refine Bm (news:=[.int .u64 S.ma,.int .u64 S.W.CD,.int .u64 lv,.int .u64 (u64 (S.ma-S.W.CD)),.int .u64 (u64 (u64 (e0*8192)-e3)),.int .u64 (u64 (pgs*8192)),.int .u64 (u64 (u64 (u64 (e0*8192)-e3)-u64 (pgs*8192))),.int .u64 (u64 (e2*8192)),.int .u64 e3,.int .u64 S.cy,.int .u64 (u64 (S.ma-S.W.CD))]) cO rfl (by intro v hv;simp only[List.mem_cons,List.not_mem_nil,or_false]at hv;rcases hv with rfl|rfl|rfl|rfl|rfl|rfl|rfl|rfl|rfl|rfl|rfl<;>rfl) λdA aH=> ?_;refine⟨_,aH.cell (o:=0) (m:=1) rfl,Aa ?_ ⟨_,aH.cell (o:=0) (m:=5) rfl,Aa ?_ ⟨_,aH.cell (o:=0) (m:=6) rfl,_,aH.cell (o:=0) (m:=4) rfl,Aa ?_ ?_⟩⟩⟩
  .rw[AI (n:=6*(N:Int)),AP (n:=6*(N:Int))]
   grind
  .rw[bH];rfl
  .rw[bH];refine beq_iff_eq.2 ?_;rw[show u64 (0*8192)=0 from rfl,Int.sub_zero];have: ∀x:Int,u64 (u64 x)=u64 x:=λx=>by rw[KI,KI];omega
   grind
  .exact cV _ dA aH (λaA h=>aR 14 h rfl) _ λaA h=>hK aA (h.Pq 14 rfl)
end
end Go.Sh

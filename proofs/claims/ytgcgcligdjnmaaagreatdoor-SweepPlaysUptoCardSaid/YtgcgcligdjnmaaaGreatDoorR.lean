/- The page tree and the caches of pages do what their pages say. No further condition. -/
import Derived.Test.YtgcgcligdjnmaaaGreatDoorS
import Derived.Test.YtgcgcligdjnmaaaGreatDoorM
import Derived.Test.YtgcgcligdjnmaaaGreatDoorA
set_option linter.all false
set_option maxRecDepth 50000
set_option maxHeartbeats 1000000
namespace Go.Sh
def KV{α:Type}(f:Nat->α)(i:Nat)(x:α):Nat->α:=λj=>if j=i then x else f j
@[simp] theorem Jo{α:Type}(f:Nat->α)(i:Nat)(x:α):KV f i x i=x:=if_pos rfl
def Hm{α:Type}(f:Nat->α){i j:Nat}(x:α)(h:j≠i):KV f i x j=f j:=if_neg h
structure IA(E:Env)(w:World)(b:Nat)(s:Nat->Aa)(l:Nat->Iv):Prop where
 D0: ∀i,i<4->Jn E w b (2*i) (s i) (l i)
 dis: ∀i j,i<4->j<4->i≠j-> ∀k,Ke (s i) k-> ¬Ke (s j) k
 c8: ∃v,w.cell? ⟨b,8,none⟩=some v
 f8:w.frozen? ⟨b,8,none⟩=false
section
variable{E:Env}{w w':World}{b:Nat}{s:Nat->Aa}{l:Nat->Iv}
def IA.lt(h:IA E w b s l):b<w.heap.size:=(h.D0 0 (by decide)).row.lt
def IA.Pb(h:IA E w b s l){i k:Nat}(d:i<4)(hk:Ke (s i) k):k<w.heap.size:=((h.D0 i d).row.own.Fz hk).2
def IA.ext{S:Nat->Prop}(h:IA E w b s l)(he:Ext S w w')(d: ¬S b)(hs: ∀i k,i<4->Ke (s i) k-> ¬S k):IA E w' b s l:=
 ⟨λi j=>(h.D0 i j).ext he d λa y=>hs i _ j ⟨a,y,rfl⟩,h.dis,h.c8.imp λv J=>he.cell J d,by rw[he.frozen (p:=⟨b,8,none⟩) h.lt d];exact h.f8⟩
def IA.FP(h:IA E w b s l)(he:Ext AP w w'):IA E w' b s l:=h.ext he (λf=>f) λ_ _ _ _ f=>f
def IA.KV(h:IA E w b s l){i:Nat}(T:i<4){s':Aa}{l':Iv}(hs:Jn E w' b (2*i) s' l')(hu:No b (Xm (2*i)) w w')(hf:Tv w (s i) s'):
  IA E w' b (KV s i s') (KV l i l'):=by
 have hold: ∀k,Ke s' k->Ke (s i) k∨w.heap.size<=k:=by
  rintro k ⟨a,K,rfl⟩;rcases hf with e|e
  .rw[e]at K;exact .inl ⟨a,K,rfl⟩
  grind
 refine⟨λj J=> ?_,λj k J hk y m hm d=> ?_,?_,?_⟩
 .by_cases e:j=i
  .subst e;rw[Jo,Jo];exact hs
  .rw[Hm _ _ e,Hm _ _ e];refine(h.D0 j J).KV hu ?_ ?_<;>(unfold Xm;omega)
 .by_cases e:j=i
  .subst e;rw[Jo]at hm;rw[Hm _ _ (λe=>y e.symm)]at d;rcases hold m hm with g|g
   .exact h.dis _ _ J hk y m g d
   .have:=h.Pb hk d;omega
  .rw[Hm _ _ e]at hm;by_cases e2:k=i
   .subst e2;rw[Jo]at d;rcases hold m d with g|g
    .exact h.dis _ _ J hk y m hm g
    .have:=h.Pb J hm;omega
   .rw[Hm _ _ e2]at d;exact h.dis _ _ J hk y m hm d
 .obtain⟨v,O⟩:=h.c8;exact⟨v,by rw[hu.Cv 8 (by unfold Xm;omega)];exact O⟩
 .rw[hu.qV];exact h.f8
def IA.tI(h:IA E w b s l){i:Nat}(v:i<4){s':Aa}(hf:Tv w (s i) s'){j k:Nat}(hk:Ke (Sh.KV s i s' j) k):Ke (s j) k∨w.heap.size<=k:=by
 by_cases e:j=i
 .subst e;rw[Jo]at hk;obtain⟨a,d,rfl⟩:=hk;rcases hf with e|e
  .rw[e]at d;exact .inl ⟨a,d,rfl⟩
  grind
 .rw[Hm _ _ e]at hk
  grind
end
def sumV(q:Int×Int×Int):Value:=.agg ⟨[.int .i64 q.1,.int .i64 q.2.1,.int .i64 q.2.2]⟩
structure T4(E:Env)(w:World)(b:Nat)(sm:Aa)(O9:List Nat)(sum:Nat->Int->Option (Int×Int×Int)):Prop where
 c8:w.cell? ⟨b,8,none⟩=some (.slice sm.base sm.len sm.cap)
 own:I0 w 0 E.FB 1 sm (O9.map λk=>Value.map (some k))
 len:O9.length=4
 nodup:O9.Nodup
 maps: ∀j k,O9[j]? =some k-> ∃es c m,w.heap[k]? =some (.map es c)/\MapI .u64 es c m/\ ∀i,aget m i=(sum j i).map sumV
def T4.ext{E:Env}{w w':World}{b:Nat}{sm:Aa}{O9:List Nat}{sum:Nat->Int->Option (Int×Int×Int)}{S:Nat->Prop}(h:T4 E w b sm O9 sum)(he:Ext S w w')(d: ¬S b)
  (hs: ∀k,Ke sm k-> ¬S k)(hm: ∀k∈O9,¬S k):T4 E w' b sm O9 sum:=
 ⟨he.cell h.c8 d,h.own.ext he λg v=>hs g ⟨_,v,rfl⟩,h.len,h.nodup,λj k hk=>by
  obtain⟨es,c,m,h1,h2⟩:=h.maps j k hk;exact⟨es,c,m,he.obj h1 (hm k (List.mem_of_getElem? hk)),h2⟩⟩
def T4.mlt{E:Env}{w:World}{b:Nat}{sm:Aa}{O9:List Nat}{sum:Nat->Int->Option (Int×Int×Int)}(h:T4 E w b sm O9 sum){k:Nat}(hk:k∈O9):k<w.heap.size:=by
 obtain⟨j,d⟩:=List.mem_iff_getElem?.1 hk;obtain⟨es,c,m,h1,_⟩:=h.maps j k d;exact F4 h1
def P7{E:Env}{w:World}{b:Nat}{s:Nat->Aa}{l:Nat->Iv}(h:IA E w b s l){K:World->Prop}
  (hK: ∀w' sm O9,IA E w' b s l->T4 E w' b sm O9 (λ_ _=>none)->Ext (KF b) w w'->(∀k,Ke sm k->w.heap.size<=k)->(∀k∈O9,w.heap.size<=k)->K w'):
  F.Db E (some ⟨b,0,none⟩) K w:=by
 unfold F.Db;simp only[AG,add_eq,Nat.zero_add];obtain⟨v8,aY⟩:=h.c8;refine Ln aY h.f8 rfl λw2 aA=> ?_;have aB: ∀{w1 w2:World} {v:Value},IA E w1 b s l->NX ⟨b,8,none⟩ v w1 w2->IA E w2 b s l:=by
  intro w1 w2 v h aJ;have hu:No b (λj=>j=8) w1 w2:=No.IV aJ rfl;exact⟨λi hi=>(h.D0 i hi).KV hu (by omega) (by omega),h.dis,⟨_,aJ.same⟩,by rw[aJ.frozen];exact h.f8⟩
 refine AH (λst w'=> ∃(n:Nat) (sm:Aa) (O9:List Nat),st.1=(n:Int)/\n<=4/\IA E w' b s l/\w'.cell? ⟨b,8,none⟩=some (.slice sm.base sm.len sm.cap)/\
   I0 w' w.heap.size E.FB 1 sm (O9.map λk=>Value.map (some k))/\O9.length=n/\O9.Nodup/\(∀k∈O9,w'.heap[k]? =some (.map #[] 0))/\(∀k∈O9,w.heap.size<=k)/\Ext (KF b) w w')
  (λst _=>(4-st.1).toNat) ⟨0,⟨none,0,0⟩,[],rfl,by decide,aB h aA,aA.same,I0.nil _ _ _ _,rfl,List.nodup_nil,by simp,by simp,aA.ext⟩ ?_
 rintro⟨i,u⟩ _ w4 ⟨n,sm,O9,hn,a7,h4,aL,d,hlen,aW,Y,aH,aD⟩;simp only at hn⊢;subst hn;refine AB (λa6=> ?_) (λa5=> ?_)
 .refine⟨sm,aL,BS λw9 aS a2 aU=>BS λaM aK aX aF=> ?_⟩;have aE:Ext AP w4 aM:=aU.trans' aF;have O:=d.ext aE λ_ _ f=>f;have a8:sm.len=n:=by have:=d.len;grind
  refine Pg (news:=[.map (some w4.heap.size)]) rfl O (Np aK rfl) rfl (by intro v hv;simp at hv;subst hv;rfl) (by have:=aD.size;omega) (by grind) (by grind) λHR aN aI a1 T a0=> ?_;have aT: ¬Ke sm b:=λe=>by have:=(d.Fz e).1;have:=h.lt;omega
  have aC:IA E aN b s l:=(h4.FP aE).ext T aT λi k hi hk e=>by
   have:=(d.Fz e).1;have:=h.Pb hi hk;omega
  have J: ∀k∈O9++[w4.heap.size],aN.heap[k]? =some (.map #[] 0):=by
   intro k hk;have aG:aM.heap[k]? =some (.map #[] 0):=by
    rcases List.mem_append.1 hk with hk|hk
    .exact aE.obj (Y k hk) λf=>f
    .rw[List.mem_singleton]at hk;subst hk;exact aF.obj aS λf=>f
   exact T.obj aG (O.Ws aG)
  obtain⟨v,hv⟩:=aC.c8;refine Ln hv aC.f8 rfl λa9 y=> ?_;refine⟨⟨n+1,HR,O9++[w4.heap.size],by rw[AE];omega,by omega,aB aC y,y.same,?_,by simp;omega,?_,?_,?_,?_⟩,by rw[AE];omega⟩
  .rw[List.map_append];refine aI.ext y.ext λg hg e=> ?_;have:=(aI.lt hg).1;have:g=b:=e;have:=h.lt
   grind
  .grind
  .intro k hk;refine y.ext.obj (J k hk) λe=> ?_;have:k=b:=e;subst this;have:=(aC.D0 0 (by decide)).row.c0;exact Tz (J k hk) this
  .intro k hk;rcases List.mem_append.1 hk with hk|hk
   .exact aH k hk
   .rw[List.mem_singleton]at hk;subst hk;exact aD.size
  .refine(aD.trans aE (λ_ _ e=>e) λ_ _ f=>f.elim).trans (T.trans y.ext (U:=λk=>Ke sm k∨k=b) (λ_ _ e=>.inl e) λ_ _ e=>.inr e) (λ_ _ e=>e) λk hk e=> ?_;rcases e with e|e
   .have:=(d.Fz e).1;omega
   .exact e
 .have hn:n=4:=by omega
  subst hn;refine hK w4 sm O9 h4 ⟨aL,d.lower (Nat.zero_le _),hlen,aW,λj k hk=> ?_⟩ aD (λk hk=>(d.Fz hk).1) aH;exact⟨#[],0,[],Y k (List.mem_of_getElem? hk),MapI.empty _,λ_=>rfl⟩
def pg(lv:Int):Int:=512*8^(3-lv).toNat
def tJ(fr to:Int)(a:Int×Int×Int)(p:Int×Int):Int×Int×Int:=
 (if p.1=fr then p.2-p.1 else a.1,max a.2.1 (p.2-p.1),if p.2=to then p.2-p.1 else a.2.2)
def sumOf(l:Iv)(fr to:Int):Int×Int×Int:=(withinL l fr to).foldl (tJ fr to) (0,0,0)
structure M3 where
 s:Nat->Aa
 l:Nat->Iv
 sm:Aa
 O9:List Nat
 sum:Nat->Int->Option (Int×Int×Int)
structure xS(l:Nat->Iv):Prop where
 top: ∀n,mem (l 0) n->n<34359738368
 free: ∀n,mem (l 1) n->mem (l 0) n
 rel: ∀n,mem (l 2) n->mem (l 1) n
 idle: ∀n,mem (l 3) n↔mem (l 1) n/\ ¬mem (l 2) n
structure Hg(E:Env)(w:World)(b:Nat)(G:M3):Prop where
 D0:IA E w b G.s G.l
 maps:T4 E w b G.sm G.O9 G.sum
 d: ∀k,Ke G.sm k->k≠b/\ ∀i,i<4-> ¬Ke (G.s i) k
 ok: ∀(j:Nat) (i:Int) x,G.sum j i=some x->x=sumOf (G.l 1) (i*pg j) (i*pg j+pg j)
 inv:xS G.l
def P8(b:Nat)(G:M3)(k:Nat):Prop:=k=b∨(∃i,i<4/\Ke (G.s i) k)∨Ke G.sm k∨k∈G.O9
section
variable{E:Env}{w w':World}{b:Nat}{G:M3}
def Hg.lt(h:Hg E w b G):b<w.heap.size:=h.D0.lt
def Hg.OK(h:Hg E w b G){k:Nat}(hk:P8 b G k):k<w.heap.size:=by
 rcases hk with rfl|⟨i,d,hk⟩|hk|hk
 .exact h.lt
 .exact h.D0.Pb d hk
 .exact(h.maps.own.Fz hk).2
 .exact h.maps.mlt hk
def Hg.ext{S:Nat->Prop}(h:Hg E w b G)(he:Ext S w w')(hS: ∀k,P8 b G k-> ¬S k):Hg E w' b G:=
 ⟨h.D0.ext he (hS b (.inl rfl)) λi k j hk=>hS k (.inr (.inl ⟨i,j,hk⟩)),h.maps.ext he (hS b (.inl rfl)) (λk hk=>hS k (.inr (.inr (.inl hk)))) λk hk=>hS k (.inr (.inr (.inr hk))),h.d,h.ok,h.inv⟩
def Hg.FP(h:Hg E w b G)(he:Ext AP w w'):Hg E w' b G:=h.ext he λ_ _ f=>f
end
structure L9(E:Env)(b:Nat)(w:World)(G:M3)(w':World)(G':M3):Prop where
 rep:Hg E w' b G'
 ext:Ext (P8 b G) w w'
 VC: ∀k,P8 b G' k->P8 b G k∨w.heap.size<=k
section
variable{E:Env}{w w' w1:World}{b:Nat}{G G' G1:M3}
def L9.nothing(h:Hg E w b G)(he:Ext AP w w'):L9 E b w G w' G:=⟨h.FP he,he.any,λ_ h=>.inl h⟩
def L9.trans(h:L9 E b w G w1 G1)(k:L9 E b w1 G1 w' G'):L9 E b w G w' G':=
 ⟨k.rep,h.ext.trans k.ext (λ_ _ s=>s) (λi d s=>by rcases h.VC i s with s|s;exact s;omega),λi d=>by
  rcases k.VC i d with s|s
  .exact h.VC i s
  .have:=h.ext.size;omega⟩
end
structure vN(E:Env)(w w':World)(b:Nat)(G:M3):Prop where
 rep:Hg E w' b G
 ext:Ext AP w w'
 young: ∀k,P8 b G k->w.heap.size<=k
structure Q9(E:Env)(b:Nat)(w0:World)(G0:M3)(w:World)(s:Nat->Aa)(l:Nat->Iv):Prop where
 D0:IA E w b s l
 ext:Ext (KF b) w0 w
 Pb: ∀i k,i<4->Ke (s i) k->(∃j,j<4/\Ke (G0.s j) k)∨w0.heap.size<=k
 c8:w.cell? ⟨b,8,none⟩=w0.cell? ⟨b,8,none⟩
section
variable{E:Env}{b:Nat}{w0 w w':World}{G0:M3}{s:Nat->Aa}{l:Nat->Iv}
def Q9.start(h:Hg E w0 b G0)(he:Ext AP w0 w):Q9 E b w0 G0 w G0.s G0.l:=⟨h.D0.FP he,he.any,λi k d hk=>.inl ⟨i,d,hk⟩,World.cell?_of_block (he.block b h.lt λf=>f)⟩
def Q9.KV(h:Q9 E b w0 G0 w s l){i:Nat}(d:i<4){s':Aa}{l':Iv}(hs:Jn E w' b (2*i) s' l')(hu:No b (Xm (2*i)) w w')(hf:Tv w (s i) s'):
  Q9 E b w0 G0 w' (Sh.KV s i s') (Sh.KV l i l'):=
 ⟨h.D0.KV d hs hu hf,h.ext.trans' hu.ext,λj k v hk=>by
  rcases h.D0.tI d hf hk with e|e
  .exact h.Pb j k v e
  .have:=h.ext.size;omega,by rw[hu.Cv 8 (by unfold Xm;omega)];exact h.c8⟩
def Q9.changed(h:Q9 E b w0 G0 w s l)(h0:Hg E w0 b G0)(d:xS l){K:World->Prop}
  (v: ∀w' G',L9 E b w0 G0 w' G'->G'.l=l->K w'):F.Db E (some ⟨b,0,none⟩) K w:=by
 refine P7 h.D0 λw' sm O9 hs hm he hsm J=> ?_;have O:=h.ext.size;have y:=h0.lt;refine v w' ⟨s,l,sm,O9,λ_ _=>none⟩ ⟨⟨hs,hm,λk hk=>⟨?_,λi d e=> ?_⟩,λj i x T=>(by cases T),d⟩,(h.ext.trans' he).mono λk _ e=>.inl e,?_⟩ rfl
 .have:=hsm k hk;omega
 .have:=hsm k hk;have:=h.D0.Pb d e;omega
 .rintro k (e|⟨i,d,e⟩|e|e)
  .exact .inl (.inl e)
  .rcases h.Pb i k d e with g|g
   .exact .inl (.inr (.inl g))
   omega
  .grind
  grind
end
def Ar(l:Nat->Iv)(x n:Int)(free:Bool)(e:Int):Int:=
 if n=0∨34359738368<=x∨34359738368-x<n∨cnt (l 0) x (x+n)≠n then 10 else if cnt (l 1) x (x+n)≠(if free then n else 0)then e else 0
def findL:Iv->Int->Option Int
 | [],_=>none
 | p::r,n=>if n<=p.2-p.1 then some p.1 else findL r n
def jA{l:Iv}{n p:Int}(h:findL l n=some p): ∃q∈l,q.1=p/\n<=q.2-q.1:=by
 induction l with
 | nil=>cases h
 | cons q r ih=>
  simp only[findL]at h
  grind
section
variable{E:Env}(hE:EnvS E){w:World}{b:Nat}{G:M3}
def find_spec(h:Hg E w b G){n:Int}(aT:0<=n){K:Int->Bool->World->Prop}
  (hK: ∀w',Ext AP w w'->K ((if n=0 then none else findL (G.l 1) n).getD 0) (if n=0 then none else findL (G.l 1) n).isSome w'):
  F.DB E (some ⟨b,0,none⟩) n K w:=by
 unfold F.DB T0.DB F.HX;simp only[AG,add_eq,Nat.zero_add];refine AQ (λe=> ?_) (λe=> ?_)
 .have e0:n=0:=by simpa using e
  have:=hK w (Ext.refl _ _)
  grind
 .have e0:n≠0:=by simpa using e
  rw[if_neg e0]at hK;have j:G7 E w ⟨b,2,none⟩ (G.s 1) (G.l 1):=(h.D0.D0 1 (by decide)).row;generalize G.s 1=s at j;generalize G.l 1=l at j hK;have hlen:=j.len;have hsm:=j.small;have aM:OX=4398046511104:=rfl;refine⟨s,j.c0,AH (λst w'=> ∃k:Nat,st.1=(k:Int)/\k<=l.length/\findL l n=findL (l.drop k) n/\Ext AP w w') (λst _=>(l.length-st.1).toNat) ⟨0,rfl,Nat.zero_le _,rfl,Ext.refl _ _⟩ ?_⟩;rintro⟨i,u⟩ _ w5 ⟨k,hk,aQ,hf,y⟩;simp only at hk⊢;subst hk;refine AB (λaS=> ?_) (λaP=> ?_)
  .have hl:k<l.length:=by omega
   have hg:=List.getElem?_eq_getElem hl;obtain⟨r,aH,aA,aB⟩:=(j.FP y).cells hg;have aG:=j.ok.get hg;generalize l[k]=q at hg aA aB aG;rw[aH];simp only[AG,add_eq,Nat.zero_add,Int.toNat_natCast,Nat.add_zero];refine⟨⟨by omega,by omega⟩,q.1,aA,q.2,aB,BS λaU J aI O=> ?_⟩;refine Jc _ _ _ _ _ _ _ J (by simp) (by intro v hv;simp at hv;rcases hv with rfl|rfl<;>rfl) λaK T aJ d=> ?_;simp at d;have aC:Ext AP w aK:=(y.trans' O).trans T (λ_ _ f=>f) λi hi e=>by have:i=w5.heap.size:=e;have:=y.size;omega
   have hd:=Td hg;refine⟨q.2,by rw[AW d];rfl,q.1,by rw[AW d];rfl,?_⟩;rw[AK];refine AB (λaF=>⟨q.1,by rw[AW d];rfl,?_⟩) (λY=> ?_)
   .have:findL l n=some q.1:=by rw[hf,hd,findL,if_pos aF]
    grind
   .rw[AE];refine⟨⟨k+1,by omega,by omega,?_,aC⟩,by omega⟩;rw[hf,hd,findL,if_neg Y]
  .have:l.drop k=[]:=List.drop_eq_nil_of_le (by omega);rw[this]at hf;have aO:findL l n=none:=hf
   grind
def VD(h:Hg E w b G){K:Int->World->Prop}(d:K (Gn (G.l 2)) w):F.CJ E (some ⟨b,0,none⟩) K w:=by
 unfold F.CJ T0.CJ F.Hb;simp only[AG,add_eq,Nat.zero_add];exact⟨_,(h.D0.D0 2 (by decide)).c1,d⟩
include hE
theorem Rk(h:Hg E w b G){x n e:Int}{fr:Bool}(J:0<=x)(hx:x<18446744073709551616)(aE:0<=n)(hn:n<18446744073709551616){K:Int->World->Prop}
  (hK: ∀w',Ext AP w w'->K (Ar G.l x n fr e) w'):F.DO E (some ⟨b,0,none⟩) x n fr e K w:=by
 unfold F.DO T0.DO;simp only[AG,add_eq,Nat.zero_add];refine AX (λst w'=>w'=w/\st.1=if fr then n else 0) ?_ ?_
 .exact AQ (λe=>⟨rfl,by rw[e];rfl⟩) (λe=>⟨rfl,by rw[e];rfl⟩)
 rintro⟨want,u⟩ _ w3 ⟨rfl,d⟩;simp only at d⊢;subst d;refine AX (λst w'=>Ext AP w3 w'/\(st.1=true↔n=0∨34359738368<=x∨34359738368-x<n∨cnt (G.l 0) x (x+n)≠n)) ?_ ?_
 .refine AQ (λe=>⟨Ext.refl _ _,?_⟩) (λe=>AB (λe2=>⟨Ext.refl _ _,?_⟩) (λe2=> ?_))
  .grind
  .grind
  .have e0:n≠0:=by simpa using e
   rw[AK (n:=34359738368-x)];refine AB (λe3=>⟨Ext.refl _ _,?_⟩) (λe3=> ?_)
   .grind
   .rw[AK (n:=x+n)];refine JH hE (h.D0.D0 0 (by decide)).row J (by omega) (by omega) λw9 T=>⟨T,?_⟩
    grind
 rintro⟨bt,u⟩ _ w6 ⟨j,v⟩;simp only at v⊢;refine AQ (λht=> ?_) (λhf=> ?_)
 .have:=hK w6 j;rwa[Ar,if_pos (v.1 ht)]at this
 .have O: ¬(n=0∨34359738368<=x∨34359738368-x<n∨cnt (G.l 0) x (x+n)≠n):=λh=>by grind
  rw[AK (n:=x+n)];refine JH hE ((h.FP j).D0.D0 1 (by decide)).row J (by omega) (by omega) λY y=> ?_;have:=hK Y (j.trans' y);rw[Ar,if_neg O]at this;refine AQ (λe1=> ?_) (λe1=> ?_)
  .rwa[if_pos (by grind)]at this
  .rwa[if_neg (by grind)]at this
omit hE in
theorem Rl{l:Nat->Iv}{x n e:Int}{fr:Bool}(he:e≠0)(h:Ar l x n fr e=0):
  n≠0/\x<34359738368/\n<=34359738368-x/\cnt (l 0) x (x+n)=n/\cnt (l 1) x (x+n)=if fr then n else 0:=by
 unfold Ar at h;omega
theorem Vl(h:Hg E w b G){x n:Int}(v:0<=x)(hx:x<18446744073709551616)(aD:0<=n)(hn:n<18446744073709551616){K:Int->Int->World->Prop}
  (aB:Ar G.l x n true 32≠0-> ∀w',Ext AP w w'->K 0 (Ar G.l x n true 32) w')
  (aC:Ar G.l x n true 32=0-> ∀w' G',L9 E b w G w' G'->G'.l=Sh.KV (Sh.KV (Sh.KV G.l 1 (Dz (G.l 1) x (x+n))) 2 (Dz (G.l 2) x (x+n))) 3 (Dz (G.l 3) x (x+n))->K (cnt (G.l 2) x (x+n)) 0 w'):
  F.DC E (some ⟨b,0,none⟩) x n K w:=by
 unfold F.DC T0.DC;refine Rk hE h v hx aD hn λw2 y=> ?_;refine AQ (λe=>aB (by grind) w2 y) (λe=> ?_);have hz:Ar G.l x n true 32=0:=by grind
 obtain⟨g1,g2,g3,g4,g5⟩:=Rl (by decide) hz;have en:u64 (x+n)=x+n:=AK;simp only[AG,add_eq,Nat.zero_add,en];have h2:=h.FP y;refine JH hE (h2.D0.D0 2 (by decide)).row v (by omega) (by omega) λw5 aI=> ?_;have m5:Q9 E b w G w5 G.s G.l:=Q9.start h (y.trans' aI);refine Nq hE (m5.D0.D0 1 (by decide)) v (by omega) (by omega) λw7 s7 aE aG Y=> ?_;have m7:=m5.KV (by decide:1<4) aE aG Y;refine Nq hE (m7.D0.D0 2 (by decide)) v (by omega) (by omega) λw9 s9 aF aH aA=> ?_;have m9:=m7.KV (by decide:2<4) aF aH aA;refine Nq hE (m9.D0.D0 3 (by decide)) v (by omega) (by omega) λaR s11 O T J=> ?_;have aJ:=m9.KV (by decide:3<4) O T J;have d:x<x+n:=by omega
 refine aJ.changed h ⟨?_,?_,?_,?_⟩ λw' G' hs hl=>aC hz w' G' hs hl
 .exact h.inv.top
 .intro m hm;have j:mem (Dz (G.l 1) x (x+n)) m:=hm;rw[Et d]at j;exact h.inv.free m j.1
 .intro m hm;have j:mem (Dz (G.l 2) x (x+n)) m:=hm;rw[Et d]at j;show mem (Dz (G.l 1) x (x+n)) m;rw[Et d];exact⟨h.inv.rel m j.1,j.2⟩
 .intro m;show mem (Dz (G.l 3) x (x+n)) m↔mem (Dz (G.l 1) x (x+n)) m/\ ¬mem (Dz (G.l 2) x (x+n)) m;rw[Et d,Et d,Et d,h.inv.idle m]
  grind
omit hE in
theorem YS(h:Hg E w b G){n p:Int}(K:0<n)(hf:findL (G.l 1) n=some p):Ar G.l p n true 32=0/\0<=p/\p<34359738368:=by
 obtain⟨q,J,rfl,hle⟩:=jA hf;have A2:=(h.D0.D0 1 (by decide)).row.ok;have v:=(h.D0.D0 0 (by decide)).row.ok;have y:=A2.mem J;have j: ∀m,q.1<=m->m<q.1+n->mem (G.l 1) m:=λm h1 h2=>⟨q,J,h1,by omega⟩;have d: ∀m,q.1<=m->m<q.1+n->mem (G.l 0) m:=λm h1 h2=>h.inv.free m (j m h1 h2);have O:=h.inv.top _ (d (q.1+n-1) (by omega) (by omega));have c1:=(Eu A2 (a:=q.1) (b:=q.1+n) (by omega)).2 j;have c0:=(Eu v (a:=q.1) (b:=q.1+n) (by omega)).2 d;refine⟨?_,y.1,by omega⟩;unfold Ar
 grind
theorem bR(h:Hg E w b G){n:Int}(j:0<=n)(hn:n<18446744073709551616){K:Int->Int->Int->World->Prop}
  (y:n=0->K 0 0 1 w)(J:n≠0->findL (G.l 1) n=none-> ∀w',Ext AP w w'->K 0 0 30 w')
  (O:n≠0-> ∀p,findL (G.l 1) n=some p-> ∀w' G',L9 E b w G w' G'->G'.l=Sh.KV (Sh.KV (Sh.KV G.l 1 (Dz (G.l 1) p (p+n))) 2 (Dz (G.l 2) p (p+n))) 3 (Dz (G.l 3) p (p+n))->K p (cnt (G.l 2) p (p+n)) 0 w'):
  F.A3 E (some ⟨b,0,none⟩) n K w:=by
 unfold F.A3 T0.A3;refine AQ (λe=>y (by simpa using e)) (λe=> ?_);have v:n≠0:=by simpa using e
 refine find_spec h j λw3 d=> ?_;rw[if_neg v];cases hf:findL (G.l 1) n with
 | none=>exact AQ (λ_=>J v hf w3 d) (λe=>by cases e)
 | some p=>
  refine AQ (λe=>by cases e) (λ_=> ?_);obtain⟨hz,Y,aC⟩:=YS h (by omega) hf;refine Vl hE (h.FP d) Y (by show p<_;omega) j hn (λT=>absurd hz T) λ_ w' G' hs hl=> ?_;exact O v p hf w' G' ((L9.nothing h d).trans hs) hl
theorem jB(h:Hg E w b G){c n:Int}(aW:0<=c)(hc:c<18446744073709551616)(aY:0<=n)(hn:n<18446744073709551616){K:Int->World->Prop}
  (aK:(n=0∨262144<n∨67108864<c∨67108864-c<n)->K 1 w)
  (aL: ¬(n=0∨262144<n∨67108864<c∨67108864-c<n)->cnt (G.l 0) (c*512) ((c+n)*512)≠0-> ∀w',Ext AP w w'->K 34 w')
  (aM: ¬(n=0∨262144<n∨67108864<c∨67108864-c<n)->cnt (G.l 0) (c*512) ((c+n)*512)=0-> ∀w' G',L9 E b w G w' G'->
   G'.l=Sh.KV (Sh.KV (Sh.KV G.l 0 (Dt (G.l 0) (c*512) ((c+n)*512))) 1 (Dt (G.l 1) (c*512) ((c+n)*512))) 2 (Dt (G.l 2) (c*512) ((c+n)*512))->K 0 w'):
  F.Dj E (some ⟨b,0,none⟩) c n K w:=by
 unfold F.Dj T0.Dj;refine AX (λst w'=>w'=w/\(st.1=true↔n=0∨262144<n∨67108864<c∨67108864-c<n)) ?_ ?_
 .refine AQ (λe=>⟨rfl,?_⟩) (λe=>AB (λe2=>⟨rfl,?_⟩) (λe2=>AB (λe3=>⟨rfl,?_⟩) (λe3=>⟨rfl,?_⟩)))
  .grind
  .grind
  .grind
  .have e0:n≠0:=by simpa using e
   rw[AK]
   grind
 rintro⟨bt,u⟩ _ w3 ⟨rfl,J⟩;simp only at J⊢;refine AQ (λht=>aK (J.1 ht)) (λhf=> ?_);have Y: ¬(n=0∨262144<n∨67108864<c∨67108864-c<n):=λh=>by grind
 have e1:u64 (c*512)=c*512:=AK;have e2:u64 (c+n)=c+n:=AK;have e3:u64 ((c+n)*512)=(c+n)*512:=AK;rw[e1,e2,e3];simp only[AG,add_eq,Nat.zero_add];refine AY λto aO=> ?_;subst aO;have aR:OX=4398046511104:=rfl;refine JH hE (h.D0.D0 0 (by decide)).row (by omega) (by omega) (by omega) λw7 aE=> ?_;have aZ:=DL (G.l 0) (c*512) ((c+n)*512);refine AB (λhp=>aL Y (by omega) w7 aE) (λhp=> ?_);have hz:cnt (G.l 0) (c*512) ((c+n)*512)=0:=by omega
 have m7:Q9 E b w3 G w7 G.s G.l:=Q9.start h aE;have v:c*512<(c+n)*512:=by omega
 refine LC hE (m7.D0.D0 0 (by decide)) (by omega) v (by omega) λw9 s9 aN aP aI=> ?_;have m9:=m7.KV (by decide:0<4) aN aP aI;refine LC hE (m9.D0.D0 1 (by decide)) (by omega) v (by omega) λa3 s11 aA aC O=> ?_;have aF:=m9.KV (by decide:1<4) aA aC O;refine LC hE (aF.D0.D0 2 (by decide)) (by omega) v (by omega) λa4 Kk aB aD T=> ?_;have aQ:=aF.KV (by decide:2<4) aB aD T;have A2: ∀i,i<4->Ok (G.l i):=λi hi=>(h.D0.D0 i hi).row.ok;have d: ∀i,i<4-> ∀m,mem (Dt (G.l i) (c*512) ((c+n)*512)) m↔mem (G.l i) m∨(c*512<=m/\m<(c+n)*512):=λi hi m=>EW (A2 i hi) v (by omega) (by omega) m;have j:=(DW (A2 0 (by decide)) (a:=c*512) (b:=(c+n)*512) (by omega)).1 hz;refine aQ.changed h ⟨?_,?_,?_,?_⟩ λw' G' hs hl=>aM Y hz w' G' hs hl
 .intro m hm;rcases(d 0 (by decide) m).1 hm with g|g
  .exact h.inv.top m g
  .omega
 .intro m hm;refine(d 0 (by decide) m).2 ?_;rcases(d 1 (by decide) m).1 hm with g|g
  .exact .inl (h.inv.free m g)
  omega
 .intro m hm;refine(d 1 (by decide) m).2 ?_;rcases(d 2 (by decide) m).1 hm with g|g
  .exact .inl (h.inv.rel m g)
  omega
 .intro m;show mem (G.l 3) m↔mem (Dt (G.l 1) (c*512) ((c+n)*512)) m/\ ¬mem (Dt (G.l 2) (c*512) ((c+n)*512)) m;rw[d 1 (by decide),d 2 (by decide),h.inv.idle m];constructor
  .rintro⟨a1,a2⟩;have:=j m;refine⟨.inl a1,λy=> ?_⟩;rcases y with y|y
   .exact a2 y
   .exact j m y.1 y.2 (h.inv.free m a1)
  grind
theorem T5(h:Hg E w b G){x n:Int}{i:Nat}(Y:i=2∨i=3)(y:0<=x)(hx:x<18446744073709551616)(aI:0<=n)(hn:n<18446744073709551616){K:Int->World->Prop}
  (aG:Ar G.l x n false 31≠0-> ∀w',Ext AP w w'->K (Ar G.l x n false 31) w')
  (aH:Ar G.l x n false 31=0-> ∀w' G',L9 E b w G w' G'->G'.l=Sh.KV (Sh.KV G.l 1 (Dt (G.l 1) x (x+n))) i (Dt (G.l i) x (x+n))->K 0 w'):
  F.Dp E (some ⟨b,0,none⟩) x n (some ⟨b,2*i,none⟩) K w:=by
 unfold F.Dp T0.Dp;refine Rk hE h y hx aI hn λw2 aD=> ?_;refine AQ (λe=>aG (by grind) w2 aD) (λe=> ?_);have hz:Ar G.l x n false 31=0:=by grind
 obtain⟨g1,g2,g3,g4,g5⟩:=Rl (by decide) hz;have en:u64 (x+n)=x+n:=AK;simp only[AG,add_eq,Nat.zero_add,en];have aN:OX=4398046511104:=rfl;have aB:i<4:=by omega
 have O:i≠1:=by omega
 have m2:Q9 E b w G w2 G.s G.l:=Q9.start h aD;have J:x<x+n:=by omega
 refine LC hE (m2.D0.D0 1 (by decide)) y J (by omega) λw4 s4 aJ aL aE=> ?_;have m4:=m2.KV (by decide:1<4) aJ aL aE;have aC:=m4.D0.D0 i aB;rw[Hm _ _ O,Hm _ _ O]at aC;refine LC hE aC y J (by omega) λw5 s5 aK aM aF=> ?_;have m5:=m4.KV aB aK aM (by rw[Hm _ _ O];exact aF);have A2: ∀i,i<4->Ok (G.l i):=λi Y=>(h.D0.D0 i Y).row.ok;have d: ∀i,i<4-> ∀m,mem (Dt (G.l i) x (x+n)) m↔mem (G.l i) m∨(x<=m/\m<x+n):=λi Y m=>EW (A2 i Y) J y (by omega) m;have T:=(DW (A2 1 (by decide)) (a:=x) (b:=x+n) (by omega)).1 g5;have aA:=(Eu (A2 0 (by decide)) (a:=x) (b:=x+n) (by omega)).1 (by omega);have l0:Sh.KV (Sh.KV G.l 1 (Dt (G.l 1) x (x+n))) i (Dt (G.l i) x (x+n)) 0=G.l 0:=by rw[Hm _ _ (by omega),Hm _ _ (by omega)]
 have l1:Sh.KV (Sh.KV G.l 1 (Dt (G.l 1) x (x+n))) i (Dt (G.l i) x (x+n)) 1=Dt (G.l 1) x (x+n):=by rw[Hm _ _ (by omega),Jo]
 refine m5.changed h ⟨?_,?_,?_,?_⟩ λw' G' hs hl=>aH hz w' G' hs hl
 .rw[l0];exact h.inv.top
 .intro m;rw[l0,l1,d 1 (by decide)];rintro(j|j)
  .exact h.inv.free m j
  .exact aA m j.1 j.2
 .intro m;rw[l1,d 1 (by decide)];rcases Y with rfl|rfl
  .rw[Jo,d 2 (by decide)];rintro(j|j)
   .exact .inl (h.inv.rel m j)
   omega
  .rw[Hm _ _ (by decide),Hm _ _ (by decide)];exact λj=>.inl (h.inv.rel m j)
 .intro m;rw[l1,d 1 (by decide)];have aV:x<=m/\m<x+n-> ¬mem (G.l 1) m:=λj=>T m j.1 j.2;have v:=h.inv.idle m;have aO:=h.inv.rel m;rcases Y with rfl|rfl
  .rw[Jo,d 2 (by decide),Hm _ _ (by decide),Hm _ _ (by decide),v]
   grind
  .rw[Jo,d 3 (by decide),Hm _ _ (by decide),Hm _ _ (by decide),v]
   grind
end
def jC{E:Env}{w:World}{K:Option Addr->World->Prop}(Y: ∀w' b G,vN E w w' b G->(∀i,G.l i=[])->K (some ⟨b,0,none⟩) w'):F.Hl E K w:=by
 unfold F.Hl T0.Hl;refine BS λw2 d T v=> ?_;have J: ∀k,¬Ke ⟨none,0,0⟩ k:=by rintro k ⟨a,ha,_⟩;cases ha
 have hs:IA E w2 w.heap.size (λ_=>⟨none,0,0⟩) (λ_=>[]):=by
  refine⟨λi hi=> ?_,λi j _ _ _ k hk=>absurd hk (J k),⟨_,by rw[AW d];rfl⟩,by simp[World.frozen?,d]⟩;have:i=0∨i=1∨i=2∨i=3:=by omega
  rcases this with rfl|rfl|rfl|rfl<;>
   exact⟨⟨by rw[AW d];rfl,by simp[World.frozen?,d],I0.nil _ _ _ _,trivial,by simp,by grind⟩,by rw[AW d];rfl,by simp[World.frozen?,d]⟩
 refine P7 hs λw' sm O9 O hm he hsm y=> ?_;refine Y w' w.heap.size ⟨λ_=>⟨none,0,0⟩,λ_=>[],sm,O9,λ_ _=>none⟩ ⟨⟨O,hm,λk hk=>⟨?_,λi _ e=>J k e⟩,λj i x hx=>(by cases hx),?_⟩,?_,?_⟩ λ_=>rfl
 .have:=hsm k hk;omega
 .exact⟨λn h=>absurd h (Bt n),λn h=>absurd h (Bt n),λn h=>absurd h (Bt n),λn=>⟨λh=>absurd h (Bt n),λh=>absurd h.1 (Bt n)⟩⟩
 .exact v.trans he (λ_ _ f=>f) λk hk e=>by have:k=w.heap.size:=e;omega
 .rintro k (e|⟨i,_,e⟩|e|e)
  .omega
  .exact absurd e (J k)
  .have:=hsm k e;omega
  .have:=y k e;omega
def Gg(E:Env)(b:Nat)(l:Nat->Iv):Pr where
 holds D w:= ∃G,Hg E w b G/\G.l=l/\ ∀k,D k↔P8 b G k
 loc h he hS:=let⟨G,h1,h2,h3⟩:=h;⟨G,h1.ext he λk hk=>hS k ((h3 k).2 hk),h2,h3⟩
 lt h hk:=let⟨G,h1,h2,h3⟩:=h;h1.OK ((h3 _).1 hk)
def Sat.tree{E:Env}{b:Nat}{l:Nat->Iv}{F:List Pr}{w:World}(H:Sat (Gg E b l::F) w):
  ∃G,Hg E w b G/\G.l=l/\ ∀w' G',L9 E b w G w' G'->Sat (Gg E b G'.l::F) w':=by
 obtain⟨D,⟨G,h1,h2,d⟩,hs⟩:=H.step;refine⟨G,h1,h2,λw' G' st=>hs w' (P8 b G') _ (st.ext.mono λi _ j=>(d i).2 j) ⟨G',st.rep,rfl,λ_=>Iff.rfl⟩ λk hk=> ?_⟩;rcases st.VC k hk with h|h
 .exact .inl ((d k).2 h)
 .exact .inr h
def Sat.tK{E:Env}{b:Nat}{F:List Pr}{w w':World}{G:M3}(H:Sat F w)(h:vN E w w' b G):Sat (Gg E b G.l::F) w':=
 H.new (P:=Gg E b G.l) (D:=P8 b G) h.ext ⟨G,h.rep,rfl,λ_=>Iff.rfl⟩ h.young
def Sat.Lb{E:Env}{b:Nat}{l:Nat->Iv}{F:List Pr}{w:World}(H:Sat (Gg E b l::F) w):xS l/\ ∀i,i<4->Ok (l i):=by
 obtain⟨G,h1,rfl,_⟩:=H.tree;exact⟨h1.inv,λi d=>(h1.D0.D0 i d).row.ok⟩
def Rm(l:Iv)(p n:Int):Prop:= ∀m,p<=m->m<p+n->mem l m
def LD{l:Iv}(h:Ok l){n p:Int}(Y:0<n)(hf:findL l n=some p):Rm l p n/\ ∀v,Rm l v n->p<=v:=by
 induction l with
 | nil=>cases hf
 | cons q r ih=>
  simp only[findL]at hf;split at hf
  .cases hf;refine⟨λm h1 h2=>mem_cons.2 (.inl ⟨h1,by omega⟩),λv j=> ?_⟩;rcases mem_cons.1 (j v (by omega) (by omega))with h1|⟨y,d,h1,h2⟩
   .exact h1.1
   .have:=h.2.2.2.1 y d;omega
  .obtain⟨h1,h2⟩:=ih h.tail hf;refine⟨λm J K=>mem_cons.2 (.inr (h1 m J K)),λv j=> ?_⟩;obtain⟨y,d,J,K⟩:=Wa h (by omega) j;rcases List.mem_cons.1 d with rfl|d
   .omega
   .exact h2 v λm O T=>⟨y,d,by omega,by omega⟩
def Mc{l:Iv}(h:Ok l){n:Int}(O:0<n)(hf:findL l n=none): ∀p,¬Rm l p n:=by
 induction l with
 | nil=>intro p hp;exact Bt _ (hp p (by omega) (by omega))
 | cons q r ih=>
  simp only[findL]at hf;split at hf
  .cases hf
  .intro p hp;obtain⟨j,d,v,y⟩:=Wa h (by omega) hp;rcases List.mem_cons.1 d with rfl|d
   .omega
   .exact ih h.tail hf p λm J K=>⟨j,d,by omega,by omega⟩
section
variable{E:Env}(hE:EnvS E){w:World}{b:Nat}{G:M3}
include hE
end
def Oj(l:Nat->Iv)(x n:Int):Nat->Iv:=Sh.KV (Sh.KV (Sh.KV l 1 (Dz (l 1) x (x+n))) 2 (Dz (l 2) x (x+n))) 3 (Dz (l 3) x (x+n))
def Vm(l:Nat->Iv)(c n:Int):Nat->Iv:=Sh.KV (Sh.KV (Sh.KV l 0 (Dt (l 0) (c*512) ((c+n)*512))) 1 (Dt (l 1) (c*512) ((c+n)*512))) 2 (Dt (l 2) (c*512) ((c+n)*512))
def M4(l:Nat->Iv)(i:Nat)(x n:Int):Nat->Iv:=Sh.KV (Sh.KV l 1 (Dt (l 1) x (x+n))) i (Dt (l i) x (x+n))
def Lc(c n:Int):Prop:=n=0∨262144<n∨67108864<c∨67108864-c<n
section
variable{E:Env}{w:World}{Z:List Pr}{b:Nat}{l:Nat->Iv}
def oA(H:Sat Z w){K:Option Addr->World->Prop}(d: ∀w' b l,(∀i,l i=[])->Sat (Gg E b l::Z) w'->K (some ⟨b,0,none⟩) w'):F.Hl E K w:=
 jC λw' b G hm j=>d w' b G.l j (H.tK hm)
def jD(H:Sat (Gg E b l::Z) w){n:Int}(d:0<=n){K:Int->Bool->World->Prop}
  (j: ∀w',Sat (Gg E b l::Z) w'->K ((if n=0 then none else findL (l 1) n).getD 0) (if n=0 then none else findL (l 1) n).isSome w'):F.DB E (some ⟨b,0,none⟩) n K w:=by
 obtain⟨G,v,rfl,st⟩:=H.tree;exact find_spec v d λw' he=>j w' (H.nothing he)
def VE(H:Sat (Gg E b l::Z) w){K:Int->World->Prop}(d:K (Gn (l 2)) w):F.CJ E (some ⟨b,0,none⟩) K w:=by
 obtain⟨G,j,rfl,st⟩:=H.tree;exact VD j d
variable(hE:EnvS E)
include hE
theorem jE(H:Sat (Gg E b l::Z) w){c n:Int}(d:0<=c)(T:c<18446744073709551616)(J:0<=n)(hn:n<18446744073709551616){K:Int->World->Prop}
  (j:Lc c n->K 1 w)(v: ¬Lc c n->cnt (l 0) (c*512) ((c+n)*512)≠0-> ∀w',Sat (Gg E b l::Z) w'->K 34 w')
  (y: ¬Lc c n->cnt (l 0) (c*512) ((c+n)*512)=0-> ∀w',Sat (Gg E b (Vm l c n)::Z) w'->K 0 w'):F.Dj E (some ⟨b,0,none⟩) c n K w:=by
 obtain⟨G,O,rfl,st⟩:=H.tree;exact jB hE O d T J hn j (λh1 h2 w' he=>v h1 h2 w' (H.nothing he)) λh1 h2 w' G' hs Y=>y h1 h2 w' (by have:=st _ _ hs;rw[Y]at this;exact this)
theorem jF(H:Sat (Gg E b l::Z) w){x n:Int}(y:0<=x)(Y:x<18446744073709551616)(v:0<=n)(T:n<18446744073709551616){K:Int->Int->World->Prop}
  (d:Ar l x n true 32≠0-> ∀w',Sat (Gg E b l::Z) w'->K 0 (Ar l x n true 32) w')
  (j:Ar l x n true 32=0-> ∀w',Sat (Gg E b (Oj l x n)::Z) w'->K (cnt (l 2) x (x+n)) 0 w'):F.DC E (some ⟨b,0,none⟩) x n K w:=by
 obtain⟨G,J,rfl,st⟩:=H.tree;exact Vl hE J y Y v T (λh1 w' he=>d h1 w' (H.nothing he)) λh1 w' G' hs O=>j h1 w' (by have:=st _ _ hs;rw[O]at this;exact this)
theorem bS(H:Sat (Gg E b l::Z) w){n:Int}(y:0<=n)(T:n<18446744073709551616){K:Int->Int->Int->World->Prop}
  (d:n=0->K 0 0 1 w)(j:n≠0->findL (l 1) n=none-> ∀w',Sat (Gg E b l::Z) w'->K 0 0 30 w')
  (v:n≠0-> ∀p,findL (l 1) n=some p-> ∀w',Sat (Gg E b (Oj l p n)::Z) w'->K p (cnt (l 2) p (p+n)) 0 w'):F.A3 E (some ⟨b,0,none⟩) n K w:=by
 obtain⟨G,J,rfl,st⟩:=H.tree;exact bR hE J y T d (λh1 h2 w' he=>j h1 h2 w' (H.nothing he)) λh1 p hp w' G' hs O=>v h1 p hp w' (by have:=st _ _ hs;rw[O]at this;exact this)
theorem jG(H:Sat (Gg E b l::Z) w){x n:Int}(y:0<=x)(Y:x<18446744073709551616)(v:0<=n)(T:n<18446744073709551616){K:Int->World->Prop}
  (d:Ar l x n false 31≠0-> ∀w',Sat (Gg E b l::Z) w'->K (Ar l x n false 31) w')
  (j:Ar l x n false 31=0-> ∀w',Sat (Gg E b (M4 l 3 x n)::Z) w'->K 0 w'):F.DE E (some ⟨b,0,none⟩) x n K w:=by
 obtain⟨G,J,rfl,st⟩:=H.tree;unfold F.DE T0.DE;simp only[AG,add_eq,Nat.zero_add];exact T5 hE J (i:=3) (.inr rfl) y Y v T (λh1 w' he=>d h1 w' (H.nothing he)) λh1 w' G' hs O=>j h1 w' (by have:=st _ _ hs;rw[O]at this;exact this)
theorem jH(H:Sat (Gg E b l::Z) w){x n:Int}(y:0<=x)(Y:x<18446744073709551616)(v:0<=n)(T:n<18446744073709551616){K:Int->World->Prop}
  (d:Ar l x n false 31≠0-> ∀w',Sat (Gg E b l::Z) w'->K (Ar l x n false 31) w')
  (j:Ar l x n false 31=0-> ∀w',Sat (Gg E b (M4 l 2 x n)::Z) w'->K 0 w'):F.Dk E (some ⟨b,0,none⟩) x n K w:=by
 obtain⟨G,J,rfl,st⟩:=H.tree;unfold F.Dk T0.Dk;simp only[AG,add_eq,Nat.zero_add];exact T5 hE J (i:=2) (.inl rfl) y Y v T (λh1 w' he=>d h1 w' (H.nothing he)) λh1 w' G' hs O=>j h1 w' (by have:=st _ _ hs;rw[O]at this;exact this)
end
def cu(u:Int->Bool):Nat->Int
 | 0=>0
 | k+1=>cu u k+(if u k then 1 else 0)
def oB{u:Int->Bool}{l:Iv}{fr:Int}(h:Ok l){n:Nat}(hu: ∀k:Int,0<=k->k<n->(u k=true↔mem l (fr+k))):cu u n=cnt l fr (fr+n):=by
 induction n with
 | zero=>
  have:=DL l fr (fr+(0:Nat));have h2:=E0 h (a:=fr) (b:=fr+((0:Nat):Int)) (by omega);show 0=_;omega
 | succ n ih=>
  have hs:=Jd h (a:=fr) (k:=fr+n) (by omega);have e:fr+((n+1:Nat):Int)=fr+(n:Int)+1:=by omega
  rw[e];simp only[cu]
  grind
def oC(u:Int->Bool)(n:Nat):0<=cu u n/\cu u n<=n:=by
 induction n with
 | zero=>simp[cu]
 | succ n ih=>simp only[cu];omega
structure TV where
 KW:Int->Bool
 fr:Int->Bool
 rl:Int->Bool
def inr(x n p:Int):Bool:=decide (x<=p)&&decide (p<x+n)
def Ai{x n p:Int}:inr x n p=true↔x<=p/\p<x+n:=by simp[inr]
def IJ{x n p:Int}:inr x n p=false↔ ¬(x<=p/\p<x+n):=by rw[<-Ai];grind
def LO(f:Int->Bool)(p n:Int):Prop:= ∀m,p<=m->m<p+n->f m=true
def TV.take(V:TV)(x n:Int):TV:=⟨V.KW,λp=>V.fr p&& !inr x n p,λp=>V.rl p&& !inr x n p⟩
def TV.OY(V:TV)(x n:Int):TV:=⟨V.KW,λp=>V.fr p||inr x n p,V.rl⟩
def TV.back(V:TV)(x n:Int):TV:=⟨V.KW,λp=>V.fr p||inr x n p,λp=>V.rl p||inr x n p⟩
def TV.grow(V:TV)(c n:Int):TV:=⟨λp=>V.KW p||inr (c*512) (n*512) p,λp=>V.fr p||inr (c*512) (n*512) p,λp=>V.rl p||inr (c*512) (n*512) p⟩
def TV.nil:TV:=⟨λ_=>false,λ_=>false,λ_=>false⟩
structure LV(l:Nat->Iv)(V:TV):Prop where
 i: ∀p,mem (l 0) p↔V.KW p=true
 f: ∀p,mem (l 1) p↔V.fr p=true
 r: ∀p,mem (l 2) p↔V.rl p=true
noncomputable def NT(f:Int->Bool):Int:= @dite Int (∃l,Ok l/\ ∀p,mem l p↔f p=true) (Classical.propDecidable _) (λh=>Gn (Classical.choose h)) λ_=>0
def YT{f:Int->Bool}{l:Iv}(h:Ok l)(j: ∀p,mem l p↔f p=true):NT f=Gn l:=by
 have hex: ∃l,Ok l/\ ∀p,mem l p↔f p=true:=⟨l,h,j⟩;unfold NT;rw[dif_pos hex];have d:=Classical.choose_spec hex;rw[mN d.1 h λp=>(d.2 p).trans (j p).symm]
def cr(f:Int->Bool)(x n:Int):Int:=cu (λk=>f (x+k)) n.toNat
def bT{f:Int->Bool}{l:Iv}(h:Ok l)(d: ∀p,mem l p↔f p=true){x n:Int}(j:0<=n):cr f x n=cnt l x (x+n):=by
 unfold cr;rw[oB h (l:=l) (fr:=x) λk _ _=>(d (x+k)).symm]
 grind
def tL{f:Int->Bool}{x n:Int}(h: ∀m,x<=m->m<x+n->f m=false):cr f x n=0:=by
 unfold cr;have key: ∀k:Nat,(k:Int)<=n->cu (λk=>f (x+k)) k=0:=by
  intro k
  induction k with
  | zero=>intro _;rfl
  | succ k ih=>
   intro hk;simp only[cu]
   grind
 by_cases g:0<=n
 .grind
 .have:n.toNat=0:=by omega
  rw[this];rfl
def xT(f:Int->Bool)(x:Int):cr f x 1=if f x then 1 else 0:=by
 show cu (λk=>f (x+k)) 1=_;simp[cu]
def xU(f:Int->Bool)(x:Int){n:Int}(d:0<=n):0<=cr f x n/\cr f x n<=n:=by
 have:=oC (λk=>f (x+k)) n.toNat;unfold cr;omega
def Bi(E:Env)(b:Nat)(V:TV):Pr:=Ex λl:Nat->Iv=>Jx (LV l V) (Gg E b l)
structure T6(V:TV):Prop where
 fi: ∀p,V.fr p=true->V.KW p=true
 rf: ∀p,V.rl p=true->V.fr p=true
 Ja: ∀p,V.KW p=true->0<=p/\p<34359738368
 ci: ∃l,Ok l/\ ∀p,mem l p↔V.KW p=true
 cf: ∃l,Ok l/\ ∀p,mem l p↔V.fr p=true
 cr: ∃l,Ok l/\ ∀p,mem l p↔V.rl p=true
def Hh(V:TV)(x n:Int):Prop:=n≠0/\x+n<=34359738368/\LO V.KW x n
def TV.idle(V:TV)(p:Int):Bool:=V.fr p&& !V.rl p
section
variable{E:Env}{w:World}{Z:List Pr}{b:Nat}{V:TV}{l:Nat->Iv}
def Sat.JS:Sat (Bi E b V::Z) w↔ ∃l,LV l V/\Sat (Gg E b l::Z) w:=by
 unfold Bi;rw[Sat.ex];constructor
 .rintro⟨l,h⟩;exact⟨l,Sat.where.1 h⟩
 .rintro⟨l,h⟩;exact⟨l,Sat.where.2 h⟩
def LV.ok(h:LV l V)(H:Sat (Gg E b l::Z) w):T6 V:=by
 obtain⟨d,A2⟩:=H.Lb;exact⟨λp hp=>(h.i p).1 (d.free p ((h.f p).2 hp)),λp hp=>(h.f p).1 (d.rel p ((h.r p).2 hp)),λp hp=>⟨Pl (A2 0 (by decide)) ((h.i p).2 hp),d.top p ((h.i p).2 hp)⟩,
  ⟨l 0,A2 0 (by decide),h.i⟩,⟨l 1,A2 1 (by decide),h.f⟩,⟨l 2,A2 2 (by decide),h.r⟩⟩
def Sat.tvok(H:Sat (Bi E b V::Z) w):T6 V:=by
 obtain⟨l,h,H⟩:=Sat.JS.1 H;exact h.ok H
def IW(h:LV l V){p n:Int}:Rm (l 1) p n↔LO V.fr p n:=by
 constructor
 .intro d m a c;exact(h.f m).1 (d m a c)
 .intro d m a c;exact(h.f m).2 (d m a c)
def T7(h:LV l V)(A2: ∀i,i<4->Ok (l i)){x n:Int}(hx:0<=x)(hn:0<=n)(free:Bool){e:Int}(he:e≠0):
  (¬Hh V x n->Ar l x n free e=10)/\(Hh V x n->free=true-> ¬LO V.fr x n->Ar l x n free e=e)/\(Hh V x n->free=true->LO V.fr x n->Ar l x n free e=0)/\
  (Hh V x n->free=false->(∃m,x<=m/\m<x+n/\V.fr m=true)->Ar l x n free e=e)/\(Hh V x n->free=false->(∀m,x<=m->m<x+n->V.fr m=false)->Ar l x n free e=0):=by
 have J:=Eu (A2 0 (by decide)) (a:=x) (b:=x+n) (by omega);have K:=Eu (A2 1 (by decide)) (a:=x) (b:=x+n) (by omega);have O:=DW (A2 1 (by decide)) (a:=x) (b:=x+n) (by omega);have v: ∀{m:Int},LO V.KW x n↔ ∀p,x<=p->p<x+n->mem (l 0) p:=λ{_}=>⟨λd p a c=>(h.i p).2 (d p a c),λd p a c=>(h.i p).1 (d p a c)⟩;have j:Hh V x n-> ¬(n=0∨34359738368<=x∨34359738368-x<n∨cnt (l 0) x (x+n)≠n):=λ⟨h1,h2,h3⟩ hb=>by
  have:=J.2 ((v (m:=0)).1 h3);omega
 refine⟨λT=> ?_,λy hf d=> ?_,λy hf d=> ?_,λy hf d=> ?_,λy hf d=> ?_⟩
 .unfold Ar;rw[if_pos];refine Classical.byContradiction λhb=>T ⟨λe=>hb (.inl e),?_,?_⟩
  .omega
  .refine(v (m:=0)).2 (J.1 ?_);omega
 .unfold Ar;rw[if_neg (j y),if_pos];rw[hf,if_pos rfl];intro Y;exact d λm a c=>(h.f m).1 (K.1 (by omega) m a c)
 .unfold Ar;rw[if_neg (j y),if_neg];rw[hf,if_pos rfl,Decidable.not_not];have:=K.2 λm a c=>(h.f m).2 (d m a c);omega
 .unfold Ar;rw[if_neg (j y),if_pos];rw[hf,if_neg (by decide)];intro Y;obtain⟨m,a,c,hm⟩:=d;exact O.1 Y m a c ((h.f m).2 hm)
 .unfold Ar;rw[if_neg (j y),if_neg];rw[hf,if_neg (by decide),Decidable.not_not];refine O.2 λm a c hm=> ?_;have:=(h.f m).1 hm
  grind
def LV.Oj(h:LV l V){x n:Int}(d:0<n):LV (Sh.Oj l x n) (V.take x n):=by
 refine⟨h.i,λp=> ?_,λp=> ?_⟩
 .show mem (Dz (l 1) x (x+n)) p↔(V.fr p&& !inr x n p)=true;rw[Et (by omega),h.f,<-Ai];grind
 .show mem (Dz (l 2) x (x+n)) p↔(V.rl p&& !inr x n p)=true;rw[Et (by omega),h.r,<-Ai];grind
def LV.M4(h:LV l V)(A2: ∀i,i<4->Ok (l i)){x n:Int}(d:0<=x)(v:0<n)(j:x+n<=34359738368):LV (Sh.M4 l 3 x n) (V.OY x n)/\LV (Sh.M4 l 2 x n) (V.back x n):=by
 have a1:=EW (A2 1 (by decide)) (a:=x) (b:=x+n) (by omega) d (by omega);have a2:=EW (A2 2 (by decide)) (a:=x) (b:=x+n) (by omega) d (by omega);refine⟨⟨h.i,λp=> ?_,h.r⟩,⟨h.i,λp=> ?_,λp=> ?_⟩⟩
 .show mem (Dt (l 1) x (x+n)) p↔(V.fr p||inr x n p)=true;rw[a1,h.f,<-Ai,Bool.or_eq_true]
 .show mem (Dt (l 1) x (x+n)) p↔(V.fr p||inr x n p)=true;rw[a1,h.f,<-Ai,Bool.or_eq_true]
 .show mem (Dt (l 2) x (x+n)) p↔(V.rl p||inr x n p)=true;rw[a2,h.r,<-Ai,Bool.or_eq_true]
def LV.Vm(h:LV l V)(A2: ∀i,i<4->Ok (l i)){c n:Int}(j:0<=c)(v:0<n)(d:c+n<=67108864):LV (Sh.Vm l c n) (V.grow c n):=by
 have e:(c+n)*512=c*512+n*512:=by omega
 have a0:=EW (A2 0 (by decide)) (a:=c*512) (b:=c*512+n*512) (by omega) (by omega) (by omega);have a1:=EW (A2 1 (by decide)) (a:=c*512) (b:=c*512+n*512) (by omega) (by omega) (by omega);have a2:=EW (A2 2 (by decide)) (a:=c*512) (b:=c*512+n*512) (by omega) (by omega) (by omega);refine⟨λp=> ?_,λp=> ?_,λp=> ?_⟩
 .show mem (Dt (l 0) (c*512) ((c+n)*512)) p↔(V.KW p||inr (c*512) (n*512) p)=true;rw[e,a0,h.i,<-Ai,Bool.or_eq_true]
 .show mem (Dt (l 1) (c*512) ((c+n)*512)) p↔(V.fr p||inr (c*512) (n*512) p)=true;rw[e,a1,h.f,<-Ai,Bool.or_eq_true]
 .show mem (Dt (l 2) (c*512) ((c+n)*512)) p↔(V.rl p||inr (c*512) (n*512) p)=true;rw[e,a2,h.r,<-Ai,Bool.or_eq_true]
def oD(H:Sat Z w){K:Option Addr->World->Prop}(j: ∀w' b,Sat (Bi E b TV.nil::Z) w'->K (some ⟨b,0,none⟩) w'):F.Hl E K w:=
 oA H λw' b l v d=>j w' b (Sat.JS.2 ⟨l,by
  have nm: ∀i p,¬mem (l i) p:=λi p=>by rw[v];exact Bt p
  exact⟨λp=>⟨λh=>absurd h (nm 0 p),λh=>(by cases h)⟩,λp=>⟨λh=>absurd h (nm 1 p),λh=>(by cases h)⟩,λp=>⟨λh=>absurd h (nm 2 p),λh=>(by cases h)⟩⟩,d⟩)
def Gt(V:TV)(n p:Int):Prop:=0<=p/\p+n<=34359738368/\LO V.fr p n/\ ∀d,LO V.fr d n->p<=d
def PA(h:LV l V)(H:Sat (Gg E b l::Z) w){n:Int}(y:0<n):(findL (l 1) n=none/\ ∀p,¬LO V.fr p n)∨ ∃p,findL (l 1) n=some p/\Gt V n p:=by
 obtain⟨K,A2⟩:=H.Lb;have j:=h.ok H;cases hf:findL (l 1) n with
 | none=>exact .inl ⟨rfl,λp hp=>Mc (A2 1 (by decide)) y hf p ((IW h).2 hp)⟩
 | some p=>
  obtain⟨h1,h2⟩:=LD (A2 1 (by decide)) y hf;have d:=(IW h).1 h1;have b1:=j.Ja p (j.fi p (d p (Int.le_refl _) (by omega)));have b2:=j.Ja (p+n-1) (j.fi _ (d (p+n-1) (by omega) (by omega)));exact .inr ⟨p,rfl,b1.1,by omega,d,λJ v=>h2 J ((IW h).2 v)⟩
def jI(H:Sat (Bi E b V::Z) w){n:Int}(d:0<=n){K:Int->Bool->World->Prop}
  (v:n=0∨(∀p,¬LO V.fr p n)-> ∀w',Sat (Bi E b V::Z) w'->K 0 false w')(y:n≠0-> ∀p,Gt V n p-> ∀w',Sat (Bi E b V::Z) w'->K p true w'):F.DB E (some ⟨b,0,none⟩) n K w:=by
 obtain⟨l,h,H⟩:=Sat.JS.1 H;refine jD H d λw' j=> ?_;have J:=Sat.JS.2 ⟨l,h,j⟩;by_cases e:n=0
 .grind
 .rw[if_neg e];rcases PA h H (n:=n) (by omega)with ⟨h1,h2⟩|⟨p,h1,h2⟩
  .grind
  grind
def VF(H:Sat (Bi E b V::Z) w){K:Int->World->Prop}(d:K (NT V.rl) w):F.CJ E (some ⟨b,0,none⟩) K w:=by
 obtain⟨l,h,H⟩:=Sat.JS.1 H;rw[YT (H.Lb.2 2 (by decide)) h.r]at d;exact VE H d
variable(hE:EnvS E)
include hE
theorem jJ(H:Sat (Bi E b V::Z) w){c n:Int}(j:0<=c)(hc:c<18446744073709551616)(Y:0<=n)(hn:n<18446744073709551616){K:Int->World->Prop}
  (J:Lc c n->K 1 w)(O: ¬Lc c n->(∃p,c*512<=p/\p<(c+n)*512/\V.KW p=true)-> ∀w',Sat (Bi E b V::Z) w'->K 34 w')
  (T: ¬Lc c n->(∀p,c*512<=p->p<(c+n)*512->V.KW p=false)-> ∀w',Sat (Bi E b (V.grow c n)::Z) w'->K 0 w'):F.Dj E (some ⟨b,0,none⟩) c n K w:=by
 obtain⟨l,h,H⟩:=Sat.JS.1 H;have A2:=H.Lb.2;refine jE hE H j hc Y hn J (λv d w' y=>O v ?_ w' (Sat.JS.2 ⟨l,h,y⟩)) λv d w' y=>T v (λp h1 h2=> ?_) w' (Sat.JS.2 ⟨_,?_,y⟩)
 .refine Classical.byContradiction λaA=>d ((DW (A2 0 (by decide)) (by omega)).2 λp h1 h2 hm=>aA ⟨p,h1,h2,(h.i p).1 hm⟩)
 .have:=(DW (A2 0 (by decide)) (by omega)).1 d p h1 h2;rw[h.i]at this
  grind
 .unfold Lc at v;exact h.Vm A2 j (by omega) (by omega)
theorem jK(H:Sat (Bi E b V::Z) w){x n:Int}(j:0<=x)(hx:x<18446744073709551616)(d:0<=n)(Y:n<18446744073709551616){K:Int->Int->World->Prop}
  (O: ¬Hh V x n-> ∀w',Sat (Bi E b V::Z) w'->K 0 10 w')(T:Hh V x n-> ¬LO V.fr x n-> ∀w',Sat (Bi E b V::Z) w'->K 0 32 w')
  (y:Hh V x n->LO V.fr x n-> ∀w',Sat (Bi E b (V.take x n)::Z) w'->K (cr V.rl x n) 0 w'):F.DC E (some ⟨b,0,none⟩) x n K w:=by
 obtain⟨l,h,H⟩:=Sat.JS.1 H;have A2:=H.Lb.2;obtain⟨l1,l2,l3,_,_⟩:=T7 h A2 j d true (e:=32) (by decide);refine jF hE H j hx d Y (λJ w' v=> ?_) λJ w' v=> ?_
 .have HV:=Sat.JS.2 ⟨l,h,v⟩;by_cases g:Hh V x n
  .grind
  grind
 .have g:Hh V x n:=Classical.byContradiction λg=>by grind
  have g2:LO V.fr x n:=Classical.byContradiction λg2=>by grind
  rw[<-bT (A2 2 (by decide)) h.r d];have:=g.1;exact y g g2 w' (Sat.JS.2 ⟨_,h.Oj (by omega),v⟩)
theorem T8(H:Sat (Bi E b V::Z) w){n:Int}(d:0<=n)(O:n<18446744073709551616){K:Int->Int->Int->World->Prop}
  (v:n=0->K 0 0 1 w)(y:n≠0->(∀p,¬LO V.fr p n)-> ∀w',Sat (Bi E b V::Z) w'->K 0 0 30 w')
  (J:n≠0-> ∀p,Gt V n p-> ∀w',Sat (Bi E b (V.take p n)::Z) w'->K p (cr V.rl p n) 0 w'):F.A3 E (some ⟨b,0,none⟩) n K w:=by
 obtain⟨l,h,H⟩:=Sat.JS.1 H;have A2:=H.Lb.2;refine bS hE H d O v (λh1 hf w' j=> ?_) λh1 p hf w' j=> ?_
 .rcases PA h H (n:=n) (by omega)with ⟨_,g2⟩|⟨p,g1,g2⟩
  .exact y h1 g2 w' (Sat.JS.2 ⟨l,h,j⟩)
  .rw[hf]at g1;cases g1
 .rcases PA h H (n:=n) (by omega)with ⟨g1,_⟩|⟨p',g1,g2⟩
  .rw[hf]at g1;cases g1
  .rw[hf]at g1;cases g1;rw[<-bT (A2 2 (by decide)) h.r d];exact J h1 p g2 w' (Sat.JS.2 ⟨_,h.Oj (by omega),j⟩)
theorem Vn(H:Sat (Bi E b V::Z) w){x n:Int}(d:0<=x)(hx:x<18446744073709551616)(j:0<=n)(Y:n<18446744073709551616){K:Int->World->Prop}
  (O: ¬Hh V x n-> ∀w',Sat (Bi E b V::Z) w'->K 10 w')(T:Hh V x n->(∃m,x<=m/\m<x+n/\V.fr m=true)-> ∀w',Sat (Bi E b V::Z) w'->K 31 w')
  (J:Hh V x n->(∀m,x<=m->m<x+n->V.fr m=false)-> ∀w',Sat (Bi E b (V.OY x n)::Z) w'->K 0 w'):F.DE E (some ⟨b,0,none⟩) x n K w:=by
 obtain⟨l,h,H⟩:=Sat.JS.1 H;have A2:=H.Lb.2;obtain⟨l1,_,_,l4,l5⟩:=T7 h A2 d j false (e:=31) (by decide);have em: ∀(P:Prop),P∨ ¬P:=Classical.em;refine jG hE H d hx j Y (λy w' v=> ?_) λy w' v=> ?_
 .have HV:=Sat.JS.2 ⟨l,h,v⟩;by_cases g:Hh V x n
  .rcases em (∃m,x<=m/\m<x+n/\V.fr m=true)with g2|g2
   .grind
   grind
  grind
 .have g:Hh V x n:=Classical.byContradiction λg=>by grind
  have g2: ∀m,x<=m->m<x+n->V.fr m=false:=λm a c=>by
   cases e:V.fr m with
   | false=>rfl
   | true=>rw[l4 g rfl ⟨m,a,c,e⟩]at y;cases y
  have g1:=g.1;exact J g g2 w' (Sat.JS.2 ⟨_,(h.M4 A2 d (by omega) g.2.1).1,v⟩)
theorem jL(H:Sat (Bi E b V::Z) w){x n:Int}(d:0<=x)(hx:x<18446744073709551616)(j:0<=n)(Y:n<18446744073709551616){K:Int->World->Prop}
  (O: ¬Hh V x n-> ∀w',Sat (Bi E b V::Z) w'->K 10 w')(T:Hh V x n->(∃m,x<=m/\m<x+n/\V.fr m=true)-> ∀w',Sat (Bi E b V::Z) w'->K 31 w')
  (J:Hh V x n->(∀m,x<=m->m<x+n->V.fr m=false)-> ∀w',Sat (Bi E b (V.back x n)::Z) w'->K 0 w'):F.Dk E (some ⟨b,0,none⟩) x n K w:=by
 obtain⟨l,h,H⟩:=Sat.JS.1 H;have A2:=H.Lb.2;obtain⟨l1,_,_,l4,l5⟩:=T7 h A2 d j false (e:=31) (by decide);have em: ∀(P:Prop),P∨ ¬P:=Classical.em;refine jH hE H d hx j Y (λy w' v=> ?_) λy w' v=> ?_
 .have HV:=Sat.JS.2 ⟨l,h,v⟩;by_cases g:Hh V x n
  .rcases em (∃m,x<=m/\m<x+n/\V.fr m=true)with g2|g2
   .grind
   grind
  grind
 .have g:Hh V x n:=Classical.byContradiction λg=>by grind
  have g2: ∀m,x<=m->m<x+n->V.fr m=false:=λm a c=>by
   cases e:V.fr m with
   | false=>rfl
   | true=>rw[l4 g rfl ⟨m,a,c,e⟩]at y;cases y
  have g1:=g.1;exact J g g2 w' (Sat.JS.2 ⟨_,(h.M4 A2 d (by omega) g.2.1).2,v⟩)
end
def xV{a b:Nat}(d:a<18446744073709551616)(j:b<18446744073709551616):D5 .u64 0 (a:Int) (b:Int)=((a&&&b:Nat):Int):=by
 show IntKind.wrap .u64 ((BitVec.ofInt 64 (a:Int)&&&BitVec.ofInt 64 (b:Int)).toNat:Int)=_;rw[BitVec.toNat_and,BitVec.ofInt_natCast,BitVec.ofInt_natCast,BitVec.toNat_ofNat,BitVec.toNat_ofNat,Nat.mod_eq_of_lt d,Nat.mod_eq_of_lt j];exact Tk (Nat.lt_of_le_of_lt Nat.and_le_left d)
def fdN(a k:Nat)(hk:k<=64):Int.fdiv (a:Int) (2^(min (Int.toNat (k:Int)) (IntKind.bits .u64)))=((a/2^k:Nat):Int):=by
 have d:IntKind.bits .u64=64:=rfl
 grind
section
variable{E:Env}{w:World}{Z:List Pr}
def RA{u:Nat->Bool}(hT:GL E.AN w){K:Int->World->Prop}(y:(∀i,i<64->u i=false)->K 64 w)
  (J: ∀r:Nat,r<64->u r=true->(∀i,i<r->u i=false)->K r w):F.Bo E (W u) K w:=by
 unfold F.Bo;refine BF (λe=>y (GN.1 e)) λO=> ?_;have T:wN u 64≠0:=λe=>O (by unfold W;rw[e];rfl);have d:=M0 u 64;obtain⟨h1,h2⟩:=Lib.lowest_bit 64 _ T d;obtain⟨c1,c2,c3⟩:=rR T d;have hand:D5 .u64 0 (W u) (u64 (0-W u))=((2^Lib.ctz 64 (wN u 64):Nat):Int):=by
  have:=mY T d;rw[h1]at this;exact this
 rw[hand];generalize Lib.ctz 64 (wN u 64)=k at h2 c1 c2 c3;obtain⟨d1,d2⟩:=Lib.deBruijn64_at k c1;have e1:u64 (((2^k:Nat):Int)*285870213051353865)=((2^k*285870213051353865 %18446744073709551616:Nat):Int):=by
  rw[Ph,Int.natCast_emod,Int.natCast_mul];rfl
 rw[e1];have Y:=fdN (2^k*285870213051353865 %18446744073709551616) 58 (by decide);have v:(2:Nat)^58=288230376151711744:=by decide
 rw[v]at Y;have j:Int.fdiv ((2^k*285870213051353865 %18446744073709551616:Nat):Int) (2^(min (Int.toNat 58) (IntKind.bits .u64)))=((2^k*285870213051353865 %18446744073709551616/288230376151711744:Nat):Int):=Y;rw[j];generalize 2^k*285870213051353865 %18446744073709551616/288230376151711744=idx at d1 d2;have Ca:=hT idx d1;rw[d2]at Ca;refine⟨by decide,⟨by omega,by omega⟩,(k:Int),?_,?_⟩
 .rw[Int.toNat_natCast,Nat.mul_one,add_eq,Nat.zero_add];exact Ca
 .rw[AE];refine J k c1 ?_ λi hi=> ?_
  .have:=c2;rw[D6]at this;grind
  .have:=c3 i hi;rw[D6]at this
   grind
def YU{u:Nat->Bool}(hu: ∀i,64<=i->u i=false){K:Int->World->Prop}(hK:K (cN u 64) w):F.GI E (W u) K w:=by
 unfold F.GI;have v:wN u 64<18446744073709551616:=M0 u 64;have f: ∀(a k d:Nat) (k':Int),k'=(k:Int)->k<=64->2^k=d->Int.fdiv (a:Int) (2^(min (Int.toNat k') (IntKind.bits .u64)))=((a/d:Nat):Int):=λa k d k' e h hd=>by rw[e,<-hd];exact fdN a k h
 have y: ∀{a:Nat},a<18446744073709551616->u64 (a:Int)=(a:Int):=λh=>AK;have half: ∀(a d:Nat),a<18446744073709551616->a/d<18446744073709551616:=λa d h=>Nat.lt_of_le_of_lt (Nat.div_le_self _ _) h;refine⟨by decide,AY λx1 T=>⟨by decide,AY λx2 Y=>⟨by decide,AY λx3 aA=>⟨by decide,AY λx4 aB=>⟨by decide,AY λx5 aC=>⟨by decide,AY λx6 aD=>AY λt ht=> ?_⟩⟩⟩⟩⟩⟩;have m1:(6148914691236517205:Int)=((6148914691236517205:Nat):Int):=rfl;have m2:(3689348814741910323:Int)=((3689348814741910323:Nat):Int):=rfl;have m3:(1085102592571150095:Int)=((1085102592571150095:Nat):Int):=rfl;have ew:W u=((wN u 64:Nat):Int):=rfl;obtain⟨J,h0⟩: ∃J,J=wN u 64:=⟨_,rfl⟩;obtain⟨O,h1⟩: ∃O,O=(J/2&&&6148914691236517205)+(J&&&6148914691236517205):=⟨_,rfl⟩;obtain⟨y2,h2⟩: ∃y2,y2=(O/4&&&3689348814741910323)+(O&&&3689348814741910323):=⟨_,rfl⟩;obtain⟨y3,h3⟩: ∃y3,y3=(y2/16+y2)&&&1085102592571150095:=⟨_,rfl⟩;obtain⟨y4,h4⟩: ∃y4,y4=y3+y3/256:=⟨_,rfl⟩;obtain⟨y5,h5⟩: ∃y5,y5=y4+y4/65536:=⟨_,rfl⟩;obtain⟨j,h6⟩: ∃j,j=y5+y5/4294967296:=⟨_,rfl⟩;obtain⟨l1,l2,l3,l4,l5,l6,l7⟩:=swar hu h0 h1 h2 h3 h4 h5 h6;rw[<-h0]at v ew;rw[ew,f J 1 2 1 rfl (by decide) rfl,m1,xV (half J 2 v) (by decide),xV v (by decide),<-Int.natCast_add,<-h1,y l1]at T;subst T;rw[f O 2 4 2 rfl (by decide) rfl,m2,xV (half O 4 l1) (by decide),xV l1 (by decide),<-Int.natCast_add,<-h2,y l2]at Y;subst Y;rw[f y2 4 16 4 rfl (by decide) rfl,<-Int.natCast_add,y l3,m3,xV l3 (by decide),<-h3]at aA;subst aA;rw[f y3 8 256 8 rfl (by decide) rfl,<-Int.natCast_add,<-h4,y l4]at aB;subst aB;rw[f y4 16 65536 16 rfl (by decide) rfl,<-Int.natCast_add,<-h5,y l5]at aC;subst aC;rw[f y5 32 4294967296 32 rfl (by decide) rfl,<-Int.natCast_add,<-h6,y (Nat.lt_trans l6 (by decide))]at aD;subst aD;rw[AE]at ht;have e:D5 .i64 0 (j:Int) 127=((j %128:Nat):Int):=by
  show IntKind.wrap .i64 ((BitVec.ofInt 64 (j:Int)&&&BitVec.ofInt 64 ((127:Nat):Int)).toNat:Int)=_;rw[BitVec.toNat_and,BitVec.ofInt_natCast,BitVec.ofInt_natCast,BitVec.toNat_ofNat,BitVec.toNat_ofNat,Nat.mod_eq_of_lt (show j<2^64 from Nat.lt_trans l6 (by decide)),Nat.mod_eq_of_lt (by decide)];have:j&&&127=j %128:=Nat.and_two_pow_sub_one_eq_mod j 7;rw[this];exact AE
 rw[e,l7]at ht
 grind
def Jp(u:Nat->Bool)(i n:Nat):Prop:= ∀k,k<n->u (i+k)=true
def bU{u:Nat->Bool}(hu: ∀i,64<=i->u i=false)(hT:GL E.AN w){n:Int}(h1:1<=n)(h2:n<=64){K:Int->Bool->World->Prop}
  (aI:(∀i,¬Jp u i n.toNat)-> ∀r,K r false w)(aB: ∀i,Jp u i n.toNat->(∀j,Jp u j n.toNat->i<=j)->i+n.toNat<=64->K i true w):F.G5 E (W u) n K w:=by
 unfold F.G5 T0.G5;refine AH (λst w'=>w'=w/\ ∃v:Nat->Bool,st.1=W v/\(∀i,64<=i->v i=false)/\0<=st.2.2.1/\st.2.2.1<64/\st.2.1=st.2.2.1+1/\ ∀i,Jp v i (st.2.2.1.toNat+1)↔Jp u i n.toNat) (λst _=>st.2.2.1.toNat)
  ⟨rfl,u,rfl,hu,?_,?_,?_,λi=> ?_⟩ ?_
 .show 0<=i64 (n-1);rw[AE];omega
 .show i64 (n-1)<64;rw[AE];omega
 .show n=i64 (n-1)+1;rw[AE];omega
 .show Jp u i ((i64 (n-1)).toNat+1)↔_;rw[AE,show(n-1).toNat+1=n.toNat by omega]
 rintro⟨x,m,left,c⟩ _ w2 ⟨rfl,v,hx,hv,l0,l1,hm,d⟩;dsimp only at hx l0 l1 hm d⊢;subst hx;subst hm;refine AB (λaE=>⟨by decide,AY λML aA=> ?_⟩) λhz=> ?_
 .rw[Int.tdiv_eq_ediv_of_nonneg (by omega),AE,WY,Sq]at aA;have b0:1<=ML/\ML<=left/\2*ML<=left+1:=by omega
  refine⟨by omega,AY λx' Y=> ?_⟩;rw[mW v (by omega) (by omega),mU]at Y;rw[AE (n:=left+1-ML),AE (n:=left-ML)];refine⟨⟨by trivial,_,Y,λi hi=>by grind,by omega,by omega,by omega,λi=> ?_⟩,by omega⟩;rw[<-d];have J: ∀j,(v j&&(decide (j+ML.toNat<64)&&v (j+ML.toNat)))=true↔v j=true/\v (j+ML.toNat)=true:=λj=>by grind
  constructor
  .intro h k hk;by_cases g:k<(left-ML).toNat+1
   .exact((J _).1 (h k g)).1
   .have:=((J _).1 (h (k-ML.toNat) (by omega))).2;rwa[show i+(k-ML.toNat)+ML.toNat=i+k by omega]at this
  .intro h k hk;refine(J _).2 ⟨h k (by omega),?_⟩;have:=h (k+ML.toNat) (by omega)
   grind
 .have e:left=0:=by omega
  subst e;have y: ∀i,v i=true↔Jp u i n.toNat:=λi=>by
   rw[<-d];constructor
   .intro h k hk;have:k=0:=by omega
    subst this;exact h
   .intro h;exact h 0 (by decide)
  refine RA hT (λaC=> ?_) λr hr O aD=> ?_
  .have e0:W v=0:=GN.2 aC
   grind
  .have aJ:W v≠0:=λe=>by rw[GN.1 e r hr]at O;cases O
   have e1:(W v !=0)=true:=by grind
   rw[e1];have T:=(y r).1 O;refine aB r T (λj hj=> ?_) ?_
   .refine Classical.byContradiction λg=> ?_
    grind
   .refine Classical.byContradiction λg=> ?_;have h3:=T (n.toNat-1) (by omega)
    grind
structure CS where
 base:Int
 has:Nat->Bool
 rel:Nat->Bool
structure P9(S:CS):Prop where
 b0:0<=S.base
 b1:S.base<34359738368
 b64:S.base %64=0
 hz: ∀i,64<=i->S.has i=false
 rh: ∀i,S.rel i=true->S.has i=true
def CS.nil:CS:=⟨0,λ_=>false,λ_=>false⟩
def CS.empty(S:CS):Prop:= ∀i,S.has i=false
def BE(E:Env)(c:Nat)(S:CS):Pr:=Jx (P9 S) (Cells c E.F5 [.int .u64 S.base,.int .u64 (W S.has),.int .u64 (W S.rel)])
def P9.nil:P9 CS.nil:=⟨by decide,by decide,by decide,λ_ _=>rfl,λ_ h=>h⟩
def Sat.cache{c:Nat}{S:CS}:Sat (BE E c S::Z) w↔P9 S/\Sat (Cells c E.F5 [.int .u64 S.base,.int .u64 (W S.has),.int .u64 (W S.rel)]::Z) w:=Sat.where
def jM(H:Sat Z w){K:Option Addr->World->Prop}(v: ∀w' c,Sat (BE E c CS.nil::Z) w'->K (some ⟨c,0,none⟩) w'):F.MY E K w:=by
 unfold F.MY;refine AR H λc w' d _=>v w' c (Sat.cache.2 ⟨P9.nil,?_⟩);have e:W CS.nil.has=0:=Wh;have j:W CS.nil.rel=0:=Wh;rw[e,j];exact d
variable{c t:Nat}{S:CS}{V:TV}
def P9.emp(h:P9 S):W S.has=0↔S.empty:=by
 rw[GN];constructor
 .intro g i;by_cases e:i<64
  .exact g i e
  .exact h.hz i (by omega)
 .intro g i _;exact g i
def Ld(H:Sat (BE E c S::Z) w){K:Bool->World->Prop}(j:S.empty->K true w)(d: ¬S.empty->K false w):F.E3 E (some ⟨c,0,none⟩) K w:=by
 obtain⟨hI,H⟩:=Sat.cache.1 H;unfold F.E3;simp only[AG];refine⟨_,H.cell rfl,?_⟩;by_cases g:W S.has=0
 .rw[show(W S.has==0)=true by grind];exact j (hI.emp.1 g)
 .rw[show(W S.has==0)=false by grind];exact d λh=>g (hI.emp.2 h)
def bV(H:Sat (BE E c S::Z) w){K:Int->Int->Int->World->Prop}(j:S.empty->K 0 0 0 w)(v: ¬S.empty-> ∀w',Sat (BE E c S::Z) w'->K S.base (W S.has) (W S.rel) w'):F.DP E (some ⟨c,0,none⟩) K w:=by
 unfold F.DP T0.DP;refine Ld H (λh=>AU rfl (j h)) λh=>AO rfl ?_;have y:=H.drew;obtain⟨hI,d⟩:=Sat.cache.1 y;simp only[AG];exact⟨_,d.Ah rfl,_,d.cell rfl,_,d.cell rfl,v h _ y⟩
def CS.alloc(S:CS)(i n:Nat):CS:=⟨S.base,λk=>S.has k&& !(decide (i<=k)&&decide (k<i+n)),λk=>S.rel k&& !(decide (i<=k)&&decide (k<i+n))⟩
def jN{n:Int}(h1:1<=n)(h2:n<=64){i:Nat}(d:i+n.toNat<=64):
  u64 ((Int.fdiv 18446744073709551615 (2^(min (Int.toNat (i64 (64-n))) (IntKind.bits .u64))))*2^(min (Int.toNat (i:Int)) (IntKind.bits .u64)))=W λk=>decide (i<=k)&&decide (k<i+n.toNat):=by
 rw[AE (n:=64-n),<-Wj,mW _ (by omega) (by omega),mX _ (by omega) (by omega)]
 grind
def oE{u v:Nat->Bool}{n:Nat}(h: ∀i,i<n->u i=v i):cN u n=cN v n:=by
 induction n with
 | zero=>rfl
 | succ n ih=>simp only[cN];grind
def YV(hT:GL E.AN w)(H:Sat (BE E c S::Z) w){n:Int}(aE: -9223372036854775808<=n)(aF:n<9223372036854775808){K:Int->Int->Int->World->Prop}
  (J:n<1∨64<n->K 0 0 1 w)(T:1<=n->n<=64->(∀i,¬Jp S.has i n.toNat)->K 0 0 30 w)
  (Y:1<=n->n<=64-> ∀i,Jp S.has i n.toNat->(∀j,Jp S.has j n.toNat->i<=j)->i+n.toNat<=64-> ∀w',Sat (BE E c (S.alloc i n.toNat)::Z) w'->
   K (S.base+i) (cN (λk=>S.rel k&&(decide (i<=k)&&decide (k<i+n.toNat))) 64) 0 w'):F.C5 E (some ⟨c,0,none⟩) n K w:=by
 obtain⟨hI,H⟩:=Sat.cache.1 H;unfold F.C5 T0.C5;refine AV (AB (λh j=>AU rfl (J (.inl h))) λg1 j=>AB (λh=>J (.inr h)) λg2=> ?_);simp only[AG];refine⟨_,H.cell rfl,bU hI.hz hT (by omega) (by omega) (λaA r=>AU rfl (T (by omega) (by omega) aA)) λi hr O y=>AO rfl ⟨?_,by omega,AY λmask hm=> ?_⟩⟩
 .rw[AE (n:=64-n)];omega
 rw[jN (by omega) (by omega) y]at hm;subst hm;refine⟨_,H.cell rfl,?_⟩;rw[mU];refine YU (λk hk=> ?_) ?_
 .grind
 refine⟨_,H.cell rfl,AZ H rfl (by simp) λaH d=> ?_⟩;simp only[List.set,Nat.zero_add]at d;rw[Nh]at d;refine⟨_,d.cell rfl,AZ d rfl (by simp) λaB v=> ?_⟩;simp only[List.set,Nat.zero_add]at v;rw[Nh]at v;refine⟨_,v.Ah rfl,?_⟩;have hb:=hI.b0;have aD:=hI.b1;rw[AK (n:=(i:Int)),AK (n:=S.base+(i:Int))];refine Y (by omega) (by omega) i hr O y aB (Sat.cache.2 ⟨⟨hI.b0,hI.b1,hI.b64,λk hk=> ?_,λk hk=> ?_⟩,v⟩)
 .show(S.has k&&_)=false;rw[hI.hz k hk];rfl
 .have hk:(S.rel k&& !(decide (i<=k)&&decide (k<i+n.toNat)))=true:=hk;show(S.has k&& !(decide (i<=k)&&decide (k<i+n.toNat)))=true;rw[Bool.and_eq_true]at hk⊢;exact⟨hI.rh k hk.1,hk.2⟩
variable(hE:EnvS E)
include hE
theorem bW(H:Sat (BE E c S::Bi E t V::Z) w){K:Int->World->Prop}
  (aH: ¬S.empty-> ∀w',Sat (BE E c S::Bi E t V::Z) w'->K 33 w')(aR:S.empty->(∀p,V.fr p=false)-> ∀w',Sat (BE E c S::Bi E t V::Z) w'->K 30 w')
  (aS:S.empty-> ∀p,Gt V 1 p-> ∀w',Sat (BE E c ⟨p/64*64,λi=>decide (i<64)&&V.fr (p/64*64+i),λi=>decide (i<64)&&V.rl (p/64*64+i)⟩::Bi E t (V.take (p/64*64) 64)::Z) w'->K 0 w'):
  F.Dw E (some ⟨c,0,none⟩) (some ⟨t,0,none⟩) K w:=by
 unfold F.Dw T0.Dw;have sw: ∀{A B:Pr} {w'},Sat (A::B::Z) w'->Sat (B::A::Z) w':=λh=>h.perm (.swap _ _ _);refine jI (sw H) (by decide) (λd w3 H3=> ?_) λ_ p hp w3 H3=> ?_
 .have d: ∀p,V.fr p=false:=λp=>by
   rcases d with h|h
   .cases h
   .cases g:V.fr p with
    | false=>rfl
    | true=>exact absurd (λm a b=>by grind) (h p)
  refine Ld (sw H3) (λhe=>AO rfl (AU rfl (aR he d w3 (sw H3)))) λhe=>AU rfl (aH he w3 (sw H3))
 refine Ld (sw H3) (λhe=>AO rfl (AO rfl ⟨by decide,?_⟩)) λhe=>AU rfl (aH he w3 (sw H3));have hv:=H3.tvok;have aT:=hp.1;have a3:=hp.2.1;obtain⟨hI,H4⟩:=Sat.cache.1 (sw H3);rw[Int.tdiv_eq_ediv_of_nonneg aT,AK (n:=p/64),AK (n:=p/64*64)];simp only[AG];generalize hB:p/64*64=B;have aF:0<=B/\B+64<=34359738368/\B %64=0:=by omega
 refine CO H4 rfl (by simp) λw7 H7=> ?_;simp only[List.set]at H7;have hz: ∀i,S.rel i=false:=λi=>by
  cases g:S.rel i with
  | false=>rfl
  | true=>have:=hI.rh i g;rw[he i]at this;cases this
 have e1:W S.has=W λi=>decide (i<0)&&V.fr (B+i):=HJ λi _=>by rw[he i];simp
 have e2:W S.rel=W λi=>decide (i<0)&&V.rl (B+i):=HJ λi _=>by grind
 rw[e1,e2]at H7;have Y:V=V.take B 0:=by
  have e: ∀q,inr B 0 q=false:=λq=>IJ.2 (by omega);unfold TV.take;simp[e]
 refine AH (λst w'=> ∃i:Nat,st.1=(i:Int)/\i<=64/\Sat (Cells c E.F5 [.int .u64 B,.int .u64 (W λk=>decide (k<i)&&V.fr (B+k)),.int .u64 (W λk=>decide (k<i)&&V.rl (B+k))]::Bi E t (V.take B i)::Z) w') (λst _=>(64-st.1).toNat)
  ⟨0,rfl,by decide,by rw[show((0:Nat):Int)=0 from rfl,<-Y];exact H7⟩ ?_
 rintro⟨i',v⟩ _ w9 ⟨i,T,aW,H9⟩;dsimp only at T⊢;subst T;refine AB (λa2=>⟨B,H9.Ah rfl,?_⟩) λa1=> ?_
 .rw[AK (n:=B+(i:Int)),AK (n:=(i:Int)+1)];have aL:inr B i (B+i)=false:=IJ.2 (by omega);have aP:(V.take B i).fr (B+i)=V.fr (B+i):=by show(V.fr (B+i)&& !inr B i (B+i))=_;grind
  have aU:(V.take B i).rl (B+i)=V.rl (B+i):=by show(V.rl (B+i)&& !inr B i (B+i))=_;grind
  have aC: ∀q,inr B ((i+1:Nat):Int) q=(inr B i q||inr (B+i) 1 q):=λq=>by
   rw[Bool.eq_iff_iff,Bool.or_eq_true,Ai,Ai,Ai];omega
  have O:V.fr (B+i)=false-> ∀{w'},Sat (Bi E t (V.take B i)::Cells c E.F5 [.int .u64 B,.int .u64 (W λk=>decide (k<i)&&V.fr (B+k)),.int .u64 (W λk=>decide (k<i)&&V.rl (B+k))]::Z) w'->
    (∃j:Nat,(i:Int)+1=(j:Int)/\j<=64/\Sat (Cells c E.F5 [.int .u64 B,.int .u64 (W λk=>decide (k<j)&&V.fr (B+k)),.int .u64 (W λk=>decide (k<j)&&V.rl (B+k))]::Bi E t (V.take B j)::Z) w')/\(64-((i:Int)+1)).toNat<(64-(i:Int)).toNat:=λhf w' h=>by
   refine⟨⟨i+1,by omega,by omega,?_⟩,by omega⟩;have hr:V.rl (B+i)=false:=by
    cases g:V.rl (B+i)with
    | false=>rfl
    | true=>have:=hv.rf _ g;grind
   have f1:W (λk=>decide (k<i+1)&&V.fr (B+k))=W λk=>decide (k<i)&&V.fr (B+k):=HJ λk _=>by grind
   have f2:W (λk=>decide (k<i+1)&&V.rl (B+k))=W λk=>decide (k<i)&&V.rl (B+k):=HJ λk _=>by grind
   have f3:V.take B ((i+1:Nat):Int)=V.take B i:=by
    unfold TV.take;congr 1
    .funext q;rw[aC];by_cases e:q=B+i
     .grind
     .have:inr (B+i) 1 q=false:=IJ.2 (by omega)
      grind
    .funext q;rw[aC];by_cases e:q=B+i
     .grind
     .have:inr (B+i) 1 q=false:=IJ.2 (by omega)
      grind
   grind
  refine jK hE (sw H9) (by omega) (by omega) (by decide) (by decide) (λd aK y=> ?_) (λaQ d aK y=> ?_) λaQ aJ aK y=> ?_
  .refine AO (by decide) (O ?_ y);cases g:V.fr (B+i)with
   | false=>rfl
   | true=>exact absurd ⟨by decide,by omega,λm a b=>by rw[show m=B+i by omega];exact hv.fi _ g⟩ d
  .refine AO (by decide) (O ?_ y);cases g:V.fr (B+i)with
   | false=>rfl
   | true=>exact absurd (λm a b=>by grind) d
  .have hf:V.fr (B+i)=true:=by rw[<-aP];exact aJ _ (Int.le_refl _) (by omega)
   rw[xT,aU];have aA:=sw y;have aD: ∀(u:Nat->Bool),u64 (1*2^(min (Int.toNat (i:Int)) (IntKind.bits .u64)))=W λk=>decide (i<=k)&&(k-i==0):=λ_=>by
    have:=mX (λk=>k==0) (n:=(i:Int)) (by omega) (by omega);rw[mT,Int.toNat_natCast]at this;exact this
   have aI: ∀f:Int->Bool,f (B+i)=true->W (λk=>(decide (k<i)&&f (B+k))||(decide (i<=k)&&(k-i==0)))=W λk=>decide (k<i+1)&&f (B+k):=λf a0=>HJ λk _=>by grind
   refine AU (by decide) ⟨_,aA.cell rfl,by omega,AZ aA rfl (by simp) λa4 aE=>⟨_,(by exact aE.cell rfl),by omega,AZ aE rfl (by simp) λa5 J=> ?_⟩⟩;simp only[List.set,Nat.zero_add]at J;rw[aD (λ_=>false),mV,aI V.fr hf]at J;have aG:D5 .u64 1 (W λk=>decide (k<i)&&V.rl (B+k)) (u64 ((if V.rl (B+i)=true then 1 else 0)*2^(min (Int.toNat (i:Int)) (IntKind.bits .u64))))=W λk=>decide (k<i+1)&&V.rl (B+k):=by
    cases g:V.rl (B+i)with
    | true=>rw[if_pos rfl,aD (λ_=>false),mV,aI V.rl g]
    | false=>
     rw[if_neg (by decide),Int.zero_mul,show u64 0=0 from rfl,<-Wh,mV];refine HJ λk _=> ?_
     grind
   rw[aG]at J;have f3:(V.take B i).take (B+i) 1=V.take B ((i+1:Nat):Int):=by
    unfold TV.take
    grind
   rw[f3]at J;exact⟨⟨i+1,by omega,by omega,J⟩,by omega⟩
 .have e:i=64:=by omega
  subst e;have:=aS he p hp w9;rw[hB]at this;refine this (Sat.cache.2 ⟨⟨aF.1,by grind,aF.2.2,λi T=> ?_,λi T=> ?_⟩,H9⟩)
  .grind
  .have T:(decide (i<64)&&V.rl (B+i))=true:=T;show(decide (i<64)&&V.fr (B+i))=true;rw[Bool.and_eq_true]at T⊢;exact⟨T.1,hv.rf _ T.2⟩
def CS.own(S:CS)(p:Int):Bool:=inr S.base 64 p&&S.has (p-S.base).toNat
def CS.QA(S:CS)(p:Int):Bool:=inr S.base 64 p&&S.rel (p-S.base).toNat
def TV.flush(V:TV)(S:CS):TV:=⟨V.KW,λp=>V.fr p||S.own p,λp=>V.rl p||S.QA p⟩
end
end Go.Sh

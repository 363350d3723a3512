/- The page tree and the caches of pages do what their pages say. No further condition. -/
import Derived.Test.YtjibkpcalinfhaaGreatDoorS
import Derived.Test.YtjibkpcalinfhaaGreatDoorM
import Derived.Test.YtjibkpcalinfhaaGreatDoorA
set_option linter.all false
set_option maxRecDepth 50000
set_option maxHeartbeats 1000000
namespace Go.Sh
def KF{α:Type}(f:Nat->α)(i:Nat)(x:α):Nat->α:=λj=>if j=i then x else f j
@[simp] theorem JX{α:Type}(f:Nat->α)(i:Nat)(x:α):KF f i x i=x:=if_pos rfl
def HK{α:Type}(f:Nat->α){i j:Nat}(x:α)(h:j≠i):KF f i x j=f j:=if_neg h
structure HR(E:Env)(w:World)(b:Nat)(s:Nat->AX)(l:Nat->Iv):Prop where
 Dt: ∀i,i<4->JW E w b (2*i) (s i) (l i)
 zN: ∀i j,i<4->j<4->i≠j-> ∀k,KP (s i) k-> ¬KP (s j) k
 c8: ∃v,w.cell? ⟨b,8,none⟩=some v
 f8:w.frozen? ⟨b,8,none⟩=false
section
variable{E:Env}{w w':World}{b:Nat}{s:Nat->AX}{l:Nat->Iv}
def HR.lt(h:HR E w b s l):b<w.heap.size:=(h.Dt 0 (by decide)).row.lt
def HR.N7(h:HR E w b s l){i k:Nat}(d:i<4)(hk:KP (s i) k):k<w.heap.size:=((h.Dt i d).row.own.GR hk).2
def HR.ext{S:Nat->Prop}(h:HR E w b s l)(he:Ext S w w')(d: ¬S b)(hs: ∀i k,i<4->KP (s i) k-> ¬S k):HR E w' b s l:=
 ⟨λi j=>(h.Dt i j).ext he d λa y=>hs i _ j ⟨a,y,rfl⟩,h.zN,h.c8.imp λv C=>he.cell C d,by rw[he.frozen (p:=⟨b,8,none⟩) h.lt d];exact h.f8⟩
def HR.FE(h:HR E w b s l)(he:Ext AQ w w'):HR E w' b s l:=h.ext he (λf=>f) λ_ _ _ _ f=>f
def HR.KF(h:HR E w b s l){i:Nat}(O:i<4){s':AX}{l':Iv}(hs:JW E w' b (2*i) s' l')(hu:NP b (Wv (2*i)) w w')(hf:TK w (s i) s'):
  HR E w' b (KF s i s') (KF l i l'):=by
 have hold: ∀k,KP s' k->KP (s i) k∨w.heap.size<=k:=by
  rintro k ⟨a,J,rfl⟩;rcases hf with e|e
  .rw[e]at J;exact .inl ⟨a,J,rfl⟩
  grind
 refine⟨λj C=> ?_,λj k C hk y m hm d=> ?_,?_,?_⟩
 .by_cases e:j=i
  .subst e;rw[JX,JX];exact hs
  .rw[HK _ _ e,HK _ _ e];refine(h.Dt j C).KF hu ?_ ?_<;>(unfold Wv;omega)
 .by_cases e:j=i
  .subst e;rw[JX]at hm;rw[HK _ _ (λe=>y e.symm)]at d;rcases hold m hm with g|g
   .exact h.zN _ _ C hk y m g d
   .have:=h.N7 hk d;omega
  .rw[HK _ _ e]at hm;by_cases e2:k=i
   .subst e2;rw[JX]at d;rcases hold m d with g|g
    .exact h.zN _ _ C hk y m hm g
    .have:=h.N7 C hm;omega
   .rw[HK _ _ e2]at d;exact h.zN _ _ C hk y m hm d
 .obtain⟨v,K⟩:=h.c8;exact⟨v,by rw[hu.C5 8 (by unfold Wv;omega)];exact K⟩
 .rw[hu.nP];exact h.f8
def HR.pL(h:HR E w b s l){i:Nat}(v:i<4){s':AX}(hf:TK w (s i) s'){j k:Nat}(hk:KP (Sh.KF s i s' j) k):KP (s j) k∨w.heap.size<=k:=by
 by_cases e:j=i
 .subst e;rw[JX]at hk;obtain⟨a,d,rfl⟩:=hk;rcases hf with e|e
  .rw[e]at d;exact .inl ⟨a,d,rfl⟩
  grind
 .rw[HK _ _ e]at hk
  grind
end
def sumV(q:Int×Int×Int):Value:=.agg ⟨[.int .i64 q.1,.int .i64 q.2.1,.int .i64 q.2.2]⟩
structure TQ(E:Env)(w:World)(b:Nat)(sm:AX)(Oh:List Nat)(sum:Nat->Int->Option (Int×Int×Int)):Prop where
 c8:w.cell? ⟨b,8,none⟩=some (.slice sm.base sm.len sm.cap)
 own:Ie w 0 E.Ev 1 sm (Oh.map λk=>Value.map (some k))
 len:Oh.length=4
 nodup:Oh.Nodup
 maps: ∀j k,Oh[j]? =some k-> ∃es c m,w.heap[k]? =some (.map es c)/\MapI .u64 es c m/\ ∀i,aget m i=(sum j i).map sumV
def TQ.ext{E:Env}{w w':World}{b:Nat}{sm:AX}{Oh:List Nat}{sum:Nat->Int->Option (Int×Int×Int)}{S:Nat->Prop}(h:TQ E w b sm Oh sum)(he:Ext S w w')(d: ¬S b)
  (hs: ∀k,KP sm k-> ¬S k)(hm: ∀k∈Oh,¬S k):TQ E w' b sm Oh sum:=
 ⟨he.cell h.c8 d,h.own.ext he λg v=>hs g ⟨_,v,rfl⟩,h.len,h.nodup,λj k hk=>by
  obtain⟨es,c,m,h1,h2⟩:=h.maps j k hk;exact⟨es,c,m,he.obj h1 (hm k (List.mem_of_getElem? hk)),h2⟩⟩
def TQ.mlt{E:Env}{w:World}{b:Nat}{sm:AX}{Oh:List Nat}{sum:Nat->Int->Option (Int×Int×Int)}(h:TQ E w b sm Oh sum){k:Nat}(hk:k∈Oh):k<w.heap.size:=by
 obtain⟨j,d⟩:=List.mem_iff_getElem?.1 hk;obtain⟨es,c,m,h1,_⟩:=h.maps j k d;exact Fo h1
def Pd{E:Env}{w:World}{b:Nat}{s:Nat->AX}{l:Nat->Iv}(h:HR E w b s l){K:World->Prop}
  (hK: ∀w' sm Oh,HR E w' b s l->TQ E w' b sm Oh (λ_ _=>none)->Ext (Jq b) w w'->(∀k,KP sm k->w.heap.size<=k)->(∀k∈Oh,w.heap.size<=k)->K w'):
  F.DP E (some ⟨b,0,none⟩) K w:=by
 unfold F.DP;simp only[AG,add_eq,Nat.zero_add];obtain⟨v8,aX⟩:=h.c8;refine Lb aX h.f8 rfl λw2 Y=> ?_;have aA: ∀{w1 w2:World} {v:Value},HR E w1 b s l->M8 ⟨b,8,none⟩ v w1 w2->HR E w2 b s l:=by
  intro w1 w2 v h aI;have hu:NP b (λj=>j=8) w1 w2:=NP.Hw aI rfl;exact⟨λi hi=>(h.Dt i hi).KF hu (by omega) (by omega),h.zN,⟨_,aI.same⟩,by rw[aI.frozen];exact h.f8⟩
 refine AI (λst w'=> ∃(n:Nat) (sm:AX) (Oh:List Nat),st.1=(n:Int)/\n<=4/\HR E w' b s l/\w'.cell? ⟨b,8,none⟩=some (.slice sm.base sm.len sm.cap)/\
   Ie w' w.heap.size E.Ev 1 sm (Oh.map λk=>Value.map (some k))/\Oh.length=n/\Oh.Nodup/\(∀k∈Oh,w'.heap[k]? =some (.map #[] 0))/\(∀k∈Oh,w.heap.size<=k)/\Ext (Jq b) w w')
  (λst _=>(4-st.1).toNat) ⟨0,⟨none,0,0⟩,[],rfl,by decide,aA h Y,Y.same,Ie.nil _ _ _ _,rfl,List.nodup_nil,by simp,by simp,Y.ext⟩ ?_
 rintro⟨i,u⟩ _ w4 ⟨n,sm,Oh,hn,a6,h4,aK,d,hlen,aV,T,aG,aC⟩;simp only at hn⊢;subst hn;refine AB (λa5=> ?_) (λa4=> ?_)
 .refine⟨sm,aK,BV λw9 aR a1 aT=>BV λaL aJ aW aE=> ?_⟩;have aD:Ext AQ w4 aL:=aT.trans' aE;have J:=d.ext aD λ_ _ f=>f;have a7:sm.len=n:=by have:=d.len;grind
  refine PI (news:=[.map (some w4.heap.size)]) rfl J (NQ aJ rfl) rfl (by intro v hv;simp at hv;subst hv;rfl) (by have:=aC.size;omega) (by grind) (by grind) λG4 aM aH a0 O aZ=> ?_;have aS: ¬KP sm b:=λe=>by have:=(d.GR e).1;have:=h.lt;omega
  have aB:HR E aM b s l:=(h4.FE aD).ext O aS λi k hi hk e=>by
   have:=(d.GR e).1;have:=h.N7 hi hk;omega
  have C: ∀k∈Oh++[w4.heap.size],aM.heap[k]? =some (.map #[] 0):=by
   intro k hk;have aF:aL.heap[k]? =some (.map #[] 0):=by
    rcases List.mem_append.1 hk with hk|hk
    .exact aD.obj (T k hk) λf=>f
    .rw[List.mem_singleton]at hk;subst hk;exact aE.obj aR λf=>f
   exact O.obj aF (J.V3 aF)
  obtain⟨v,hv⟩:=aB.c8;refine Lb hv aB.f8 rfl λa8 y=> ?_;refine⟨⟨n+1,G4,Oh++[w4.heap.size],by rw[AF];omega,by omega,aA aB y,y.same,?_,by simp;omega,?_,?_,?_,?_⟩,by rw[AF];omega⟩
  .rw[List.map_append];refine aH.ext y.ext λg hg e=> ?_;have:=(aH.lt hg).1;have:g=b:=e;have:=h.lt
   grind
  .grind
  .intro k hk;refine y.ext.obj (C k hk) λe=> ?_;have:k=b:=e;subst this;have:=(aB.Dt 0 (by decide)).row.c0;exact TN (C k hk) this
  .intro k hk;rcases List.mem_append.1 hk with hk|hk
   .exact aG k hk
   .rw[List.mem_singleton]at hk;subst hk;exact aC.size
  .refine(aC.trans aD (λ_ _ e=>e) λ_ _ f=>f.elim).trans (O.trans y.ext (U:=λk=>KP sm k∨k=b) (λ_ _ e=>.inl e) λ_ _ e=>.inr e) (λ_ _ e=>e) λk hk e=> ?_;rcases e with e|e
   .have:=(d.GR e).1;omega
   .exact e
 .have hn:n=4:=by omega
  subst hn;refine hK w4 sm Oh h4 ⟨aK,d.lower (Nat.zero_le _),hlen,aV,λj k hk=> ?_⟩ aC (λk hk=>(d.GR hk).1) aG;exact⟨#[],0,[],T k (List.mem_of_getElem? hk),MapI.empty _,λ_=>rfl⟩
def pg(lv:Int):Int:=512*8^(3-lv).toNat
def pM(fr to:Int)(a:Int×Int×Int)(p:Int×Int):Int×Int×Int:=
 (if p.1=fr then p.2-p.1 else a.1,max a.2.1 (p.2-p.1),if p.2=to then p.2-p.1 else a.2.2)
def zO(l:Iv)(fr to:Int):Int×Int×Int:=(withinL l fr to).foldl (pM fr to) (0,0,0)
structure Mh where
 s:Nat->AX
 l:Nat->Iv
 sm:AX
 Oh:List Nat
 sum:Nat->Int->Option (Int×Int×Int)
structure uX(l:Nat->Iv):Prop where
 top: ∀n,mem (l 0) n->n<34359738368
 free: ∀n,mem (l 1) n->mem (l 0) n
 rel: ∀n,mem (l 2) n->mem (l 1) n
 idle: ∀n,mem (l 3) n↔mem (l 1) n/\ ¬mem (l 2) n
structure HT(E:Env)(w:World)(b:Nat)(G:Mh):Prop where
 Dt:HR E w b G.s G.l
 maps:TQ E w b G.sm G.Oh G.sum
 d: ∀k,KP G.sm k->k≠b/\ ∀i,i<4-> ¬KP (G.s i) k
 ok: ∀(j:Nat) (i:Int) x,G.sum j i=some x->x=zO (G.l 1) (i*pg j) (i*pg j+pg j)
 inv:uX G.l
def Pe(b:Nat)(G:Mh)(k:Nat):Prop:=k=b∨(∃i,i<4/\KP (G.s i) k)∨KP G.sm k∨k∈G.Oh
section
variable{E:Env}{w w':World}{b:Nat}{G:Mh}
def HT.lt(h:HT E w b G):b<w.heap.size:=h.Dt.lt
def HT.Nw(h:HT E w b G){k:Nat}(hk:Pe b G k):k<w.heap.size:=by
 rcases hk with rfl|⟨i,d,hk⟩|hk|hk
 .exact h.lt
 .exact h.Dt.N7 d hk
 .exact(h.maps.own.GR hk).2
 .exact h.maps.mlt hk
def HT.ext{S:Nat->Prop}(h:HT E w b G)(he:Ext S w w')(j: ∀k,Pe b G k-> ¬S k):HT E w' b G:=
 ⟨h.Dt.ext he (j b (.inl rfl)) λi k v hk=>j k (.inr (.inl ⟨i,v,hk⟩)),h.maps.ext he (j b (.inl rfl)) (λk hk=>j k (.inr (.inr (.inl hk)))) λk hk=>j k (.inr (.inr (.inr hk))),h.d,h.ok,h.inv⟩
def HT.FE(h:HT E w b G)(he:Ext AQ w w'):HT E w' b G:=h.ext he λ_ _ f=>f
end
structure Lu(E:Env)(b:Nat)(w:World)(G:Mh)(w':World)(G':Mh):Prop where
 rep:HT E w' b G'
 ext:Ext (Pe b G) w w'
 UX: ∀k,Pe b G' k->Pe b G k∨w.heap.size<=k
section
variable{E:Env}{w w' w1:World}{b:Nat}{G G' G1:Mh}
def Lu.nothing(h:HT E w b G)(he:Ext AQ w w'):Lu E b w G w' G:=⟨h.FE he,he.any,λ_ h=>.inl h⟩
def Lu.trans(h:Lu E b w G w1 G1)(k:Lu E b w1 G1 w' G'):Lu E b w G w' G':=
 ⟨k.rep,h.ext.trans k.ext (λ_ _ s=>s) (λi d s=>by rcases h.UX i s with s|s;exact s;omega),λi d=>by
  rcases k.UX i d with s|s
  .exact h.UX i s
  .have:=h.ext.size;omega⟩
end
structure rX(E:Env)(w w':World)(b:Nat)(G:Mh):Prop where
 rep:HT E w' b G
 ext:Ext AQ w w'
 zP: ∀k,Pe b G k->w.heap.size<=k
structure Qe(E:Env)(b:Nat)(w0:World)(G0:Mh)(w:World)(s:Nat->AX)(l:Nat->Iv):Prop where
 Dt:HR E w b s l
 ext:Ext (Jq b) w0 w
 N7: ∀i k,i<4->KP (s i) k->(∃j,j<4/\KP (G0.s j) k)∨w0.heap.size<=k
 c8:w.cell? ⟨b,8,none⟩=w0.cell? ⟨b,8,none⟩
section
variable{E:Env}{b:Nat}{w0 w w':World}{G0:Mh}{s:Nat->AX}{l:Nat->Iv}
def Qe.start(h:HT E w0 b G0)(he:Ext AQ w0 w):Qe E b w0 G0 w G0.s G0.l:=⟨h.Dt.FE he,he.any,λi k d hk=>.inl ⟨i,d,hk⟩,World.cell?_of_block (he.block b h.lt λf=>f)⟩
def Qe.KF(h:Qe E b w0 G0 w s l){i:Nat}(d:i<4){s':AX}{l':Iv}(hs:JW E w' b (2*i) s' l')(hu:NP b (Wv (2*i)) w w')(hf:TK w (s i) s'):
  Qe E b w0 G0 w' (Sh.KF s i s') (Sh.KF l i l'):=
 ⟨h.Dt.KF d hs hu hf,h.ext.trans' hu.ext,λj k v hk=>by
  rcases h.Dt.pL d hf hk with e|e
  .exact h.N7 j k v e
  .have:=h.ext.size;omega,by rw[hu.C5 8 (by unfold Wv;omega)];exact h.c8⟩
def Qe.changed(h:Qe E b w0 G0 w s l)(h0:HT E w0 b G0)(d:uX l){K:World->Prop}
  (v: ∀w' G',Lu E b w0 G0 w' G'->G'.l=l->K w'):F.DP E (some ⟨b,0,none⟩) K w:=by
 refine Pd h.Dt λw' sm Oh hs hm he hsm C=> ?_;have J:=h.ext.size;have y:=h0.lt;refine v w' ⟨s,l,sm,Oh,λ_ _=>none⟩ ⟨⟨hs,hm,λk hk=>⟨?_,λi d e=> ?_⟩,λj i x O=>(by cases O),d⟩,(h.ext.trans' he).mono λk _ e=>.inl e,?_⟩ rfl
 .have:=hsm k hk;omega
 .have:=hsm k hk;have:=h.Dt.N7 d e;omega
 .rintro k (e|⟨i,d,e⟩|e|e)
  .exact .inl (.inl e)
  .rcases h.N7 i k d e with g|g
   .exact .inl (.inr (.inl g))
   omega
  .grind
  grind
end
def At(l:Nat->Iv)(x n:Int)(free:Bool)(e:Int):Int:=
 if n=0∨34359738368<=x∨34359738368-x<n∨cnt (l 0) x (x+n)≠n then 10 else if cnt (l 1) x (x+n)≠(if free then n else 0)then e else 0
def findL:Iv->Int->Option Int
 | [],_=>none
 | p::r,n=>if n<=p.2-p.1 then some p.1 else findL r n
def fD{l:Iv}{n p:Int}(h:findL l n=some p): ∃q∈l,q.1=p/\n<=q.2-q.1:=by
 induction l with
 | nil=>cases h
 | cons q r ih=>
  simp only[findL]at h
  grind
section
variable{E:Env}(hE:EnvS E){w:World}{b:Nat}{G:Mh}
def find_spec(h:HT E w b G){n:Int}(aS:0<=n){K:Int->Bool->World->Prop}
  (hK: ∀w',Ext AQ w w'->K ((if n=0 then none else findL (G.l 1) n).getD 0) (if n=0 then none else findL (G.l 1) n).isSome w'):
  F.DA E (some ⟨b,0,none⟩) n K w:=by
 unfold F.DA T0.DA F.G8;simp only[AG,add_eq,Nat.zero_add];refine AS (λe=> ?_) (λe=> ?_)
 .have e0:n=0:=by simpa using e
  have:=hK w (Ext.refl _ _)
  grind
 .have e0:n≠0:=by simpa using e
  rw[if_neg e0]at hK;have j:Gi E w ⟨b,2,none⟩ (G.s 1) (G.l 1):=(h.Dt.Dt 1 (by decide)).row;generalize G.s 1=s at j;generalize G.l 1=l at j hK;have hlen:=j.len;have hsm:=j.small;have aL:OB=4398046511104:=rfl;refine⟨s,j.c0,AI (λst w'=> ∃k:Nat,st.1=(k:Int)/\k<=l.length/\findL l n=findL (l.drop k) n/\Ext AQ w w') (λst _=>(l.length-st.1).toNat) ⟨0,rfl,Nat.zero_le _,rfl,Ext.refl _ _⟩ ?_⟩;rintro⟨i,u⟩ _ w5 ⟨k,hk,aP,hf,y⟩;simp only at hk⊢;subst hk;refine AB (λaR=> ?_) (λaO=> ?_)
  .have hl:k<l.length:=by omega
   have hg:=List.getElem?_eq_getElem hl;obtain⟨r,aG,Y,aA⟩:=(j.FE y).cells hg;have aF:=j.ok.get hg;generalize l[k]=q at hg Y aA aF;rw[aG];simp only[AG,add_eq,Nat.zero_add,Int.toNat_natCast,Nat.add_zero];refine⟨⟨by omega,by omega⟩,q.1,Y,q.2,aA,BV λaT C aH J=> ?_⟩;refine JH _ _ _ _ _ _ _ C (by simp) (by intro v hv;simp at hv;rcases hv with rfl|rfl<;>rfl) λaJ O aI d=> ?_;simp at d;have aB:Ext AQ w aJ:=(y.trans' J).trans O (λ_ _ f=>f) λi hi e=>by have:i=w5.heap.size:=e;have:=y.size;omega
   have hd:=Sx hg;refine⟨q.2,by rw[AW d];rfl,q.1,by rw[AW d];rfl,?_⟩;rw[AM];refine AB (λaE=>⟨q.1,by rw[AW d];rfl,?_⟩) (λT=> ?_)
   .have:findL l n=some q.1:=by rw[hf,hd,findL,if_pos aE]
    grind
   .rw[AF];refine⟨⟨k+1,by omega,by omega,?_,aB⟩,by omega⟩;rw[hf,hd,findL,if_neg T]
  .have:l.drop k=[]:=List.drop_eq_nil_of_le (by omega);rw[this]at hf;have aN:findL l n=none:=hf
   grind
include hE
theorem RF(h:HT E w b G){x n e:Int}{fr:Bool}(C:0<=x)(hx:x<18446744073709551616)(aD:0<=n)(hn:n<18446744073709551616){K:Int->World->Prop}
  (Y: ∀w',Ext AQ w w'->K (At G.l x n fr e) w'):F.DK E (some ⟨b,0,none⟩) x n fr e K w:=by
 unfold F.DK T0.DK;simp only[AG,add_eq,Nat.zero_add];refine AV (λst w'=>w'=w/\st.1=if fr then n else 0) ?_ ?_
 .exact AS (λe=>⟨rfl,by rw[e];rfl⟩) (λe=>⟨rfl,by rw[e];rfl⟩)
 rintro⟨want,u⟩ _ w3 ⟨rfl,d⟩;simp only at d⊢;subst d;refine AV (λst w'=>Ext AQ w3 w'/\(st.1=true↔n=0∨34359738368<=x∨34359738368-x<n∨cnt (G.l 0) x (x+n)≠n)) ?_ ?_
 .refine AS (λe=>⟨Ext.refl _ _,?_⟩) (λe=>AB (λe2=>⟨Ext.refl _ _,?_⟩) (λe2=> ?_))
  .grind
  .grind
  .have e0:n≠0:=by simpa using e
   rw[AM (n:=34359738368-x)];refine AB (λe3=>⟨Ext.refl _ _,?_⟩) (λe3=> ?_)
   .grind
   .rw[AM (n:=x+n)];refine It hE (h.Dt.Dt 0 (by decide)).row C (by omega) (by omega) λw9 O=>⟨O,?_⟩
    grind
 rintro⟨bt,u⟩ _ w6 ⟨j,v⟩;simp only at v⊢;refine AS (λht=> ?_) (λhf=> ?_)
 .have:=Y w6 j;rwa[At,if_pos (v.1 ht)]at this
 .have J: ¬(n=0∨34359738368<=x∨34359738368-x<n∨cnt (G.l 0) x (x+n)≠n):=λh=>by grind
  rw[AM (n:=x+n)];refine It hE ((h.FE j).Dt.Dt 1 (by decide)).row C (by omega) (by omega) λT y=> ?_;have:=Y T (j.trans' y);rw[At,if_neg J]at this;refine AS (λe1=> ?_) (λe1=> ?_)
  .rwa[if_pos (by grind)]at this
  .rwa[if_neg (by grind)]at this
omit hE in
theorem RH{l:Nat->Iv}{x n e:Int}{fr:Bool}(he:e≠0)(h:At l x n fr e=0):
  n≠0/\x<34359738368/\n<=34359738368-x/\cnt (l 0) x (x+n)=n/\cnt (l 1) x (x+n)=if fr then n else 0:=by
 unfold At at h;omega
theorem Uy(h:HT E w b G){x n:Int}(v:0<=x)(hx:x<18446744073709551616)(aC:0<=n)(hn:n<18446744073709551616){K:Int->Int->World->Prop}
  (aA:At G.l x n true 32≠0-> ∀w',Ext AQ w w'->K 0 (At G.l x n true 32) w')
  (aB:At G.l x n true 32=0-> ∀w' G',Lu E b w G w' G'->G'.l=Sh.KF (Sh.KF (Sh.KF G.l 1 (Dk (G.l 1) x (x+n))) 2 (Dk (G.l 2) x (x+n))) 3 (Dk (G.l 3) x (x+n))->K (cnt (G.l 2) x (x+n)) 0 w'):
  F.DB E (some ⟨b,0,none⟩) x n K w:=by
 unfold F.DB T0.DB;refine RF hE h v hx aC hn λw2 y=> ?_;refine AS (λe=>aA (by grind) w2 y) (λe=> ?_);have hz:At G.l x n true 32=0:=by grind
 obtain⟨g1,g2,g3,g4,g5⟩:=RH (by decide) hz;have en:u64 (x+n)=x+n:=AM;simp only[AG,add_eq,Nat.zero_add,en];have h2:=h.FE y;refine It hE (h2.Dt.Dt 2 (by decide)).row v (by omega) (by omega) λw5 aH=> ?_;have m5:Qe E b w G w5 G.s G.l:=Qe.start h (y.trans' aH);refine NR hE (m5.Dt.Dt 1 (by decide)) v (by omega) (by omega) λw7 s7 aD aF T=> ?_;have m7:=m5.KF (by decide:1<4) aD aF T;refine NR hE (m7.Dt.Dt 2 (by decide)) v (by omega) (by omega) λw9 s9 aE aG Y=> ?_;have m9:=m7.KF (by decide:2<4) aE aG Y;refine NR hE (m9.Dt.Dt 3 (by decide)) v (by omega) (by omega) λaQ Zg J O C=> ?_;have aI:=m9.KF (by decide:3<4) J O C;have d:x<x+n:=by omega
 refine aI.changed h ⟨?_,?_,?_,?_⟩ λw' G' hs hl=>aB hz w' G' hs hl
 .exact h.inv.top
 .intro m hm;have j:mem (Dk (G.l 1) x (x+n)) m:=hm;rw[Ek d]at j;exact h.inv.free m j.1
 .intro m hm;have j:mem (Dk (G.l 2) x (x+n)) m:=hm;rw[Ek d]at j;show mem (Dk (G.l 1) x (x+n)) m;rw[Ek d];exact⟨h.inv.rel m j.1,j.2⟩
 .intro m;show mem (Dk (G.l 3) x (x+n)) m↔mem (Dk (G.l 1) x (x+n)) m/\ ¬mem (Dk (G.l 2) x (x+n)) m;rw[Ek d,Ek d,Ek d,h.inv.idle m]
  grind
omit hE in
theorem Xc(h:HT E w b G){n p:Int}(J:0<n)(hf:findL (G.l 1) n=some p):At G.l p n true 32=0/\0<=p/\p<34359738368:=by
 obtain⟨q,C,rfl,hle⟩:=fD hf;have A6:=(h.Dt.Dt 1 (by decide)).row.ok;have v:=(h.Dt.Dt 0 (by decide)).row.ok;have y:=A6.mem C;have j: ∀m,q.1<=m->m<q.1+n->mem (G.l 1) m:=λm h1 h2=>⟨q,C,h1,by omega⟩;have d: ∀m,q.1<=m->m<q.1+n->mem (G.l 0) m:=λm h1 h2=>h.inv.free m (j m h1 h2);have K:=h.inv.top _ (d (q.1+n-1) (by omega) (by omega));have c1:=(El A6 (a:=q.1) (b:=q.1+n) (by omega)).2 j;have c0:=(El v (a:=q.1) (b:=q.1+n) (by omega)).2 d;refine⟨?_,y.1,by omega⟩;unfold At
 grind
theorem Zo(h:HT E w b G){n:Int}(j:0<=n)(hn:n<18446744073709551616){K:Int->Int->Int->World->Prop}
  (y:n=0->K 0 0 1 w)(C:n≠0->findL (G.l 1) n=none-> ∀w',Ext AQ w w'->K 0 0 30 w')
  (J:n≠0-> ∀p,findL (G.l 1) n=some p-> ∀w' G',Lu E b w G w' G'->G'.l=Sh.KF (Sh.KF (Sh.KF G.l 1 (Dk (G.l 1) p (p+n))) 2 (Dk (G.l 2) p (p+n))) 3 (Dk (G.l 3) p (p+n))->K p (cnt (G.l 2) p (p+n)) 0 w'):
  F.BK E (some ⟨b,0,none⟩) n K w:=by
 unfold F.BK T0.BK;refine AS (λe=>y (by simpa using e)) (λe=> ?_);have v:n≠0:=by simpa using e
 refine find_spec h j λw3 d=> ?_;rw[if_neg v];cases hf:findL (G.l 1) n with
 | none=>exact AS (λ_=>C v hf w3 d) (λe=>by cases e)
 | some p=>
  refine AS (λe=>by cases e) (λ_=> ?_);obtain⟨hz,T,aB⟩:=Xc h (by omega) hf;refine Uy hE (h.FE d) T (by show p<_;omega) j hn (λO=>absurd hz O) λ_ w' G' hs Y=> ?_;exact J v p hf w' G' ((Lu.nothing h d).trans hs) Y
theorem fE(h:HT E w b G){c n:Int}(aV:0<=c)(hc:c<18446744073709551616)(aX:0<=n)(hn:n<18446744073709551616){K:Int->World->Prop}
  (aJ:(n=0∨262144<n∨67108864<c∨67108864-c<n)->K 1 w)
  (aK: ¬(n=0∨262144<n∨67108864<c∨67108864-c<n)->cnt (G.l 0) (c*512) ((c+n)*512)≠0-> ∀w',Ext AQ w w'->K 34 w')
  (aL: ¬(n=0∨262144<n∨67108864<c∨67108864-c<n)->cnt (G.l 0) (c*512) ((c+n)*512)=0-> ∀w' G',Lu E b w G w' G'->
   G'.l=Sh.KF (Sh.KF (Sh.KF G.l 0 (Dl (G.l 0) (c*512) ((c+n)*512))) 1 (Dl (G.l 1) (c*512) ((c+n)*512))) 2 (Dl (G.l 2) (c*512) ((c+n)*512))->K 0 w'):
  F.DV E (some ⟨b,0,none⟩) c n K w:=by
 unfold F.DV T0.DV;refine AV (λst w'=>w'=w/\(st.1=true↔n=0∨262144<n∨67108864<c∨67108864-c<n)) ?_ ?_
 .refine AS (λe=>⟨rfl,?_⟩) (λe=>AB (λe2=>⟨rfl,?_⟩) (λe2=>AB (λe3=>⟨rfl,?_⟩) (λe3=>⟨rfl,?_⟩)))
  .grind
  .grind
  .grind
  .have e0:n≠0:=by simpa using e
   rw[AM]
   grind
 rintro⟨bt,u⟩ _ w3 ⟨rfl,C⟩;simp only at C⊢;refine AS (λht=>aJ (C.1 ht)) (λhf=> ?_);have T: ¬(n=0∨262144<n∨67108864<c∨67108864-c<n):=λh=>by grind
 have e1:u64 (c*512)=c*512:=AM;have e2:u64 (c+n)=c+n:=AM;have e3:u64 ((c+n)*512)=(c+n)*512:=AM;rw[e1,e2,e3];simp only[AG,add_eq,Nat.zero_add];refine AY λto aN=> ?_;subst aN;have aQ:OB=4398046511104:=rfl;refine It hE (h.Dt.Dt 0 (by decide)).row (by omega) (by omega) (by omega) λw7 aD=> ?_;have aY:=DM (G.l 0) (c*512) ((c+n)*512);refine AB (λhp=>aK T (by omega) w7 aD) (λhp=> ?_);have hz:cnt (G.l 0) (c*512) ((c+n)*512)=0:=by omega
 have m7:Qe E b w3 G w7 G.s G.l:=Qe.start h aD;have v:c*512<(c+n)*512:=by omega
 refine Kv hE (m7.Dt.Dt 0 (by decide)) (by omega) v (by omega) λw9 s9 aM aO aH=> ?_;have m9:=m7.KF (by decide:0<4) aM aO aH;refine Kv hE (m9.Dt.Dt 1 (by decide)) (by omega) v (by omega) λa0 Zg Y aB J=> ?_;have aE:=m9.KF (by decide:1<4) Y aB J;refine Kv hE (aE.Dt.Dt 2 (by decide)) (by omega) v (by omega) λa3 Jk aA aC O=> ?_;have aP:=aE.KF (by decide:2<4) aA aC O;have A6: ∀i,i<4->Ok (G.l i):=λi hi=>(h.Dt.Dt i hi).row.ok;have d: ∀i,i<4-> ∀m,mem (Dl (G.l i) (c*512) ((c+n)*512)) m↔mem (G.l i) m∨(c*512<=m/\m<(c+n)*512):=λi hi m=>ER (A6 i hi) v (by omega) (by omega) m;have j:=(Dn (A6 0 (by decide)) (a:=c*512) (b:=(c+n)*512) (by omega)).1 hz;refine aP.changed h ⟨?_,?_,?_,?_⟩ λw' G' hs hl=>aL T hz w' G' hs hl
 .intro m hm;rcases(d 0 (by decide) m).1 hm with g|g
  .exact h.inv.top m g
  .omega
 .intro m hm;refine(d 0 (by decide) m).2 ?_;rcases(d 1 (by decide) m).1 hm with g|g
  .exact .inl (h.inv.free m g)
  omega
 .intro m hm;refine(d 1 (by decide) m).2 ?_;rcases(d 2 (by decide) m).1 hm with g|g
  .exact .inl (h.inv.rel m g)
  omega
 .intro m;show mem (G.l 3) m↔mem (Dl (G.l 1) (c*512) ((c+n)*512)) m/\ ¬mem (Dl (G.l 2) (c*512) ((c+n)*512)) m;rw[d 1 (by decide),d 2 (by decide),h.inv.idle m];constructor
  .rintro⟨a1,a2⟩;have:=j m;refine⟨.inl a1,λy=> ?_⟩;rcases y with y|y
   .exact a2 y
   .exact j m y.1 y.2 (h.inv.free m a1)
  grind
theorem TR(h:HT E w b G){x n:Int}{i:Nat}(T:i=2∨i=3)(y:0<=x)(hx:x<18446744073709551616)(aH:0<=n)(hn:n<18446744073709551616){K:Int->World->Prop}
  (aF:At G.l x n false 31≠0-> ∀w',Ext AQ w w'->K (At G.l x n false 31) w')
  (aG:At G.l x n false 31=0-> ∀w' G',Lu E b w G w' G'->G'.l=Sh.KF (Sh.KF G.l 1 (Dl (G.l 1) x (x+n))) i (Dl (G.l i) x (x+n))->K 0 w'):
  F.Dc E (some ⟨b,0,none⟩) x n (some ⟨b,2*i,none⟩) K w:=by
 unfold F.Dc T0.Dc;refine RF hE h y hx aH hn λw2 aC=> ?_;refine AS (λe=>aF (by grind) w2 aC) (λe=> ?_);have hz:At G.l x n false 31=0:=by grind
 obtain⟨g1,g2,g3,g4,g5⟩:=RH (by decide) hz;have en:u64 (x+n)=x+n:=AM;simp only[AG,add_eq,Nat.zero_add,en];have aM:OB=4398046511104:=rfl;have aA:i<4:=by omega
 have J:i≠1:=by omega
 have m2:Qe E b w G w2 G.s G.l:=Qe.start h aC;have C:x<x+n:=by omega
 refine Kv hE (m2.Dt.Dt 1 (by decide)) y C (by omega) λw4 s4 aI aK aD=> ?_;have m4:=m2.KF (by decide:1<4) aI aK aD;have aB:=m4.Dt.Dt i aA;rw[HK _ _ J,HK _ _ J]at aB;refine Kv hE aB y C (by omega) λw5 s5 aJ aL aE=> ?_;have m5:=m4.KF aA aJ aL (by rw[HK _ _ J];exact aE);have A6: ∀i,i<4->Ok (G.l i):=λi T=>(h.Dt.Dt i T).row.ok;have d: ∀i,i<4-> ∀m,mem (Dl (G.l i) x (x+n)) m↔mem (G.l i) m∨(x<=m/\m<x+n):=λi T m=>ER (A6 i T) C y (by omega) m;have O:=(Dn (A6 1 (by decide)) (a:=x) (b:=x+n) (by omega)).1 g5;have Y:=(El (A6 0 (by decide)) (a:=x) (b:=x+n) (by omega)).1 (by omega);have l0:Sh.KF (Sh.KF G.l 1 (Dl (G.l 1) x (x+n))) i (Dl (G.l i) x (x+n)) 0=G.l 0:=by rw[HK _ _ (by omega),HK _ _ (by omega)]
 have l1:Sh.KF (Sh.KF G.l 1 (Dl (G.l 1) x (x+n))) i (Dl (G.l i) x (x+n)) 1=Dl (G.l 1) x (x+n):=by rw[HK _ _ (by omega),JX]
 refine m5.changed h ⟨?_,?_,?_,?_⟩ λw' G' hs hl=>aG hz w' G' hs hl
 .rw[l0];exact h.inv.top
 .intro m;rw[l0,l1,d 1 (by decide)];rintro(j|j)
  .exact h.inv.free m j
  .exact Y m j.1 j.2
 .intro m;rw[l1,d 1 (by decide)];rcases T with rfl|rfl
  .rw[JX,d 2 (by decide)];rintro(j|j)
   .exact .inl (h.inv.rel m j)
   omega
  .rw[HK _ _ (by decide),HK _ _ (by decide)];exact λj=>.inl (h.inv.rel m j)
 .intro m;rw[l1,d 1 (by decide)];have aU:x<=m/\m<x+n-> ¬mem (G.l 1) m:=λj=>O m j.1 j.2;have v:=h.inv.idle m;have aN:=h.inv.rel m;rcases T with rfl|rfl
  .rw[JX,d 2 (by decide),HK _ _ (by decide),HK _ _ (by decide),v]
   grind
  .rw[JX,d 3 (by decide),HK _ _ (by decide),HK _ _ (by decide),v]
   grind
end
def fF{E:Env}{w:World}{K:Option Addr->World->Prop}(T: ∀w' b G,rX E w w' b G->(∀i,G.l i=[])->K (some ⟨b,0,none⟩) w'):F.HJ E K w:=by
 unfold F.HJ T0.HJ;refine BV λw2 d O v=> ?_;have C: ∀k,¬KP ⟨none,0,0⟩ k:=by rintro k ⟨a,Y,_⟩;cases Y
 have hs:HR E w2 w.heap.size (λ_=>⟨none,0,0⟩) (λ_=>[]):=by
  refine⟨λi hi=> ?_,λi j _ _ _ k hk=>absurd hk (C k),⟨_,by rw[AW d];rfl⟩,by simp[World.frozen?,d]⟩;have:i=0∨i=1∨i=2∨i=3:=by omega
  rcases this with rfl|rfl|rfl|rfl<;>
   exact⟨⟨by rw[AW d];rfl,by simp[World.frozen?,d],Ie.nil _ _ _ _,trivial,by simp,by grind⟩,by rw[AW d];rfl,by simp[World.frozen?,d]⟩
 refine Pd hs λw' sm Oh J hm he hsm y=> ?_;refine T w' w.heap.size ⟨λ_=>⟨none,0,0⟩,λ_=>[],sm,Oh,λ_ _=>none⟩ ⟨⟨J,hm,λk hk=>⟨?_,λi _ e=>C k e⟩,λj i x hx=>(by cases hx),?_⟩,?_,?_⟩ λ_=>rfl
 .have:=hsm k hk;omega
 .exact⟨λn h=>absurd h (CM n),λn h=>absurd h (CM n),λn h=>absurd h (CM n),λn=>⟨λh=>absurd h (CM n),λh=>absurd h.1 (CM n)⟩⟩
 .exact v.trans he (λ_ _ f=>f) λk hk e=>by have:k=w.heap.size:=e;omega
 .rintro k (e|⟨i,_,e⟩|e|e)
  .omega
  .exact absurd e (C k)
  .have:=hsm k e;omega
  .have:=y k e;omega
def Gc(E:Env)(b:Nat)(l:Nat->Iv):Pr where
 holds D w:= ∃G,HT E w b G/\G.l=l/\ ∀k,D k↔Pe b G k
 loc h he hS:=let⟨G,h1,h2,h3⟩:=h;⟨G,h1.ext he λk hk=>hS k ((h3 k).2 hk),h2,h3⟩
 lt h hk:=let⟨G,h1,h2,h3⟩:=h;h1.Nw ((h3 _).1 hk)
def Sat.tree{E:Env}{b:Nat}{l:Nat->Iv}{F:List Pr}{w:World}(H:Sat (Gc E b l::F) w):
  ∃G,HT E w b G/\G.l=l/\ ∀w' G',Lu E b w G w' G'->Sat (Gc E b G'.l::F) w':=by
 obtain⟨D,⟨G,h1,h2,d⟩,hs⟩:=H.step;refine⟨G,h1,h2,λw' G' st=>hs w' (Pe b G') _ (st.ext.mono λi _ j=>(d i).2 j) ⟨G',st.rep,rfl,λ_=>Iff.rfl⟩ λk hk=> ?_⟩;rcases st.UX k hk with h|h
 .exact .inl ((d k).2 h)
 .exact .inr h
def Sat.pN{E:Env}{b:Nat}{F:List Pr}{w w':World}{G:Mh}(H:Sat F w)(h:rX E w w' b G):Sat (Gc E b G.l::F) w':=
 H.new (P:=Gc E b G.l) (D:=Pe b G) h.ext ⟨G,h.rep,rfl,λ_=>Iff.rfl⟩ h.zP
def Sat.MM{E:Env}{b:Nat}{l:Nat->Iv}{F:List Pr}{w:World}(H:Sat (Gc E b l::F) w):uX l/\ ∀i,i<4->Ok (l i):=by
 obtain⟨G,h1,rfl,_⟩:=H.tree;exact⟨h1.inv,λi d=>(h1.Dt.Dt i d).row.ok⟩
def RI(l:Iv)(p n:Int):Prop:= ∀m,p<=m->m<p+n->mem l m
def Kw{l:Iv}(h:Ok l){n p:Int}(T:0<n)(hf:findL l n=some p):RI l p n/\ ∀v,RI l v n->p<=v:=by
 induction l with
 | nil=>cases hf
 | cons q r ih=>
  simp only[findL]at hf;split at hf
  .cases hf;refine⟨λm h1 h2=>mem_cons.2 (.inl ⟨h1,by omega⟩),λv j=> ?_⟩;rcases mem_cons.1 (j v (by omega) (by omega))with h1|⟨y,d,h1,h2⟩
   .exact h1.1
   .have:=h.2.2.2.1 y d;omega
  .obtain⟨h1,h2⟩:=ih h.tail hf;refine⟨λm C J=>mem_cons.2 (.inr (h1 m C J)),λv j=> ?_⟩;obtain⟨y,d,C,J⟩:=bZ h (by omega) j;rcases List.mem_cons.1 d with rfl|d
   .omega
   .exact h2 v λm K O=>⟨y,d,by omega,by omega⟩
def MN{l:Iv}(h:Ok l){n:Int}(K:0<n)(hf:findL l n=none): ∀p,¬RI l p n:=by
 induction l with
 | nil=>intro p hp;exact CM _ (hp p (by omega) (by omega))
 | cons q r ih=>
  simp only[findL]at hf;split at hf
  .cases hf
  .intro p hp;obtain⟨j,d,v,y⟩:=bZ h (by omega) hp;rcases List.mem_cons.1 d with rfl|d
   .omega
   .exact ih h.tail hf p λm C J=>⟨j,d,by omega,by omega⟩
section
variable{E:Env}(hE:EnvS E){w:World}{b:Nat}{G:Mh}
include hE
end
def OL(l:Nat->Iv)(x n:Int):Nat->Iv:=Sh.KF (Sh.KF (Sh.KF l 1 (Dk (l 1) x (x+n))) 2 (Dk (l 2) x (x+n))) 3 (Dk (l 3) x (x+n))
def Uz(l:Nat->Iv)(c n:Int):Nat->Iv:=Sh.KF (Sh.KF (Sh.KF l 0 (Dl (l 0) (c*512) ((c+n)*512))) 1 (Dl (l 1) (c*512) ((c+n)*512))) 2 (Dl (l 2) (c*512) ((c+n)*512))
def Mi(l:Nat->Iv)(i:Nat)(x n:Int):Nat->Iv:=Sh.KF (Sh.KF l 1 (Dl (l 1) x (x+n))) i (Dl (l i) x (x+n))
def LL(c n:Int):Prop:=n=0∨262144<n∨67108864<c∨67108864-c<n
section
variable{E:Env}{w:World}{Z:List Pr}{b:Nat}{l:Nat->Iv}
def kX(H:Sat Z w){K:Option Addr->World->Prop}(d: ∀w' b l,(∀i,l i=[])->Sat (Gc E b l::Z) w'->K (some ⟨b,0,none⟩) w'):F.HJ E K w:=
 fF λw' b G hm j=>d w' b G.l j (H.pN hm)
def fG(H:Sat (Gc E b l::Z) w){n:Int}(d:0<=n){K:Int->Bool->World->Prop}
  (j: ∀w',Sat (Gc E b l::Z) w'->K ((if n=0 then none else findL (l 1) n).getD 0) (if n=0 then none else findL (l 1) n).isSome w'):F.DA E (some ⟨b,0,none⟩) n K w:=by
 obtain⟨G,v,rfl,st⟩:=H.tree;exact find_spec v d λw' he=>j w' (H.nothing he)
variable(hE:EnvS E)
include hE
theorem fH(H:Sat (Gc E b l::Z) w){c n:Int}(d:0<=c)(O:c<18446744073709551616)(C:0<=n)(Y:n<18446744073709551616){K:Int->World->Prop}
  (j:LL c n->K 1 w)(v: ¬LL c n->cnt (l 0) (c*512) ((c+n)*512)≠0-> ∀w',Sat (Gc E b l::Z) w'->K 34 w')
  (y: ¬LL c n->cnt (l 0) (c*512) ((c+n)*512)=0-> ∀w',Sat (Gc E b (Uz l c n)::Z) w'->K 0 w'):F.DV E (some ⟨b,0,none⟩) c n K w:=by
 obtain⟨G,J,rfl,st⟩:=H.tree;exact fE hE J d O C Y j (λh1 h2 w' he=>v h1 h2 w' (H.nothing he)) λh1 h2 w' G' hs T=>y h1 h2 w' (by have:=st _ _ hs;rw[T]at this;exact this)
theorem fI(H:Sat (Gc E b l::Z) w){x n:Int}(y:0<=x)(T:x<18446744073709551616)(v:0<=n)(O:n<18446744073709551616){K:Int->Int->World->Prop}
  (d:At l x n true 32≠0-> ∀w',Sat (Gc E b l::Z) w'->K 0 (At l x n true 32) w')
  (j:At l x n true 32=0-> ∀w',Sat (Gc E b (OL l x n)::Z) w'->K (cnt (l 2) x (x+n)) 0 w'):F.DB E (some ⟨b,0,none⟩) x n K w:=by
 obtain⟨G,C,rfl,st⟩:=H.tree;exact Uy hE C y T v O (λh1 w' he=>d h1 w' (H.nothing he)) λh1 w' G' hs J=>j h1 w' (by have:=st _ _ hs;rw[J]at this;exact this)
theorem Zp(H:Sat (Gc E b l::Z) w){n:Int}(y:0<=n)(O:n<18446744073709551616){K:Int->Int->Int->World->Prop}
  (d:n=0->K 0 0 1 w)(j:n≠0->findL (l 1) n=none-> ∀w',Sat (Gc E b l::Z) w'->K 0 0 30 w')
  (v:n≠0-> ∀p,findL (l 1) n=some p-> ∀w',Sat (Gc E b (OL l p n)::Z) w'->K p (cnt (l 2) p (p+n)) 0 w'):F.BK E (some ⟨b,0,none⟩) n K w:=by
 obtain⟨G,C,rfl,st⟩:=H.tree;exact Zo hE C y O d (λh1 h2 w' he=>j h1 h2 w' (H.nothing he)) λh1 p hp w' G' hs J=>v h1 p hp w' (by have:=st _ _ hs;rw[J]at this;exact this)
theorem fJ(H:Sat (Gc E b l::Z) w){x n:Int}(y:0<=x)(T:x<18446744073709551616)(v:0<=n)(O:n<18446744073709551616){K:Int->World->Prop}
  (d:At l x n false 31≠0-> ∀w',Sat (Gc E b l::Z) w'->K (At l x n false 31) w')
  (j:At l x n false 31=0-> ∀w',Sat (Gc E b (Mi l 3 x n)::Z) w'->K 0 w'):F.C8 E (some ⟨b,0,none⟩) x n K w:=by
 obtain⟨G,C,rfl,st⟩:=H.tree;unfold F.C8 T0.C8;simp only[AG,add_eq,Nat.zero_add];exact TR hE C (i:=3) (.inr rfl) y T v O (λh1 w' he=>d h1 w' (H.nothing he)) λh1 w' G' hs J=>j h1 w' (by have:=st _ _ hs;rw[J]at this;exact this)
theorem fK(H:Sat (Gc E b l::Z) w){x n:Int}(y:0<=x)(T:x<18446744073709551616)(v:0<=n)(O:n<18446744073709551616){K:Int->World->Prop}
  (d:At l x n false 31≠0-> ∀w',Sat (Gc E b l::Z) w'->K (At l x n false 31) w')
  (j:At l x n false 31=0-> ∀w',Sat (Gc E b (Mi l 2 x n)::Z) w'->K 0 w'):F.DW E (some ⟨b,0,none⟩) x n K w:=by
 obtain⟨G,C,rfl,st⟩:=H.tree;unfold F.DW T0.DW;simp only[AG,add_eq,Nat.zero_add];exact TR hE C (i:=2) (.inl rfl) y T v O (λh1 w' he=>d h1 w' (H.nothing he)) λh1 w' G' hs J=>j h1 w' (by have:=st _ _ hs;rw[J]at this;exact this)
end
def cu(u:Int->Bool):Nat->Int
 | 0=>0
 | k+1=>cu u k+(if u k then 1 else 0)
def uY{u:Int->Bool}{l:Iv}{fr:Int}(h:Ok l){n:Nat}(hu: ∀k:Int,0<=k->k<n->(u k=true↔mem l (fr+k))):cu u n=cnt l fr (fr+n):=by
 induction n with
 | zero=>
  have:=DM l fr (fr+(0:Nat));have h2:=FF h (a:=fr) (b:=fr+((0:Nat):Int)) (by omega);show 0=_;omega
 | succ n ih=>
  have hs:=JI h (a:=fr) (k:=fr+n) (by omega);have e:fr+((n+1:Nat):Int)=fr+(n:Int)+1:=by omega
  rw[e];simp only[cu]
  grind
def uZ(u:Int->Bool)(n:Nat):0<=cu u n/\cu u n<=n:=by
 induction n with
 | zero=>simp[cu]
 | succ n ih=>simp only[cu];omega
structure TV where
 Li:Int->Bool
 fr:Int->Bool
 rl:Int->Bool
def inr(x n p:Int):Bool:=decide (x<=p)&&decide (p<x+n)
def As{x n p:Int}:inr x n p=true↔x<=p/\p<x+n:=by simp[inr]
def IU{x n p:Int}:inr x n p=false↔ ¬(x<=p/\p<x+n):=by rw[<-As];grind
def Ld(f:Int->Bool)(p n:Int):Prop:= ∀m,p<=m->m<p+n->f m=true
def TV.take(V:TV)(x n:Int):TV:=⟨V.Li,λp=>V.fr p&& !inr x n p,λp=>V.rl p&& !inr x n p⟩
def TV.Kx(V:TV)(x n:Int):TV:=⟨V.Li,λp=>V.fr p||inr x n p,V.rl⟩
def TV.back(V:TV)(x n:Int):TV:=⟨V.Li,λp=>V.fr p||inr x n p,λp=>V.rl p||inr x n p⟩
def TV.grow(V:TV)(c n:Int):TV:=⟨λp=>V.Li p||inr (c*512) (n*512) p,λp=>V.fr p||inr (c*512) (n*512) p,λp=>V.rl p||inr (c*512) (n*512) p⟩
def TV.nil:TV:=⟨λ_=>false,λ_=>false,λ_=>false⟩
structure LV(l:Nat->Iv)(V:TV):Prop where
 i: ∀p,mem (l 0) p↔V.Li p=true
 f: ∀p,mem (l 1) p↔V.fr p=true
 r: ∀p,mem (l 2) p↔V.rl p=true
def cr(f:Int->Bool)(x n:Int):Int:=cu (λk=>f (x+k)) n.toNat
def Zq{f:Int->Bool}{l:Iv}(h:Ok l)(d: ∀p,mem l p↔f p=true){x n:Int}(j:0<=n):cr f x n=cnt l x (x+n):=by
 unfold cr;rw[uY h (l:=l) (fr:=x) λk _ _=>(d (x+k)).symm]
 grind
def pO{f:Int->Bool}{x n:Int}(h: ∀m,x<=m->m<x+n->f m=false):cr f x n=0:=by
 unfold cr;have key: ∀k:Nat,(k:Int)<=n->cu (λk=>f (x+k)) k=0:=by
  intro k
  induction k with
  | zero=>intro _;rfl
  | succ k ih=>
   intro hk;simp only[cu]
   grind
 by_cases g:0<=n
 .grind
 .have:n.toNat=0:=by omega
  rw[this];rfl
def u0(f:Int->Bool)(x:Int):cr f x 1=if f x then 1 else 0:=by
 show cu (λk=>f (x+k)) 1=_;simp[cu]
def u5(f:Int->Bool)(x:Int){n:Int}(d:0<=n):0<=cr f x n/\cr f x n<=n:=by
 have:=uZ (λk=>f (x+k)) n.toNat;unfold cr;omega
def Bl(E:Env)(b:Nat)(V:TV):Pr:=Ex λl:Nat->Iv=>Jj (LV l V) (Gc E b l)
structure TS(V:TV):Prop where
 fi: ∀p,V.fr p=true->V.Li p=true
 rf: ∀p,V.rl p=true->V.fr p=true
 Ju: ∀p,V.Li p=true->0<=p/\p<34359738368
 ci: ∃l,Ok l/\ ∀p,mem l p↔V.Li p=true
 cf: ∃l,Ok l/\ ∀p,mem l p↔V.fr p=true
 cr: ∃l,Ok l/\ ∀p,mem l p↔V.rl p=true
def HD(V:TV)(x n:Int):Prop:=n≠0/\x+n<=34359738368/\Ld V.Li x n
def TV.idle(V:TV)(p:Int):Bool:=V.fr p&& !V.rl p
section
variable{E:Env}{w:World}{Z:List Pr}{b:Nat}{V:TV}{l:Nat->Iv}
def Sat.JY:Sat (Bl E b V::Z) w↔ ∃l,LV l V/\Sat (Gc E b l::Z) w:=by
 unfold Bl;rw[Sat.ex];constructor
 .rintro⟨l,h⟩;exact⟨l,Sat.where.1 h⟩
 .rintro⟨l,h⟩;exact⟨l,Sat.where.2 h⟩
def LV.ok(h:LV l V)(H:Sat (Gc E b l::Z) w):TS V:=by
 obtain⟨d,A6⟩:=H.MM;exact⟨λp hp=>(h.i p).1 (d.free p ((h.f p).2 hp)),λp hp=>(h.f p).1 (d.rel p ((h.r p).2 hp)),λp hp=>⟨SE (A6 0 (by decide)) ((h.i p).2 hp),d.top p ((h.i p).2 hp)⟩,
  ⟨l 0,A6 0 (by decide),h.i⟩,⟨l 1,A6 1 (by decide),h.f⟩,⟨l 2,A6 2 (by decide),h.r⟩⟩
def Sat.zQ(H:Sat (Bl E b V::Z) w):TS V:=by
 obtain⟨l,h,H⟩:=Sat.JY.1 H;exact h.ok H
def Hx(h:LV l V){p n:Int}:RI (l 1) p n↔Ld V.fr p n:=by
 constructor
 .intro d m a c;exact(h.f m).1 (d m a c)
 .intro d m a c;exact(h.f m).2 (d m a c)
def TT(h:LV l V)(A6: ∀i,i<4->Ok (l i)){x n:Int}(hx:0<=x)(hn:0<=n)(free:Bool){e:Int}(he:e≠0):
  (¬HD V x n->At l x n free e=10)/\(HD V x n->free=true-> ¬Ld V.fr x n->At l x n free e=e)/\(HD V x n->free=true->Ld V.fr x n->At l x n free e=0)/\
  (HD V x n->free=false->(∃m,x<=m/\m<x+n/\V.fr m=true)->At l x n free e=e)/\(HD V x n->free=false->(∀m,x<=m->m<x+n->V.fr m=false)->At l x n free e=0):=by
 have C:=El (A6 0 (by decide)) (a:=x) (b:=x+n) (by omega);have J:=El (A6 1 (by decide)) (a:=x) (b:=x+n) (by omega);have K:=Dn (A6 1 (by decide)) (a:=x) (b:=x+n) (by omega);have v: ∀{m:Int},Ld V.Li x n↔ ∀p,x<=p->p<x+n->mem (l 0) p:=λ{_}=>⟨λd p a c=>(h.i p).2 (d p a c),λd p a c=>(h.i p).1 (d p a c)⟩;have j:HD V x n-> ¬(n=0∨34359738368<=x∨34359738368-x<n∨cnt (l 0) x (x+n)≠n):=λ⟨h1,h2,h3⟩ Y=>by
  have:=C.2 ((v (m:=0)).1 h3);omega
 refine⟨λO=> ?_,λy hf d=> ?_,λy hf d=> ?_,λy hf d=> ?_,λy hf d=> ?_⟩
 .unfold At;rw[if_pos];refine Classical.byContradiction λY=>O ⟨λe=>Y (.inl e),?_,?_⟩
  .omega
  .refine(v (m:=0)).2 (C.1 ?_);omega
 .unfold At;rw[if_neg (j y),if_pos];rw[hf,if_pos rfl];intro T;exact d λm a c=>(h.f m).1 (J.1 (by omega) m a c)
 .unfold At;rw[if_neg (j y),if_neg];rw[hf,if_pos rfl,Decidable.not_not];have:=J.2 λm a c=>(h.f m).2 (d m a c);omega
 .unfold At;rw[if_neg (j y),if_pos];rw[hf,if_neg (by decide)];intro T;obtain⟨m,a,c,hm⟩:=d;exact K.1 T m a c ((h.f m).2 hm)
 .unfold At;rw[if_neg (j y),if_neg];rw[hf,if_neg (by decide),Decidable.not_not];refine K.2 λm a c hm=> ?_;have:=(h.f m).1 hm
  grind
def LV.OL(h:LV l V){x n:Int}(d:0<n):LV (Sh.OL l x n) (V.take x n):=by
 refine⟨h.i,λp=> ?_,λp=> ?_⟩
 .show mem (Dk (l 1) x (x+n)) p↔(V.fr p&& !inr x n p)=true;rw[Ek (by omega),h.f,<-As];grind
 .show mem (Dk (l 2) x (x+n)) p↔(V.rl p&& !inr x n p)=true;rw[Ek (by omega),h.r,<-As];grind
def LV.Mi(h:LV l V)(A6: ∀i,i<4->Ok (l i)){x n:Int}(d:0<=x)(v:0<n)(j:x+n<=34359738368):LV (Sh.Mi l 3 x n) (V.Kx x n)/\LV (Sh.Mi l 2 x n) (V.back x n):=by
 have a1:=ER (A6 1 (by decide)) (a:=x) (b:=x+n) (by omega) d (by omega);have a2:=ER (A6 2 (by decide)) (a:=x) (b:=x+n) (by omega) d (by omega);refine⟨⟨h.i,λp=> ?_,h.r⟩,⟨h.i,λp=> ?_,λp=> ?_⟩⟩
 .show mem (Dl (l 1) x (x+n)) p↔(V.fr p||inr x n p)=true;rw[a1,h.f,<-As,Bool.or_eq_true]
 .show mem (Dl (l 1) x (x+n)) p↔(V.fr p||inr x n p)=true;rw[a1,h.f,<-As,Bool.or_eq_true]
 .show mem (Dl (l 2) x (x+n)) p↔(V.rl p||inr x n p)=true;rw[a2,h.r,<-As,Bool.or_eq_true]
def LV.Uz(h:LV l V)(A6: ∀i,i<4->Ok (l i)){c n:Int}(j:0<=c)(v:0<n)(d:c+n<=67108864):LV (Sh.Uz l c n) (V.grow c n):=by
 have e:(c+n)*512=c*512+n*512:=by omega
 have a0:=ER (A6 0 (by decide)) (a:=c*512) (b:=c*512+n*512) (by omega) (by omega) (by omega);have a1:=ER (A6 1 (by decide)) (a:=c*512) (b:=c*512+n*512) (by omega) (by omega) (by omega);have a2:=ER (A6 2 (by decide)) (a:=c*512) (b:=c*512+n*512) (by omega) (by omega) (by omega);refine⟨λp=> ?_,λp=> ?_,λp=> ?_⟩
 .show mem (Dl (l 0) (c*512) ((c+n)*512)) p↔(V.Li p||inr (c*512) (n*512) p)=true;rw[e,a0,h.i,<-As,Bool.or_eq_true]
 .show mem (Dl (l 1) (c*512) ((c+n)*512)) p↔(V.fr p||inr (c*512) (n*512) p)=true;rw[e,a1,h.f,<-As,Bool.or_eq_true]
 .show mem (Dl (l 2) (c*512) ((c+n)*512)) p↔(V.rl p||inr (c*512) (n*512) p)=true;rw[e,a2,h.r,<-As,Bool.or_eq_true]
def kY(H:Sat Z w){K:Option Addr->World->Prop}(v: ∀w' b,Sat (Bl E b TV.nil::Z) w'->K (some ⟨b,0,none⟩) w'):F.HJ E K w:=
 kX H λw' b l y j=>v w' b (Sat.JY.2 ⟨l,by
  have d: ∀i p,¬mem (l i) p:=λi p=>by rw[y];exact CM p
  exact⟨λp=>⟨λh=>absurd h (d 0 p),λh=>(by cases h)⟩,λp=>⟨λh=>absurd h (d 1 p),λh=>(by cases h)⟩,λp=>⟨λh=>absurd h (d 2 p),λh=>(by cases h)⟩⟩,j⟩)
def IH(V:TV)(n p:Int):Prop:=0<=p/\p+n<=34359738368/\Ld V.fr p n/\ ∀d,Ld V.fr d n->p<=d
def Oi(h:LV l V)(H:Sat (Gc E b l::Z) w){n:Int}(y:0<n):(findL (l 1) n=none/\ ∀p,¬Ld V.fr p n)∨ ∃p,findL (l 1) n=some p/\IH V n p:=by
 obtain⟨J,A6⟩:=H.MM;have j:=h.ok H;cases hf:findL (l 1) n with
 | none=>exact .inl ⟨rfl,λp hp=>MN (A6 1 (by decide)) y hf p ((Hx h).2 hp)⟩
 | some p=>
  obtain⟨h1,h2⟩:=Kw (A6 1 (by decide)) y hf;have d:=(Hx h).1 h1;have b1:=j.Ju p (j.fi p (d p (Int.le_refl _) (by omega)));have b2:=j.Ju (p+n-1) (j.fi _ (d (p+n-1) (by omega) (by omega)));exact .inr ⟨p,rfl,b1.1,by omega,d,λC v=>h2 C ((Hx h).2 v)⟩
def fL(H:Sat (Bl E b V::Z) w){n:Int}(d:0<=n){K:Int->Bool->World->Prop}
  (v:n=0∨(∀p,¬Ld V.fr p n)-> ∀w',Sat (Bl E b V::Z) w'->K 0 false w')(y:n≠0-> ∀p,IH V n p-> ∀w',Sat (Bl E b V::Z) w'->K p true w'):F.DA E (some ⟨b,0,none⟩) n K w:=by
 obtain⟨l,h,H⟩:=Sat.JY.1 H;refine fG H d λw' j=> ?_;have C:=Sat.JY.2 ⟨l,h,j⟩;by_cases e:n=0
 .grind
 .rw[if_neg e];rcases Oi h H (n:=n) (by omega)with ⟨h1,h2⟩|⟨p,h1,h2⟩
  .grind
  grind
variable(hE:EnvS E)
include hE
theorem fM(H:Sat (Bl E b V::Z) w){c n:Int}(j:0<=c)(hc:c<18446744073709551616)(T:0<=n)(hn:n<18446744073709551616){K:Int->World->Prop}
  (C:LL c n->K 1 w)(J: ¬LL c n->(∃p,c*512<=p/\p<(c+n)*512/\V.Li p=true)-> ∀w',Sat (Bl E b V::Z) w'->K 34 w')
  (O: ¬LL c n->(∀p,c*512<=p->p<(c+n)*512->V.Li p=false)-> ∀w',Sat (Bl E b (V.grow c n)::Z) w'->K 0 w'):F.DV E (some ⟨b,0,none⟩) c n K w:=by
 obtain⟨l,h,H⟩:=Sat.JY.1 H;have A6:=H.MM.2;refine fH hE H j hc T hn C (λv d w' y=>J v ?_ w' (Sat.JY.2 ⟨l,h,y⟩)) λv d w' y=>O v (λp h1 h2=> ?_) w' (Sat.JY.2 ⟨_,?_,y⟩)
 .refine Classical.byContradiction λY=>d ((Dn (A6 0 (by decide)) (by omega)).2 λp h1 h2 hm=>Y ⟨p,h1,h2,(h.i p).1 hm⟩)
 .have:=(Dn (A6 0 (by decide)) (by omega)).1 d p h1 h2;rw[h.i]at this
  grind
 .unfold LL at v;exact h.Uz A6 j (by omega) (by omega)
theorem fN(H:Sat (Bl E b V::Z) w){x n:Int}(j:0<=x)(Y:x<18446744073709551616)(d:0<=n)(T:n<18446744073709551616){K:Int->Int->World->Prop}
  (J: ¬HD V x n-> ∀w',Sat (Bl E b V::Z) w'->K 0 10 w')(O:HD V x n-> ¬Ld V.fr x n-> ∀w',Sat (Bl E b V::Z) w'->K 0 32 w')
  (y:HD V x n->Ld V.fr x n-> ∀w',Sat (Bl E b (V.take x n)::Z) w'->K (cr V.rl x n) 0 w'):F.DB E (some ⟨b,0,none⟩) x n K w:=by
 obtain⟨l,h,H⟩:=Sat.JY.1 H;have A6:=H.MM.2;obtain⟨l1,l2,l3,_,_⟩:=TT h A6 j d true (e:=32) (by decide);refine fI hE H j Y d T (λC w' v=> ?_) λC w' v=> ?_
 .have HV:=Sat.JY.2 ⟨l,h,v⟩;by_cases g:HD V x n
  .grind
  grind
 .have g:HD V x n:=Classical.byContradiction λg=>by grind
  have g2:Ld V.fr x n:=Classical.byContradiction λg2=>by grind
  rw[<-Zq (A6 2 (by decide)) h.r d];have:=g.1;exact y g g2 w' (Sat.JY.2 ⟨_,h.OL (by omega),v⟩)
theorem TU(H:Sat (Bl E b V::Z) w){n:Int}(d:0<=n)(J:n<18446744073709551616){K:Int->Int->Int->World->Prop}
  (v:n=0->K 0 0 1 w)(y:n≠0->(∀p,¬Ld V.fr p n)-> ∀w',Sat (Bl E b V::Z) w'->K 0 0 30 w')
  (C:n≠0-> ∀p,IH V n p-> ∀w',Sat (Bl E b (V.take p n)::Z) w'->K p (cr V.rl p n) 0 w'):F.BK E (some ⟨b,0,none⟩) n K w:=by
 obtain⟨l,h,H⟩:=Sat.JY.1 H;have A6:=H.MM.2;refine Zp hE H d J v (λh1 hf w' j=> ?_) λh1 p hf w' j=> ?_
 .rcases Oi h H (n:=n) (by omega)with ⟨_,g2⟩|⟨p,g1,g2⟩
  .exact y h1 g2 w' (Sat.JY.2 ⟨l,h,j⟩)
  .rw[hf]at g1;cases g1
 .rcases Oi h H (n:=n) (by omega)with ⟨g1,_⟩|⟨p',g1,g2⟩
  .rw[hf]at g1;cases g1
  .rw[hf]at g1;cases g1;rw[<-Zq (A6 2 (by decide)) h.r d];exact C h1 p g2 w' (Sat.JY.2 ⟨_,h.OL (by omega),j⟩)
theorem U0(H:Sat (Bl E b V::Z) w){x n:Int}(d:0<=x)(Y:x<18446744073709551616)(j:0<=n)(T:n<18446744073709551616){K:Int->World->Prop}
  (J: ¬HD V x n-> ∀w',Sat (Bl E b V::Z) w'->K 10 w')(O:HD V x n->(∃m,x<=m/\m<x+n/\V.fr m=true)-> ∀w',Sat (Bl E b V::Z) w'->K 31 w')
  (C:HD V x n->(∀m,x<=m->m<x+n->V.fr m=false)-> ∀w',Sat (Bl E b (V.Kx x n)::Z) w'->K 0 w'):F.C8 E (some ⟨b,0,none⟩) x n K w:=by
 obtain⟨l,h,H⟩:=Sat.JY.1 H;have A6:=H.MM.2;obtain⟨l1,_,_,l4,l5⟩:=TT h A6 d j false (e:=31) (by decide);have em: ∀(P:Prop),P∨ ¬P:=Classical.em;refine fJ hE H d Y j T (λy w' v=> ?_) λy w' v=> ?_
 .have HV:=Sat.JY.2 ⟨l,h,v⟩;by_cases g:HD V x n
  .rcases em (∃m,x<=m/\m<x+n/\V.fr m=true)with g2|g2
   .grind
   grind
  grind
 .have g:HD V x n:=Classical.byContradiction λg=>by grind
  have g2: ∀m,x<=m->m<x+n->V.fr m=false:=λm a c=>by
   cases e:V.fr m with
   | false=>rfl
   | true=>rw[l4 g rfl ⟨m,a,c,e⟩]at y;cases y
  have g1:=g.1;exact C g g2 w' (Sat.JY.2 ⟨_,(h.Mi A6 d (by omega) g.2.1).1,v⟩)
theorem fO(H:Sat (Bl E b V::Z) w){x n:Int}(d:0<=x)(Y:x<18446744073709551616)(j:0<=n)(T:n<18446744073709551616){K:Int->World->Prop}
  (J: ¬HD V x n-> ∀w',Sat (Bl E b V::Z) w'->K 10 w')(O:HD V x n->(∃m,x<=m/\m<x+n/\V.fr m=true)-> ∀w',Sat (Bl E b V::Z) w'->K 31 w')
  (C:HD V x n->(∀m,x<=m->m<x+n->V.fr m=false)-> ∀w',Sat (Bl E b (V.back x n)::Z) w'->K 0 w'):F.DW E (some ⟨b,0,none⟩) x n K w:=by
 obtain⟨l,h,H⟩:=Sat.JY.1 H;have A6:=H.MM.2;obtain⟨l1,_,_,l4,l5⟩:=TT h A6 d j false (e:=31) (by decide);have em: ∀(P:Prop),P∨ ¬P:=Classical.em;refine fK hE H d Y j T (λy w' v=> ?_) λy w' v=> ?_
 .have HV:=Sat.JY.2 ⟨l,h,v⟩;by_cases g:HD V x n
  .rcases em (∃m,x<=m/\m<x+n/\V.fr m=true)with g2|g2
   .grind
   grind
  grind
 .have g:HD V x n:=Classical.byContradiction λg=>by grind
  have g2: ∀m,x<=m->m<x+n->V.fr m=false:=λm a c=>by
   cases e:V.fr m with
   | false=>rfl
   | true=>rw[l4 g rfl ⟨m,a,c,e⟩]at y;cases y
  have g1:=g.1;exact C g g2 w' (Sat.JY.2 ⟨_,(h.Mi A6 d (by omega) g.2.1).2,v⟩)
end
def wW{a b:Nat}(d:a<18446744073709551616)(j:b<18446744073709551616):Dj .u64 0 (a:Int) (b:Int)=((a&&&b:Nat):Int):=by
 show IntKind.wrap .u64 ((BitVec.ofInt 64 (a:Int)&&&BitVec.ofInt 64 (b:Int)).toNat:Int)=_;rw[BitVec.toNat_and,BitVec.ofInt_natCast,BitVec.ofInt_natCast,BitVec.toNat_ofNat,BitVec.toNat_ofNat,Nat.mod_eq_of_lt d,Nat.mod_eq_of_lt j];exact S8 (Nat.lt_of_le_of_lt Nat.and_le_left d)
def fdN(a k:Nat)(hk:k<=64):Int.fdiv (a:Int) (2^(min (Int.toNat (k:Int)) (IntKind.bits .u64)))=((a/2^k:Nat):Int):=by
 have d:IntKind.bits .u64=64:=rfl
 grind
section
variable{E:Env}{w:World}{Z:List Pr}
def Qf{u:Nat->Bool}(hT:FQ E.AJ w){K:Int->World->Prop}(y:(∀i,i<64->u i=false)->K 64 w)
  (C: ∀r:Nat,r<64->u r=true->(∀i,i<r->u i=false)->K r w):F.Bq E (W u) K w:=by
 unfold F.Bq;refine Bc (λe=>y (HF.1 e)) λJ=> ?_;have O:wN u 64≠0:=λe=>J (by unfold W;rw[e];rfl);have d:=OK u 64;obtain⟨h1,h2⟩:=Lib.lowest_bit 64 _ O d;obtain⟨c1,c2,c3⟩:=oC O d;have hand:Dj .u64 0 (W u) (u64 (0-W u))=((2^Lib.ctz 64 (wN u 64):Nat):Int):=by
  have:=jU O d;rw[h1]at this;exact this
 rw[hand];generalize Lib.ctz 64 (wN u 64)=k at h2 c1 c2 c3;obtain⟨d1,d2⟩:=Lib.deBruijn64_at k c1;have Y:u64 (((2^k:Nat):Int)*285870213051353865)=((2^k*285870213051353865 %18446744073709551616:Nat):Int):=by
  rw[SB,Int.natCast_emod,Int.natCast_mul];rfl
 rw[Y];have T:=fdN (2^k*285870213051353865 %18446744073709551616) 58 (by decide);have v:(2:Nat)^58=288230376151711744:=by decide
 rw[v]at T;have j:Int.fdiv ((2^k*285870213051353865 %18446744073709551616:Nat):Int) (2^(min (Int.toNat 58) (IntKind.bits .u64)))=((2^k*285870213051353865 %18446744073709551616/288230376151711744:Nat):Int):=T;rw[j];generalize 2^k*285870213051353865 %18446744073709551616/288230376151711744=idx at d1 d2;have Cr:=hT idx d1;rw[d2]at Cr;refine⟨by decide,⟨by omega,by omega⟩,(k:Int),?_,?_⟩
 .rw[Int.toNat_natCast,Nat.mul_one,add_eq,Nat.zero_add];exact Cr
 .rw[AF];refine C k c1 ?_ λi hi=> ?_
  .have:=c2;rw[Dp]at this;grind
  .have:=c3 i hi;rw[Dp]at this
   grind
def Xd{u:Nat->Bool}(hu: ∀i,64<=i->u i=false){K:Int->World->Prop}(hK:K (cN u 64) w):F.F2 E (W u) K w:=by
 unfold F.F2;have v:wN u 64<18446744073709551616:=OK u 64;have f: ∀(a k d:Nat) (k':Int),k'=(k:Int)->k<=64->2^k=d->Int.fdiv (a:Int) (2^(min (Int.toNat k') (IntKind.bits .u64)))=((a/d:Nat):Int):=λa k d k' e h hd=>by rw[e,<-hd];exact fdN a k h
 have y: ∀{a:Nat},a<18446744073709551616->u64 (a:Int)=(a:Int):=λh=>AM;have half: ∀(a d:Nat),a<18446744073709551616->a/d<18446744073709551616:=λa d h=>Nat.lt_of_le_of_lt (Nat.div_le_self _ _) h;refine⟨by decide,AY λx1 O=>⟨by decide,AY λx2 T=>⟨by decide,AY λx3 Y=>⟨by decide,AY λx4 aA=>⟨by decide,AY λx5 aB=>⟨by decide,AY λx6 aC=>AY λt ht=> ?_⟩⟩⟩⟩⟩⟩;have m1:(6148914691236517205:Int)=((6148914691236517205:Nat):Int):=rfl;have m2:(3689348814741910323:Int)=((3689348814741910323:Nat):Int):=rfl;have m3:(1085102592571150095:Int)=((1085102592571150095:Nat):Int):=rfl;have ew:W u=((wN u 64:Nat):Int):=rfl;obtain⟨C,h0⟩: ∃C,C=wN u 64:=⟨_,rfl⟩;obtain⟨J,h1⟩: ∃J,J=(C/2&&&6148914691236517205)+(C&&&6148914691236517205):=⟨_,rfl⟩;obtain⟨y2,h2⟩: ∃y2,y2=(J/4&&&3689348814741910323)+(J&&&3689348814741910323):=⟨_,rfl⟩;obtain⟨y3,h3⟩: ∃y3,y3=(y2/16+y2)&&&1085102592571150095:=⟨_,rfl⟩;obtain⟨y4,h4⟩: ∃y4,y4=y3+y3/256:=⟨_,rfl⟩;obtain⟨y5,h5⟩: ∃y5,y5=y4+y4/65536:=⟨_,rfl⟩;obtain⟨j,h6⟩: ∃j,j=y5+y5/4294967296:=⟨_,rfl⟩;obtain⟨l1,l2,l3,l4,l5,l6,l7⟩:=swar hu h0 h1 h2 h3 h4 h5 h6;rw[<-h0]at v ew;rw[ew,f C 1 2 1 rfl (by decide) rfl,m1,wW (half C 2 v) (by decide),wW v (by decide),<-Int.natCast_add,<-h1,y l1]at O;subst O;rw[f J 2 4 2 rfl (by decide) rfl,m2,wW (half J 4 l1) (by decide),wW l1 (by decide),<-Int.natCast_add,<-h2,y l2]at T;subst T;rw[f y2 4 16 4 rfl (by decide) rfl,<-Int.natCast_add,y l3,m3,wW l3 (by decide),<-h3]at Y;subst Y;rw[f y3 8 256 8 rfl (by decide) rfl,<-Int.natCast_add,<-h4,y l4]at aA;subst aA;rw[f y4 16 65536 16 rfl (by decide) rfl,<-Int.natCast_add,<-h5,y l5]at aB;subst aB;rw[f y5 32 4294967296 32 rfl (by decide) rfl,<-Int.natCast_add,<-h6,y (Nat.lt_trans l6 (by decide))]at aC;subst aC;rw[AF]at ht;have e:Dj .i64 0 (j:Int) 127=((j %128:Nat):Int):=by
  show IntKind.wrap .i64 ((BitVec.ofInt 64 (j:Int)&&&BitVec.ofInt 64 ((127:Nat):Int)).toNat:Int)=_;rw[BitVec.toNat_and,BitVec.ofInt_natCast,BitVec.ofInt_natCast,BitVec.toNat_ofNat,BitVec.toNat_ofNat,Nat.mod_eq_of_lt (show j<2^64 from Nat.lt_trans l6 (by decide)),Nat.mod_eq_of_lt (by decide)];have:j&&&127=j %128:=Nat.and_two_pow_sub_one_eq_mod j 7;rw[this];exact AF
 rw[e,l7]at ht
 grind
def JZ(u:Nat->Bool)(i n:Nat):Prop:= ∀k,k<n->u (i+k)=true
def Zr{u:Nat->Bool}(hu: ∀i,64<=i->u i=false)(hT:FQ E.AJ w){n:Int}(h1:1<=n)(h2:n<=64){K:Int->Bool->World->Prop}
  (aH:(∀i,¬JZ u i n.toNat)-> ∀r,K r false w)(aA: ∀i,JZ u i n.toNat->(∀j,JZ u j n.toNat->i<=j)->i+n.toNat<=64->K i true w):F.Gh E (W u) n K w:=by
 unfold F.Gh T0.Gh;refine AI (λst w'=>w'=w/\ ∃v:Nat->Bool,st.1=W v/\(∀i,64<=i->v i=false)/\0<=st.2.2.1/\st.2.2.1<64/\st.2.1=st.2.2.1+1/\ ∀i,JZ v i (st.2.2.1.toNat+1)↔JZ u i n.toNat) (λst _=>st.2.2.1.toNat)
  ⟨rfl,u,rfl,hu,?_,?_,?_,λi=> ?_⟩ ?_
 .show 0<=i64 (n-1);rw[AF];omega
 .show i64 (n-1)<64;rw[AF];omega
 .show n=i64 (n-1)+1;rw[AF];omega
 .show JZ u i ((i64 (n-1)).toNat+1)↔_;rw[AF,show(n-1).toNat+1=n.toNat by omega]
 rintro⟨x,m,left,c⟩ _ w2 ⟨rfl,v,hx,hv,l0,l1,hm,d⟩;dsimp only at hx l0 l1 hm d⊢;subst hx;subst hm;refine AB (λaD=>⟨by decide,AY λL5 Y=> ?_⟩) λhz=> ?_
 .rw[Int.tdiv_eq_ediv_of_nonneg (by omega),AF,Vl,SC]at Y;have b0:1<=L5/\L5<=left/\2*L5<=left+1:=by omega
  refine⟨by omega,AY λx' T=> ?_⟩;rw[jS v (by omega) (by omega),jQ]at T;rw[AF (n:=left+1-L5),AF (n:=left-L5)];refine⟨⟨by trivial,_,T,λi hi=>by grind,by omega,by omega,by omega,λi=> ?_⟩,by omega⟩;rw[<-d];have C: ∀j,(v j&&(decide (j+L5.toNat<64)&&v (j+L5.toNat)))=true↔v j=true/\v (j+L5.toNat)=true:=λj=>by grind
  constructor
  .intro h k hk;by_cases g:k<(left-L5).toNat+1
   .exact((C _).1 (h k g)).1
   .have:=((C _).1 (h (k-L5.toNat) (by omega))).2;rwa[show i+(k-L5.toNat)+L5.toNat=i+k by omega]at this
  .intro h k hk;refine(C _).2 ⟨h k (by omega),?_⟩;have:=h (k+L5.toNat) (by omega)
   grind
 .have e:left=0:=by omega
  subst e;have y: ∀i,v i=true↔JZ u i n.toNat:=λi=>by
   rw[<-d];constructor
   .intro h k hk;have:k=0:=by omega
    subst this;exact h
   .intro h;exact h 0 (by decide)
  refine Qf hT (λaB=> ?_) λr hr J aC=> ?_
  .have e0:W v=0:=HF.2 aB
   grind
  .have aI:W v≠0:=λe=>by rw[HF.1 e r hr]at J;cases J
   have e1:(W v !=0)=true:=by grind
   rw[e1];have O:=(y r).1 J;refine aA r O (λj hj=> ?_) ?_
   .refine Classical.byContradiction λg=> ?_
    grind
   .refine Classical.byContradiction λg=> ?_;have h3:=O (n.toNat-1) (by omega)
    grind
structure CS where
 base:Int
 has:Nat->Bool
 rel:Nat->Bool
structure Pf(S:CS):Prop where
 b0:0<=S.base
 b1:S.base<34359738368
 b64:S.base %64=0
 hz: ∀i,64<=i->S.has i=false
 rh: ∀i,S.rel i=true->S.has i=true
def CS.nil:CS:=⟨0,λ_=>false,λ_=>false⟩
def CS.empty(S:CS):Prop:= ∀i,S.has i=false
def BU(E:Env)(c:Nat)(S:CS):Pr:=Jj (Pf S) (Cells c E.Fq [.int .u64 S.base,.int .u64 (W S.has),.int .u64 (W S.rel)])
def Pf.nil:Pf CS.nil:=⟨by decide,by decide,by decide,λ_ _=>rfl,λ_ h=>h⟩
def Sat.cache{c:Nat}{S:CS}:Sat (BU E c S::Z) w↔Pf S/\Sat (Cells c E.Fq [.int .u64 S.base,.int .u64 (W S.has),.int .u64 (W S.rel)]::Z) w:=Sat.where
def fP(H:Sat Z w){K:Option Addr->World->Prop}(v: ∀w' c,Sat (BU E c CS.nil::Z) w'->K (some ⟨c,0,none⟩) w'):F.MH E K w:=by
 unfold F.MH;refine AO H λc w' d _=>v w' c (Sat.cache.2 ⟨Pf.nil,?_⟩);have e:W CS.nil.has=0:=Vr;have j:W CS.nil.rel=0:=Vr;rw[e,j];exact d
variable{c t:Nat}{S:CS}{V:TV}
def Pf.emp(h:Pf S):W S.has=0↔S.empty:=by
 rw[HF];constructor
 .intro g i;by_cases e:i<64
  .exact g i e
  .exact h.hz i (by omega)
 .intro g i _;exact g i
def NT(H:Sat (BU E c S::Z) w){K:Bool->World->Prop}(j:S.empty->K true w)(d: ¬S.empty->K false w):F.Ft E (some ⟨c,0,none⟩) K w:=by
 obtain⟨hI,H⟩:=Sat.cache.1 H;unfold F.Ft;simp only[AG];refine⟨_,H.cell rfl,?_⟩;by_cases g:W S.has=0
 .rw[show(W S.has==0)=true by grind];exact j (hI.emp.1 g)
 .rw[show(W S.has==0)=false by grind];exact d λh=>g (hI.emp.2 h)
def CS.alloc(S:CS)(i n:Nat):CS:=⟨S.base,λk=>S.has k&& !(decide (i<=k)&&decide (k<i+n)),λk=>S.rel k&& !(decide (i<=k)&&decide (k<i+n))⟩
def fQ{n:Int}(h1:1<=n)(h2:n<=64){i:Nat}(d:i+n.toNat<=64):
  u64 ((Int.fdiv 18446744073709551615 (2^(min (Int.toNat (i64 (64-n))) (IntKind.bits .u64))))*2^(min (Int.toNat (i:Int)) (IntKind.bits .u64)))=W λk=>decide (i<=k)&&decide (k<i+n.toNat):=by
 rw[AF (n:=64-n),<-Vs,jS _ (by omega) (by omega),jT _ (by omega) (by omega)]
 grind
def kZ{u v:Nat->Bool}{n:Nat}(h: ∀i,i<n->u i=v i):cN u n=cN v n:=by
 induction n with
 | zero=>rfl
 | succ n ih=>simp only[cN];grind
def Xe(hT:FQ E.AJ w)(H:Sat (BU E c S::Z) w){n:Int}(aD: -9223372036854775808<=n)(aE:n<9223372036854775808){K:Int->Int->Int->World->Prop}
  (C:n<1∨64<n->K 0 0 1 w)(O:1<=n->n<=64->(∀i,¬JZ S.has i n.toNat)->K 0 0 30 w)
  (T:1<=n->n<=64-> ∀i,JZ S.has i n.toNat->(∀j,JZ S.has j n.toNat->i<=j)->i+n.toNat<=64-> ∀w',Sat (BU E c (S.alloc i n.toNat)::Z) w'->
   K (S.base+i) (cN (λk=>S.rel k&&(decide (i<=k)&&decide (k<i+n.toNat))) 64) 0 w'):F.C3 E (some ⟨c,0,none⟩) n K w:=by
 obtain⟨hI,H⟩:=Sat.cache.1 H;unfold F.C3 T0.C3;refine AU (AB (λh j=>AR rfl (C (.inl h))) λg1 j=>AB (λh=>C (.inr h)) λg2=> ?_);simp only[AG];refine⟨_,H.cell rfl,Zr hI.hz hT (by omega) (by omega) (λY r=>AR rfl (O (by omega) (by omega) Y)) λi hr J y=>AP rfl ⟨?_,by omega,AY λmask hm=> ?_⟩⟩
 .rw[AF (n:=64-n)];omega
 rw[fQ (by omega) (by omega) y]at hm;subst hm;refine⟨_,H.cell rfl,?_⟩;rw[jQ];refine Xd (λk hk=> ?_) ?_
 .grind
 refine⟨_,H.cell rfl,Ab H rfl (by simp) λaG d=> ?_⟩;simp only[List.set,Nat.zero_add]at d;rw[NJ]at d;refine⟨_,d.cell rfl,Ab d rfl (by simp) λaA v=> ?_⟩;simp only[List.set,Nat.zero_add]at v;rw[NJ]at v;refine⟨_,v.Af rfl,?_⟩;have hb:=hI.b0;have aC:=hI.b1;rw[AM (n:=(i:Int)),AM (n:=S.base+(i:Int))];refine T (by omega) (by omega) i hr J y aA (Sat.cache.2 ⟨⟨hI.b0,hI.b1,hI.b64,λk hk=> ?_,λk hk=> ?_⟩,v⟩)
 .show(S.has k&&_)=false;rw[hI.hz k hk];rfl
 .have hk:(S.rel k&& !(decide (i<=k)&&decide (k<i+n.toNat)))=true:=hk;show(S.has k&& !(decide (i<=k)&&decide (k<i+n.toNat)))=true;rw[Bool.and_eq_true]at hk⊢;exact⟨hI.rh k hk.1,hk.2⟩
variable(hE:EnvS E)
include hE
theorem Zs(H:Sat (BU E c S::Bl E t V::Z) w){K:Int->World->Prop}
  (aG: ¬S.empty-> ∀w',Sat (BU E c S::Bl E t V::Z) w'->K 33 w')(aQ:S.empty->(∀p,V.fr p=false)-> ∀w',Sat (BU E c S::Bl E t V::Z) w'->K 30 w')
  (aR:S.empty-> ∀p,IH V 1 p-> ∀w',Sat (BU E c ⟨p/64*64,λi=>decide (i<64)&&V.fr (p/64*64+i),λi=>decide (i<64)&&V.rl (p/64*64+i)⟩::Bl E t (V.take (p/64*64) 64)::Z) w'->K 0 w'):
  F.Di E (some ⟨c,0,none⟩) (some ⟨t,0,none⟩) K w:=by
 unfold F.Di T0.Di;have sw: ∀{A B:Pr} {w'},Sat (A::B::Z) w'->Sat (B::A::Z) w':=λh=>h.perm (.swap _ _ _);refine fL (sw H) (by decide) (λd w3 H3=> ?_) λ_ p hp w3 H3=> ?_
 .have d: ∀p,V.fr p=false:=λp=>by
   rcases d with h|h
   .cases h
   .cases g:V.fr p with
    | false=>rfl
    | true=>exact absurd (λm a b=>by grind) (h p)
  refine NT (sw H3) (λhe=>AP rfl (AR rfl (aQ he d w3 (sw H3)))) λhe=>AR rfl (aG he w3 (sw H3))
 refine NT (sw H3) (λhe=>AP rfl (AP rfl ⟨by decide,?_⟩)) λhe=>AR rfl (aG he w3 (sw H3));have hv:=H3.zQ;have aS:=hp.1;have a2:=hp.2.1;obtain⟨hI,H4⟩:=Sat.cache.1 (sw H3);rw[Int.tdiv_eq_ediv_of_nonneg aS,AM (n:=p/64),AM (n:=p/64*64)];simp only[AG];generalize hB:p/64*64=B;have aE:0<=B/\B+64<=34359738368/\B %64=0:=by omega
 refine CN H4 rfl (by simp) λw7 H7=> ?_;simp only[List.set]at H7;have hz: ∀i,S.rel i=false:=λi=>by
  cases g:S.rel i with
  | false=>rfl
  | true=>have:=hI.rh i g;rw[he i]at this;cases this
 have e1:W S.has=W λi=>decide (i<0)&&V.fr (B+i):=Gt λi _=>by rw[he i];simp
 have e2:W S.rel=W λi=>decide (i<0)&&V.rl (B+i):=Gt λi _=>by grind
 rw[e1,e2]at H7;have T:V=V.take B 0:=by
  have e: ∀q,inr B 0 q=false:=λq=>IU.2 (by omega);unfold TV.take;simp[e]
 refine AI (λst w'=> ∃i:Nat,st.1=(i:Int)/\i<=64/\Sat (Cells c E.Fq [.int .u64 B,.int .u64 (W λk=>decide (k<i)&&V.fr (B+k)),.int .u64 (W λk=>decide (k<i)&&V.rl (B+k))]::Bl E t (V.take B i)::Z) w') (λst _=>(64-st.1).toNat)
  ⟨0,rfl,by decide,by rw[show((0:Nat):Int)=0 from rfl,<-T];exact H7⟩ ?_
 rintro⟨i',v⟩ _ w9 ⟨i,O,aV,H9⟩;dsimp only at O⊢;subst O;refine AB (λa1=>⟨B,H9.Af rfl,?_⟩) λa0=> ?_
 .rw[AM (n:=B+(i:Int)),AM (n:=(i:Int)+1)];have aK:inr B i (B+i)=false:=IU.2 (by omega);have aO:(V.take B i).fr (B+i)=V.fr (B+i):=by show(V.fr (B+i)&& !inr B i (B+i))=_;grind
  have aT:(V.take B i).rl (B+i)=V.rl (B+i):=by show(V.rl (B+i)&& !inr B i (B+i))=_;grind
  have aB: ∀q,inr B ((i+1:Nat):Int) q=(inr B i q||inr (B+i) 1 q):=λq=>by
   rw[Bool.eq_iff_iff,Bool.or_eq_true,As,As,As];omega
  have J:V.fr (B+i)=false-> ∀{w'},Sat (Bl E t (V.take B i)::Cells c E.Fq [.int .u64 B,.int .u64 (W λk=>decide (k<i)&&V.fr (B+k)),.int .u64 (W λk=>decide (k<i)&&V.rl (B+k))]::Z) w'->
    (∃j:Nat,(i:Int)+1=(j:Int)/\j<=64/\Sat (Cells c E.Fq [.int .u64 B,.int .u64 (W λk=>decide (k<j)&&V.fr (B+k)),.int .u64 (W λk=>decide (k<j)&&V.rl (B+k))]::Bl E t (V.take B j)::Z) w')/\(64-((i:Int)+1)).toNat<(64-(i:Int)).toNat:=λhf w' h=>by
   refine⟨⟨i+1,by omega,by omega,?_⟩,by omega⟩;have hr:V.rl (B+i)=false:=by
    cases g:V.rl (B+i)with
    | false=>rfl
    | true=>have:=hv.rf _ g;grind
   have f1:W (λk=>decide (k<i+1)&&V.fr (B+k))=W λk=>decide (k<i)&&V.fr (B+k):=Gt λk _=>by grind
   have f2:W (λk=>decide (k<i+1)&&V.rl (B+k))=W λk=>decide (k<i)&&V.rl (B+k):=Gt λk _=>by grind
   have f3:V.take B ((i+1:Nat):Int)=V.take B i:=by
    unfold TV.take;congr 1
    .funext q;rw[aB];by_cases e:q=B+i
     .grind
     .have:inr (B+i) 1 q=false:=IU.2 (by omega)
      grind
    .funext q;rw[aB];by_cases e:q=B+i
     .grind
     .have:inr (B+i) 1 q=false:=IU.2 (by omega)
      grind
   grind
  refine fN hE (sw H9) (by omega) (by omega) (by decide) (by decide) (λd aJ y=> ?_) (λaP d aJ y=> ?_) λaP aI aJ y=> ?_
  .refine AP (by decide) (J ?_ y);cases g:V.fr (B+i)with
   | false=>rfl
   | true=>exact absurd ⟨by decide,by omega,λm a b=>by rw[show m=B+i by omega];exact hv.fi _ g⟩ d
  .refine AP (by decide) (J ?_ y);cases g:V.fr (B+i)with
   | false=>rfl
   | true=>exact absurd (λm a b=>by grind) d
  .have hf:V.fr (B+i)=true:=by rw[<-aO];exact aI _ (Int.le_refl _) (by omega)
   rw[u0,aT];have Y:=sw y;have aC: ∀(u:Nat->Bool),u64 (1*2^(min (Int.toNat (i:Int)) (IntKind.bits .u64)))=W λk=>decide (i<=k)&&(k-i==0):=λ_=>by
    have:=jT (λk=>k==0) (n:=(i:Int)) (by omega) (by omega);rw[jP,Int.toNat_natCast]at this;exact this
   have aH: ∀f:Int->Bool,f (B+i)=true->W (λk=>(decide (k<i)&&f (B+k))||(decide (i<=k)&&(k-i==0)))=W λk=>decide (k<i+1)&&f (B+k):=λf aZ=>Gt λk _=>by grind
   refine AR (by decide) ⟨_,Y.cell rfl,by omega,Ab Y rfl (by simp) λa3 aD=>⟨_,(by exact aD.cell rfl),by omega,Ab aD rfl (by simp) λa4 C=> ?_⟩⟩;simp only[List.set,Nat.zero_add]at C;rw[aC (λ_=>false),jR,aH V.fr hf]at C;have aF:Dj .u64 1 (W λk=>decide (k<i)&&V.rl (B+k)) (u64 ((if V.rl (B+i)=true then 1 else 0)*2^(min (Int.toNat (i:Int)) (IntKind.bits .u64))))=W λk=>decide (k<i+1)&&V.rl (B+k):=by
    cases g:V.rl (B+i)with
    | true=>rw[if_pos rfl,aC (λ_=>false),jR,aH V.rl g]
    | false=>
     rw[if_neg (by decide),Int.zero_mul,show u64 0=0 from rfl,<-Vr,jR];refine Gt λk _=> ?_
     grind
   rw[aF]at C;have f3:(V.take B i).take (B+i) 1=V.take B ((i+1:Nat):Int):=by
    unfold TV.take
    grind
   rw[f3]at C;exact⟨⟨i+1,by omega,by omega,C⟩,by omega⟩
 .have e:i=64:=by omega
  subst e;have:=aR he p hp w9;rw[hB]at this;refine this (Sat.cache.2 ⟨⟨aE.1,by grind,aE.2.2,λi O=> ?_,λi O=> ?_⟩,H9⟩)
  .grind
  .have O:(decide (i<64)&&V.rl (B+i))=true:=O;show(decide (i<64)&&V.fr (B+i))=true;rw[Bool.and_eq_true]at O⊢;exact⟨O.1,hv.rf _ O.2⟩
def CS.own(S:CS)(p:Int):Bool:=inr S.base 64 p&&S.has (p-S.base).toNat
def CS.V6(S:CS)(p:Int):Bool:=inr S.base 64 p&&S.rel (p-S.base).toNat
def TV.flush(V:TV)(S:CS):TV:=⟨V.Li,λp=>V.fr p||S.own p,λp=>V.rl p||S.V6 p⟩
end
end Go.Sh

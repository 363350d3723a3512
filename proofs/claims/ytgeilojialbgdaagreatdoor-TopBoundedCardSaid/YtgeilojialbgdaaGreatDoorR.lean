/- The page tree and the caches of pages do what their pages say. No further condition. -/
import Derived.Test.YtgeilojialbgdaaGreatDoorS
import Derived.Test.YtgeilojialbgdaaGreatDoorM
import Derived.Test.YtgeilojialbgdaaGreatDoorA
set_option linter.all false
set_option maxRecDepth 50000
set_option maxHeartbeats 1000000
namespace Go.Sh
def Fk{α:Type}(f:Nat->α)(i:Nat)(x:α):Nat->α:=λj=>if j=i then x else f j
@[simp] theorem IJ{α:Type}(f:Nat->α)(i:Nat)(x:α):Fk f i x i=x:=if_pos rfl
def EX{α:Type}(f:Nat->α){i j:Nat}(x:α)(h:j≠i):Fk f i x j=f j:=if_neg h
structure Hj(E:Env)(w:World)(b:Nat)(s:Nat->AY)(l:Nat->Iv):Prop where
 Cz: ∀i,i<4->Jk E w b (2*i) (s i) (l i)
 dis: ∀i j,i<4->j<4->i≠j-> ∀k,KY (s i) k-> ¬KY (s j) k
 c8: ∃v,w.cell? ⟨b,8,none⟩=some v
 f8:w.frozen? ⟨b,8,none⟩=false
section
variable{E:Env}{w w':World}{b:Nat}{s:Nat->AY}{l:Nat->Iv}
def Hj.lt(h:Hj E w b s l):b<w.heap.size:=(h.Cz 0 (by decide)).row.lt
def Hj.Pq(h:Hj E w b s l){i k:Nat}(hi:i<4)(a:KY (s i) k):k<w.heap.size:=((h.Cz i hi).row.own.EC a).2
def Hj.ext{S:Nat->Prop}(h:Hj E w b s l)(he:Ext S w w')(e: ¬S b)(u: ∀i k,i<4->KY (s i) k-> ¬S k):Hj E w' b s l:=
 ⟨λi hi=>(h.Cz i hi).ext he e λa j=>u i _ hi ⟨a,j,rfl⟩,h.dis,h.c8.imp λv J=>he.cell J e,by rw[he.frozen (p:=⟨b,8,none⟩) h.lt e];exact h.f8⟩
def Hj.E9(h:Hj E w b s l)(he:Ext AN w w'):Hj E w' b s l:=h.ext he (λf=>f) λ_ _ _ _ f=>f
def Hj.Fk(h:Hj E w b s l){i:Nat}(hi:i<4){s':AY}{l':Iv}(hs:Jk E w' b (2*i) s' l')(hu:OU b (Yx (2*i)) w w')(Y:Uo w (s i) s'):
  Hj E w' b (Fk s i s') (Fk l i l'):=by
 have hold: ∀k,KY s' k->KY (s i) k∨w.heap.size<=k:=by
  rintro k ⟨a,T,rfl⟩;rcases Y with e|e
  .rw[e]at T;exact .inl ⟨a,T,rfl⟩
  grind
 refine⟨λj K=> ?_,λj k K O J m hm u=> ?_,?_,?_⟩
 .by_cases e:j=i
  .subst e;rw[IJ,IJ];exact hs
  .rw[EX _ _ e,EX _ _ e];refine(h.Cz j K).Fk hu ?_ ?_<;>(unfold Yx;omega)
 .by_cases e:j=i
  .subst e;rw[IJ]at hm;rw[EX _ _ (λe=>J e.symm)]at u;rcases hold m hm with g|g
   .exact h.dis _ _ K O J m g u
   .have:=h.Pq O u;omega
  .rw[EX _ _ e]at hm;by_cases e2:k=i
   .subst e2;rw[IJ]at u;rcases hold m u with g|g
    .exact h.dis _ _ K O J m hm g
    .have:=h.Pq K hm;omega
   .rw[EX _ _ e2]at u;exact h.dis _ _ K O J m hm u
 .obtain⟨v,hv⟩:=h.c8;exact⟨v,by rw[hu.EB 8 (by unfold Yx;omega)];exact hv⟩
 .rw[hu.uZ];exact h.f8
def Hj.yC(h:Hj E w b s l){i:Nat}(hi:i<4){s':AY}(J:Uo w (s i) s'){j k:Nat}(u:KY (Sh.Fk s i s' j) k):KY (s j) k∨w.heap.size<=k:=by
 by_cases e:j=i
 .subst e;rw[IJ]at u;obtain⟨a,v,rfl⟩:=u;rcases J with e|e
  .rw[e]at v;exact .inl ⟨a,v,rfl⟩
  grind
 .rw[EX _ _ e]at u
  grind
end
def sumV(q:Int×Int×Int):Value:=.agg ⟨[.int .i64 q.1,.int .i64 q.2.1,.int .i64 q.2.2]⟩
structure Ur(E:Env)(w:World)(b:Nat)(sm:AY)(PW:List Nat)(sum:Nat->Int->Option (Int×Int×Int)):Prop where
 c8:w.cell? ⟨b,8,none⟩=some (.slice sm.base sm.len sm.cap)
 own:I2 w 0 E.Es 1 sm (PW.map λk=>Value.map (some k))
 len:PW.length=4
 nodup:PW.Nodup
 maps: ∀j k,PW[j]? =some k-> ∃es c m,w.heap[k]? =some (.map es c)/\MapI .u64 es c m/\ ∀i,aget m i=(sum j i).map sumV
def Ur.ext{E:Env}{w w':World}{b:Nat}{sm:AY}{PW:List Nat}{sum:Nat->Int->Option (Int×Int×Int)}{S:Nat->Prop}(h:Ur E w b sm PW sum)(he:Ext S w w')(u: ¬S b)
  (J: ∀k,KY sm k-> ¬S k)(hm: ∀k∈PW,¬S k):Ur E w' b sm PW sum:=
 ⟨he.cell h.c8 u,h.own.ext he λg v=>J g ⟨_,v,rfl⟩,h.len,h.nodup,λj k a=>by
  obtain⟨es,c,m,h1,e⟩:=h.maps j k a;exact⟨es,c,m,he.obj h1 (hm k (List.mem_of_getElem? a)),e⟩⟩
def Ur.mlt{E:Env}{w:World}{b:Nat}{sm:AY}{PW:List Nat}{sum:Nat->Int->Option (Int×Int×Int)}(h:Ur E w b sm PW sum){k:Nat}(e:k∈PW):k<w.heap.size:=by
 obtain⟨j,a⟩:=List.mem_iff_getElem?.1 e;obtain⟨es,c,m,h1,_⟩:=h.maps j k a;exact FM h1
def RA{E:Env}{w:World}{b:Nat}{s:Nat->AY}{l:Nat->Iv}(h:Hj E w b s l){K:World->Prop}
  (hK: ∀w' sm PW,Hj E w' b s l->Ur E w' b sm PW (λ_ _=>none)->Ext (Ja b) w w'->(∀k,KY sm k->w.heap.size<=k)->(∀k∈PW,w.heap.size<=k)->K w'):
  F.DB E (sM b) K w:=by
 unfold F.DB;simp only[AK,add_eq,Nat.zero_add];obtain⟨v8,aZ⟩:=h.c8;refine MU aZ h.f8 rfl λw2 aC=> ?_;have aD: ∀{w1 w2:World} {v:Value},Hj E w1 b s l->N9 ⟨b,8,none⟩ v w1 w2->Hj E w2 b s l:=by
  intro w1 w2 v h aL;have hu:OU b (λj=>j=8) w1 w2:=OU.IX aL rfl;exact⟨λi hi=>(h.Cz i hi).Fk hu (by omega) (by omega),h.dis,⟨_,aL.same⟩,by rw[aL.frozen];exact h.f8⟩
 refine AM (λst w'=> ∃(n:Nat) (sm:AY) (PW:List Nat),st.1=(n:Int)/\n<=4/\Hj E w' b s l/\w'.cell? ⟨b,8,none⟩=some (.slice sm.base sm.len sm.cap)/\
   I2 w' w.heap.size E.Es 1 sm (PW.map λk=>Value.map (some k))/\PW.length=n/\PW.Nodup/\(∀k∈PW,w'.heap[k]? =some (.map #[] 0))/\(∀k∈PW,w.heap.size<=k)/\Ext (Ja b) w w')
  (λst _=>(4-st.1).toNat) ⟨0,⟨none,0,0⟩,[],rfl,by decide,aD h aC,aC.same,I2.nil _ _ _ _,rfl,List.nodup_nil,by simp,by simp,aC.ext⟩ ?_
 rintro⟨i,u⟩ _ w4 ⟨n,sm,PW,hn,a8,h4,aN,J,hlen,aX,aB,aJ,aF⟩;simp only at hn⊢;subst hn;refine AE (λa7=> ?_) (λa6=> ?_)
 .refine⟨sm,aN,A4 λw9 aU a3 aW=>A4 λaO aM aY aH=> ?_⟩;have aG:Ext AN w4 aO:=aW.trans' aH;have Y:=J.ext aG λ_ _ f=>f;have a9:sm.len=n:=by have:=J.len;grind
  refine Qj (news:=[.map (some w4.heap.size)]) rfl Y (OV aM rfl) rfl (by intro v hv;simp at hv;subst hv;rfl) (by have:=aF.size;omega) (by grind) (by grind) λFj aP aK a2 aA a1=> ?_;have aV: ¬KY sm b:=λe=>by have:=(J.EC e).1;have:=h.lt;omega
  have aE:Hj E aP b s l:=(h4.E9 aG).ext aA aV λi k hi a e=>by
   have:=(J.EC e).1;have:=h.Pq hi a;omega
  have T: ∀k∈PW++[w4.heap.size],aP.heap[k]? =some (.map #[] 0):=by
   intro k a;have aI:aO.heap[k]? =some (.map #[] 0):=by
    rcases List.mem_append.1 a with a|a
    .exact aG.obj (aB k a) λf=>f
    .rw[List.mem_singleton]at a;subst a;exact aH.obj aU λf=>f
   exact aA.obj aI (Y.Xu aI)
  obtain⟨v,hv⟩:=aE.c8;refine MU hv aE.f8 rfl λbA O=> ?_;refine⟨⟨n+1,Fj,PW++[w4.heap.size],by rw[AI];omega,by omega,aD aE O,O.same,?_,by simp;omega,?_,?_,?_,?_⟩,by rw[AI];omega⟩
  .rw[List.map_append];refine aK.ext O.ext λg hg e=> ?_;have:=(aK.lt hg).1;have:g=b:=e;have:=h.lt
   grind
  .grind
  .intro k a;refine O.ext.obj (T k a) λe=> ?_;have:k=b:=e;subst this;have:=(aE.Cz 0 (by decide)).row.c0;exact Q8 (T k a) this
  .intro k a;rcases List.mem_append.1 a with a|a
   .exact aJ k a
   .rw[List.mem_singleton]at a;subst a;exact aF.size
  .refine(aF.trans aG (λ_ _ e=>e) λ_ _ f=>f.elim).trans (aA.trans O.ext (U:=λk=>KY sm k∨k=b) (λ_ _ e=>.inl e) λ_ _ e=>.inr e) (λ_ _ e=>e) λk a e=> ?_;rcases e with e|e
   .have:=(J.EC e).1;omega
   .exact e
 .have hn:n=4:=by omega
  subst hn;refine hK w4 sm PW h4 ⟨aN,J.lower (Nat.zero_le _),hlen,aX,λj k a=> ?_⟩ aF (λk a=>(J.EC a).1) aJ;exact⟨#[],0,[],aB k (List.mem_of_getElem? a),MapI.empty _,λ_=>rfl⟩
def pg(lv:Int):Int:=512*8^(3-lv).toNat
def yD(fr to:Int)(a:Int×Int×Int)(p:Int×Int):Int×Int×Int:=
 (if p.1=fr then p.2-p.1 else a.1,max a.2.1 (p.2-p.1),if p.2=to then p.2-p.1 else a.2.2)
def sumOf(l:Iv)(fr to:Int):Int×Int×Int:=(withinL l fr to).foldl (yD fr to) (0,0,0)
structure Nm where
 s:Nat->AY
 l:Nat->Iv
 sm:AY
 PW:List Nat
 sum:Nat->Int->Option (Int×Int×Int)
structure yE(l:Nat->Iv):Prop where
 top: ∀n,mem (l 0) n->n<34359738368
 free: ∀n,mem (l 1) n->mem (l 0) n
 rel: ∀n,mem (l 2) n->mem (l 1) n
 idle: ∀n,mem (l 3) n↔mem (l 1) n/\ ¬mem (l 2) n
structure GQ(E:Env)(w:World)(b:Nat)(G:Nm):Prop where
 Cz:Hj E w b G.s G.l
 maps:Ur E w b G.sm G.PW G.sum
 d: ∀k,KY G.sm k->k≠b/\ ∀i,i<4-> ¬KY (G.s i) k
 ok: ∀(j:Nat) (i:Int) x,G.sum j i=some x->x=sumOf (G.l 1) (i*pg j) (i*pg j+pg j)
 inv:yE G.l
def RB(b:Nat)(G:Nm)(k:Nat):Prop:=k=b∨(∃i,i<4/\KY (G.s i) k)∨KY G.sm k∨k∈G.PW
section
variable{E:Env}{w w':World}{b:Nat}{G:Nm}
def GQ.lt(h:GQ E w b G):b<w.heap.size:=h.Cz.lt
def GQ.mb(h:GQ E w b G){k:Nat}(e:k∈G.PW):k≠b:=by
 rintro rfl;obtain⟨j,a⟩:=List.mem_iff_getElem?.1 e;obtain⟨es,c,m,h1,_⟩:=h.maps.maps j k a;exact Q8 h1 h.maps.c8
def GQ.PM(h:GQ E w b G){k:Nat}(a:RB b G k):k<w.heap.size:=by
 rcases a with rfl|⟨i,hi,a⟩|a|a
 .exact h.lt
 .exact h.Cz.Pq hi a
 .exact(h.maps.own.EC a).2
 .exact h.maps.mlt a
def GQ.ext{S:Nat->Prop}(h:GQ E w b G)(he:Ext S w w')(hS: ∀k,RB b G k-> ¬S k):GQ E w' b G:=
 ⟨h.Cz.ext he (hS b (.inl rfl)) λi k hi a=>hS k (.inr (.inl ⟨i,hi,a⟩)),h.maps.ext he (hS b (.inl rfl)) (λk a=>hS k (.inr (.inr (.inl a)))) λk a=>hS k (.inr (.inr (.inr a))),h.d,h.ok,h.inv⟩
def GQ.E9(h:GQ E w b G)(he:Ext AN w w'):GQ E w' b G:=h.ext he λ_ _ f=>f
end
structure La(E:Env)(b:Nat)(w:World)(G:Nm)(w':World)(G':Nm):Prop where
 rep:GQ E w' b G'
 ext:Ext (RB b G) w w'
 WB: ∀k,RB b G' k->RB b G k∨w.heap.size<=k
section
variable{E:Env}{w w' w1:World}{b:Nat}{G G' G1:Nm}
def La.nothing(h:GQ E w b G)(he:Ext AN w w'):La E b w G w' G:=⟨h.E9 he,he.any,λ_ h=>.inl h⟩
def La.trans(h:La E b w G w1 G1)(k:La E b w1 G1 w' G'):La E b w G w' G':=
 ⟨k.rep,h.ext.trans k.ext (λ_ _ s=>s) (λi hi s=>by rcases h.WB i s with s|s;exact s;omega),λi hi=>by
  rcases k.WB i hi with s|s
  .exact h.WB i s
  .have:=h.ext.size;omega⟩
end
structure TMade(E:Env)(w w':World)(b:Nat)(G:Nm):Prop where
 rep:GQ E w' b G
 ext:Ext AN w w'
 young: ∀k,RB b G k->w.heap.size<=k
structure OX(E:Env)(b:Nat)(w0:World)(G0:Nm)(w:World)(s:Nat->AY)(l:Nat->Iv):Prop where
 Cz:Hj E w b s l
 ext:Ext (Ja b) w0 w
 Pq: ∀i k,i<4->KY (s i) k->(∃j,j<4/\KY (G0.s j) k)∨w0.heap.size<=k
 c8:w.cell? ⟨b,8,none⟩=w0.cell? ⟨b,8,none⟩
section
variable{E:Env}{b:Nat}{w0 w w':World}{G0:Nm}{s:Nat->AY}{l:Nat->Iv}
def OX.start(h:GQ E w0 b G0)(he:Ext AN w0 w):OX E b w0 G0 w G0.s G0.l:=⟨h.Cz.E9 he,he.any,λi k hi a=>.inl ⟨i,hi,a⟩,World.cell?_of_block (he.block b h.lt λf=>f)⟩
def OX.Fk(h:OX E b w0 G0 w s l){i:Nat}(hi:i<4){s':AY}{l':Iv}(J:Jk E w' b (2*i) s' l')(hu:OU b (Yx (2*i)) w w')(a:Uo w (s i) s'):
  OX E b w0 G0 w' (Sh.Fk s i s') (Sh.Fk l i l'):=
 ⟨h.Cz.Fk hi J hu a,h.ext.trans' hu.ext,λj k u v=>by
  rcases h.Cz.yC hi a v with e|e
  .exact h.Pq j k u e
  .have:=h.ext.size;omega,by rw[hu.EB 8 (by unfold Yx;omega)];exact h.c8⟩
def OX.EB(h:OX E b w0 G0 w s l)(h0:GQ E w0 b G0)(O:l 1=G0.l 1)(hi:yE l):La E b w0 G0 w {G0 with s:=s,l:=l}:=by
 have hS: ∀k,KY G0.sm k-> ¬Ja b k:=λk a e=>(h0.d k a).1 e;have v: ∀k∈G0.PW,¬Ja b k:=λk a e=>h0.mb a e;refine⟨⟨h.Cz,?_,λk a=>⟨(h0.d k a).1,λi hi e=> ?_⟩,λj i x T=> ?_,hi⟩,h.ext.mono λk _ e=>.inl e,?_⟩
 .refine⟨by rw[h.c8];exact h0.maps.c8,h0.maps.own.ext h.ext λg J=>hS g ⟨_,J,rfl⟩,h0.maps.len,h0.maps.nodup,λj k a=> ?_⟩;obtain⟨es,c,m,h1,u⟩:=h0.maps.maps j k a;exact⟨es,c,m,h.ext.obj h1 (v k (List.mem_of_getElem? a)),u⟩
 .rcases h.Pq i k hi e with ⟨j,K,g⟩|g
  .exact(h0.d k a).2 j K g
  .have:=(h0.maps.own.EC a).2;omega
 .show x=sumOf (l 1) _ _;rw[O];exact h0.ok j i x T
 .rintro k (e|⟨i,hi,e⟩|e|e)
  .exact .inl (.inl e)
  .rcases h.Pq i k hi e with g|g
   .exact .inl (.inr (.inl g))
   .exact .inr g
  .exact .inl (.inr (.inr (.inl e)))
  .exact .inl (.inr (.inr (.inr e)))
def OX.changed(h:OX E b w0 G0 w s l)(h0:GQ E w0 b G0)(hi:yE l){K:World->Prop}
  (u: ∀w' G',La E b w0 G0 w' G'->G'.l=l->K w'):F.DB E (sM b) K w:=by
 refine RA h.Cz λw' sm PW O hm he hsm J=> ?_;have T:=h.ext.size;have v:=h0.lt;refine u w' ⟨s,l,sm,PW,λ_ _=>none⟩ ⟨⟨O,hm,λk a=>⟨?_,λi hi e=> ?_⟩,λj i x Y=>(by cases Y),hi⟩,(h.ext.trans' he).mono λk _ e=>.inl e,?_⟩ rfl
 .have:=hsm k a;omega
 .have:=hsm k a;have:=h.Cz.Pq hi e;omega
 .rintro k (e|⟨i,hi,e⟩|e|e)
  .exact .inl (.inl e)
  .rcases h.Pq i k hi e with g|g
   .exact .inl (.inr (.inl g))
   omega
  .grind
  grind
end
def B2(l:Nat->Iv)(x n:Int)(free:Bool)(e:Int):Int:=
 if n=0∨34359738368<=x∨34359738368-x<n∨cnt (l 0) x (x+n)≠n then 10 else if cnt (l 1) x (x+n)≠(if free then n else 0)then e else 0
def findL:Iv->Int->Option Int
 | [],_=>none
 | p::r,n=>if n<=p.2-p.1 then some p.1 else findL r n
def lS{l:Iv}{n p:Int}(h:findL l n=some p): ∃q∈l,q.1=p/\n<=q.2-q.1:=by
 induction l with
 | nil=>cases h
 | cons q r ih=>
  simp only[findL]at h
  grind
section
variable{E:Env}(hE:EnvS E){w:World}{b:Nat}{G:Nm}
def find_spec(h:GQ E w b G){n:Int}(aV:0<=n){K:Int->Bool->World->Prop}
  (hK: ∀w',Ext AN w w'->K ((if n=0 then none else findL (G.l 1) n).getD 0) (if n=0 then none else findL (G.l 1) n).isSome w'):
  F.Ch E (sM b) n K w:=by
 unfold F.Ch T0.Ch F.Dq;simp only[AK,add_eq,Nat.zero_add];refine AX (λe=> ?_) (λe=> ?_)
 .have e0:n=0:=by simpa using e
  have:=hK w (Ext.refl _ _)
  grind
 .have e0:n≠0:=by simpa using e
  rw[if_neg e0]at hK;have j:Gt E w ⟨b,2,none⟩ (G.s 1) (G.l 1):=(h.Cz.Cz 1 (by decide)).row;generalize G.s 1=s at j;generalize G.l 1=l at j hK;have hlen:=j.len;have hsm:=j.small;have aN:OT=4398046511104:=rfl;refine⟨s,j.c0,AM (λst w'=> ∃k:Nat,st.1=(k:Int)/\k<=l.length/\findL l n=findL (l.drop k) n/\Ext AN w w') (λst _=>(l.length-st.1).toNat) ⟨0,rfl,Nat.zero_le _,rfl,Ext.refl _ _⟩ ?_⟩;rintro⟨i,u⟩ _ w5 ⟨k,hk,aS,hf,J⟩;simp only at hk⊢;subst hk;refine AE (λaU=> ?_) (λaR=> ?_)
  .have hl:k<l.length:=by omega
   have hg:=List.getElem?_eq_getElem hl;obtain⟨r,aJ,aB,aC⟩:=(j.E9 J).cells hg;have aI:=j.ok.get hg;generalize l[k]=q at hg aB aC aI;rw[aJ];simp only[AK,add_eq,Nat.zero_add,Int.toNat_natCast,Nat.add_zero];refine⟨⟨by omega,by omega⟩,q.1,aB,q.2,aC,A4 λaW O aK T=> ?_⟩;refine HL _ _ _ _ _ _ _ O (by simp) (by intro v hv;simp at hv;rcases hv with rfl|rfl<;>rfl) λaM Y aL a=> ?_;simp at a;have aD:Ext AN w aM:=(J.trans' T).trans Y (λ_ _ f=>f) λi hi e=>by have:i=w5.heap.size:=e;have:=J.size;omega
   have hd:=ZS hg;refine⟨q.2,by rw[AU,AS a];rfl,q.1,by rw[AU,AS a];rfl,?_⟩;rw[AP];refine AE (λaH=>⟨q.1,by rw[AU,AS a];rfl,?_⟩) (λaA=> ?_)
   .have:findL l n=some q.1:=by rw[hf,hd,findL,if_pos aH]
    grind
   .rw[AI];refine⟨⟨k+1,by omega,by omega,?_,aD⟩,by omega⟩;rw[hf,hd,findL,if_neg aA]
  .have:l.drop k=[]:=List.drop_eq_nil_of_le (by omega);rw[this]at hf;have aQ:findL l n=none:=hf
   grind
def WC(h:GQ E w b G){K:Int->World->Prop}(a:K (Hm (G.l 2)) w):F.Ba E (sM b) K w:=by
 unfold F.Ba T0.Ba F.HP;simp only[AK,add_eq,Nat.zero_add];exact⟨_,(h.Cz.Cz 2 (by decide)).c1,a⟩
include hE
theorem Su(h:GQ E w b G){x n e:Int}{fr:Bool}(O:0<=x)(hx:x<18446744073709551616)(aD:0<=n)(hn:n<18446744073709551616){K:Int->World->Prop}
  (hK: ∀w',Ext AN w w'->K (B2 G.l x n fr e) w'):F.C3 E (sM b) x n fr e K w:=by
 unfold F.C3 T0.C3;simp only[AK,add_eq,Nat.zero_add];refine AV (λst w'=>w'=w/\st.1=if fr then n else 0) ?_ ?_
 .exact AX (λe=>⟨rfl,by rw[e];rfl⟩) (λe=>⟨rfl,by rw[e];rfl⟩)
 rintro⟨want,u⟩ _ w3 ⟨rfl,a⟩;simp only at a⊢;subst a;refine AV (λst w'=>Ext AN w3 w'/\(st.1=true↔n=0∨34359738368<=x∨34359738368-x<n∨cnt (G.l 0) x (x+n)≠n)) ?_ ?_
 .refine AX (λe=>⟨Ext.refl _ _,?_⟩) (λe=>AE (λe2=>⟨Ext.refl _ _,?_⟩) (λe2=> ?_))
  .grind
  .grind
  .have e0:n≠0:=by simpa using e
   rw[AP (n:=34359738368-x)];refine AE (λe3=>⟨Ext.refl _ _,?_⟩) (λe3=> ?_)
   .grind
   .rw[AP (n:=x+n)];refine JI hE (h.Cz.Cz 0 (by decide)).row O (by omega) (by omega) λw9 Y=>⟨Y,?_⟩
    grind
 rintro⟨bt,u⟩ _ w6 ⟨j,v⟩;simp only at v⊢;refine AX (λht=> ?_) (λhf=> ?_)
 .have:=hK w6 j;rwa[B2,if_pos (v.1 ht)]at this
 .have T: ¬(n=0∨34359738368<=x∨34359738368-x<n∨cnt (G.l 0) x (x+n)≠n):=λh=>by grind
  rw[AP (n:=x+n)];refine JI hE ((h.E9 j).Cz.Cz 1 (by decide)).row O (by omega) (by omega) λaA J=> ?_;have:=hK aA (j.trans' J);rw[B2,if_neg T]at this;refine AX (λe1=> ?_) (λe1=> ?_)
  .rwa[if_pos (by grind)]at this
  .rwa[if_neg (by grind)]at this
omit hE in
theorem Sv{l:Nat->Iv}{x n e:Int}{fr:Bool}(he:e≠0)(h:B2 l x n fr e=0):
  n≠0/\x<34359738368/\n<=34359738368-x/\cnt (l 0) x (x+n)=n/\cnt (l 1) x (x+n)=if fr then n else 0:=by
 unfold B2 at h;omega
theorem Wr(h:GQ E w b G){x n:Int}(u:0<=x)(hx:x<18446744073709551616)(aD:0<=n)(hn:n<18446744073709551616){K:Int->Int->World->Prop}
  (aB:B2 G.l x n true 32≠0-> ∀w',Ext AN w w'->K 0 (B2 G.l x n true 32) w')
  (aC:B2 G.l x n true 32=0-> ∀w' G',La E b w G w' G'->G'.l=Sh.Fk (Sh.Fk (Sh.Fk G.l 1 (DO (G.l 1) x (x+n))) 2 (DO (G.l 2) x (x+n))) 3 (DO (G.l 3) x (x+n))->K (cnt (G.l 2) x (x+n)) 0 w'):
  F.Ci E (sM b) x n K w:=by
 unfold F.Ci T0.Ci;refine Su hE h u hx aD hn λw2 v=> ?_;refine AX (λe=>aB (by grind) w2 v) (λe=> ?_);have hz:B2 G.l x n true 32=0:=by grind
 obtain⟨g1,g2,g3,g4,g5⟩:=Sv (by decide) hz;have en:u64 (x+n)=x+n:=AP;simp only[AK,add_eq,Nat.zero_add,en];have h2:=h.E9 v;refine JI hE (h2.Cz.Cz 2 (by decide)).row u (by omega) (by omega) λw5 aI=> ?_;have m5:OX E b w G w5 G.s G.l:=OX.start h (v.trans' aI);refine Mu hE (m5.Cz.Cz 1 (by decide)) u (by omega) (by omega) λw7 s7 aE aG Y=> ?_;have m7:=m5.Fk (by decide:1<4) aE aG Y;refine Mu hE (m7.Cz.Cz 2 (by decide)) u (by omega) (by omega) λw9 s9 aF aH aA=> ?_;have m9:=m7.Fk (by decide:2<4) aF aH aA;refine Mu hE (m9.Cz.Cz 3 (by decide)) u (by omega) (by omega) λaS vC O T J=> ?_;have aJ:=m9.Fk (by decide:3<4) O T J;have a:x<x+n:=by omega
 refine aJ.changed h ⟨?_,?_,?_,?_⟩ λw' G' hs hl=>aC hz w' G' hs hl
 .exact h.inv.top
 .intro m hm;have j:mem (DO (G.l 1) x (x+n)) m:=hm;rw[Fs a]at j;exact h.inv.free m j.1
 .intro m hm;have j:mem (DO (G.l 2) x (x+n)) m:=hm;rw[Fs a]at j;show mem (DO (G.l 1) x (x+n)) m;rw[Fs a];exact⟨h.inv.rel m j.1,j.2⟩
 .intro m;show mem (DO (G.l 3) x (x+n)) m↔mem (DO (G.l 1) x (x+n)) m/\ ¬mem (DO (G.l 2) x (x+n)) m;rw[Fs a,Fs a,Fs a,h.inv.idle m]
  grind
omit hE in
theorem Zm(h:GQ E w b G){n p:Int}(T:0<n)(O:findL (G.l 1) n=some p):B2 G.l p n true 32=0/\0<=p/\p<34359738368:=by
 obtain⟨q,K,rfl,hle⟩:=lS O;have Bl:=(h.Cz.Cz 1 (by decide)).row.ok;have u:=(h.Cz.Cz 0 (by decide)).row.ok;have v:=Bl.mem K;have j: ∀m,q.1<=m->m<q.1+n->mem (G.l 1) m:=λm h1 J=>⟨q,K,h1,by omega⟩;have e: ∀m,q.1<=m->m<q.1+n->mem (G.l 0) m:=λm h1 J=>h.inv.free m (j m h1 J);have Y:=h.inv.top _ (e (q.1+n-1) (by omega) (by omega));have c1:=(Hq Bl (a:=q.1) (b:=q.1+n) (by omega)).2 j;have c0:=(Hq u (a:=q.1) (b:=q.1+n) (by omega)).2 e;refine⟨?_,v.1,by omega⟩;unfold B2
 grind
theorem eF(h:GQ E w b G){n:Int}(j:0<=n)(hn:n<18446744073709551616){K:Int->Int->Int->World->Prop}
  (u:n=0->K 0 0 1 w)(v:n≠0->findL (G.l 1) n=none-> ∀w',Ext AN w w'->K 0 0 30 w')
  (J:n≠0-> ∀p,findL (G.l 1) n=some p-> ∀w' G',La E b w G w' G'->G'.l=Sh.Fk (Sh.Fk (Sh.Fk G.l 1 (DO (G.l 1) p (p+n))) 2 (DO (G.l 2) p (p+n))) 3 (DO (G.l 3) p (p+n))->K p (cnt (G.l 2) p (p+n)) 0 w'):
  F.Az E (sM b) n K w:=by
 unfold F.Az T0.Az;refine AX (λe=>u (by simpa using e)) (λe=> ?_);have e0:n≠0:=by simpa using e
 refine find_spec h j λw3 a=> ?_;rw[if_neg e0];cases hf:findL (G.l 1) n with
 | none=>exact AX (λ_=>v e0 hf w3 a) (λe=>by cases e)
 | some p=>
  refine AX (λe=>by cases e) (λ_=> ?_);obtain⟨hz,T,aB⟩:=Zm h (by omega) hf;refine Wr hE (h.E9 a) T (by show p<_;omega) j hn (λO=>absurd hz O) λ_ w' G' hs Y=> ?_;exact J e0 p hf w' G' ((La.nothing h a).trans hs) Y
theorem lT(h:GQ E w b G){c n:Int}(aV:0<=c)(hc:c<18446744073709551616)(aX:0<=n)(hn:n<18446744073709551616){K:Int->World->Prop}
  (aK:(n=0∨262144<n∨67108864<c∨67108864-c<n)->K 1 w)
  (aL: ¬(n=0∨262144<n∨67108864<c∨67108864-c<n)->cnt (G.l 0) (c*512) ((c+n)*512)≠0-> ∀w',Ext AN w w'->K 34 w')
  (aM: ¬(n=0∨262144<n∨67108864<c∨67108864-c<n)->cnt (G.l 0) (c*512) ((c+n)*512)=0-> ∀w' G',La E b w G w' G'->
   G'.l=Sh.Fk (Sh.Fk (Sh.Fk G.l 0 (DZ (G.l 0) (c*512) ((c+n)*512))) 1 (DZ (G.l 1) (c*512) ((c+n)*512))) 2 (DZ (G.l 2) (c*512) ((c+n)*512))->K 0 w'):
  F.DL E (sM b) c n K w:=by
 unfold F.DL T0.DL;refine AV (λst w'=>w'=w/\(st.1=true↔n=0∨262144<n∨67108864<c∨67108864-c<n)) ?_ ?_
 .refine AX (λe=>⟨rfl,?_⟩) (λe=>AE (λe2=>⟨rfl,?_⟩) (λe2=>AE (λe3=>⟨rfl,?_⟩) (λe3=>⟨rfl,?_⟩)))
  .grind
  .grind
  .grind
  .have e0:n≠0:=by simpa using e
   rw[AP]
   grind
 rintro⟨bt,u⟩ _ w3 ⟨rfl,T⟩;simp only at T⊢;refine AX (λht=>aK (T.1 ht)) (λhf=> ?_);have aB: ¬(n=0∨262144<n∨67108864<c∨67108864-c<n):=λh=>by grind
 have e1:u64 (c*512)=c*512:=AP;have e2:u64 (c+n)=c+n:=AP;have e3:u64 ((c+n)*512)=(c+n)*512:=AP;rw[e1,e2,e3];simp only[AK,add_eq,Nat.zero_add];refine AZ λto aO=> ?_;subst aO;have aR:OT=4398046511104:=rfl;refine JI hE (h.Cz.Cz 0 (by decide)).row (by omega) (by omega) (by omega) λw7 aG=> ?_;have aY:=Ed (G.l 0) (c*512) ((c+n)*512);refine AE (λhp=>aL aB (by omega) w7 aG) (λhp=> ?_);have hz:cnt (G.l 0) (c*512) ((c+n)*512)=0:=by omega
 have m7:OX E b w3 G w7 G.s G.l:=OX.start h aG;have J:c*512<(c+n)*512:=by omega
 refine KZ hE (m7.Cz.Cz 0 (by decide)) (by omega) J (by omega) λw9 s9 aN aP aJ=> ?_;have m9:=m7.Fk (by decide:0<4) aN aP aJ;refine KZ hE (m9.Cz.Cz 1 (by decide)) (by omega) J (by omega) λa4 vC aC aE Y=> ?_;have aH:=m9.Fk (by decide:1<4) aC aE Y;refine KZ hE (aH.Cz.Cz 2 (by decide)) (by omega) J (by omega) λa5 IS aD aF aA=> ?_;have aQ:=aH.Fk (by decide:2<4) aD aF aA;have Bl: ∀i,i<4->Ok (G.l i):=λi hi=>(h.Cz.Cz i hi).row.ok;have j: ∀i,i<4-> ∀m,mem (DZ (G.l i) (c*512) ((c+n)*512)) m↔mem (G.l i) m∨(c*512<=m/\m<(c+n)*512):=λi hi m=>Eb (Bl i hi) J (by omega) (by omega) m;have v:=(Ht (Bl 0 (by decide)) (a:=c*512) (b:=(c+n)*512) (by omega)).1 hz;refine aQ.changed h ⟨?_,?_,?_,?_⟩ λw' G' hs hl=>aM aB hz w' G' hs hl
 .intro m hm;rcases(j 0 (by decide) m).1 hm with g|g
  .exact h.inv.top m g
  .omega
 .intro m hm;refine(j 0 (by decide) m).2 ?_;rcases(j 1 (by decide) m).1 hm with g|g
  .exact .inl (h.inv.free m g)
  omega
 .intro m hm;refine(j 1 (by decide) m).2 ?_;rcases(j 2 (by decide) m).1 hm with g|g
  .exact .inl (h.inv.rel m g)
  omega
 .intro m;show mem (G.l 3) m↔mem (DZ (G.l 1) (c*512) ((c+n)*512)) m/\ ¬mem (DZ (G.l 2) (c*512) ((c+n)*512)) m;rw[j 1 (by decide),j 2 (by decide),h.inv.idle m];constructor
  .rintro⟨a1,a2⟩;have:=v m;refine⟨.inl a1,λO=> ?_⟩;rcases O with O|O
   .exact a2 O
   .exact v m O.1 O.2 (h.inv.free m a1)
  grind
theorem Us(h:GQ E w b G){x n:Int}{i:Nat}(hi:i=2∨i=3)(J:0<=x)(hx:x<18446744073709551616)(aI:0<=n)(hn:n<18446744073709551616){K:Int->World->Prop}
  (aG:B2 G.l x n false 31≠0-> ∀w',Ext AN w w'->K (B2 G.l x n false 31) w')
  (aH:B2 G.l x n false 31=0-> ∀w' G',La E b w G w' G'->G'.l=Sh.Fk (Sh.Fk G.l 1 (DZ (G.l 1) x (x+n))) i (DZ (G.l i) x (x+n))->K 0 w'):
  F.DU E (sM b) x n (some ⟨b,2*i,none⟩) K w:=by
 unfold F.DU T0.DU;refine Su hE h J hx aI hn λw2 aD=> ?_;refine AX (λe=>aG (by grind) w2 aD) (λe=> ?_);have hz:B2 G.l x n false 31=0:=by grind
 obtain⟨g1,g2,g3,g4,g5⟩:=Sv (by decide) hz;have en:u64 (x+n)=x+n:=AP;simp only[AK,add_eq,Nat.zero_add,en];have aN:OT=4398046511104:=rfl;have aB:i<4:=by omega
 have T:i≠1:=by omega
 have m2:OX E b w G w2 G.s G.l:=OX.start h aD;have O:x<x+n:=by omega
 refine KZ hE (m2.Cz.Cz 1 (by decide)) J O (by omega) λw4 s4 aJ aL aE=> ?_;have m4:=m2.Fk (by decide:1<4) aJ aL aE;have aC:=m4.Cz.Cz i aB;rw[EX _ _ T,EX _ _ T]at aC;refine KZ hE aC J O (by omega) λw5 s5 aK aM aF=> ?_;have m5:=m4.Fk aB aK aM (by rw[EX _ _ T];exact aF);have Bl: ∀i,i<4->Ok (G.l i):=λi hi=>(h.Cz.Cz i hi).row.ok;have j: ∀i,i<4-> ∀m,mem (DZ (G.l i) x (x+n)) m↔mem (G.l i) m∨(x<=m/\m<x+n):=λi hi m=>Eb (Bl i hi) O J (by omega) m;have Y:=(Ht (Bl 1 (by decide)) (a:=x) (b:=x+n) (by omega)).1 g5;have aA:=(Hq (Bl 0 (by decide)) (a:=x) (b:=x+n) (by omega)).1 (by omega);have l0:Sh.Fk (Sh.Fk G.l 1 (DZ (G.l 1) x (x+n))) i (DZ (G.l i) x (x+n)) 0=G.l 0:=by rw[EX _ _ (by omega),EX _ _ (by omega)]
 have l1:Sh.Fk (Sh.Fk G.l 1 (DZ (G.l 1) x (x+n))) i (DZ (G.l i) x (x+n)) 1=DZ (G.l 1) x (x+n):=by rw[EX _ _ (by omega),IJ]
 refine m5.changed h ⟨?_,?_,?_,?_⟩ λw' G' hs hl=>aH hz w' G' hs hl
 .rw[l0];exact h.inv.top
 .intro m;rw[l0,l1,j 1 (by decide)];rintro(u|u)
  .exact h.inv.free m u
  .exact aA m u.1 u.2
 .intro m;rw[l1,j 1 (by decide)];rcases hi with rfl|rfl
  .rw[IJ,j 2 (by decide)];rintro(u|u)
   .exact .inl (h.inv.rel m u)
   omega
  .rw[EX _ _ (by decide),EX _ _ (by decide)];exact λu=>.inl (h.inv.rel m u)
 .intro m;rw[l1,j 1 (by decide)];have aU:x<=m/\m<x+n-> ¬mem (G.l 1) m:=λu=>Y m u.1 u.2;have v:=h.inv.idle m;have aO:=h.inv.rel m;rcases hi with rfl|rfl
  .rw[IJ,j 2 (by decide),EX _ _ (by decide),EX _ _ (by decide),v]
   grind
  .rw[IJ,j 3 (by decide),EX _ _ (by decide),EX _ _ (by decide),v]
   grind
end
def lU{E:Env}{w:World}{K:Option Addr->World->Prop}(hK: ∀w' b G,TMade E w w' b G->(∀i,G.l i=[])->K (sM b) w'):F.HZ E K w:=by
 unfold F.HZ T0.HZ;refine A4 λw2 u aA J=> ?_;have T: ∀k,¬KY ⟨none,0,0⟩ k:=by rintro k ⟨a,ha,_⟩;cases ha
 have hs:Hj E w2 w.heap.size (λ_=>⟨none,0,0⟩) (λ_=>[]):=by
  refine⟨λi hi=> ?_,λi j _ _ _ k v=>absurd v (T k),⟨_,by rw[AS u];rfl⟩,by simp[World.frozen?,u]⟩;have:i=0∨i=1∨i=2∨i=3:=by omega
  rcases this with rfl|rfl|rfl|rfl<;>
   exact⟨⟨by rw[AS u];rfl,by simp[World.frozen?,u],I2.nil _ _ _ _,trivial,by simp,by grind⟩,by rw[AS u];rfl,by simp[World.frozen?,u]⟩
 refine RA hs λw' sm PW Y hm he hsm O=> ?_;refine hK w' w.heap.size ⟨λ_=>⟨none,0,0⟩,λ_=>[],sm,PW,λ_ _=>none⟩ ⟨⟨Y,hm,λk v=>⟨?_,λi _ e=>T k e⟩,λj i x hx=>(by cases hx),?_⟩,?_,?_⟩ λ_=>rfl
 .have:=hsm k v;omega
 .exact⟨λn h=>absurd h (Bz n),λn h=>absurd h (Bz n),λn h=>absurd h (Bz n),λn=>⟨λh=>absurd h (Bz n),λh=>absurd h.1 (Bz n)⟩⟩
 .exact J.trans he (λ_ _ f=>f) λk v e=>by have:k=w.heap.size:=e;omega
 .rintro k (e|⟨i,_,e⟩|e|e)
  .omega
  .exact absurd e (T k)
  .have:=hsm k e;omega
  .have:=O k e;omega
def F6(E:Env)(b:Nat)(l:Nat->Iv):Pr where
 holds D w:= ∃G,GQ E w b G/\G.l=l/\ ∀k,D k↔RB b G k
 loc h he hS:=let⟨G,h1,h2,h3⟩:=h;⟨G,h1.ext he λk a=>hS k ((h3 k).2 a),h2,h3⟩
 lt h a:=let⟨G,h1,h2,h3⟩:=h;h1.PM ((h3 _).1 a)
def Sat.tree{E:Env}{b:Nat}{l:Nat->Iv}{F:List Pr}{w:World}(H:Sat (F6 E b l::F) w):
  ∃G,GQ E w b G/\G.l=l/\ ∀w' G',La E b w G w' G'->Sat (F6 E b G'.l::F) w':=by
 obtain⟨D,⟨G,h1,e,a⟩,u⟩:=H.step;refine⟨G,h1,e,λw' G' st=>u w' (RB b G') _ (st.ext.mono λi _ hi=>(a i).2 hi) ⟨G',st.rep,rfl,λ_=>Iff.rfl⟩ λk j=> ?_⟩;rcases st.WB k j with h|h
 .exact .inl ((a k).2 h)
 .exact .inr h
def Sat.yF{E:Env}{b:Nat}{F:List Pr}{w w':World}{G:Nm}(H:Sat F w)(h:TMade E w w' b G):Sat (F6 E b G.l::F) w':=
 H.new (P:=F6 E b G.l) (D:=RB b G) h.ext ⟨G,h.rep,rfl,λ_=>Iff.rfl⟩ h.young
def Sat.K3{E:Env}{b:Nat}{l:Nat->Iv}{F:List Pr}{w:World}(H:Sat (F6 E b l::F) w):yE l/\ ∀i,i<4->Ok (l i):=by
 obtain⟨G,h1,rfl,_⟩:=H.tree;exact⟨h1.inv,λi hi=>(h1.Cz.Cz i hi).row.ok⟩
def jN(l:Iv)(p n:Int):Prop:= ∀m,p<=m->m<p+n->mem l m
def eG{l:Iv}(h:Ok l){n p:Int}(hn:0<n)(u:findL l n=some p):jN l p n/\ ∀j,jN l j n->p<=j:=by
 induction l with
 | nil=>cases u
 | cons q r ih=>
  simp only[findL]at u;split at u
  .cases u;refine⟨λm h1 v=>mem_cons.2 (.inl ⟨h1,by omega⟩),λj e=> ?_⟩;rcases mem_cons.1 (e j (by omega) (by omega))with h1|⟨J,a,h1,v⟩
   .exact h1.1
   .have:=h.2.2.2.1 J a;omega
  .obtain⟨h1,v⟩:=ih h.tail u;refine⟨λm K O=>mem_cons.2 (.inr (h1 m K O)),λj e=> ?_⟩;obtain⟨J,a,K,O⟩:=Xg h (by omega) e;rcases List.mem_cons.1 a with rfl|a
   .omega
   .exact v j λm T Y=>⟨J,a,by omega,by omega⟩
def eH{l:Iv}(h:Ok l){n:Int}(T:0<n)(e:findL l n=none): ∀p,¬jN l p n:=by
 induction l with
 | nil=>intro p j;exact Bz _ (j p (by omega) (by omega))
 | cons q r ih=>
  simp only[findL]at e;split at e
  .cases e
  .intro p j;obtain⟨u,a,v,J⟩:=Xg h (by omega) j;rcases List.mem_cons.1 a with rfl|a
   .omega
   .exact ih h.tail e p λm K O=>⟨u,a,by omega,by omega⟩
section
variable{E:Env}(hE:EnvS E){w:World}{b:Nat}{G:Nm}
include hE
theorem lV(h:GQ E w b G){n:Int}(a2:0<=n)(hn:n<18446744073709551616){K:Int->Int->World->Prop}
  (aE:G.l 3=[]∨n=0->K 0 0 w)
  (aL:n≠0-> ∀q r p k,G.l 3=r++[q]->k=min (q.2-max q.1 ((q.2-1)/512*512)) n->p=q.2-k->0<k->q.1<=p-> ∀w' G',La E b w G w' G'->
   G'.l=Sh.Fk (Sh.Fk G.l 3 (DO (G.l 3) p (p+k))) 2 (DZ (G.l 2) p (p+k))->K p k w'):
  F.Bb E (sM b) n K w:=by
 unfold F.Bb T0.Bb F.Dq;simp only[AK,add_eq,Nat.zero_add];have hr:Gt E w ⟨b,6,none⟩ (G.s 3) (G.l 3):=(h.Cz.Cz 3 (by decide)).row;have hlen:=hr.len;have hsm:=hr.small;have aW:OT=4398046511104:=rfl;refine⟨G.s 3,hr.c0,Ad (C6 (λe=> ?_) λe=> ?_)⟩
 .refine λj=>Aa rfl (aE (.inl (List.eq_nil_of_length_eq_zero (by omega))))
 .refine λj=>C6 (λe2=>aE (.inr e2)) λe2=> ?_;obtain⟨r,q,J⟩: ∃r q,G.l 3=r++[q]:=by
   rcases List.eq_nil_or_concat (G.l 3)with h|⟨r,q,h⟩
   .rw[h]at hlen;simp at hlen;omega
   .exact⟨r,q,by simpa using h⟩
  have hi:(G.l 3)[r.length]? =some q:=by rw[J];simp
  have a1:(G.l 3).length=r.length+1:=by rw[J];simp
  have ei:i64 (((G.s 3).len:Int)-1)=(r.length:Int):=by rw[AI];omega
  obtain⟨bb,hb,c1,c2⟩:=hr.own.cells2 hi;have hq:=hr.ok.get hi;have a3:=h.inv.top (q.2-1) (h.inv.free _ ((h.inv.idle _).1 ⟨q,List.mem_of_getElem? hi,by omega,by omega⟩).1);rw[ei,hb];simp only[AK,add_eq,Nat.zero_add,Int.toNat_natCast,Nat.add_zero];refine⟨⟨by omega,by omega⟩,q.1,c1,q.2,c2,?_⟩;refine A4 λaU O aQ Y=> ?_;refine HL [.int .u64 q.1,.int .u64 q.2] w.heap.size 0 0 _ aU _ O (Nat.le_refl _) (by simp[Value.oneCell']) λu aA aR T=> ?_;have a:u.heap[w.heap.size]? =some (.cells ⟨[.int .u64 q.1,.int .u64 q.2]⟩ E.AB):=T;have aG:Ext AN w u:=Y.trans aA (λ_ _ f=>f) λi hi e=>by have:i=w.heap.size:=e;omega
  have d1:u.cell? ⟨w.heap.size,0,none⟩=some (.int .u64 q.1):=by rw[AS a];rfl
  have d2:u.cell? ⟨w.heap.size,1,none⟩=some (.int .u64 q.2):=by rw[AS a];rfl
  refine⟨q.1,d1,q.2,d2,by decide,AZ λfr aJ=>⟨q.2,d2,AZ λk hk=>⟨q.2,d2,?_⟩⟩⟩;have aB:fr=max q.1 ((q.2-1)/512*512):=by
   rw[aJ,Ql,AP (n:=q.2-1),Int.tdiv_eq_ediv_of_nonneg (by omega),AP (n:=(q.2-1)/512),AP]
  have aM:k=min (q.2-max q.1 ((q.2-1)/512*512)) n:=by
   rw[hk,Tm,aB,AP]
  have aK:0<k:=by omega
  have aN:q.1<=q.2-k:=by omega
  rw[AP (n:=q.2-k),AP (n:=q.2-k+k)];have m0:OX E b w G u G.s G.l:=OX.start h aG;refine Mu hE (m0.Cz.Cz 3 (by decide)) (by omega) (by omega) (by omega) λa6 s3 aP aT aI=> ?_;have m1:=m0.Fk (by decide:3<4) aP aT aI;have aC:=m1.Cz.Cz 2 (by decide);rw[EX _ _ (by decide),EX _ _ (by decide)]at aC;refine KZ hE aC (by omega) (by omega) (by omega) λaV s2 aO aS aH=> ?_;have m2:=m1.Fk (by decide:2<4) aO aS (by rw[EX _ _ (by decide)];exact aH);have Bl: ∀i,i<4->Ok (G.l i):=λi hi=>(h.Cz.Cz i hi).row.ok;have aD: ∀m,q.2-k<=m->m<q.2-k+k->mem (G.l 3) m:=λm h1 h2=>⟨q,List.mem_of_getElem? hi,by omega,by omega⟩;have l1:Sh.Fk (Sh.Fk G.l 3 (DO (G.l 3) (q.2-k) (q.2-k+k))) 2 (DZ (G.l 2) (q.2-k) (q.2-k+k)) 1=G.l 1:=by rw[EX _ _ (by decide),EX _ _ (by decide)]
  have l2:Sh.Fk (Sh.Fk G.l 3 (DO (G.l 3) (q.2-k) (q.2-k+k))) 2 (DZ (G.l 2) (q.2-k) (q.2-k+k)) 2=DZ (G.l 2) (q.2-k) (q.2-k+k):=by rw[IJ]
  have l3:Sh.Fk (Sh.Fk G.l 3 (DO (G.l 3) (q.2-k) (q.2-k+k))) 2 (DZ (G.l 2) (q.2-k) (q.2-k+k)) 3=DO (G.l 3) (q.2-k) (q.2-k+k):=by rw[EX _ _ (by decide),IJ]
  have ma: ∀m,mem (DZ (G.l 2) (q.2-k) (q.2-k+k)) m↔mem (G.l 2) m∨(q.2-k<=m/\m<q.2-k+k):=λm=>Eb (Bl 2 (by decide)) (by omega) (by omega) (by omega) m;refine aL e2 q r _ k J aM rfl aK aN aV _ (m2.EB h l1 ⟨?_,?_,?_,?_⟩) rfl
  .intro m;rw[EX _ _ (by decide),EX _ _ (by decide)];exact h.inv.top m
  .intro m;rw[l1,EX _ _ (by decide),EX _ _ (by decide)];exact h.inv.free m
  .intro m;rw[l1,l2,ma];rintro(v|v)
   .exact h.inv.rel m v
   .exact((h.inv.idle m).1 (aD m v.1 v.2)).1
  .intro m;rw[l1,l2,l3,ma,Fs (by omega),h.inv.idle m];constructor
   .rintro⟨⟨g1,g2⟩,g3⟩;exact⟨g1,λv=>v.elim g2 g3⟩
   .rintro⟨g1,g2⟩;exact⟨⟨g1,λv=>g2 (.inl v)⟩,λv=>g2 (.inr v)⟩
end
def Ws(l:Nat->Iv)(x n:Int):Nat->Iv:=Sh.Fk (Sh.Fk (Sh.Fk l 1 (DO (l 1) x (x+n))) 2 (DO (l 2) x (x+n))) 3 (DO (l 3) x (x+n))
def jO(l:Nat->Iv)(c n:Int):Nat->Iv:=Sh.Fk (Sh.Fk (Sh.Fk l 0 (DZ (l 0) (c*512) ((c+n)*512))) 1 (DZ (l 1) (c*512) ((c+n)*512))) 2 (DZ (l 2) (c*512) ((c+n)*512))
def Ut(l:Nat->Iv)(i:Nat)(x n:Int):Nat->Iv:=Sh.Fk (Sh.Fk l 1 (DZ (l 1) x (x+n))) i (DZ (l i) x (x+n))
def scavT(l:Nat->Iv)(p k:Int):Nat->Iv:=Sh.Fk (Sh.Fk l 3 (DO (l 3) p (p+k))) 2 (DZ (l 2) p (p+k))
def MB(c n:Int):Prop:=n=0∨262144<n∨67108864<c∨67108864-c<n
section
variable{E:Env}{w:World}{Z:List Pr}{b:Nat}{l:Nat->Iv}
def qZ(H:Sat Z w){K:Option Addr->World->Prop}(a: ∀w' b l,(∀i,l i=[])->Sat (F6 E b l::Z) w'->K (sM b) w'):F.HZ E K w:=
 lU λw' b G hm e=>a w' b G.l e (H.yF hm)
def lX(H:Sat (F6 E b l::Z) w){n:Int}(a:0<=n){K:Int->Bool->World->Prop}
  (e: ∀w',Sat (F6 E b l::Z) w'->K ((if n=0 then none else findL (l 1) n).getD 0) (if n=0 then none else findL (l 1) n).isSome w'):F.Ch E (sM b) n K w:=by
 obtain⟨G,j,rfl,st⟩:=H.tree;exact find_spec j a λw' he=>e w' (H.nothing he)
def WD(H:Sat (F6 E b l::Z) w){K:Int->World->Prop}(a:K (Hm (l 2)) w):F.Ba E (sM b) K w:=by
 obtain⟨G,e,rfl,st⟩:=H.tree;exact WC e a
variable(hE:EnvS E)
include hE
theorem lY(H:Sat (F6 E b l::Z) w){c n:Int}(e:0<=c)(T:c<18446744073709551616)(J:0<=n)(hn:n<18446744073709551616){K:Int->World->Prop}
  (j:MB c n->K 1 w)(u: ¬MB c n->cnt (l 0) (c*512) ((c+n)*512)≠0-> ∀w',Sat (F6 E b l::Z) w'->K 34 w')
  (v: ¬MB c n->cnt (l 0) (c*512) ((c+n)*512)=0-> ∀w',Sat (F6 E b (jO l c n)::Z) w'->K 0 w'):F.DL E (sM b) c n K w:=by
 obtain⟨G,O,rfl,st⟩:=H.tree;exact lT hE O e T J hn j (λh1 a w' he=>u h1 a w' (H.nothing he)) λh1 a w' G' hs Y=>v h1 a w' (by have:=st _ _ hs;rw[Y]at this;exact this)
theorem lZ(H:Sat (F6 E b l::Z) w){x n:Int}(u:0<=x)(Y:x<18446744073709551616)(j:0<=n)(O:n<18446744073709551616){K:Int->Int->World->Prop}
  (a:B2 l x n true 32≠0-> ∀w',Sat (F6 E b l::Z) w'->K 0 (B2 l x n true 32) w')
  (e:B2 l x n true 32=0-> ∀w',Sat (F6 E b (Ws l x n)::Z) w'->K (cnt (l 2) x (x+n)) 0 w'):F.Ci E (sM b) x n K w:=by
 obtain⟨G,v,rfl,st⟩:=H.tree;exact Wr hE v u Y j O (λh1 w' he=>a h1 w' (H.nothing he)) λh1 w' G' T J=>e h1 w' (by have:=st _ _ T;rw[J]at this;exact this)
theorem eI(H:Sat (F6 E b l::Z) w){n:Int}(u:0<=n)(T:n<18446744073709551616){K:Int->Int->Int->World->Prop}
  (a:n=0->K 0 0 1 w)(e:n≠0->findL (l 1) n=none-> ∀w',Sat (F6 E b l::Z) w'->K 0 0 30 w')
  (j:n≠0-> ∀p,findL (l 1) n=some p-> ∀w',Sat (F6 E b (Ws l p n)::Z) w'->K p (cnt (l 2) p (p+n)) 0 w'):F.Az E (sM b) n K w:=by
 obtain⟨G,J,rfl,st⟩:=H.tree;exact eF hE J u T a (λh1 v w' he=>e h1 v w' (H.nothing he)) λh1 p Y w' G' hs O=>j h1 p Y w' (by have:=st _ _ hs;rw[O]at this;exact this)
theorem mB(H:Sat (F6 E b l::Z) w){x n:Int}(u:0<=x)(Y:x<18446744073709551616)(j:0<=n)(O:n<18446744073709551616){K:Int->World->Prop}
  (a:B2 l x n false 31≠0-> ∀w',Sat (F6 E b l::Z) w'->K (B2 l x n false 31) w')
  (e:B2 l x n false 31=0-> ∀w',Sat (F6 E b (Ut l 3 x n)::Z) w'->K 0 w'):F.Cf E (sM b) x n K w:=by
 obtain⟨G,v,rfl,st⟩:=H.tree;unfold F.Cf T0.Cf;simp only[AK,add_eq,Nat.zero_add];exact Us hE v (i:=3) (.inr rfl) u Y j O (λh1 w' he=>a h1 w' (H.nothing he)) λh1 w' G' T J=>e h1 w' (by have:=st _ _ T;rw[J]at this;exact this)
theorem mC(H:Sat (F6 E b l::Z) w){x n:Int}(u:0<=x)(Y:x<18446744073709551616)(j:0<=n)(O:n<18446744073709551616){K:Int->World->Prop}
  (a:B2 l x n false 31≠0-> ∀w',Sat (F6 E b l::Z) w'->K (B2 l x n false 31) w')
  (e:B2 l x n false 31=0-> ∀w',Sat (F6 E b (Ut l 2 x n)::Z) w'->K 0 w'):F.DM E (sM b) x n K w:=by
 obtain⟨G,v,rfl,st⟩:=H.tree;unfold F.DM T0.DM;simp only[AK,add_eq,Nat.zero_add];exact Us hE v (i:=2) (.inl rfl) u Y j O (λh1 w' he=>a h1 w' (H.nothing he)) λh1 w' G' T J=>e h1 w' (by have:=st _ _ T;rw[J]at this;exact this)
theorem mD(H:Sat (F6 E b l::Z) w){n:Int}(j:0<=n)(Y:n<18446744073709551616){K:Int->Int->World->Prop}
  (a:l 3=[]∨n=0->K 0 0 w)
  (e:n≠0-> ∀q r p k,l 3=r++[q]->k=min (q.2-max q.1 ((q.2-1)/512*512)) n->p=q.2-k->0<k->q.1<=p-> ∀w',Sat (F6 E b (scavT l p k)::Z) w'->K p k w'):
  F.Bb E (sM b) n K w:=by
 obtain⟨G,O,rfl,st⟩:=H.tree;exact lV hE O j Y a λh1 q r p k e1 e2 u v J w' G' hs T=>e h1 q r p k e1 e2 u v J w' (by have:=st _ _ hs;rw[T]at this;exact this)
end
def cu(u:Int->Bool):Nat->Int
 | 0=>0
 | k+1=>cu u k+(if u k then 1 else 0)
def cu_mem{u:Int->Bool}{l:Iv}{fr:Int}(h:Ok l){n:Nat}(hu: ∀k:Int,0<=k->k<n->(u k=true↔mem l (fr+k))):cu u n=cnt l fr (fr+n):=by
 induction n with
 | zero=>
  have:=Ed l fr (fr+(0:Nat));have j:=Gl h (a:=fr) (b:=fr+((0:Nat):Int)) (by omega);show 0=_;omega
 | succ n ih=>
  have v:=OF h (a:=fr) (k:=fr+n) (by omega);have e:fr+((n+1:Nat):Int)=fr+(n:Int)+1:=by omega
  rw[e];simp only[cu]
  grind
def cu_bnd(u:Int->Bool)(n:Nat):0<=cu u n/\cu u n<=n:=by
 induction n with
 | zero=>simp[cu]
 | succ n ih=>simp only[cu];omega
structure TV where
 Lt:Int->Bool
 fr:Int->Bool
 rl:Int->Bool
def inr(x n p:Int):Bool:=decide (x<=p)&&decide (p<x+n)
def Au{x n p:Int}:inr x n p=true↔x<=p/\p<x+n:=by simp[inr]
def Ka{x n p:Int}:inr x n p=false↔ ¬(x<=p/\p<x+n):=by rw[<-Au];grind
def MZ(f:Int->Bool)(p n:Int):Prop:= ∀m,p<=m->m<p+n->f m=true
def TV.take(V:TV)(x n:Int):TV:=⟨V.Lt,λp=>V.fr p&& !inr x n p,λp=>V.rl p&& !inr x n p⟩
def TV.WE(V:TV)(x n:Int):TV:=⟨V.Lt,λp=>V.fr p||inr x n p,V.rl⟩
def TV.back(V:TV)(x n:Int):TV:=⟨V.Lt,λp=>V.fr p||inr x n p,λp=>V.rl p||inr x n p⟩
def TV.grow(V:TV)(c n:Int):TV:=⟨λp=>V.Lt p||inr (c*512) (n*512) p,λp=>V.fr p||inr (c*512) (n*512) p,λp=>V.rl p||inr (c*512) (n*512) p⟩
def TV.OY(V:TV)(p k:Int):TV:=⟨V.Lt,V.fr,λq=>V.rl q||inr p k q⟩
def TV.nil:TV:=⟨λ_=>false,λ_=>false,λ_=>false⟩
structure LV(l:Nat->Iv)(V:TV):Prop where
 i: ∀p,mem (l 0) p↔V.Lt p=true
 f: ∀p,mem (l 1) p↔V.fr p=true
 r: ∀p,mem (l 2) p↔V.rl p=true
noncomputable def NT(f:Int->Bool):Int:= @dite Int (∃l,Ok l/\ ∀p,mem l p↔f p=true) (Classical.propDecidable _) (λh=>Hm (Classical.choose h)) λ_=>0
def rA{f:Int->Bool}{l:Iv}(h:Ok l)(e: ∀p,mem l p↔f p=true):NT f=Hm l:=by
 have hex: ∃l,Ok l/\ ∀p,mem l p↔f p=true:=⟨l,h,e⟩;unfold NT;rw[dif_pos hex];have a:=Classical.choose_spec hex;rw[o6 a.1 h λp=>(a.2 p).trans (e p).symm]
def cr(f:Int->Bool)(x n:Int):Int:=cu (λk=>f (x+k)) n.toNat
def eJ{f:Int->Bool}{l:Iv}(h:Ok l)(a: ∀p,mem l p↔f p=true){x n:Int}(e:0<=n):cr f x n=cnt l x (x+n):=by
 unfold cr;rw[cu_mem h (l:=l) (fr:=x) λk _ _=>(a (x+k)).symm]
 grind
def yG{f:Int->Bool}{x n:Int}(h: ∀m,x<=m->m<x+n->f m=false):cr f x n=0:=by
 unfold cr;have key: ∀k:Nat,(k:Int)<=n->cu (λk=>f (x+k)) k=0:=by
  intro k
  induction k with
  | zero=>intro _;rfl
  | succ k ih=>
   intro a;simp only[cu]
   grind
 by_cases g:0<=n
 .grind
 .have:n.toNat=0:=by omega
  rw[this];rfl
def cr_one(f:Int->Bool)(x:Int):cr f x 1=if f x then 1 else 0:=by
 show cu (λk=>f (x+k)) 1=_;simp[cu]
def cr_bnd(f:Int->Bool)(x:Int){n:Int}(a:0<=n):0<=cr f x n/\cr f x n<=n:=by
 have:=cu_bnd (λk=>f (x+k)) n.toNat;unfold cr;omega
def BG(E:Env)(b:Nat)(V:TV):Pr:=Ex λl:Nat->Iv=>Jt (LV l V) (F6 E b l)
structure TVok(V:TV):Prop where
 fi: ∀p,V.fr p=true->V.Lt p=true
 rf: ∀p,V.rl p=true->V.fr p=true
 OZ: ∀p,V.Lt p=true->0<=p/\p<34359738368
 ci: ∃l,Ok l/\ ∀p,mem l p↔V.Lt p=true
 cf: ∃l,Ok l/\ ∀p,mem l p↔V.fr p=true
 cr: ∃l,Ok l/\ ∀p,mem l p↔V.rl p=true
def Ih(V:TV)(x n:Int):Prop:=n≠0/\x+n<=34359738368/\MZ V.Lt x n
def TV.idle(V:TV)(p:Int):Bool:=V.fr p&& !V.rl p
section
variable{E:Env}{w:World}{Z:List Pr}{b:Nat}{V:TV}{l:Nat->Iv}
def Sat.Ii:Sat (BG E b V::Z) w↔ ∃l,LV l V/\Sat (F6 E b l::Z) w:=by
 unfold BG;rw[Sat.ex];constructor
 .rintro⟨l,h⟩;exact⟨l,Sat.where.1 h⟩
 .rintro⟨l,h⟩;exact⟨l,Sat.where.2 h⟩
def LV.ok(h:LV l V)(H:Sat (F6 E b l::Z) w):TVok V:=by
 obtain⟨hi,Bl⟩:=H.K3;exact⟨λp a=>(h.i p).1 (hi.free p ((h.f p).2 a)),λp a=>(h.f p).1 (hi.rel p ((h.r p).2 a)),λp a=>⟨iR (Bl 0 (by decide)) ((h.i p).2 a),hi.top p ((h.i p).2 a)⟩,
  ⟨l 0,Bl 0 (by decide),h.i⟩,⟨l 1,Bl 1 (by decide),h.f⟩,⟨l 2,Bl 2 (by decide),h.r⟩⟩
def Sat.tvok(H:Sat (BG E b V::Z) w):TVok V:=by
 obtain⟨l,h,H⟩:=Sat.Ii.1 H;exact h.ok H
def SF(h:LV l V){p n:Int}:jN (l 1) p n↔MZ V.fr p n:=by
 constructor
 .intro e m a c;exact(h.f m).1 (e m a c)
 .intro e m a c;exact(h.f m).2 (e m a c)
def rC(h:LV l V)(Bl: ∀i,i<4->Ok (l i)){x n:Int}(hx:0<=x)(hn:0<=n)(free:Bool){e:Int}(he:e≠0):
  (¬Ih V x n->B2 l x n free e=10)/\(Ih V x n->free=true-> ¬MZ V.fr x n->B2 l x n free e=e)/\(Ih V x n->free=true->MZ V.fr x n->B2 l x n free e=0)/\
  (Ih V x n->free=false->(∃m,x<=m/\m<x+n/\V.fr m=true)->B2 l x n free e=e)/\(Ih V x n->free=false->(∀m,x<=m->m<x+n->V.fr m=false)->B2 l x n free e=0):=by
 have K:=Hq (Bl 0 (by decide)) (a:=x) (b:=x+n) (by omega);have O:=Hq (Bl 1 (by decide)) (a:=x) (b:=x+n) (by omega);have T:=Ht (Bl 1 (by decide)) (a:=x) (b:=x+n) (by omega);have v: ∀{m:Int},MZ V.Lt x n↔ ∀p,x<=p->p<x+n->mem (l 0) p:=λ{_}=>⟨λj p a c=>(h.i p).2 (j p a c),λj p a c=>(h.i p).1 (j p a c)⟩;have u:Ih V x n-> ¬(n=0∨34359738368<=x∨34359738368-x<n∨cnt (l 0) x (x+n)≠n):=λ⟨h1,h2,h3⟩ hb=>by
  have:=K.2 ((v (m:=0)).1 h3);omega
 refine⟨λY=> ?_,λhi J j=> ?_,λhi J j=> ?_,λhi J j=> ?_,λhi J j=> ?_⟩
 .unfold B2;rw[if_pos];refine Classical.byContradiction λhb=>Y ⟨λe=>hb (.inl e),?_,?_⟩
  .omega
  .refine(v (m:=0)).2 (K.1 ?_);omega
 .unfold B2;rw[if_neg (u hi),if_pos];rw[J,if_pos rfl];intro e0;exact j λm a c=>(h.f m).1 (O.1 (by omega) m a c)
 .unfold B2;rw[if_neg (u hi),if_neg];rw[J,if_pos rfl,Decidable.not_not];have:=O.2 λm a c=>(h.f m).2 (j m a c);omega
 .unfold B2;rw[if_neg (u hi),if_pos];rw[J,if_neg (by decide)];intro e0;obtain⟨m,a,c,hm⟩:=j;exact T.1 e0 m a c ((h.f m).2 hm)
 .unfold B2;rw[if_neg (u hi),if_neg];rw[J,if_neg (by decide),Decidable.not_not];refine T.2 λm a c hm=> ?_;have:=(h.f m).1 hm
  grind
def LV.Ws(h:LV l V){x n:Int}(a:0<n):LV (Sh.Ws l x n) (V.take x n):=by
 refine⟨h.i,λp=> ?_,λp=> ?_⟩
 .show mem (DO (l 1) x (x+n)) p↔(V.fr p&& !inr x n p)=true;rw[Fs (by omega),h.f,<-Au];grind
 .show mem (DO (l 2) x (x+n)) p↔(V.rl p&& !inr x n p)=true;rw[Fs (by omega),h.r,<-Au];grind
def LV.Ut(h:LV l V)(Bl: ∀i,i<4->Ok (l i)){x n:Int}(e:0<=x)(u:0<n)(j:x+n<=34359738368):LV (Sh.Ut l 3 x n) (V.WE x n)/\LV (Sh.Ut l 2 x n) (V.back x n):=by
 have a1:=Eb (Bl 1 (by decide)) (a:=x) (b:=x+n) (by omega) e (by omega);have a2:=Eb (Bl 2 (by decide)) (a:=x) (b:=x+n) (by omega) e (by omega);refine⟨⟨h.i,λp=> ?_,h.r⟩,⟨h.i,λp=> ?_,λp=> ?_⟩⟩
 .show mem (DZ (l 1) x (x+n)) p↔(V.fr p||inr x n p)=true;rw[a1,h.f,<-Au,Bool.or_eq_true]
 .show mem (DZ (l 1) x (x+n)) p↔(V.fr p||inr x n p)=true;rw[a1,h.f,<-Au,Bool.or_eq_true]
 .show mem (DZ (l 2) x (x+n)) p↔(V.rl p||inr x n p)=true;rw[a2,h.r,<-Au,Bool.or_eq_true]
def LV.jO(h:LV l V)(Bl: ∀i,i<4->Ok (l i)){c n:Int}(u:0<=c)(v:0<n)(j:c+n<=67108864):LV (Sh.jO l c n) (V.grow c n):=by
 have e:(c+n)*512=c*512+n*512:=by omega
 have a0:=Eb (Bl 0 (by decide)) (a:=c*512) (b:=c*512+n*512) (by omega) (by omega) (by omega);have a1:=Eb (Bl 1 (by decide)) (a:=c*512) (b:=c*512+n*512) (by omega) (by omega) (by omega);have a2:=Eb (Bl 2 (by decide)) (a:=c*512) (b:=c*512+n*512) (by omega) (by omega) (by omega);refine⟨λp=> ?_,λp=> ?_,λp=> ?_⟩
 .show mem (DZ (l 0) (c*512) ((c+n)*512)) p↔(V.Lt p||inr (c*512) (n*512) p)=true;rw[e,a0,h.i,<-Au,Bool.or_eq_true]
 .show mem (DZ (l 1) (c*512) ((c+n)*512)) p↔(V.fr p||inr (c*512) (n*512) p)=true;rw[e,a1,h.f,<-Au,Bool.or_eq_true]
 .show mem (DZ (l 2) (c*512) ((c+n)*512)) p↔(V.rl p||inr (c*512) (n*512) p)=true;rw[e,a2,h.r,<-Au,Bool.or_eq_true]
def rD(H:Sat Z w){K:Option Addr->World->Prop}(j: ∀w' b,Sat (BG E b TV.nil::Z) w'->K (sM b) w'):F.HZ E K w:=
 qZ H λw' b l u e=>j w' b (Sat.Ii.2 ⟨l,by
  have a: ∀i p,¬mem (l i) p:=λi p=>by rw[u];exact Bz p
  exact⟨λp=>⟨λh=>absurd h (a 0 p),λh=>(by cases h)⟩,λp=>⟨λh=>absurd h (a 1 p),λh=>(by cases h)⟩,λp=>⟨λh=>absurd h (a 2 p),λh=>(by cases h)⟩⟩,e⟩)
def P9(V:TV)(n p:Int):Prop:=0<=p/\p+n<=34359738368/\MZ V.fr p n/\ ∀a,MZ V.fr a n->p<=a
def QA(h:LV l V)(H:Sat (F6 E b l::Z) w){n:Int}(u:0<n):(findL (l 1) n=none/\ ∀p,¬MZ V.fr p n)∨ ∃p,findL (l 1) n=some p/\P9 V n p:=by
 obtain⟨hi,Bl⟩:=H.K3;have e:=h.ok H;cases hf:findL (l 1) n with
 | none=>exact .inl ⟨rfl,λp J=>eH (Bl 1 (by decide)) u hf p ((SF h).2 J)⟩
 | some p=>
  obtain⟨h1,v⟩:=eG (Bl 1 (by decide)) u hf;have a:=(SF h).1 h1;have b1:=e.OZ p (e.fi p (a p (Int.le_refl _) (by omega)));have O:=e.OZ (p+n-1) (e.fi _ (a (p+n-1) (by omega) (by omega)));exact .inr ⟨p,rfl,b1.1,by omega,a,λK j=>v K ((SF h).2 j)⟩
def mE(H:Sat (BG E b V::Z) w){n:Int}(a:0<=n){K:Int->Bool->World->Prop}
  (u:n=0∨(∀p,¬MZ V.fr p n)-> ∀w',Sat (BG E b V::Z) w'->K 0 false w')(v:n≠0-> ∀p,P9 V n p-> ∀w',Sat (BG E b V::Z) w'->K p true w'):F.Ch E (sM b) n K w:=by
 obtain⟨l,h,H⟩:=Sat.Ii.1 H;refine lX H a λw' j=> ?_;have J:=Sat.Ii.2 ⟨l,h,j⟩;by_cases e:n=0
 .grind
 .rw[if_neg e];rcases QA h H (n:=n) (by omega)with ⟨h1,h2⟩|⟨p,h1,h2⟩
  .grind
  grind
def WG(H:Sat (BG E b V::Z) w){K:Int->World->Prop}(a:K (NT V.rl) w):F.Ba E (sM b) K w:=by
 obtain⟨l,h,H⟩:=Sat.Ii.1 H;rw[rA (H.K3.2 2 (by decide)) h.r]at a;exact WD H a
variable(hE:EnvS E)
include hE
theorem mF(H:Sat (BG E b V::Z) w){c n:Int}(e:0<=c)(hc:c<18446744073709551616)(Y:0<=n)(hn:n<18446744073709551616){K:Int->World->Prop}
  (J:MB c n->K 1 w)(O: ¬MB c n->(∃p,c*512<=p/\p<(c+n)*512/\V.Lt p=true)-> ∀w',Sat (BG E b V::Z) w'->K 34 w')
  (T: ¬MB c n->(∀p,c*512<=p->p<(c+n)*512->V.Lt p=false)-> ∀w',Sat (BG E b (V.grow c n)::Z) w'->K 0 w'):F.DL E (sM b) c n K w:=by
 obtain⟨l,h,H⟩:=Sat.Ii.1 H;have Bl:=H.K3.2;refine lY hE H e hc Y hn J (λj a w' u=>O j ?_ w' (Sat.Ii.2 ⟨l,h,u⟩)) λj a w' u=>T j (λp h1 v=> ?_) w' (Sat.Ii.2 ⟨_,?_,u⟩)
 .refine Classical.byContradiction λaA=>a ((Ht (Bl 0 (by decide)) (by omega)).2 λp h1 v hm=>aA ⟨p,h1,v,(h.i p).1 hm⟩)
 .have:=(Ht (Bl 0 (by decide)) (by omega)).1 a p h1 v;rw[h.i]at this
  grind
 .unfold MB at j;exact h.jO Bl e (by omega) (by omega)
theorem mG(H:Sat (BG E b V::Z) w){x n:Int}(j:0<=x)(hx:x<18446744073709551616)(a:0<=n)(Y:n<18446744073709551616){K:Int->Int->World->Prop}
  (O: ¬Ih V x n-> ∀w',Sat (BG E b V::Z) w'->K 0 10 w')(T:Ih V x n-> ¬MZ V.fr x n-> ∀w',Sat (BG E b V::Z) w'->K 0 32 w')
  (v:Ih V x n->MZ V.fr x n-> ∀w',Sat (BG E b (V.take x n)::Z) w'->K (cr V.rl x n) 0 w'):F.Ci E (sM b) x n K w:=by
 obtain⟨l,h,H⟩:=Sat.Ii.1 H;have Bl:=H.K3.2;obtain⟨l1,l2,l3,_,_⟩:=rC h Bl j a true (e:=32) (by decide);refine lZ hE H j hx a Y (λJ w' u=> ?_) λJ w' u=> ?_
 .have HV:=Sat.Ii.2 ⟨l,h,u⟩;by_cases g:Ih V x n
  .grind
  grind
 .have g:Ih V x n:=Classical.byContradiction λg=>by grind
  have g2:MZ V.fr x n:=Classical.byContradiction λg2=>by grind
  rw[<-eJ (Bl 2 (by decide)) h.r a];have:=g.1;exact v g g2 w' (Sat.Ii.2 ⟨_,h.Ws (by omega),u⟩)
theorem Uu(H:Sat (BG E b V::Z) w){n:Int}(a:0<=n)(O:n<18446744073709551616){K:Int->Int->Int->World->Prop}
  (u:n=0->K 0 0 1 w)(v:n≠0->(∀p,¬MZ V.fr p n)-> ∀w',Sat (BG E b V::Z) w'->K 0 0 30 w')
  (J:n≠0-> ∀p,P9 V n p-> ∀w',Sat (BG E b (V.take p n)::Z) w'->K p (cr V.rl p n) 0 w'):F.Az E (sM b) n K w:=by
 obtain⟨l,h,H⟩:=Sat.Ii.1 H;have Bl:=H.K3.2;refine eI hE H a O u (λh1 e w' j=> ?_) λh1 p e w' j=> ?_
 .rcases QA h H (n:=n) (by omega)with ⟨_,g2⟩|⟨p,g1,g2⟩
  .exact v h1 g2 w' (Sat.Ii.2 ⟨l,h,j⟩)
  .rw[e]at g1;cases g1
 .rcases QA h H (n:=n) (by omega)with ⟨g1,_⟩|⟨p',g1,g2⟩
  .rw[e]at g1;cases g1
  .rw[e]at g1;cases g1;rw[<-eJ (Bl 2 (by decide)) h.r a];exact J h1 p g2 w' (Sat.Ii.2 ⟨_,h.Ws (by omega),j⟩)
theorem Wu(H:Sat (BG E b V::Z) w){x n:Int}(j:0<=x)(hx:x<18446744073709551616)(u:0<=n)(hn:n<18446744073709551616){K:Int->World->Prop}
  (T: ¬Ih V x n-> ∀w',Sat (BG E b V::Z) w'->K 10 w')(Y:Ih V x n->(∃m,x<=m/\m<x+n/\V.fr m=true)-> ∀w',Sat (BG E b V::Z) w'->K 31 w')
  (O:Ih V x n->(∀m,x<=m->m<x+n->V.fr m=false)-> ∀w',Sat (BG E b (V.WE x n)::Z) w'->K 0 w'):F.Cf E (sM b) x n K w:=by
 obtain⟨l,h,H⟩:=Sat.Ii.1 H;have Bl:=H.K3.2;obtain⟨l1,_,_,l4,l5⟩:=rC h Bl j u false (e:=31) (by decide);have em: ∀(P:Prop),P∨ ¬P:=Classical.em;refine mB hE H j hx u hn (λJ w' v=> ?_) λJ w' v=> ?_
 .have HV:=Sat.Ii.2 ⟨l,h,v⟩;by_cases g:Ih V x n
  .rcases em (∃m,x<=m/\m<x+n/\V.fr m=true)with g2|g2
   .grind
   grind
  grind
 .have g:Ih V x n:=Classical.byContradiction λg=>by grind
  have g2: ∀m,x<=m->m<x+n->V.fr m=false:=λm a c=>by
   cases e:V.fr m with
   | false=>rfl
   | true=>rw[l4 g rfl ⟨m,a,c,e⟩]at J;cases J
  have g1:=g.1;exact O g g2 w' (Sat.Ii.2 ⟨_,(h.Ut Bl j (by omega) g.2.1).1,v⟩)
theorem mH(H:Sat (BG E b V::Z) w){x n:Int}(j:0<=x)(hx:x<18446744073709551616)(u:0<=n)(hn:n<18446744073709551616){K:Int->World->Prop}
  (T: ¬Ih V x n-> ∀w',Sat (BG E b V::Z) w'->K 10 w')(Y:Ih V x n->(∃m,x<=m/\m<x+n/\V.fr m=true)-> ∀w',Sat (BG E b V::Z) w'->K 31 w')
  (O:Ih V x n->(∀m,x<=m->m<x+n->V.fr m=false)-> ∀w',Sat (BG E b (V.back x n)::Z) w'->K 0 w'):F.DM E (sM b) x n K w:=by
 obtain⟨l,h,H⟩:=Sat.Ii.1 H;have Bl:=H.K3.2;obtain⟨l1,_,_,l4,l5⟩:=rC h Bl j u false (e:=31) (by decide);have em: ∀(P:Prop),P∨ ¬P:=Classical.em;refine mC hE H j hx u hn (λJ w' v=> ?_) λJ w' v=> ?_
 .have HV:=Sat.Ii.2 ⟨l,h,v⟩;by_cases g:Ih V x n
  .rcases em (∃m,x<=m/\m<x+n/\V.fr m=true)with g2|g2
   .grind
   grind
  grind
 .have g:Ih V x n:=Classical.byContradiction λg=>by grind
  have g2: ∀m,x<=m->m<x+n->V.fr m=false:=λm a c=>by
   cases e:V.fr m with
   | false=>rfl
   | true=>rw[l4 g rfl ⟨m,a,c,e⟩]at J;cases J
  have g1:=g.1;exact O g g2 w' (Sat.Ii.2 ⟨_,(h.Ut Bl j (by omega) g.2.1).2,v⟩)
structure rE(V:TV)(n p k:Int):Prop where
 k0:0<k
 kn:k<=n
 row:MZ V.idle p k
 last: ∀q,V.idle q=true->q<p+k
 chunk:p/512=(p+k-1)/512
 mI:k=n∨p %512=0∨V.idle (p-1)=false
theorem mJ(H:Sat (BG E b V::Z) w){n:Int}(aC:0<=n)(hn:n<18446744073709551616){K:Int->Int->World->Prop}
  (aA:n=0∨(∀p,V.idle p=false)->K 0 0 w)(aB: ∀p k,rE V n p k-> ∀w',Sat (BG E b (V.OY p k)::Z) w'->K p k w'):F.Bb E (sM b) n K w:=by
 obtain⟨l,h,H⟩:=Sat.Ii.1 H;obtain⟨hi,Bl⟩:=H.K3;have j: ∀p,mem (l 3) p↔V.idle p=true:=λp=>by
  rw[hi.idle,h.f,h.r];unfold TV.idle;cases V.fr p<;>cases V.rl p<;>simp
 refine mD hE H aC hn (λhz=>aA ?_) λaJ q r p k e1 e2 e3 e4 e5 w' H'=> ?_
 .rcases hz with hz|hz
  .refine .inr λp=> ?_;have:=j p;rw[hz]at this;cases g:V.idle p with
   | false=>rfl
   | true=>exact absurd (this.2 g) (Bz p)
  .exact .inl hz
 .have Yy:=Bl 3 (by decide);rw[e1]at Yy;obtain⟨_,aE,T⟩:=FB.1 Yy;have hq:=aE.mem (List.mem_singleton.2 rfl);have J: ∀x,mem (l 3) x->x<q.2:=λx v=>by
   rw[e1,mem_append]at v;rcases v with ⟨y,hy,h1,Y⟩|v
   .have:=T y hy q (List.mem_singleton.2 rfl);omega
   .rcases mem_cons.1 v with h1|h1
    .exact h1.2
    .exact absurd h1 (Bz x)
  have O: ∀x,q.1<=x->x<q.2->mem (l 3) x:=λx h1 Y=>by rw[e1,mem_append];exact .inr (mem_cons.2 (.inl ⟨h1,Y⟩))
  have u:q.1=0∨ ¬mem (l 3) (q.1-1):=by
   right;intro v;rw[e1,mem_append]at v;rcases v with ⟨y,hy,h1,Y⟩|v
   .have:=T y hy q (List.mem_singleton.2 rfl);omega
   .rcases mem_cons.1 v with h1|h1
    .omega
    .exact absurd h1 (Bz _)
  have aF:q.2<=34359738368:=by
   have h1:=O (q.2-1) (by omega) (by omega);have:=hi.top _ (hi.free _ ((hi.idle _).1 h1).1);omega
  refine aB p k ⟨e4,by omega,λm h1 Y=>(j m).1 (O m (by omega) (by omega)),λx v=>by have:=J x ((j x).2 v);omega,by omega,?_⟩ w' (Sat.Ii.2 ⟨_,?_,H'⟩)
  .by_cases g:k=n
   .exact .inl g
   .by_cases g2:p %512=0
    .exact .inr (.inl g2)
    .right;right;have e:p=q.1:=by omega
     cases g3:V.idle (p-1)with
     | false=>rfl
     | true=>
      have hm:=(j _).2 g3;rw[e]at hm;rcases u with h1|h1
      .omega
      .exact absurd hm h1
  .have a2:=Eb (Bl 2 (by decide)) (a:=p) (b:=p+k) (by omega) (by omega) (by omega);refine⟨h.i,h.f,λx=> ?_⟩;show mem (DZ (l 2) p (p+k)) x↔(V.rl x||inr p k x)=true;rw[a2,h.r,<-Au,Bool.or_eq_true]
end
def bkN{a b:Nat}(e:a<18446744073709551616)(j:b<18446744073709551616):EA .u64 0 (a:Int) (b:Int)=((a&&&b:Nat):Int):=by
 show IntKind.wrap .u64 ((BitVec.ofInt 64 (a:Int)&&&BitVec.ofInt 64 (b:Int)).toNat:Int)=_;rw[BitVec.toNat_and,BitVec.ofInt_natCast,BitVec.ofInt_natCast,BitVec.toNat_ofNat,BitVec.toNat_ofNat,Nat.mod_eq_of_lt e,Nat.mod_eq_of_lt j];exact UY (Nat.lt_of_le_of_lt Nat.and_le_left e)
def fdN(a k:Nat)(j:k<=64):Int.fdiv (a:Int) (2^(min (Int.toNat (k:Int)) (IntKind.bits .u64)))=((a/2^k:Nat):Int):=by
 have e:IntKind.bits .u64=64:=rfl
 grind
section
variable{E:Env}{w:World}{Z:List Pr}
def SG{u:Nat->Bool}(hT:Ec E.AH w){K:Int->World->Prop}(J:(∀i,i<64->u i=false)->K 64 w)
  (O: ∀r:Nat,r<64->u r=true->(∀i,i<r->u i=false)->K r w):F.BO E (W u) K w:=by
 unfold F.BO;refine C6 (λe=>J (GC.1 e)) λT=> ?_;have Y:wN u 64≠0:=λe=>T (by unfold W;rw[e];rfl);have a:=Nj u 64;obtain⟨h1,h2⟩:=Lib.lowest_bit 64 _ Y a;obtain⟨c1,c2,c3⟩:=vT Y a;have hand:EA .u64 0 (W u) (u64 (0-W u))=((2^Lib.ctz 64 (wN u 64):Nat):Int):=by
  have:=pH Y a;rw[h1]at this;exact this
 rw[hand];generalize Lib.ctz 64 (wN u 64)=k at h2 c1 c2 c3;obtain⟨d1,d2⟩:=Lib.deBruijn64_at k c1;have e1:u64 (((2^k:Nat):Int)*285870213051353865)=((2^k*285870213051353865 %18446744073709551616:Nat):Int):=by
  rw[KI,Int.natCast_emod,Int.natCast_mul];rfl
 rw[e1];have e2:=fdN (2^k*285870213051353865 %18446744073709551616) 58 (by decide);have v:(2:Nat)^58=288230376151711744:=by decide
 rw[v]at e2;have j:Int.fdiv ((2^k*285870213051353865 %18446744073709551616:Nat):Int) (2^(min (Int.toNat 58) (IntKind.bits .u64)))=((2^k*285870213051353865 %18446744073709551616/288230376151711744:Nat):Int):=e2;rw[j];generalize 2^k*285870213051353865 %18446744073709551616/288230376151711744=idx at d1 d2;have CO:=hT idx d1;rw[d2]at CO;refine⟨by decide,⟨by omega,by omega⟩,(k:Int),?_,?_⟩
 .rw[Int.toNat_natCast,Nat.mul_one,add_eq,Nat.zero_add];exact CO
 .rw[AI];refine O k c1 ?_ λi hi=> ?_
  .have:=c2;rw[Dh]at this;grind
  .have:=c3 i hi;rw[Dh]at this
   grind
def Zn{u:Nat->Bool}(hu: ∀i,64<=i->u i=false){K:Int->World->Prop}(hK:K (cN u 64) w):F.F2 E (W u) K w:=by
 unfold F.F2;have v:wN u 64<18446744073709551616:=Nj u 64;have f: ∀(a k d:Nat) (k':Int),k'=(k:Int)->k<=64->2^k=d->Int.fdiv (a:Int) (2^(min (Int.toNat k') (IntKind.bits .u64)))=((a/d:Nat):Int):=λa k d k' e h hd=>by rw[e,<-hd];exact fdN a k h
 have J: ∀{a:Nat},a<18446744073709551616->u64 (a:Int)=(a:Int):=λh=>AP;have half: ∀(a d:Nat),a<18446744073709551616->a/d<18446744073709551616:=λa d h=>Nat.lt_of_le_of_lt (Nat.div_le_self _ _) h;refine⟨by decide,AZ λx1 T=>⟨by decide,AZ λx2 Y=>⟨by decide,AZ λx3 aA=>⟨by decide,AZ λx4 aB=>⟨by decide,AZ λx5 aC=>⟨by decide,AZ λx6 aD=>AZ λt ht=> ?_⟩⟩⟩⟩⟩⟩;have m1:(6148914691236517205:Int)=((6148914691236517205:Nat):Int):=rfl;have m2:(3689348814741910323:Int)=((3689348814741910323:Nat):Int):=rfl;have m3:(1085102592571150095:Int)=((1085102592571150095:Nat):Int):=rfl;have ew:W u=((wN u 64:Nat):Int):=rfl;obtain⟨x0,h0⟩: ∃x0,x0=wN u 64:=⟨_,rfl⟩;obtain⟨O,h1⟩: ∃O,O=(x0/2&&&6148914691236517205)+(x0&&&6148914691236517205):=⟨_,rfl⟩;obtain⟨y2,h2⟩: ∃y2,y2=(O/4&&&3689348814741910323)+(O&&&3689348814741910323):=⟨_,rfl⟩;obtain⟨y3,h3⟩: ∃y3,y3=(y2/16+y2)&&&1085102592571150095:=⟨_,rfl⟩;obtain⟨y4,h4⟩: ∃y4,y4=y3+y3/256:=⟨_,rfl⟩;obtain⟨y5,h5⟩: ∃y5,y5=y4+y4/65536:=⟨_,rfl⟩;obtain⟨j,h6⟩: ∃j,j=y5+y5/4294967296:=⟨_,rfl⟩;obtain⟨l1,l2,l3,l4,l5,l6,l7⟩:=swar hu h0 h1 h2 h3 h4 h5 h6;rw[<-h0]at v ew;rw[ew,f x0 1 2 1 rfl (by decide) rfl,m1,bkN (half x0 2 v) (by decide),bkN v (by decide),<-Int.natCast_add,<-h1,J l1]at T;subst T;rw[f O 2 4 2 rfl (by decide) rfl,m2,bkN (half O 4 l1) (by decide),bkN l1 (by decide),<-Int.natCast_add,<-h2,J l2]at Y;subst Y;rw[f y2 4 16 4 rfl (by decide) rfl,<-Int.natCast_add,J l3,m3,bkN l3 (by decide),<-h3]at aA;subst aA;rw[f y3 8 256 8 rfl (by decide) rfl,<-Int.natCast_add,<-h4,J l4]at aB;subst aB;rw[f y4 16 65536 16 rfl (by decide) rfl,<-Int.natCast_add,<-h5,J l5]at aC;subst aC;rw[f y5 32 4294967296 32 rfl (by decide) rfl,<-Int.natCast_add,<-h6,J (Nat.lt_trans l6 (by decide))]at aD;subst aD;rw[AI]at ht;have e:EA .i64 0 (j:Int) 127=((j %128:Nat):Int):=by
  show IntKind.wrap .i64 ((BitVec.ofInt 64 (j:Int)&&&BitVec.ofInt 64 ((127:Nat):Int)).toNat:Int)=_;rw[BitVec.toNat_and,BitVec.ofInt_natCast,BitVec.ofInt_natCast,BitVec.toNat_ofNat,BitVec.toNat_ofNat,Nat.mod_eq_of_lt (show j<2^64 from Nat.lt_trans l6 (by decide)),Nat.mod_eq_of_lt (by decide)];have:j&&&127=j %128:=Nat.and_two_pow_sub_one_eq_mod j 7;rw[this];exact AI
 rw[e,l7]at ht
 grind
def MD(u:Nat->Bool)(i n:Nat):Prop:= ∀k,k<n->u (i+k)=true
def eK{u:Nat->Bool}(hu: ∀i,64<=i->u i=false)(hT:Ec E.AH w){n:Int}(h1:1<=n)(h2:n<=64){K:Int->Bool->World->Prop}
  (aI:(∀i,¬MD u i n.toNat)-> ∀r,K r false w)(aC: ∀i,MD u i n.toNat->(∀j,MD u j n.toNat->i<=j)->i+n.toNat<=64->K i true w):F.G3 E (W u) n K w:=by
 unfold F.G3 T0.G3;refine AM (λst w'=>w'=w/\ ∃v:Nat->Bool,st.1=W v/\(∀i,64<=i->v i=false)/\0<=st.2.2.1/\st.2.2.1<64/\st.2.1=st.2.2.1+1/\ ∀i,MD v i (st.2.2.1.toNat+1)↔MD u i n.toNat) (λst _=>st.2.2.1.toNat)
  ⟨rfl,u,rfl,hu,?_,?_,?_,λi=> ?_⟩ ?_
 .show 0<=i64 (n-1);rw[AI];omega
 .show i64 (n-1)<64;rw[AI];omega
 .show n=i64 (n-1)+1;rw[AI];omega
 .show MD u i ((i64 (n-1)).toNat+1)↔_;rw[AI,show(n-1).toNat+1=n.toNat by omega]
 rintro⟨x,m,left,c⟩ _ w2 ⟨rfl,v,hx,hv,l0,l1,hm,a⟩;dsimp only at hx l0 l1 hm a⊢;subst hx;subst hm;refine AE (λaG=>⟨by decide,AZ λQX aB=> ?_⟩) λhz=> ?_
 .rw[Int.tdiv_eq_ediv_of_nonneg (by omega),AI,Tm,Ql]at aB;have b0:1<=QX/\QX<=left/\2*QX<=left+1:=by omega
  refine⟨by omega,AZ λx' aA=> ?_⟩;rw[pF v (by omega) (by omega),pD]at aA;rw[AI (n:=left+1-QX),AI (n:=left-QX)];refine⟨⟨by trivial,_,aA,λi hi=>by grind,by omega,by omega,by omega,λi=> ?_⟩,by omega⟩;rw[<-a];have O: ∀j,(v j&&(decide (j+QX.toNat<64)&&v (j+QX.toNat)))=true↔v j=true/\v (j+QX.toNat)=true:=λj=>by grind
  constructor
  .intro h k hk;by_cases g:k<(left-QX).toNat+1
   .exact((O _).1 (h k g)).1
   .have:=((O _).1 (h (k-QX.toNat) (by omega))).2;rwa[show i+(k-QX.toNat)+QX.toNat=i+k by omega]at this
  .intro h k hk;refine(O _).2 ⟨h k (by omega),?_⟩;have:=h (k+QX.toNat) (by omega)
   grind
 .have e:left=0:=by omega
  subst e;have J: ∀i,v i=true↔MD u i n.toNat:=λi=>by
   rw[<-a];constructor
   .intro h k hk;have:k=0:=by omega
    subst this;exact h
   .intro h;exact h 0 (by decide)
  refine SG hT (λaD=> ?_) λr hr T aF=> ?_
  .have e0:W v=0:=GC.2 aD
   grind
  .have aJ:W v≠0:=λe=>by rw[GC.1 e r hr]at T;cases T
   have e1:(W v !=0)=true:=by grind
   rw[e1];have Y:=(J r).1 T;refine aC r Y (λj hj=> ?_) ?_
   .refine Classical.byContradiction λg=> ?_
    grind
   .refine Classical.byContradiction λg=> ?_;have h3:=Y (n.toNat-1) (by omega)
    grind
structure CS where
 base:Int
 has:Nat->Bool
 rel:Nat->Bool
structure Xz(S:CS):Prop where
 b0:0<=S.base
 b1:S.base<34359738368
 b64:S.base %64=0
 hz: ∀i,64<=i->S.has i=false
 rh: ∀i,S.rel i=true->S.has i=true
def CS.nil:CS:=⟨0,λ_=>false,λ_=>false⟩
def CS.empty(S:CS):Prop:= ∀i,S.has i=false
def A8(E:Env)(c:Nat)(S:CS):Pr:=Jt (Xz S) (Cells c E.Ft [.int .u64 S.base,.int .u64 (W S.has),.int .u64 (W S.rel)])
def Xz.nil:Xz CS.nil:=⟨by decide,by decide,by decide,λ_ _=>rfl,λ_ h=>h⟩
def Sat.cache{c:Nat}{S:CS}:Sat (A8 E c S::Z) w↔Xz S/\Sat (Cells c E.Ft [.int .u64 S.base,.int .u64 (W S.has),.int .u64 (W S.rel)]::Z) w:=Sat.where
def mK(H:Sat Z w){K:Option Addr->World->Prop}(j: ∀w' c,Sat (A8 E c CS.nil::Z) w'->K (sM c) w'):F.NM E K w:=by
 unfold F.NM;refine AJ H λc w' a _=>j w' c (Sat.cache.2 ⟨Xz.nil,?_⟩);have e:W CS.nil.has=0:=Xl;have e2:W CS.nil.rel=0:=Xl;rw[e,e2];exact a
variable{c t:Nat}{S:CS}{V:TV}
def Xz.emp(h:Xz S):W S.has=0↔S.empty:=by
 rw[GC];constructor
 .intro g i;by_cases e:i<64
  .exact g i e
  .exact h.hz i (by omega)
 .intro g i _;exact g i
def ME(H:Sat (A8 E c S::Z) w){K:Bool->World->Prop}(e:S.empty->K true w)(a: ¬S.empty->K false w):F.Ef E (sM c) K w:=by
 obtain⟨hI,H⟩:=Sat.cache.1 H;unfold F.Ef;simp only[AK];refine⟨_,H.cell rfl,?_⟩;by_cases g:W S.has=0
 .rw[show(W S.has==0)=true by grind];exact e (hI.emp.1 g)
 .rw[show(W S.has==0)=false by grind];exact a λh=>g (hI.emp.2 h)
def eL(H:Sat (A8 E c S::Z) w){K:Int->Int->Int->World->Prop}(e:S.empty->K 0 0 0 w)(j: ¬S.empty-> ∀w',Sat (A8 E c S::Z) w'->K S.base (W S.has) (W S.rel) w'):F.C2 E (sM c) K w:=by
 unfold F.C2 T0.C2;refine ME H (λh=>Aa rfl (e h)) λh=>AR rfl ?_;have u:=H.drew;obtain⟨hI,a⟩:=Sat.cache.1 u;simp only[AK];exact⟨_,a.AW rfl,_,a.cell rfl,_,a.cell rfl,j h _ u⟩
def CS.alloc(S:CS)(i n:Nat):CS:=⟨S.base,λk=>S.has k&& !(decide (i<=k)&&decide (k<i+n)),λk=>S.rel k&& !(decide (i<=k)&&decide (k<i+n))⟩
def mL{n:Int}(h1:1<=n)(a:n<=64){i:Nat}(hi:i+n.toNat<=64):
  u64 ((Int.fdiv 18446744073709551615 (2^(min (Int.toNat (i64 (64-n))) (IntKind.bits .u64))))*2^(min (Int.toNat (i:Int)) (IntKind.bits .u64)))=W λk=>decide (i<=k)&&decide (k<i+n.toNat):=by
 rw[AI (n:=64-n),<-Xm,pF _ (by omega) (by omega),pG _ (by omega) (by omega)]
 grind
def Zo(hT:Ec E.AH w)(H:Sat (A8 E c S::Z) w){n:Int}(aD: -9223372036854775808<=n)(aE:n<9223372036854775808){K:Int->Int->Int->World->Prop}
  (J:n<1∨64<n->K 0 0 1 w)(T:1<=n->n<=64->(∀i,¬MD S.has i n.toNat)->K 0 0 30 w)
  (Y:1<=n->n<=64-> ∀i,MD S.has i n.toNat->(∀j,MD S.has j n.toNat->i<=j)->i+n.toNat<=64-> ∀w',Sat (A8 E c (S.alloc i n.toNat)::Z) w'->
   K (S.base+i) (cN (λk=>S.rel k&&(decide (i<=k)&&decide (k<i+n.toNat))) 64) 0 w'):F.Cb E (sM c) n K w:=by
 obtain⟨hI,H⟩:=Sat.cache.1 H;unfold F.Cb T0.Cb;refine Ad (AE (λh j=>Aa rfl (J (.inl h))) λg1 j=>AE (λh=>J (.inr h)) λg2=> ?_);simp only[AK];refine⟨_,H.cell rfl,eK hI.hz hT (by omega) (by omega) (λaA r=>Aa rfl (T (by omega) (by omega) aA)) λi hr O u=>AR rfl ⟨?_,by omega,AZ λmask hm=> ?_⟩⟩
 .rw[AI (n:=64-n)];omega
 rw[mL (by omega) (by omega) u]at hm;subst hm;refine⟨_,H.cell rfl,?_⟩;rw[pD];refine Zn (λk v=> ?_) ?_
 .grind
 refine⟨_,H.cell rfl,Af H rfl (by simp) λaG a=> ?_⟩;simp only[List.set,Nat.zero_add]at a;rw[OL]at a;refine⟨_,a.cell rfl,Af a rfl (by simp) λaB e=> ?_⟩;simp only[List.set,Nat.zero_add]at e;rw[OL]at e;refine⟨_,e.AW rfl,?_⟩;have hb:=hI.b0;have aC:=hI.b1;rw[AP (n:=(i:Int)),AP (n:=S.base+(i:Int))];refine Y (by omega) (by omega) i hr O u aB (Sat.cache.2 ⟨⟨hI.b0,hI.b1,hI.b64,λk v=> ?_,λk v=> ?_⟩,e⟩)
 .show(S.has k&&_)=false;rw[hI.hz k v];rfl
 .have v:(S.rel k&& !(decide (i<=k)&&decide (k<i+n.toNat)))=true:=v;show(S.has k&& !(decide (i<=k)&&decide (k<i+n.toNat)))=true;rw[Bool.and_eq_true]at v⊢;exact⟨hI.rh k v.1,v.2⟩
variable(hE:EnvS E)
include hE
theorem eM(H:Sat (A8 E c S::BG E t V::Z) w){K:Int->World->Prop}
  (aI: ¬S.empty-> ∀w',Sat (A8 E c S::BG E t V::Z) w'->K 33 w')(aS:S.empty->(∀p,V.fr p=false)-> ∀w',Sat (A8 E c S::BG E t V::Z) w'->K 30 w')
  (aT:S.empty-> ∀p,P9 V 1 p-> ∀w',Sat (A8 E c ⟨p/64*64,λi=>decide (i<64)&&V.fr (p/64*64+i),λi=>decide (i<64)&&V.rl (p/64*64+i)⟩::BG E t (V.take (p/64*64) 64)::Z) w'->K 0 w'):
  F.Df E (sM c) (sM t) K w:=by
 unfold F.Df T0.Df;have sw: ∀{A B:Pr} {w'},Sat (A::B::Z) w'->Sat (B::A::Z) w':=λh=>h.perm (.swap _ _ _);refine mE (sw H) (by decide) (λJ w3 H3=> ?_) λ_ p hp w3 H3=> ?_
 .have J: ∀p,V.fr p=false:=λp=>by
   rcases J with h|h
   .cases h
   .cases g:V.fr p with
    | false=>rfl
    | true=>exact absurd (λm a b=>by grind) (h p)
  refine ME (sw H3) (λhe=>AR rfl (Aa rfl (aS he J w3 (sw H3)))) λhe=>Aa rfl (aI he w3 (sw H3))
 refine ME (sw H3) (λhe=>AR rfl (AR rfl ⟨by decide,?_⟩)) λhe=>Aa rfl (aI he w3 (sw H3));have hv:=H3.tvok;have aV:=hp.1;have a4:=hp.2.1;obtain⟨hI,H4⟩:=Sat.cache.1 (sw H3);rw[Int.tdiv_eq_ediv_of_nonneg aV,AP (n:=p/64),AP (n:=p/64*64)];simp only[AK];generalize hB:p/64*64=B;have aG:0<=B/\B+64<=34359738368/\B %64=0:=by omega
 refine Bc H4 rfl (by simp) λw7 H7=> ?_;simp only[List.set]at H7;have hz: ∀i,S.rel i=false:=λi=>by
  cases g:S.rel i with
  | false=>rfl
  | true=>have:=hI.rh i g;rw[he i]at this;cases this
 have e1:W S.has=W λi=>decide (i<0)&&V.fr (B+i):=HB λi _=>by rw[he i];simp
 have e2:W S.rel=W λi=>decide (i<0)&&V.rl (B+i):=HB λi _=>by grind
 rw[e1,e2]at H7;have aA:V=V.take B 0:=by
  have e: ∀q,inr B 0 q=false:=λq=>Ka.2 (by omega);unfold TV.take;simp[e]
 refine AM (λst w'=> ∃i:Nat,st.1=(i:Int)/\i<=64/\Sat (Cells c E.Ft [.int .u64 B,.int .u64 (W λk=>decide (k<i)&&V.fr (B+k)),.int .u64 (W λk=>decide (k<i)&&V.rl (B+k))]::BG E t (V.take B i)::Z) w') (λst _=>(64-st.1).toNat)
  ⟨0,rfl,by decide,by rw[show((0:Nat):Int)=0 from rfl,<-aA];exact H7⟩ ?_
 rintro⟨i',v⟩ _ w9 ⟨i,hi,aZ,H9⟩;dsimp only at hi⊢;subst hi;refine AE (λa3=>⟨B,H9.AW rfl,?_⟩) λa2=> ?_
 .rw[AP (n:=B+(i:Int)),AP (n:=(i:Int)+1)];have aM:inr B i (B+i)=false:=Ka.2 (by omega);have aQ:(V.take B i).fr (B+i)=V.fr (B+i):=by show(V.fr (B+i)&& !inr B i (B+i))=_;grind
  have aW:(V.take B i).rl (B+i)=V.rl (B+i):=by show(V.rl (B+i)&& !inr B i (B+i))=_;grind
  have aD: ∀q,inr B ((i+1:Nat):Int) q=(inr B i q||inr (B+i) 1 q):=λq=>by
   rw[Bool.eq_iff_iff,Bool.or_eq_true,Au,Au,Au];omega
  have Y:V.fr (B+i)=false-> ∀{w'},Sat (BG E t (V.take B i)::Cells c E.Ft [.int .u64 B,.int .u64 (W λk=>decide (k<i)&&V.fr (B+k)),.int .u64 (W λk=>decide (k<i)&&V.rl (B+k))]::Z) w'->
    (∃j:Nat,(i:Int)+1=(j:Int)/\j<=64/\Sat (Cells c E.Ft [.int .u64 B,.int .u64 (W λk=>decide (k<j)&&V.fr (B+k)),.int .u64 (W λk=>decide (k<j)&&V.rl (B+k))]::BG E t (V.take B j)::Z) w')/\(64-((i:Int)+1)).toNat<(64-(i:Int)).toNat:=λhf w' h=>by
   refine⟨⟨i+1,by omega,by omega,?_⟩,by omega⟩;have hr:V.rl (B+i)=false:=by
    cases g:V.rl (B+i)with
    | false=>rfl
    | true=>have:=hv.rf _ g;grind
   have f1:W (λk=>decide (k<i+1)&&V.fr (B+k))=W λk=>decide (k<i)&&V.fr (B+k):=HB λk _=>by grind
   have f2:W (λk=>decide (k<i+1)&&V.rl (B+k))=W λk=>decide (k<i)&&V.rl (B+k):=HB λk _=>by grind
   have f3:V.take B ((i+1:Nat):Int)=V.take B i:=by
    unfold TV.take;congr 1
    .funext q;rw[aD];by_cases e:q=B+i
     .grind
     .have:inr (B+i) 1 q=false:=Ka.2 (by omega)
      grind
    .funext q;rw[aD];by_cases e:q=B+i
     .grind
     .have:inr (B+i) 1 q=false:=Ka.2 (by omega)
      grind
   grind
  refine mG hE (sw H9) (by omega) (by omega) (by decide) (by decide) (λJ aL O=> ?_) (λaR J aL O=> ?_) λaR aK aL O=> ?_
  .refine AR (by decide) (Y ?_ O);cases g:V.fr (B+i)with
   | false=>rfl
   | true=>exact absurd ⟨by decide,by omega,λm a b=>by rw[show m=B+i by omega];exact hv.fi _ g⟩ J
  .refine AR (by decide) (Y ?_ O);cases g:V.fr (B+i)with
   | false=>rfl
   | true=>exact absurd (λm a b=>by grind) J
  .have hf:V.fr (B+i)=true:=by rw[<-aQ];exact aK _ (Int.le_refl _) (by omega)
   rw[cr_one,aW];have aB:=sw O;have aE: ∀(u:Nat->Bool),u64 (1*2^(min (Int.toNat (i:Int)) (IntKind.bits .u64)))=W λk=>decide (i<=k)&&(k-i==0):=λ_=>by
    have:=pG (λk=>k==0) (n:=(i:Int)) (by omega) (by omega);rw[pC,Int.toNat_natCast]at this;exact this
   have aJ: ∀f:Int->Bool,f (B+i)=true->W (λk=>(decide (k<i)&&f (B+k))||(decide (i<=k)&&(k-i==0)))=W λk=>decide (k<i+1)&&f (B+k):=λf a1=>HB λk _=>by grind
   refine Aa (by decide) ⟨_,aB.cell rfl,by omega,Af aB rfl (by simp) λa5 aF=>⟨_,(by exact aF.cell rfl),by omega,Af aF rfl (by simp) λa6 T=> ?_⟩⟩;simp only[List.set,Nat.zero_add]at T;rw[aE (λ_=>false),pE,aJ V.fr hf]at T;have aH:EA .u64 1 (W λk=>decide (k<i)&&V.rl (B+k)) (u64 ((if V.rl (B+i)=true then 1 else 0)*2^(min (Int.toNat (i:Int)) (IntKind.bits .u64))))=W λk=>decide (k<i+1)&&V.rl (B+k):=by
    cases g:V.rl (B+i)with
    | true=>rw[if_pos rfl,aE (λ_=>false),pE,aJ V.rl g]
    | false=>
     rw[if_neg (by decide),Int.zero_mul,show u64 0=0 from rfl,<-Xl,pE];refine HB λk _=> ?_
     grind
   rw[aH]at T;have f3:(V.take B i).take (B+i) 1=V.take B ((i+1:Nat):Int):=by
    unfold TV.take
    grind
   rw[f3]at T;exact⟨⟨i+1,by omega,by omega,T⟩,by omega⟩
 .have e:i=64:=by omega
  subst e;have:=aT he p hp w9;rw[hB]at this;refine this (Sat.cache.2 ⟨⟨aG.1,by grind,aG.2.2,λi hi=> ?_,λi hi=> ?_⟩,H9⟩)
  .grind
  .have hi:(decide (i<64)&&V.rl (B+i))=true:=hi;show(decide (i<64)&&V.fr (B+i))=true;rw[Bool.and_eq_true]at hi⊢;exact⟨hi.1,hv.rf _ hi.2⟩
def CS.own(S:CS)(p:Int):Bool:=inr S.base 64 p&&S.has (p-S.base).toNat
def CS.SH(S:CS)(p:Int):Bool:=inr S.base 64 p&&S.rel (p-S.base).toNat
end
end Go.Sh

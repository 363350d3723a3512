/- The page tree and the caches of pages do what their pages say. No further condition. -/
import Derived.Test.YtcnbbdhhgcbjmaaGreatDoorS
import Derived.Test.YtcnbbdhhgcbjmaaGreatDoorM
import Derived.Test.YtcnbbdhhgcbjmaaGreatDoorA
set_option linter.all false
set_option maxRecDepth 50000
set_option maxHeartbeats 1000000
namespace Go.Sh
def LL{α:Type}(f:Nat->α)(i:Nat)(x:α):Nat->α:=λj=>if j=i then x else f j
@[simp] theorem KY{α:Type}(f:Nat->α)(i:Nat)(x:α):LL f i x i=x:=if_pos rfl
def IM{α:Type}(f:Nat->α){i j:Nat}(x:α)(h:j≠i):LL f i x j=f j:=if_neg h
structure IY(E:Env)(w:World)(b:Nat)(s:Nat->Ac)(l:Nat->Iv):Prop where
 EC: ∀i,i<4->KX E w b (2*i) (s i) (l i)
 dis: ∀i j,i<4->j<4->i≠j-> ∀k,LZ (s i) k-> ¬LZ (s j) k
 c8: ∃v,w.cell? ⟨b,8,none⟩=some v
 f8:w.frozen? ⟨b,8,none⟩=false
section
variable{E:Env}{w w':World}{b:Nat}{s:Nat->Ac}{l:Nat->Iv}
def IY.lt(h:IY E w b s l):b<w.heap.size:=(h.EC 0 (by decide)).row.lt
def IY.PG(h:IY E w b s l){i k:Nat}(j:i<4)(hk:LZ (s i) k):k<w.heap.size:=((h.EC i j).row.own.Gk hk).2
def IY.ext{S:Nat->Prop}(h:IY E w b s l)(he:Ext S w w')(j: ¬S b)(hs: ∀i k,i<4->LZ (s i) k-> ¬S k):IY E w' b s l:=
 ⟨λi y=>(h.EC i y).ext he j λa J=>hs i _ y ⟨a,J,rfl⟩,h.dis,h.c8.imp λv K=>he.cell K j,by rw[he.frozen (p:=⟨b,8,none⟩) h.lt j];exact h.f8⟩
def IY.Fs(h:IY E w b s l)(he:Ext AR w w'):IY E w' b s l:=h.ext he (λf=>f) λ_ _ _ _ f=>f
def IY.LL(h:IY E w b s l){i:Nat}(Y:i<4){s':Ac}{l':Iv}(hs:KX E w' b (2*i) s' l')(hu:Oo b (Yx (2*i)) w w')(hf:Um w (s i) s'):
  IY E w' b (LL s i s') (LL l i l'):=by
 have hold: ∀k,LZ s' k->LZ (s i) k∨w.heap.size<=k:=by
  rintro k ⟨a,O,rfl⟩;rcases hf with e|e
  .rw[e]at O;exact .inl ⟨a,O,rfl⟩
  grind
 refine⟨λj K=> ?_,λj k K hk J m hm y=> ?_,?_,?_⟩
 .by_cases e:j=i
  .subst e;rw[KY,KY];exact hs
  .rw[IM _ _ e,IM _ _ e];refine(h.EC j K).LL hu ?_ ?_<;>(unfold Yx;omega)
 .by_cases e:j=i
  .subst e;rw[KY]at hm;rw[IM _ _ (λe=>J e.symm)]at y;rcases hold m hm with g|g
   .exact h.dis _ _ K hk J m g y
   .have:=h.PG hk y;omega
  .rw[IM _ _ e]at hm;by_cases e2:k=i
   .subst e2;rw[KY]at y;rcases hold m y with g|g
    .exact h.dis _ _ K hk J m hm g
    .have:=h.PG K hm;omega
   .rw[IM _ _ e2]at y;exact h.dis _ _ K hk J m hm y
 .obtain⟨v,T⟩:=h.c8;exact⟨v,by rw[hu.Cr 8 (by unfold Yx;omega)];exact T⟩
 .rw[hu.tH];exact h.f8
def IY.vL(h:IY E w b s l){i:Nat}(y:i<4){s':Ac}(hf:Um w (s i) s'){j k:Nat}(hk:LZ (Sh.LL s i s' j) k):LZ (s j) k∨w.heap.size<=k:=by
 by_cases e:j=i
 .subst e;rw[KY]at hk;obtain⟨a,v,rfl⟩:=hk;rcases hf with e|e
  .rw[e]at v;exact .inl ⟨a,v,rfl⟩
  grind
 .rw[IM _ _ e]at hk
  grind
end
def sumV(q:Int×Int×Int):Value:=.agg ⟨[.int .i64 q.1,.int .i64 q.2.1,.int .i64 q.2.2]⟩
structure Ur(E:Env)(w:World)(b:Nat)(sm:Ac)(QE:List Nat)(sum:Nat->Int->Option (Int×Int×Int)):Prop where
 c8:w.cell? ⟨b,8,none⟩=some (.slice sm.base sm.len sm.cap)
 own:JX w 0 E.Fa 1 sm (QE.map λk=>Value.map (some k))
 len:QE.length=4
 nodup:QE.Nodup
 maps: ∀j k,QE[j]? =some k-> ∃es c m,w.heap[k]? =some (.map es c)/\MapI .u64 es c m/\ ∀i,aget m i=(sum j i).map sumV
def Ur.ext{E:Env}{w w':World}{b:Nat}{sm:Ac}{QE:List Nat}{sum:Nat->Int->Option (Int×Int×Int)}{S:Nat->Prop}(h:Ur E w b sm QE sum)(he:Ext S w w')(v: ¬S b)
  (hs: ∀k,LZ sm k-> ¬S k)(hm: ∀k∈QE,¬S k):Ur E w' b sm QE sum:=
 ⟨he.cell h.c8 v,h.own.ext he λg y=>hs g ⟨_,y,rfl⟩,h.len,h.nodup,λj k hk=>by
  obtain⟨es,c,m,h1,h2⟩:=h.maps j k hk;exact⟨es,c,m,he.obj h1 (hm k (List.mem_of_getElem? hk)),h2⟩⟩
def Ur.mlt{E:Env}{w:World}{b:Nat}{sm:Ac}{QE:List Nat}{sum:Nat->Int->Option (Int×Int×Int)}(h:Ur E w b sm QE sum){k:Nat}(hk:k∈QE):k<w.heap.size:=by
 obtain⟨j,v⟩:=List.mem_iff_getElem?.1 hk;obtain⟨es,c,m,h1,_⟩:=h.maps j k v;exact Ik h1
def Qz{E:Env}{w:World}{b:Nat}{s:Nat->Ac}{l:Nat->Iv}(h:IY E w b s l){K:World->Prop}
  (hK: ∀w' sm QE,IY E w' b s l->Ur E w' b sm QE (λ_ _=>none)->Ext (K0 b) w w'->(∀k,LZ sm k->w.heap.size<=k)->(∀k∈QE,w.heap.size<=k)->K w'):
  F.Dl E (some ⟨b,0,none⟩) K w:=by
 unfold F.Dl;simp only[AH,add_eq,Nat.zero_add];obtain⟨v8,aZ⟩:=h.c8;refine Mi aZ h.f8 rfl λw2 aB=> ?_;have aC: ∀{w1 w2:World} {v:Value},IY E w1 b s l->OW ⟨b,8,none⟩ v w1 w2->IY E w2 b s l:=by
  intro w1 w2 v h aK;have hu:Oo b (λj=>j=8) w1 w2:=Oo.I8 aK rfl;exact⟨λi hi=>(h.EC i hi).LL hu (by omega) (by omega),h.dis,⟨_,aK.same⟩,by rw[aK.frozen];exact h.f8⟩
 refine AJ (λst w'=> ∃(n:Nat) (sm:Ac) (QE:List Nat),st.1=(n:Int)/\n<=4/\IY E w' b s l/\w'.cell? ⟨b,8,none⟩=some (.slice sm.base sm.len sm.cap)/\
   JX w' w.heap.size E.Fa 1 sm (QE.map λk=>Value.map (some k))/\QE.length=n/\QE.Nodup/\(∀k∈QE,w'.heap[k]? =some (.map #[] 0))/\(∀k∈QE,w.heap.size<=k)/\Ext (K0 b) w w')
  (λst _=>(4-st.1).toNat) ⟨0,⟨none,0,0⟩,[],rfl,by decide,aC h aB,aB.same,JX.nil _ _ _ _,rfl,List.nodup_nil,by simp,by simp,aB.ext⟩ ?_
 rintro⟨i,u⟩ _ w4 ⟨n,sm,QE,hn,a8,h4,aM,y,hlen,aX,aA,aI,aE⟩;simp only at hn⊢;subst hn;refine AB (λa7=> ?_) (λa6=> ?_)
 .refine⟨sm,aM,BZ λw9 aT a3 aV=>BZ λaN aL aY aG=> ?_⟩;have aF:Ext AR w4 aN:=aV.trans' aG;have T:=y.ext aF λ_ _ f=>f;have a9:sm.len=n:=by have:=y.len;grind
  refine Qg (news:=[.map (some w4.heap.size)]) rfl T (Oq aL rfl) rfl (by intro v hv;simp at hv;subst hv;rfl) (by have:=aE.size;omega) (by grind) (by grind) λLH aO aJ a2 Y a1=> ?_;have aU: ¬LZ sm b:=λe=>by have:=(y.Gk e).1;have:=h.lt;omega
  have aD:IY E aO b s l:=(h4.Fs aF).ext Y aU λi k hi hk e=>by
   have:=(y.Gk e).1;have:=h.PG hi hk;omega
  have O: ∀k∈QE++[w4.heap.size],aO.heap[k]? =some (.map #[] 0):=by
   intro k hk;have aH:aN.heap[k]? =some (.map #[] 0):=by
    rcases List.mem_append.1 hk with hk|hk
    .exact aF.obj (aA k hk) λf=>f
    .rw[List.mem_singleton]at hk;subst hk;exact aG.obj aT λf=>f
   exact Y.obj aH (T.Xx aH)
  obtain⟨v,hv⟩:=aD.c8;refine Mi hv aD.f8 rfl λbA J=> ?_;refine⟨⟨n+1,LH,QE++[w4.heap.size],by rw[AM];omega,by omega,aC aD J,J.same,?_,by simp;omega,?_,?_,?_,?_⟩,by rw[AM];omega⟩
  .rw[List.map_append];refine aJ.ext J.ext λg hg e=> ?_;have:=(aJ.lt hg).1;have:g=b:=e;have:=h.lt
   grind
  .grind
  .intro k hk;refine J.ext.obj (O k hk) λe=> ?_;have:k=b:=e;subst this;have:=(aD.EC 0 (by decide)).row.c0;exact Up (O k hk) this
  .intro k hk;rcases List.mem_append.1 hk with hk|hk
   .exact aI k hk
   .rw[List.mem_singleton]at hk;subst hk;exact aE.size
  .refine(aE.trans aF (λ_ _ e=>e) λ_ _ f=>f.elim).trans (Y.trans J.ext (U:=λk=>LZ sm k∨k=b) (λ_ _ e=>.inl e) λ_ _ e=>.inr e) (λ_ _ e=>e) λk hk e=> ?_;rcases e with e|e
   .have:=(y.Gk e).1;omega
   .exact e
 .have hn:n=4:=by omega
  subst hn;refine hK w4 sm QE h4 ⟨aM,y.lower (Nat.zero_le _),hlen,aX,λj k hk=> ?_⟩ aE (λk hk=>(y.Gk hk).1) aI;exact⟨#[],0,[],aA k (List.mem_of_getElem? hk),MapI.empty _,λ_=>rfl⟩
def pg(lv:Int):Int:=512*8^(3-lv).toNat
def vM(fr to:Int)(a:Int×Int×Int)(p:Int×Int):Int×Int×Int:=
 (if p.1=fr then p.2-p.1 else a.1,max a.2.1 (p.2-p.1),if p.2=to then p.2-p.1 else a.2.2)
def sumOf(l:Iv)(fr to:Int):Int×Int×Int:=(withinL l fr to).foldl (vM fr to) (0,0,0)
structure N6 where
 s:Nat->Ac
 l:Nat->Iv
 sm:Ac
 QE:List Nat
 sum:Nat->Int->Option (Int×Int×Int)
structure AA5(l:Nat->Iv):Prop where
 top: ∀n,mem (l 0) n->n<34359738368
 free: ∀n,mem (l 1) n->mem (l 0) n
 rel: ∀n,mem (l 2) n->mem (l 1) n
 idle: ∀n,mem (l 3) n↔mem (l 1) n/\ ¬mem (l 2) n
structure IC(E:Env)(w:World)(b:Nat)(G:N6):Prop where
 EC:IY E w b G.s G.l
 maps:Ur E w b G.sm G.QE G.sum
 d: ∀k,LZ G.sm k->k≠b/\ ∀i,i<4-> ¬LZ (G.s i) k
 ok: ∀(j:Nat) (i:Int) x,G.sum j i=some x->x=sumOf (G.l 1) (i*pg j) (i*pg j+pg j)
 inv:AA5 G.l
def Q2(b:Nat)(G:N6)(k:Nat):Prop:=k=b∨(∃i,i<4/\LZ (G.s i) k)∨LZ G.sm k∨k∈G.QE
section
variable{E:Env}{w w':World}{b:Nat}{G:N6}
def IC.lt(h:IC E w b G):b<w.heap.size:=h.EC.lt
def IC.PQ(h:IC E w b G){k:Nat}(hk:Q2 b G k):k<w.heap.size:=by
 rcases hk with rfl|⟨i,j,hk⟩|hk|hk
 .exact h.lt
 .exact h.EC.PG j hk
 .exact(h.maps.own.Gk hk).2
 .exact h.maps.mlt hk
def IC.ext{S:Nat->Prop}(h:IC E w b G)(he:Ext S w w')(j: ∀k,Q2 b G k-> ¬S k):IC E w' b G:=
 ⟨h.EC.ext he (j b (.inl rfl)) λi k v hk=>j k (.inr (.inl ⟨i,v,hk⟩)),h.maps.ext he (j b (.inl rfl)) (λk hk=>j k (.inr (.inr (.inl hk)))) λk hk=>j k (.inr (.inr (.inr hk))),h.d,h.ok,h.inv⟩
def IC.Fs(h:IC E w b G)(he:Ext AR w w'):IC E w' b G:=h.ext he λ_ _ f=>f
end
structure M0(E:Env)(b:Nat)(w:World)(G:N6)(w':World)(G':N6):Prop where
 rep:IC E w' b G'
 ext:Ext (Q2 b G) w w'
 WC: ∀k,Q2 b G' k->Q2 b G k∨w.heap.size<=k
section
variable{E:Env}{w w' w1:World}{b:Nat}{G G' G1:N6}
def M0.nothing(h:IC E w b G)(he:Ext AR w w'):M0 E b w G w' G:=⟨h.Fs he,he.any,λ_ h=>.inl h⟩
def M0.trans(h:M0 E b w G w1 G1)(k:M0 E b w1 G1 w' G'):M0 E b w G w' G':=
 ⟨k.rep,h.ext.trans k.ext (λ_ _ s=>s) (λi j s=>by rcases h.WC i s with s|s;exact s;omega),λi j=>by
  rcases k.WC i j with s|s
  .exact h.WC i s
  .have:=h.ext.size;omega⟩
end
structure yB(E:Env)(w w':World)(b:Nat)(G:N6):Prop where
 rep:IC E w' b G
 ext:Ext AR w w'
 young: ∀k,Q2 b G k->w.heap.size<=k
structure SE(E:Env)(b:Nat)(w0:World)(G0:N6)(w:World)(s:Nat->Ac)(l:Nat->Iv):Prop where
 EC:IY E w b s l
 ext:Ext (K0 b) w0 w
 PG: ∀i k,i<4->LZ (s i) k->(∃j,j<4/\LZ (G0.s j) k)∨w0.heap.size<=k
 c8:w.cell? ⟨b,8,none⟩=w0.cell? ⟨b,8,none⟩
section
variable{E:Env}{b:Nat}{w0 w w':World}{G0:N6}{s:Nat->Ac}{l:Nat->Iv}
def SE.start(h:IC E w0 b G0)(he:Ext AR w0 w):SE E b w0 G0 w G0.s G0.l:=⟨h.EC.Fs he,he.any,λi k j hk=>.inl ⟨i,j,hk⟩,World.cell?_of_block (he.block b h.lt λf=>f)⟩
def SE.LL(h:SE E b w0 G0 w s l){i:Nat}(v:i<4){s':Ac}{l':Iv}(hs:KX E w' b (2*i) s' l')(hu:Oo b (Yx (2*i)) w w')(hf:Um w (s i) s'):
  SE E b w0 G0 w' (Sh.LL s i s') (Sh.LL l i l'):=
 ⟨h.EC.LL v hs hu hf,h.ext.trans' hu.ext,λj k y hk=>by
  rcases h.EC.vL v hf hk with e|e
  .exact h.PG j k y e
  .have:=h.ext.size;omega,by rw[hu.Cr 8 (by unfold Yx;omega)];exact h.c8⟩
def SE.changed(h:SE E b w0 G0 w s l)(h0:IC E w0 b G0)(v:AA5 l){K:World->Prop}
  (y: ∀w' G',M0 E b w0 G0 w' G'->G'.l=l->K w'):F.Dl E (some ⟨b,0,none⟩) K w:=by
 refine Qz h.EC λw' sm QE hs hm he hsm O=> ?_;have T:=h.ext.size;have J:=h0.lt;refine y w' ⟨s,l,sm,QE,λ_ _=>none⟩ ⟨⟨hs,hm,λk hk=>⟨?_,λi v e=> ?_⟩,λj i x Y=>(by cases Y),v⟩,(h.ext.trans' he).mono λk _ e=>.inl e,?_⟩ rfl
 .have:=hsm k hk;omega
 .have:=hsm k hk;have:=h.EC.PG v e;omega
 .rintro k (e|⟨i,v,e⟩|e|e)
  .exact .inl (.inl e)
  .rcases h.PG i k v e with g|g
   .exact .inl (.inr (.inl g))
   omega
  .grind
  grind
end
def Ax(l:Nat->Iv)(x n:Int)(free:Bool)(e:Int):Int:=
 if n=0∨34359738368<=x∨34359738368-x<n∨cnt (l 0) x (x+n)≠n then 10 else if cnt (l 1) x (x+n)≠(if free then n else 0)then e else 0
def findL:Iv->Int->Option Int
 | [],_=>none
 | p::r,n=>if n<=p.2-p.1 then some p.1 else findL r n
def lL{l:Iv}{n p:Int}(h:findL l n=some p): ∃q∈l,q.1=p/\n<=q.2-q.1:=by
 induction l with
 | nil=>cases h
 | cons q r ih=>
  simp only[findL]at h
  grind
section
variable{E:Env}(hE:EnvS E){w:World}{b:Nat}{G:N6}
def find_spec(h:IC E w b G){n:Int}(aU:0<=n){K:Int->Bool->World->Prop}
  (hK: ∀w',Ext AR w w'->K ((if n=0 then none else findL (G.l 1) n).getD 0) (if n=0 then none else findL (G.l 1) n).isSome w'):
  F.DJ E (some ⟨b,0,none⟩) n K w:=by
 unfold F.DJ T0.DJ F.Hy;simp only[AH,add_eq,Nat.zero_add];refine AP (λe=> ?_) (λe=> ?_)
 .have e0:n=0:=by simpa using e
  have:=hK w (Ext.refl _ _)
  grind
 .have e0:n≠0:=by simpa using e
  rw[if_neg e0]at hK;have y:Ha E w ⟨b,2,none⟩ (G.s 1) (G.l 1):=(h.EC.EC 1 (by decide)).row;generalize G.s 1=s at y;generalize G.l 1=l at y hK;have hlen:=y.len;have hsm:=y.small;have aN:Pb=4398046511104:=rfl;refine⟨s,y.c0,AJ (λst w'=> ∃k:Nat,st.1=(k:Int)/\k<=l.length/\findL l n=findL (l.drop k) n/\Ext AR w w') (λst _=>(l.length-st.1).toNat) ⟨0,rfl,Nat.zero_le _,rfl,Ext.refl _ _⟩ ?_⟩;rintro⟨i,u⟩ _ w5 ⟨k,hk,aR,hf,J⟩;simp only at hk⊢;subst hk;refine AB (λaT=> ?_) (λaQ=> ?_)
  .have hl:k<l.length:=by omega
   have hg:=List.getElem?_eq_getElem hl;obtain⟨r,aI,aB,aC⟩:=(y.Fs J).cells hg;have aH:=y.ok.get hg;generalize l[k]=q at hg aB aC aH;rw[aI];simp only[AH,add_eq,Nat.zero_add,Int.toNat_natCast,Nat.add_zero];refine⟨⟨by omega,by omega⟩,q.1,aB,q.2,aC,BZ λaV O aJ T=> ?_⟩;refine KL _ _ _ _ _ _ _ O (by simp) (by intro v hv;simp at hv;rcases hv with rfl|rfl<;>rfl) λaL Y aK j=> ?_;simp at j;have aD:Ext AR w aL:=(J.trans' T).trans Y (λ_ _ f=>f) λi hi e=>by have:i=w5.heap.size:=e;have:=J.size;omega
   have hd:=UU hg;refine⟨q.2,by rw[AW j];rfl,q.1,by rw[AW j];rfl,?_⟩;rw[AI];refine AB (λaG=>⟨q.1,by rw[AW j];rfl,?_⟩) (λaA=> ?_)
   .have:findL l n=some q.1:=by rw[hf,hd,findL,if_pos aG]
    grind
   .rw[AM];refine⟨⟨k+1,by omega,by omega,?_,aD⟩,by omega⟩;rw[hf,hd,findL,if_neg aA]
  .have:l.drop k=[]:=List.drop_eq_nil_of_le (by omega);rw[this]at hf;have aP:findL l n=none:=hf
   grind
def WD(h:IC E w b G){K:Int->World->Prop}(j:K (HE (G.l 2)) w):F.CH E (some ⟨b,0,none⟩) K w:=by
 unfold F.CH T0.CH F.Hx;simp only[AH,add_eq,Nat.zero_add];exact⟨_,(h.EC.EC 2 (by decide)).c1,j⟩
include hE
theorem So(h:IC E w b G){x n e:Int}{fr:Bool}(O:0<=x)(hx:x<18446744073709551616)(aF:0<=n)(hn:n<18446744073709551616){K:Int->World->Prop}
  (hK: ∀w',Ext AR w w'->K (Ax G.l x n fr e) w'):F.Db E (some ⟨b,0,none⟩) x n fr e K w:=by
 unfold F.Db T0.Db;simp only[AH,add_eq,Nat.zero_add];refine Aj (λst w'=>w'=w/\st.1=if fr then n else 0) ?_ ?_
 .exact AP (λe=>⟨rfl,by rw[e];rfl⟩) (λe=>⟨rfl,by rw[e];rfl⟩)
 rintro⟨want,u⟩ _ w3 ⟨rfl,j⟩;simp only at j⊢;subst j;refine Aj (λst w'=>Ext AR w3 w'/\(st.1=true↔n=0∨34359738368<=x∨34359738368-x<n∨cnt (G.l 0) x (x+n)≠n)) ?_ ?_
 .refine AP (λe=>⟨Ext.refl _ _,?_⟩) (λe=>AB (λe2=>⟨Ext.refl _ _,?_⟩) (λe2=> ?_))
  .grind
  .grind
  .have e0:n≠0:=by simpa using e
   rw[AI (n:=34359738368-x)];refine AB (λe3=>⟨Ext.refl _ _,?_⟩) (λe3=> ?_)
   .grind
   .rw[AI (n:=x+n)];refine Jk hE (h.EC.EC 0 (by decide)).row O (by omega) (by omega) λw9 Y=>⟨Y,?_⟩
    grind
 rintro⟨bt,u⟩ _ w6 ⟨v,y⟩;simp only at y⊢;refine AP (λht=> ?_) (λhf=> ?_)
 .have:=hK w6 v;rwa[Ax,if_pos (y.1 ht)]at this
 .have T: ¬(n=0∨34359738368<=x∨34359738368-x<n∨cnt (G.l 0) x (x+n)≠n):=λh=>by grind
  rw[AI (n:=x+n)];refine Jk hE ((h.Fs v).EC.EC 1 (by decide)).row O (by omega) (by omega) λaA J=> ?_;have:=hK aA (v.trans' J);rw[Ax,if_neg T]at this;refine AP (λe1=> ?_) (λe1=> ?_)
  .rwa[if_pos (by grind)]at this
  .rwa[if_neg (by grind)]at this
omit hE in
theorem Sp{l:Nat->Iv}{x n e:Int}{fr:Bool}(he:e≠0)(h:Ax l x n fr e=0):
  n≠0/\x<34359738368/\n<=34359738368-x/\cnt (l 0) x (x+n)=n/\cnt (l 1) x (x+n)=if fr then n else 0:=by
 unfold Ax at h;omega
theorem Wq(h:IC E w b G){x n:Int}(y:0<=x)(hx:x<18446744073709551616)(aE:0<=n)(hn:n<18446744073709551616){K:Int->Int->World->Prop}
  (aC:Ax G.l x n true 32≠0-> ∀w',Ext AR w w'->K 0 (Ax G.l x n true 32) w')
  (aD:Ax G.l x n true 32=0-> ∀w' G',M0 E b w G w' G'->G'.l=Sh.LL (Sh.LL (Sh.LL G.l 1 (EI (G.l 1) x (x+n))) 2 (EI (G.l 2) x (x+n))) 3 (EI (G.l 3) x (x+n))->K (cnt (G.l 2) x (x+n)) 0 w'):
  F.DK E (some ⟨b,0,none⟩) x n K w:=by
 unfold F.DK T0.DK;refine So hE h y hx aE hn λw2 J=> ?_;refine AP (λe=>aC (by grind) w2 J) (λe=> ?_);have hz:Ax G.l x n true 32=0:=by grind
 obtain⟨g1,g2,g3,g4,g5⟩:=Sp (by decide) hz;have en:u64 (x+n)=x+n:=AI;simp only[AH,add_eq,Nat.zero_add,en];have h2:=h.Fs J;refine Jk hE (h2.EC.EC 2 (by decide)).row y (by omega) (by omega) λw5 aJ=> ?_;have m5:SE E b w G w5 G.s G.l:=SE.start h (J.trans' aJ);refine Ot hE (m5.EC.EC 1 (by decide)) y (by omega) (by omega) λw7 s7 aF aH aA=> ?_;have m7:=m5.LL (by decide:1<4) aF aH aA;refine Ot hE (m7.EC.EC 2 (by decide)) y (by omega) (by omega) λw9 s9 aG aI aB=> ?_;have m9:=m7.LL (by decide:2<4) aG aI aB;refine Ot hE (m9.EC.EC 3 (by decide)) y (by omega) (by omega) λaS dG T Y O=> ?_;have aK:=m9.LL (by decide:3<4) T Y O;have j:x<x+n:=by omega
 refine aK.changed h ⟨?_,?_,?_,?_⟩ λw' G' hs hl=>aD hz w' G' hs hl
 .exact h.inv.top
 .intro m hm;have v:mem (EI (G.l 1) x (x+n)) m:=hm;rw[FH j]at v;exact h.inv.free m v.1
 .intro m hm;have v:mem (EI (G.l 2) x (x+n)) m:=hm;rw[FH j]at v;show mem (EI (G.l 1) x (x+n)) m;rw[FH j];exact⟨h.inv.rel m v.1,v.2⟩
 .intro m;show mem (EI (G.l 3) x (x+n)) m↔mem (EI (G.l 1) x (x+n)) m/\ ¬mem (EI (G.l 2) x (x+n)) m;rw[FH j,FH j,FH j,h.inv.idle m]
  grind
omit hE in
theorem Zp(h:IC E w b G){n p:Int}(O:0<n)(hf:findL (G.l 1) n=some p):Ax G.l p n true 32=0/\0<=p/\p<34359738368:=by
 obtain⟨q,K,rfl,hle⟩:=lL hf;have Au:=(h.EC.EC 1 (by decide)).row.ok;have y:=(h.EC.EC 0 (by decide)).row.ok;have J:=Au.mem K;have v: ∀m,q.1<=m->m<q.1+n->mem (G.l 1) m:=λm h1 h2=>⟨q,K,h1,by omega⟩;have j: ∀m,q.1<=m->m<q.1+n->mem (G.l 0) m:=λm h1 h2=>h.inv.free m (v m h1 h2);have T:=h.inv.top _ (j (q.1+n-1) (by omega) (by omega));have c1:=(FI Au (a:=q.1) (b:=q.1+n) (by omega)).2 v;have c0:=(FI y (a:=q.1) (b:=q.1+n) (by omega)).2 j;refine⟨?_,J.1,by omega⟩;unfold Ax
 grind
theorem eP(h:IC E w b G){n:Int}(v:0<=n)(hn:n<18446744073709551616){K:Int->Int->Int->World->Prop}
  (J:n=0->K 0 0 1 w)(O:n≠0->findL (G.l 1) n=none-> ∀w',Ext AR w w'->K 0 0 30 w')
  (T:n≠0-> ∀p,findL (G.l 1) n=some p-> ∀w' G',M0 E b w G w' G'->G'.l=Sh.LL (Sh.LL (Sh.LL G.l 1 (EI (G.l 1) p (p+n))) 2 (EI (G.l 2) p (p+n))) 3 (EI (G.l 3) p (p+n))->K p (cnt (G.l 2) p (p+n)) 0 w'):
  F.A8 E (some ⟨b,0,none⟩) n K w:=by
 unfold F.A8 T0.A8;refine AP (λe=>J (by simpa using e)) (λe=> ?_);have y:n≠0:=by simpa using e
 refine find_spec h v λw3 j=> ?_;rw[if_neg y];cases hf:findL (G.l 1) n with
 | none=>exact AP (λ_=>O y hf w3 j) (λe=>by cases e)
 | some p=>
  refine AP (λe=>by cases e) (λ_=> ?_);obtain⟨hz,aA,aD⟩:=Zp h (by omega) hf;refine Wq hE (h.Fs j) aA (by show p<_;omega) v hn (λY=>absurd hz Y) λ_ w' G' hs hl=> ?_;exact T y p hf w' G' ((M0.nothing h j).trans hs) hl
theorem lM(h:IC E w b G){c n:Int}(aX:0<=c)(hc:c<18446744073709551616)(aZ:0<=n)(hn:n<18446744073709551616){K:Int->World->Prop}
  (aL:(n=0∨262144<n∨67108864<c∨67108864-c<n)->K 1 w)
  (aM: ¬(n=0∨262144<n∨67108864<c∨67108864-c<n)->cnt (G.l 0) (c*512) ((c+n)*512)≠0-> ∀w',Ext AR w w'->K 34 w')
  (aN: ¬(n=0∨262144<n∨67108864<c∨67108864-c<n)->cnt (G.l 0) (c*512) ((c+n)*512)=0-> ∀w' G',M0 E b w G w' G'->
   G'.l=Sh.LL (Sh.LL (Sh.LL G.l 0 (D9 (G.l 0) (c*512) ((c+n)*512))) 1 (D9 (G.l 1) (c*512) ((c+n)*512))) 2 (D9 (G.l 2) (c*512) ((c+n)*512))->K 0 w'):
  F.Dv E (some ⟨b,0,none⟩) c n K w:=by
 unfold F.Dv T0.Dv;refine Aj (λst w'=>w'=w/\(st.1=true↔n=0∨262144<n∨67108864<c∨67108864-c<n)) ?_ ?_
 .refine AP (λe=>⟨rfl,?_⟩) (λe=>AB (λe2=>⟨rfl,?_⟩) (λe2=>AB (λe3=>⟨rfl,?_⟩) (λe3=>⟨rfl,?_⟩)))
  .grind
  .grind
  .grind
  .have e0:n≠0:=by simpa using e
   rw[AI]
   grind
 rintro⟨bt,u⟩ _ w3 ⟨rfl,O⟩;simp only at O⊢;refine AP (λht=>aL (O.1 ht)) (λhf=> ?_);have aA: ¬(n=0∨262144<n∨67108864<c∨67108864-c<n):=λh=>by grind
 have e1:u64 (c*512)=c*512:=AI;have e2:u64 (c+n)=c+n:=AI;have e3:u64 ((c+n)*512)=(c+n)*512:=AI;rw[e1,e2,e3];simp only[AH,add_eq,Nat.zero_add];refine Am λto aP=> ?_;subst aP;have aS:Pb=4398046511104:=rfl;refine Jk hE (h.EC.EC 0 (by decide)).row (by omega) (by omega) (by omega) λw7 aF=> ?_;have a0:=DU (G.l 0) (c*512) ((c+n)*512);refine AB (λhp=>aM aA (by omega) w7 aF) (λhp=> ?_);have hz:cnt (G.l 0) (c*512) ((c+n)*512)=0:=by omega
 have m7:SE E b w3 G w7 G.s G.l:=SE.start h aF;have y:c*512<(c+n)*512:=by omega
 refine L1 hE (m7.EC.EC 0 (by decide)) (by omega) y (by omega) λw9 s9 aO aQ aJ=> ?_;have m9:=m7.LL (by decide:0<4) aO aQ aJ;refine L1 hE (m9.EC.EC 1 (by decide)) (by omega) y (by omega) λa4 dG aB aD T=> ?_;have aG:=m9.LL (by decide:1<4) aB aD T;refine L1 hE (aG.EC.EC 2 (by decide)) (by omega) y (by omega) λa5 MR aC aE Y=> ?_;have aR:=aG.LL (by decide:2<4) aC aE Y;have Au: ∀i,i<4->Ok (G.l i):=λi hi=>(h.EC.EC i hi).row.ok;have j: ∀i,i<4-> ∀m,mem (D9 (G.l i) (c*512) ((c+n)*512)) m↔mem (G.l i) m∨(c*512<=m/\m<(c+n)*512):=λi hi m=>Eo (Au i hi) y (by omega) (by omega) m;have v:=(Di (Au 0 (by decide)) (a:=c*512) (b:=(c+n)*512) (by omega)).1 hz;refine aR.changed h ⟨?_,?_,?_,?_⟩ λw' G' hs hl=>aN aA hz w' G' hs hl
 .intro m hm;rcases(j 0 (by decide) m).1 hm with g|g
  .exact h.inv.top m g
  .omega
 .intro m hm;refine(j 0 (by decide) m).2 ?_;rcases(j 1 (by decide) m).1 hm with g|g
  .exact .inl (h.inv.free m g)
  omega
 .intro m hm;refine(j 1 (by decide) m).2 ?_;rcases(j 2 (by decide) m).1 hm with g|g
  .exact .inl (h.inv.rel m g)
  omega
 .intro m;show mem (G.l 3) m↔mem (D9 (G.l 1) (c*512) ((c+n)*512)) m/\ ¬mem (D9 (G.l 2) (c*512) ((c+n)*512)) m;rw[j 1 (by decide),j 2 (by decide),h.inv.idle m];constructor
  .rintro⟨a1,a2⟩;have:=v m;refine⟨.inl a1,λJ=> ?_⟩;rcases J with J|J
   .exact a2 J
   .exact v m J.1 J.2 (h.inv.free m a1)
  grind
theorem Us(h:IC E w b G){x n:Int}{i:Nat}(hi:i=2∨i=3)(J:0<=x)(hx:x<18446744073709551616)(aJ:0<=n)(hn:n<18446744073709551616){K:Int->World->Prop}
  (aH:Ax G.l x n false 31≠0-> ∀w',Ext AR w w'->K (Ax G.l x n false 31) w')
  (aI:Ax G.l x n false 31=0-> ∀w' G',M0 E b w G w' G'->G'.l=Sh.LL (Sh.LL G.l 1 (D9 (G.l 1) x (x+n))) i (D9 (G.l i) x (x+n))->K 0 w'):
  F.D7 E (some ⟨b,0,none⟩) x n (some ⟨b,2*i,none⟩) K w:=by
 unfold F.D7 T0.D7;refine So hE h J hx aJ hn λw2 aE=> ?_;refine AP (λe=>aH (by grind) w2 aE) (λe=> ?_);have hz:Ax G.l x n false 31=0:=by grind
 obtain⟨g1,g2,g3,g4,g5⟩:=Sp (by decide) hz;have en:u64 (x+n)=x+n:=AI;simp only[AH,add_eq,Nat.zero_add,en];have aO:Pb=4398046511104:=rfl;have aC:i<4:=by omega
 have T:i≠1:=by omega
 have m2:SE E b w G w2 G.s G.l:=SE.start h aE;have O:x<x+n:=by omega
 refine L1 hE (m2.EC.EC 1 (by decide)) J O (by omega) λw4 s4 aK aM aF=> ?_;have m4:=m2.LL (by decide:1<4) aK aM aF;have aD:=m4.EC.EC i aC;rw[IM _ _ T,IM _ _ T]at aD;refine L1 hE aD J O (by omega) λw5 s5 aL aN aG=> ?_;have m5:=m4.LL aC aL aN (by rw[IM _ _ T];exact aG);have Au: ∀i,i<4->Ok (G.l i):=λi hi=>(h.EC.EC i hi).row.ok;have j: ∀i,i<4-> ∀m,mem (D9 (G.l i) x (x+n)) m↔mem (G.l i) m∨(x<=m/\m<x+n):=λi hi m=>Eo (Au i hi) O J (by omega) m;have Y:=(Di (Au 1 (by decide)) (a:=x) (b:=x+n) (by omega)).1 g5;have aB:=(FI (Au 0 (by decide)) (a:=x) (b:=x+n) (by omega)).1 (by omega);have l0:Sh.LL (Sh.LL G.l 1 (D9 (G.l 1) x (x+n))) i (D9 (G.l i) x (x+n)) 0=G.l 0:=by rw[IM _ _ (by omega),IM _ _ (by omega)]
 have l1:Sh.LL (Sh.LL G.l 1 (D9 (G.l 1) x (x+n))) i (D9 (G.l i) x (x+n)) 1=D9 (G.l 1) x (x+n):=by rw[IM _ _ (by omega),KY]
 refine m5.changed h ⟨?_,?_,?_,?_⟩ λw' G' hs hl=>aI hz w' G' hs hl
 .rw[l0];exact h.inv.top
 .intro m;rw[l0,l1,j 1 (by decide)];rintro(v|v)
  .exact h.inv.free m v
  .exact aB m v.1 v.2
 .intro m;rw[l1,j 1 (by decide)];rcases hi with rfl|rfl
  .rw[KY,j 2 (by decide)];rintro(v|v)
   .exact .inl (h.inv.rel m v)
   omega
  .rw[IM _ _ (by decide),IM _ _ (by decide)];exact λv=>.inl (h.inv.rel m v)
 .intro m;rw[l1,j 1 (by decide)];have aW:x<=m/\m<x+n-> ¬mem (G.l 1) m:=λv=>Y m v.1 v.2;have y:=h.inv.idle m;have aP:=h.inv.rel m;rcases hi with rfl|rfl
  .rw[KY,j 2 (by decide),IM _ _ (by decide),IM _ _ (by decide),y]
   grind
  .rw[KY,j 3 (by decide),IM _ _ (by decide),IM _ _ (by decide),y]
   grind
end
def lN{E:Env}{w:World}{K:Option Addr->World->Prop}(hK: ∀w' b G,yB E w w' b G->(∀i,G.l i=[])->K (some ⟨b,0,none⟩) w'):F.II E K w:=by
 unfold F.II T0.II;refine BZ λw2 v Y y=> ?_;have O: ∀k,¬LZ ⟨none,0,0⟩ k:=by rintro k ⟨a,ha,_⟩;cases ha
 have hs:IY E w2 w.heap.size (λ_=>⟨none,0,0⟩) (λ_=>[]):=by
  refine⟨λi hi=> ?_,λi j _ _ _ k hk=>absurd hk (O k),⟨_,by rw[AW v];rfl⟩,by simp[World.frozen?,v]⟩;have:i=0∨i=1∨i=2∨i=3:=by omega
  rcases this with rfl|rfl|rfl|rfl<;>
   exact⟨⟨by rw[AW v];rfl,by simp[World.frozen?,v],JX.nil _ _ _ _,trivial,by simp,by grind⟩,by rw[AW v];rfl,by simp[World.frozen?,v]⟩
 refine Qz hs λw' sm QE T hm he hsm J=> ?_;refine hK w' w.heap.size ⟨λ_=>⟨none,0,0⟩,λ_=>[],sm,QE,λ_ _=>none⟩ ⟨⟨T,hm,λk hk=>⟨?_,λi _ e=>O k e⟩,λj i x hx=>(by cases hx),?_⟩,?_,?_⟩ λ_=>rfl
 .have:=hsm k hk;omega
 .exact⟨λn h=>absurd h (Bq n),λn h=>absurd h (Bq n),λn h=>absurd h (Bq n),λn=>⟨λh=>absurd h (Bq n),λh=>absurd h.1 (Bq n)⟩⟩
 .exact y.trans he (λ_ _ f=>f) λk hk e=>by have:k=w.heap.size:=e;omega
 .rintro k (e|⟨i,_,e⟩|e|e)
  .omega
  .exact absurd e (O k)
  .have:=hsm k e;omega
  .have:=J k e;omega
def G4(E:Env)(b:Nat)(l:Nat->Iv):Pr where
 holds D w:= ∃G,IC E w b G/\G.l=l/\ ∀k,D k↔Q2 b G k
 loc h he hS:=let⟨G,h1,h2,h3⟩:=h;⟨G,h1.ext he λk hk=>hS k ((h3 k).2 hk),h2,h3⟩
 lt h hk:=let⟨G,h1,h2,h3⟩:=h;h1.PQ ((h3 _).1 hk)
def Sat.tree{E:Env}{b:Nat}{l:Nat->Iv}{F:List Pr}{w:World}(H:Sat (G4 E b l::F) w):
  ∃G,IC E w b G/\G.l=l/\ ∀w' G',M0 E b w G w' G'->Sat (G4 E b G'.l::F) w':=by
 obtain⟨D,⟨G,h1,h2,j⟩,hs⟩:=H.step;refine⟨G,h1,h2,λw' G' st=>hs w' (Q2 b G') _ (st.ext.mono λi _ v=>(j i).2 v) ⟨G',st.rep,rfl,λ_=>Iff.rfl⟩ λk hk=> ?_⟩;rcases st.WC k hk with h|h
 .exact .inl ((j k).2 h)
 .exact .inr h
def Sat.vN{E:Env}{b:Nat}{F:List Pr}{w w':World}{G:N6}(H:Sat F w)(h:yB E w w' b G):Sat (G4 E b G.l::F) w':=
 H.new (P:=G4 E b G.l) (D:=Q2 b G) h.ext ⟨G,h.rep,rfl,λ_=>Iff.rfl⟩ h.young
def Sat.MV{E:Env}{b:Nat}{l:Nat->Iv}{F:List Pr}{w:World}(H:Sat (G4 E b l::F) w):AA5 l/\ ∀i,i<4->Ok (l i):=by
 obtain⟨G,h1,rfl,_⟩:=H.tree;exact⟨h1.inv,λi j=>(h1.EC.EC i j).row.ok⟩
def Sq(l:Iv)(p n:Int):Prop:= ∀m,p<=m->m<p+n->mem l m
def L2{l:Iv}(h:Ok l){n p:Int}(hn:0<n)(hf:findL l n=some p):Sq l p n/\ ∀y,Sq l y n->p<=y:=by
 induction l with
 | nil=>cases hf
 | cons q r ih=>
  simp only[findL]at hf;split at hf
  .cases hf;refine⟨λm h1 h2=>mem_cons.2 (.inl ⟨h1,by omega⟩),λy v=> ?_⟩;rcases mem_cons.1 (v y (by omega) (by omega))with h1|⟨J,j,h1,h2⟩
   .exact h1.1
   .have:=h.2.2.2.1 J j;omega
  .obtain⟨h1,h2⟩:=ih h.tail hf;refine⟨λm K O=>mem_cons.2 (.inr (h1 m K O)),λy v=> ?_⟩;obtain⟨J,j,K,O⟩:=Xh h (by omega) v;rcases List.mem_cons.1 j with rfl|j
   .omega
   .exact h2 y λm T Y=>⟨J,j,by omega,by omega⟩
def Nc{l:Iv}(h:Ok l){n:Int}(T:0<n)(hf:findL l n=none): ∀p,¬Sq l p n:=by
 induction l with
 | nil=>intro p hp;exact Bq _ (hp p (by omega) (by omega))
 | cons q r ih=>
  simp only[findL]at hf;split at hf
  .cases hf
  .intro p hp;obtain⟨v,j,y,J⟩:=Xh h (by omega) hp;rcases List.mem_cons.1 j with rfl|j
   .omega
   .exact ih h.tail hf p λm K O=>⟨v,j,by omega,by omega⟩
section
variable{E:Env}(hE:EnvS E){w:World}{b:Nat}{G:N6}
include hE
end
def Pl(l:Nat->Iv)(x n:Int):Nat->Iv:=Sh.LL (Sh.LL (Sh.LL l 1 (EI (l 1) x (x+n))) 2 (EI (l 2) x (x+n))) 3 (EI (l 3) x (x+n))
def Wr(l:Nat->Iv)(c n:Int):Nat->Iv:=Sh.LL (Sh.LL (Sh.LL l 0 (D9 (l 0) (c*512) ((c+n)*512))) 1 (D9 (l 1) (c*512) ((c+n)*512))) 2 (D9 (l 2) (c*512) ((c+n)*512))
def N7(l:Nat->Iv)(i:Nat)(x n:Int):Nat->Iv:=Sh.LL (Sh.LL l 1 (D9 (l 1) x (x+n))) i (D9 (l i) x (x+n))
def MW(c n:Int):Prop:=n=0∨262144<n∨67108864<c∨67108864-c<n
section
variable{E:Env}{w:World}{Z:List Pr}{b:Nat}{l:Nat->Iv}
def pW(H:Sat Z w){K:Option Addr->World->Prop}(j: ∀w' b l,(∀i,l i=[])->Sat (G4 E b l::Z) w'->K (some ⟨b,0,none⟩) w'):F.II E K w:=
 lN λw' b G hm v=>j w' b G.l v (H.vN hm)
def lP(H:Sat (G4 E b l::Z) w){n:Int}(j:0<=n){K:Int->Bool->World->Prop}
  (v: ∀w',Sat (G4 E b l::Z) w'->K ((if n=0 then none else findL (l 1) n).getD 0) (if n=0 then none else findL (l 1) n).isSome w'):F.DJ E (some ⟨b,0,none⟩) n K w:=by
 obtain⟨G,y,rfl,st⟩:=H.tree;exact find_spec y j λw' he=>v w' (H.nothing he)
def WE(H:Sat (G4 E b l::Z) w){K:Int->World->Prop}(j:K (HE (l 2)) w):F.CH E (some ⟨b,0,none⟩) K w:=by
 obtain⟨G,v,rfl,st⟩:=H.tree;exact WD v j
variable(hE:EnvS E)
include hE
theorem lQ(H:Sat (G4 E b l::Z) w){c n:Int}(j:0<=c)(Y:c<18446744073709551616)(O:0<=n)(hn:n<18446744073709551616){K:Int->World->Prop}
  (v:MW c n->K 1 w)(y: ¬MW c n->cnt (l 0) (c*512) ((c+n)*512)≠0-> ∀w',Sat (G4 E b l::Z) w'->K 34 w')
  (J: ¬MW c n->cnt (l 0) (c*512) ((c+n)*512)=0-> ∀w',Sat (G4 E b (Wr l c n)::Z) w'->K 0 w'):F.Dv E (some ⟨b,0,none⟩) c n K w:=by
 obtain⟨G,T,rfl,st⟩:=H.tree;exact lM hE T j Y O hn v (λh1 h2 w' he=>y h1 h2 w' (H.nothing he)) λh1 h2 w' G' hs hl=>J h1 h2 w' (by have:=st _ _ hs;rw[hl]at this;exact this)
theorem lR(H:Sat (G4 E b l::Z) w){x n:Int}(J:0<=x)(hx:x<18446744073709551616)(y:0<=n)(Y:n<18446744073709551616){K:Int->Int->World->Prop}
  (j:Ax l x n true 32≠0-> ∀w',Sat (G4 E b l::Z) w'->K 0 (Ax l x n true 32) w')
  (v:Ax l x n true 32=0-> ∀w',Sat (G4 E b (Pl l x n)::Z) w'->K (cnt (l 2) x (x+n)) 0 w'):F.DK E (some ⟨b,0,none⟩) x n K w:=by
 obtain⟨G,O,rfl,st⟩:=H.tree;exact Wq hE O J hx y Y (λh1 w' he=>j h1 w' (H.nothing he)) λh1 w' G' hs T=>v h1 w' (by have:=st _ _ hs;rw[T]at this;exact this)
theorem eQ(H:Sat (G4 E b l::Z) w){n:Int}(J:0<=n)(Y:n<18446744073709551616){K:Int->Int->Int->World->Prop}
  (j:n=0->K 0 0 1 w)(v:n≠0->findL (l 1) n=none-> ∀w',Sat (G4 E b l::Z) w'->K 0 0 30 w')
  (y:n≠0-> ∀p,findL (l 1) n=some p-> ∀w',Sat (G4 E b (Pl l p n)::Z) w'->K p (cnt (l 2) p (p+n)) 0 w'):F.A8 E (some ⟨b,0,none⟩) n K w:=by
 obtain⟨G,O,rfl,st⟩:=H.tree;exact eP hE O J Y j (λh1 h2 w' he=>v h1 h2 w' (H.nothing he)) λh1 p hp w' G' hs T=>y h1 p hp w' (by have:=st _ _ hs;rw[T]at this;exact this)
theorem lS(H:Sat (G4 E b l::Z) w){x n:Int}(J:0<=x)(hx:x<18446744073709551616)(y:0<=n)(Y:n<18446744073709551616){K:Int->World->Prop}
  (j:Ax l x n false 31≠0-> ∀w',Sat (G4 E b l::Z) w'->K (Ax l x n false 31) w')
  (v:Ax l x n false 31=0-> ∀w',Sat (G4 E b (N7 l 3 x n)::Z) w'->K 0 w'):F.DH E (some ⟨b,0,none⟩) x n K w:=by
 obtain⟨G,O,rfl,st⟩:=H.tree;unfold F.DH T0.DH;simp only[AH,add_eq,Nat.zero_add];exact Us hE O (i:=3) (.inr rfl) J hx y Y (λh1 w' he=>j h1 w' (H.nothing he)) λh1 w' G' hs T=>v h1 w' (by have:=st _ _ hs;rw[T]at this;exact this)
theorem lT(H:Sat (G4 E b l::Z) w){x n:Int}(J:0<=x)(hx:x<18446744073709551616)(y:0<=n)(Y:n<18446744073709551616){K:Int->World->Prop}
  (j:Ax l x n false 31≠0-> ∀w',Sat (G4 E b l::Z) w'->K (Ax l x n false 31) w')
  (v:Ax l x n false 31=0-> ∀w',Sat (G4 E b (N7 l 2 x n)::Z) w'->K 0 w'):F.Dw E (some ⟨b,0,none⟩) x n K w:=by
 obtain⟨G,O,rfl,st⟩:=H.tree;unfold F.Dw T0.Dw;simp only[AH,add_eq,Nat.zero_add];exact Us hE O (i:=2) (.inl rfl) J hx y Y (λh1 w' he=>j h1 w' (H.nothing he)) λh1 w' G' hs T=>v h1 w' (by have:=st _ _ hs;rw[T]at this;exact this)
end
def cu(u:Int->Bool):Nat->Int
 | 0=>0
 | k+1=>cu u k+(if u k then 1 else 0)
def pX{u:Int->Bool}{l:Iv}{fr:Int}(h:Ok l){n:Nat}(hu: ∀k:Int,0<=k->k<n->(u k=true↔mem l (fr+k))):cu u n=cnt l fr (fr+n):=by
 induction n with
 | zero=>
  have:=DU l fr (fr+(0:Nat));have h2:=FO h (a:=fr) (b:=fr+((0:Nat):Int)) (by omega);show 0=_;omega
 | succ n ih=>
  have hs:=KM h (a:=fr) (k:=fr+n) (by omega);have e:fr+((n+1:Nat):Int)=fr+(n:Int)+1:=by omega
  rw[e];simp only[cu]
  grind
def pY(u:Int->Bool)(n:Nat):0<=cu u n/\cu u n<=n:=by
 induction n with
 | zero=>simp[cu]
 | succ n ih=>simp only[cu];omega
structure TV where
 LM:Int->Bool
 fr:Int->Bool
 rl:Int->Bool
def inr(x n p:Int):Bool:=decide (x<=p)&&decide (p<x+n)
def Ai{x n p:Int}:inr x n p=true↔x<=p/\p<x+n:=by simp[inr]
def Is{x n p:Int}:inr x n p=false↔ ¬(x<=p/\p<x+n):=by rw[<-Ai];grind
def MD(f:Int->Bool)(p n:Int):Prop:= ∀m,p<=m->m<p+n->f m=true
def TV.take(V:TV)(x n:Int):TV:=⟨V.LM,λp=>V.fr p&& !inr x n p,λp=>V.rl p&& !inr x n p⟩
def TV.LN(V:TV)(x n:Int):TV:=⟨V.LM,λp=>V.fr p||inr x n p,V.rl⟩
def TV.back(V:TV)(x n:Int):TV:=⟨V.LM,λp=>V.fr p||inr x n p,λp=>V.rl p||inr x n p⟩
def TV.grow(V:TV)(c n:Int):TV:=⟨λp=>V.LM p||inr (c*512) (n*512) p,λp=>V.fr p||inr (c*512) (n*512) p,λp=>V.rl p||inr (c*512) (n*512) p⟩
def TV.nil:TV:=⟨λ_=>false,λ_=>false,λ_=>false⟩
structure LV(l:Nat->Iv)(V:TV):Prop where
 i: ∀p,mem (l 0) p↔V.LM p=true
 f: ∀p,mem (l 1) p↔V.fr p=true
 r: ∀p,mem (l 2) p↔V.rl p=true
noncomputable def NT(f:Int->Bool):Int:= @dite Int (∃l,Ok l/\ ∀p,mem l p↔f p=true) (Classical.propDecidable _) (λh=>HE (Classical.choose h)) λ_=>0
def Zq{f:Int->Bool}{l:Iv}(h:Ok l)(v: ∀p,mem l p↔f p=true):NT f=HE l:=by
 have hex: ∃l,Ok l/\ ∀p,mem l p↔f p=true:=⟨l,h,v⟩;unfold NT;rw[dif_pos hex];have j:=Classical.choose_spec hex;rw[oO j.1 h λp=>(j.2 p).trans (v p).symm]
def cr(f:Int->Bool)(x n:Int):Int:=cu (λk=>f (x+k)) n.toNat
def eS{f:Int->Bool}{l:Iv}(h:Ok l)(j: ∀p,mem l p↔f p=true){x n:Int}(v:0<=n):cr f x n=cnt l x (x+n):=by
 unfold cr;rw[pX h (l:=l) (fr:=x) λk _ _=>(j (x+k)).symm]
 grind
def vO{f:Int->Bool}{x n:Int}(h: ∀m,x<=m->m<x+n->f m=false):cr f x n=0:=by
 unfold cr;have key: ∀k:Nat,(k:Int)<=n->cu (λk=>f (x+k)) k=0:=by
  intro k
  induction k with
  | zero=>intro _;rfl
  | succ k ih=>
   intro hk;simp only[cu]
   grind
 by_cases g:0<=n
 .grind
 .have:n.toNat=0:=by omega
  rw[this];rfl
def AA6(f:Int->Bool)(x:Int):cr f x 1=if f x then 1 else 0:=by
 show cu (λk=>f (x+k)) 1=_;simp[cu]
def AA7(f:Int->Bool)(x:Int){n:Int}(j:0<=n):0<=cr f x n/\cr f x n<=n:=by
 have:=pY (λk=>f (x+k)) n.toNat;unfold cr;omega
def By(E:Env)(b:Nat)(V:TV):Pr:=Ex λl:Nat->Iv=>Kk (LV l V) (G4 E b l)
structure Ut(V:TV):Prop where
 fi: ∀p,V.fr p=true->V.LM p=true
 rf: ∀p,V.rl p=true->V.fr p=true
 Kl: ∀p,V.LM p=true->0<=p/\p<34359738368
 ci: ∃l,Ok l/\ ∀p,mem l p↔V.LM p=true
 cf: ∃l,Ok l/\ ∀p,mem l p↔V.fr p=true
 cr: ∃l,Ok l/\ ∀p,mem l p↔V.rl p=true
def ID(V:TV)(x n:Int):Prop:=n≠0/\x+n<=34359738368/\MD V.LM x n
def TV.idle(V:TV)(p:Int):Bool:=V.fr p&& !V.rl p
section
variable{E:Env}{w:World}{Z:List Pr}{b:Nat}{V:TV}{l:Nat->Iv}
def Sat.Jt:Sat (By E b V::Z) w↔ ∃l,LV l V/\Sat (G4 E b l::Z) w:=by
 unfold By;rw[Sat.ex];constructor
 .rintro⟨l,h⟩;exact⟨l,Sat.where.1 h⟩
 .rintro⟨l,h⟩;exact⟨l,Sat.where.2 h⟩
def LV.ok(h:LV l V)(H:Sat (G4 E b l::Z) w):Ut V:=by
 obtain⟨j,Au⟩:=H.MV;exact⟨λp hp=>(h.i p).1 (j.free p ((h.f p).2 hp)),λp hp=>(h.f p).1 (j.rel p ((h.r p).2 hp)),λp hp=>⟨Qk (Au 0 (by decide)) ((h.i p).2 hp),j.top p ((h.i p).2 hp)⟩,
  ⟨l 0,Au 0 (by decide),h.i⟩,⟨l 1,Au 1 (by decide),h.f⟩,⟨l 2,Au 2 (by decide),h.r⟩⟩
def Sat.tvok(H:Sat (By E b V::Z) w):Ut V:=by
 obtain⟨l,h,H⟩:=Sat.Jt.1 H;exact h.ok H
def I9(h:LV l V){p n:Int}:Sq (l 1) p n↔MD V.fr p n:=by
 constructor
 .intro j m a c;exact(h.f m).1 (j m a c)
 .intro j m a c;exact(h.f m).2 (j m a c)
def Uu(h:LV l V)(Au: ∀i,i<4->Ok (l i)){x n:Int}(hx:0<=x)(hn:0<=n)(free:Bool){e:Int}(he:e≠0):
  (¬ID V x n->Ax l x n free e=10)/\(ID V x n->free=true-> ¬MD V.fr x n->Ax l x n free e=e)/\(ID V x n->free=true->MD V.fr x n->Ax l x n free e=0)/\
  (ID V x n->free=false->(∃m,x<=m/\m<x+n/\V.fr m=true)->Ax l x n free e=e)/\(ID V x n->free=false->(∀m,x<=m->m<x+n->V.fr m=false)->Ax l x n free e=0):=by
 have K:=FI (Au 0 (by decide)) (a:=x) (b:=x+n) (by omega);have O:=FI (Au 1 (by decide)) (a:=x) (b:=x+n) (by omega);have T:=Di (Au 1 (by decide)) (a:=x) (b:=x+n) (by omega);have y: ∀{m:Int},MD V.LM x n↔ ∀p,x<=p->p<x+n->mem (l 0) p:=λ{_}=>⟨λj p a c=>(h.i p).2 (j p a c),λj p a c=>(h.i p).1 (j p a c)⟩;have v:ID V x n-> ¬(n=0∨34359738368<=x∨34359738368-x<n∨cnt (l 0) x (x+n)≠n):=λ⟨h1,h2,h3⟩ hb=>by
  have:=K.2 ((y (m:=0)).1 h3);omega
 refine⟨λY=> ?_,λJ hf j=> ?_,λJ hf j=> ?_,λJ hf j=> ?_,λJ hf j=> ?_⟩
 .unfold Ax;rw[if_pos];refine Classical.byContradiction λhb=>Y ⟨λe=>hb (.inl e),?_,?_⟩
  .omega
  .refine(y (m:=0)).2 (K.1 ?_);omega
 .unfold Ax;rw[if_neg (v J),if_pos];rw[hf,if_pos rfl];intro e0;exact j λm a c=>(h.f m).1 (O.1 (by omega) m a c)
 .unfold Ax;rw[if_neg (v J),if_neg];rw[hf,if_pos rfl,Decidable.not_not];have:=O.2 λm a c=>(h.f m).2 (j m a c);omega
 .unfold Ax;rw[if_neg (v J),if_pos];rw[hf,if_neg (by decide)];intro e0;obtain⟨m,a,c,hm⟩:=j;exact T.1 e0 m a c ((h.f m).2 hm)
 .unfold Ax;rw[if_neg (v J),if_neg];rw[hf,if_neg (by decide),Decidable.not_not];refine T.2 λm a c hm=> ?_;have:=(h.f m).1 hm
  grind
def LV.Pl(h:LV l V){x n:Int}(j:0<n):LV (Sh.Pl l x n) (V.take x n):=by
 refine⟨h.i,λp=> ?_,λp=> ?_⟩
 .show mem (EI (l 1) x (x+n)) p↔(V.fr p&& !inr x n p)=true;rw[FH (by omega),h.f,<-Ai];grind
 .show mem (EI (l 2) x (x+n)) p↔(V.rl p&& !inr x n p)=true;rw[FH (by omega),h.r,<-Ai];grind
def LV.N7(h:LV l V)(Au: ∀i,i<4->Ok (l i)){x n:Int}(j:0<=x)(y:0<n)(v:x+n<=34359738368):LV (Sh.N7 l 3 x n) (V.LN x n)/\LV (Sh.N7 l 2 x n) (V.back x n):=by
 have a1:=Eo (Au 1 (by decide)) (a:=x) (b:=x+n) (by omega) j (by omega);have a2:=Eo (Au 2 (by decide)) (a:=x) (b:=x+n) (by omega) j (by omega);refine⟨⟨h.i,λp=> ?_,h.r⟩,⟨h.i,λp=> ?_,λp=> ?_⟩⟩
 .show mem (D9 (l 1) x (x+n)) p↔(V.fr p||inr x n p)=true;rw[a1,h.f,<-Ai,Bool.or_eq_true]
 .show mem (D9 (l 1) x (x+n)) p↔(V.fr p||inr x n p)=true;rw[a1,h.f,<-Ai,Bool.or_eq_true]
 .show mem (D9 (l 2) x (x+n)) p↔(V.rl p||inr x n p)=true;rw[a2,h.r,<-Ai,Bool.or_eq_true]
def LV.Wr(h:LV l V)(Au: ∀i,i<4->Ok (l i)){c n:Int}(v:0<=c)(y:0<n)(j:c+n<=67108864):LV (Sh.Wr l c n) (V.grow c n):=by
 have e:(c+n)*512=c*512+n*512:=by omega
 have a0:=Eo (Au 0 (by decide)) (a:=c*512) (b:=c*512+n*512) (by omega) (by omega) (by omega);have a1:=Eo (Au 1 (by decide)) (a:=c*512) (b:=c*512+n*512) (by omega) (by omega) (by omega);have a2:=Eo (Au 2 (by decide)) (a:=c*512) (b:=c*512+n*512) (by omega) (by omega) (by omega);refine⟨λp=> ?_,λp=> ?_,λp=> ?_⟩
 .show mem (D9 (l 0) (c*512) ((c+n)*512)) p↔(V.LM p||inr (c*512) (n*512) p)=true;rw[e,a0,h.i,<-Ai,Bool.or_eq_true]
 .show mem (D9 (l 1) (c*512) ((c+n)*512)) p↔(V.fr p||inr (c*512) (n*512) p)=true;rw[e,a1,h.f,<-Ai,Bool.or_eq_true]
 .show mem (D9 (l 2) (c*512) ((c+n)*512)) p↔(V.rl p||inr (c*512) (n*512) p)=true;rw[e,a2,h.r,<-Ai,Bool.or_eq_true]
def pZ(H:Sat Z w){K:Option Addr->World->Prop}(v: ∀w' b,Sat (By E b TV.nil::Z) w'->K (some ⟨b,0,none⟩) w'):F.II E K w:=
 pW H λw' b l y j=>v w' b (Sat.Jt.2 ⟨l,by
  have nm: ∀i p,¬mem (l i) p:=λi p=>by rw[y];exact Bq p
  exact⟨λp=>⟨λh=>absurd h (nm 0 p),λh=>(by cases h)⟩,λp=>⟨λh=>absurd h (nm 1 p),λh=>(by cases h)⟩,λp=>⟨λh=>absurd h (nm 2 p),λh=>(by cases h)⟩⟩,j⟩)
def HK(V:TV)(n p:Int):Prop:=0<=p/\p+n<=34359738368/\MD V.fr p n/\ ∀j,MD V.fr j n->p<=j
def QF(h:LV l V)(H:Sat (G4 E b l::Z) w){n:Int}(J:0<n):(findL (l 1) n=none/\ ∀p,¬MD V.fr p n)∨ ∃p,findL (l 1) n=some p/\HK V n p:=by
 obtain⟨O,Au⟩:=H.MV;have v:=h.ok H;cases hf:findL (l 1) n with
 | none=>exact .inl ⟨rfl,λp hp=>Nc (Au 1 (by decide)) J hf p ((I9 h).2 hp)⟩
 | some p=>
  obtain⟨h1,h2⟩:=L2 (Au 1 (by decide)) J hf;have j:=(I9 h).1 h1;have b1:=v.Kl p (v.fi p (j p (Int.le_refl _) (by omega)));have b2:=v.Kl (p+n-1) (v.fi _ (j (p+n-1) (by omega) (by omega)));exact .inr ⟨p,rfl,b1.1,by omega,j,λK y=>h2 K ((I9 h).2 y)⟩
def lU(H:Sat (By E b V::Z) w){n:Int}(j:0<=n){K:Int->Bool->World->Prop}
  (y:n=0∨(∀p,¬MD V.fr p n)-> ∀w',Sat (By E b V::Z) w'->K 0 false w')(J:n≠0-> ∀p,HK V n p-> ∀w',Sat (By E b V::Z) w'->K p true w'):F.DJ E (some ⟨b,0,none⟩) n K w:=by
 obtain⟨l,h,H⟩:=Sat.Jt.1 H;refine lP H j λw' v=> ?_;have O:=Sat.Jt.2 ⟨l,h,v⟩;by_cases e:n=0
 .grind
 .rw[if_neg e];rcases QF h H (n:=n) (by omega)with ⟨h1,h2⟩|⟨p,h1,h2⟩
  .grind
  grind
def WG(H:Sat (By E b V::Z) w){K:Int->World->Prop}(j:K (NT V.rl) w):F.CH E (some ⟨b,0,none⟩) K w:=by
 obtain⟨l,h,H⟩:=Sat.Jt.1 H;rw[Zq (H.MV.2 2 (by decide)) h.r]at j;exact WE H j
variable(hE:EnvS E)
include hE
theorem lV(H:Sat (By E b V::Z) w){c n:Int}(v:0<=c)(hc:c<18446744073709551616)(aA:0<=n)(hn:n<18446744073709551616){K:Int->World->Prop}
  (O:MW c n->K 1 w)(T: ¬MW c n->(∃p,c*512<=p/\p<(c+n)*512/\V.LM p=true)-> ∀w',Sat (By E b V::Z) w'->K 34 w')
  (Y: ¬MW c n->(∀p,c*512<=p->p<(c+n)*512->V.LM p=false)-> ∀w',Sat (By E b (V.grow c n)::Z) w'->K 0 w'):F.Dv E (some ⟨b,0,none⟩) c n K w:=by
 obtain⟨l,h,H⟩:=Sat.Jt.1 H;have Au:=H.MV.2;refine lQ hE H v hc aA hn O (λy j w' J=>T y ?_ w' (Sat.Jt.2 ⟨l,h,J⟩)) λy j w' J=>Y y (λp h1 h2=> ?_) w' (Sat.Jt.2 ⟨_,?_,J⟩)
 .refine Classical.byContradiction λaB=>j ((Di (Au 0 (by decide)) (by omega)).2 λp h1 h2 hm=>aB ⟨p,h1,h2,(h.i p).1 hm⟩)
 .have:=(Di (Au 0 (by decide)) (by omega)).1 j p h1 h2;rw[h.i]at this
  grind
 .unfold MW at y;exact h.Wr Au v (by omega) (by omega)
theorem lX(H:Sat (By E b V::Z) w){x n:Int}(v:0<=x)(hx:x<18446744073709551616)(j:0<=n)(hn:n<18446744073709551616){K:Int->Int->World->Prop}
  (T: ¬ID V x n-> ∀w',Sat (By E b V::Z) w'->K 0 10 w')(Y:ID V x n-> ¬MD V.fr x n-> ∀w',Sat (By E b V::Z) w'->K 0 32 w')
  (J:ID V x n->MD V.fr x n-> ∀w',Sat (By E b (V.take x n)::Z) w'->K (cr V.rl x n) 0 w'):F.DK E (some ⟨b,0,none⟩) x n K w:=by
 obtain⟨l,h,H⟩:=Sat.Jt.1 H;have Au:=H.MV.2;obtain⟨l1,l2,l3,_,_⟩:=Uu h Au v j true (e:=32) (by decide);refine lR hE H v hx j hn (λO w' y=> ?_) λO w' y=> ?_
 .have HV:=Sat.Jt.2 ⟨l,h,y⟩;by_cases g:ID V x n
  .grind
  grind
 .have g:ID V x n:=Classical.byContradiction λg=>by grind
  have g2:MD V.fr x n:=Classical.byContradiction λg2=>by grind
  rw[<-eS (Au 2 (by decide)) h.r j];have:=g.1;exact J g g2 w' (Sat.Jt.2 ⟨_,h.Pl (by omega),y⟩)
theorem Uv(H:Sat (By E b V::Z) w){n:Int}(j:0<=n)(T:n<18446744073709551616){K:Int->Int->Int->World->Prop}
  (y:n=0->K 0 0 1 w)(J:n≠0->(∀p,¬MD V.fr p n)-> ∀w',Sat (By E b V::Z) w'->K 0 0 30 w')
  (O:n≠0-> ∀p,HK V n p-> ∀w',Sat (By E b (V.take p n)::Z) w'->K p (cr V.rl p n) 0 w'):F.A8 E (some ⟨b,0,none⟩) n K w:=by
 obtain⟨l,h,H⟩:=Sat.Jt.1 H;have Au:=H.MV.2;refine eQ hE H j T y (λh1 hf w' v=> ?_) λh1 p hf w' v=> ?_
 .rcases QF h H (n:=n) (by omega)with ⟨_,g2⟩|⟨p,g1,g2⟩
  .exact J h1 g2 w' (Sat.Jt.2 ⟨l,h,v⟩)
  .rw[hf]at g1;cases g1
 .rcases QF h H (n:=n) (by omega)with ⟨g1,_⟩|⟨p',g1,g2⟩
  .rw[hf]at g1;cases g1
  .rw[hf]at g1;cases g1;rw[<-eS (Au 2 (by decide)) h.r j];exact O h1 p g2 w' (Sat.Jt.2 ⟨_,h.Pl (by omega),v⟩)
theorem Ws(H:Sat (By E b V::Z) w){x n:Int}(j:0<=x)(hx:x<18446744073709551616)(v:0<=n)(hn:n<18446744073709551616){K:Int->World->Prop}
  (T: ¬ID V x n-> ∀w',Sat (By E b V::Z) w'->K 10 w')(Y:ID V x n->(∃m,x<=m/\m<x+n/\V.fr m=true)-> ∀w',Sat (By E b V::Z) w'->K 31 w')
  (O:ID V x n->(∀m,x<=m->m<x+n->V.fr m=false)-> ∀w',Sat (By E b (V.LN x n)::Z) w'->K 0 w'):F.DH E (some ⟨b,0,none⟩) x n K w:=by
 obtain⟨l,h,H⟩:=Sat.Jt.1 H;have Au:=H.MV.2;obtain⟨l1,_,_,l4,l5⟩:=Uu h Au j v false (e:=31) (by decide);have em: ∀(P:Prop),P∨ ¬P:=Classical.em;refine lS hE H j hx v hn (λJ w' y=> ?_) λJ w' y=> ?_
 .have HV:=Sat.Jt.2 ⟨l,h,y⟩;by_cases g:ID V x n
  .rcases em (∃m,x<=m/\m<x+n/\V.fr m=true)with g2|g2
   .grind
   grind
  grind
 .have g:ID V x n:=Classical.byContradiction λg=>by grind
  have g2: ∀m,x<=m->m<x+n->V.fr m=false:=λm a c=>by
   cases e:V.fr m with
   | false=>rfl
   | true=>rw[l4 g rfl ⟨m,a,c,e⟩]at J;cases J
  have g1:=g.1;exact O g g2 w' (Sat.Jt.2 ⟨_,(h.N7 Au j (by omega) g.2.1).1,y⟩)
theorem lY(H:Sat (By E b V::Z) w){x n:Int}(j:0<=x)(hx:x<18446744073709551616)(v:0<=n)(hn:n<18446744073709551616){K:Int->World->Prop}
  (T: ¬ID V x n-> ∀w',Sat (By E b V::Z) w'->K 10 w')(Y:ID V x n->(∃m,x<=m/\m<x+n/\V.fr m=true)-> ∀w',Sat (By E b V::Z) w'->K 31 w')
  (O:ID V x n->(∀m,x<=m->m<x+n->V.fr m=false)-> ∀w',Sat (By E b (V.back x n)::Z) w'->K 0 w'):F.Dw E (some ⟨b,0,none⟩) x n K w:=by
 obtain⟨l,h,H⟩:=Sat.Jt.1 H;have Au:=H.MV.2;obtain⟨l1,_,_,l4,l5⟩:=Uu h Au j v false (e:=31) (by decide);have em: ∀(P:Prop),P∨ ¬P:=Classical.em;refine lT hE H j hx v hn (λJ w' y=> ?_) λJ w' y=> ?_
 .have HV:=Sat.Jt.2 ⟨l,h,y⟩;by_cases g:ID V x n
  .rcases em (∃m,x<=m/\m<x+n/\V.fr m=true)with g2|g2
   .grind
   grind
  grind
 .have g:ID V x n:=Classical.byContradiction λg=>by grind
  have g2: ∀m,x<=m->m<x+n->V.fr m=false:=λm a c=>by
   cases e:V.fr m with
   | false=>rfl
   | true=>rw[l4 g rfl ⟨m,a,c,e⟩]at J;cases J
  have g1:=g.1;exact O g g2 w' (Sat.Jt.2 ⟨_,(h.N7 Au j (by omega) g.2.1).2,y⟩)
end
def bkN{a b:Nat}(j:a<18446744073709551616)(v:b<18446744073709551616):GC .u64 0 (a:Int) (b:Int)=((a&&&b:Nat):Int):=by
 show IntKind.wrap .u64 ((BitVec.ofInt 64 (a:Int)&&&BitVec.ofInt 64 (b:Int)).toNat:Int)=_;rw[BitVec.toNat_and,BitVec.ofInt_natCast,BitVec.ofInt_natCast,BitVec.toNat_ofNat,BitVec.toNat_ofNat,Nat.mod_eq_of_lt j,Nat.mod_eq_of_lt v];exact Wn (Nat.lt_of_le_of_lt Nat.and_le_left j)
def fdN(a k:Nat)(hk:k<=64):Int.fdiv (a:Int) (2^(min (Int.toNat (k:Int)) (IntKind.bits .u64)))=((a/2^k:Nat):Int):=by
 have j:IntKind.bits .u64=64:=rfl
 grind
section
variable{E:Env}{w:World}{Z:List Pr}
def SF{u:Nat->Bool}(hT:Em E.AG w){K:Int->World->Prop}(J:(∀i,i<64->u i=false)->K 64 w)
  (O: ∀r:Nat,r<64->u r=true->(∀i,i<r->u i=false)->K r w):F.Bm E (W u) K w:=by
 unfold F.Bm;refine BI (λe=>J (Gn.1 e)) λT=> ?_;have Y:wN u 64≠0:=λe=>T (by unfold W;rw[e];rfl);have j:=N5 u 64;obtain⟨h1,h2⟩:=Lib.lowest_bit 64 _ Y j;obtain⟨c1,c2,c3⟩:=uA Y j;have hand:GC .u64 0 (W u) (u64 (0-W u))=((2^Lib.ctz 64 (wN u 64):Nat):Int):=by
  have:=o5 Y j;rw[h1]at this;exact this
 rw[hand];generalize Lib.ctz 64 (wN u 64)=k at h2 c1 c2 c3;obtain⟨d1,d2⟩:=Lib.deBruijn64_at k c1;have e1:u64 (((2^k:Nat):Int)*285870213051353865)=((2^k*285870213051353865 %18446744073709551616:Nat):Int):=by
  rw[Qh,Int.natCast_emod,Int.natCast_mul];rfl
 rw[e1];have e2:=fdN (2^k*285870213051353865 %18446744073709551616) 58 (by decide);have y:(2:Nat)^58=288230376151711744:=by decide
 rw[y]at e2;have v:Int.fdiv ((2^k*285870213051353865 %18446744073709551616:Nat):Int) (2^(min (Int.toNat 58) (IntKind.bits .u64)))=((2^k*285870213051353865 %18446744073709551616/288230376151711744:Nat):Int):=e2;rw[v];generalize 2^k*285870213051353865 %18446744073709551616/288230376151711744=idx at d1 d2;have Ch:=hT idx d1;rw[d2]at Ch;refine⟨by decide,⟨by omega,by omega⟩,(k:Int),?_,?_⟩
 .rw[Int.toNat_natCast,Nat.mul_one,add_eq,Nat.zero_add];exact Ch
 .rw[AM];refine O k c1 ?_ λi hi=> ?_
  .have:=c2;rw[EK]at this;grind
  .have:=c3 i hi;rw[EK]at this
   grind
def Zr{u:Nat->Bool}(hu: ∀i,64<=i->u i=false){K:Int->World->Prop}(hK:K (cN u 64) w):F.Gg E (W u) K w:=by
 unfold F.Gg;have v:wN u 64<18446744073709551616:=N5 u 64;have f: ∀(a k d:Nat) (k':Int),k'=(k:Int)->k<=64->2^k=d->Int.fdiv (a:Int) (2^(min (Int.toNat k') (IntKind.bits .u64)))=((a/d:Nat):Int):=λa k d k' e h hd=>by rw[e,<-hd];exact fdN a k h
 have y: ∀{a:Nat},a<18446744073709551616->u64 (a:Int)=(a:Int):=λh=>AI;have half: ∀(a d:Nat),a<18446744073709551616->a/d<18446744073709551616:=λa d h=>Nat.lt_of_le_of_lt (Nat.div_le_self _ _) h;refine⟨by decide,Am λx1 T=>⟨by decide,Am λx2 Y=>⟨by decide,Am λx3 aA=>⟨by decide,Am λx4 aB=>⟨by decide,Am λx5 aC=>⟨by decide,Am λx6 aD=>Am λt ht=> ?_⟩⟩⟩⟩⟩⟩;have m1:(6148914691236517205:Int)=((6148914691236517205:Nat):Int):=rfl;have m2:(3689348814741910323:Int)=((3689348814741910323:Nat):Int):=rfl;have m3:(1085102592571150095:Int)=((1085102592571150095:Nat):Int):=rfl;have ew:W u=((wN u 64:Nat):Int):=rfl;obtain⟨J,h0⟩: ∃J,J=wN u 64:=⟨_,rfl⟩;obtain⟨O,h1⟩: ∃O,O=(J/2&&&6148914691236517205)+(J&&&6148914691236517205):=⟨_,rfl⟩;obtain⟨y2,h2⟩: ∃y2,y2=(O/4&&&3689348814741910323)+(O&&&3689348814741910323):=⟨_,rfl⟩;obtain⟨y3,h3⟩: ∃y3,y3=(y2/16+y2)&&&1085102592571150095:=⟨_,rfl⟩;obtain⟨y4,h4⟩: ∃y4,y4=y3+y3/256:=⟨_,rfl⟩;obtain⟨y5,h5⟩: ∃y5,y5=y4+y4/65536:=⟨_,rfl⟩;obtain⟨j,h6⟩: ∃j,j=y5+y5/4294967296:=⟨_,rfl⟩;obtain⟨l1,l2,l3,l4,l5,l6,l7⟩:=swar hu h0 h1 h2 h3 h4 h5 h6;rw[<-h0]at v ew;rw[ew,f J 1 2 1 rfl (by decide) rfl,m1,bkN (half J 2 v) (by decide),bkN v (by decide),<-Int.natCast_add,<-h1,y l1]at T;subst T;rw[f O 2 4 2 rfl (by decide) rfl,m2,bkN (half O 4 l1) (by decide),bkN l1 (by decide),<-Int.natCast_add,<-h2,y l2]at Y;subst Y;rw[f y2 4 16 4 rfl (by decide) rfl,<-Int.natCast_add,y l3,m3,bkN l3 (by decide),<-h3]at aA;subst aA;rw[f y3 8 256 8 rfl (by decide) rfl,<-Int.natCast_add,<-h4,y l4]at aB;subst aB;rw[f y4 16 65536 16 rfl (by decide) rfl,<-Int.natCast_add,<-h5,y l5]at aC;subst aC;rw[f y5 32 4294967296 32 rfl (by decide) rfl,<-Int.natCast_add,<-h6,y (Nat.lt_trans l6 (by decide))]at aD;subst aD;rw[AM]at ht;have e:GC .i64 0 (j:Int) 127=((j %128:Nat):Int):=by
  show IntKind.wrap .i64 ((BitVec.ofInt 64 (j:Int)&&&BitVec.ofInt 64 ((127:Nat):Int)).toNat:Int)=_;rw[BitVec.toNat_and,BitVec.ofInt_natCast,BitVec.ofInt_natCast,BitVec.toNat_ofNat,BitVec.toNat_ofNat,Nat.mod_eq_of_lt (show j<2^64 from Nat.lt_trans l6 (by decide)),Nat.mod_eq_of_lt (by decide)];have:j&&&127=j %128:=Nat.and_two_pow_sub_one_eq_mod j 7;rw[this];exact AM
 rw[e,l7]at ht
 grind
def KZ(u:Nat->Bool)(i n:Nat):Prop:= ∀k,k<n->u (i+k)=true
def eT{u:Nat->Bool}(hu: ∀i,64<=i->u i=false)(hT:Em E.AG w){n:Int}(h1:1<=n)(h2:n<=64){K:Int->Bool->World->Prop}
  (aJ:(∀i,¬KZ u i n.toNat)-> ∀r,K r false w)(aC: ∀i,KZ u i n.toNat->(∀j,KZ u j n.toNat->i<=j)->i+n.toNat<=64->K i true w):F.HZ E (W u) n K w:=by
 unfold F.HZ T0.HZ;refine AJ (λst w'=>w'=w/\ ∃v:Nat->Bool,st.1=W v/\(∀i,64<=i->v i=false)/\0<=st.2.2.1/\st.2.2.1<64/\st.2.1=st.2.2.1+1/\ ∀i,KZ v i (st.2.2.1.toNat+1)↔KZ u i n.toNat) (λst _=>st.2.2.1.toNat)
  ⟨rfl,u,rfl,hu,?_,?_,?_,λi=> ?_⟩ ?_
 .show 0<=i64 (n-1);rw[AM];omega
 .show i64 (n-1)<64;rw[AM];omega
 .show n=i64 (n-1)+1;rw[AM];omega
 .show KZ u i ((i64 (n-1)).toNat+1)↔_;rw[AM,show(n-1).toNat+1=n.toNat by omega]
 rintro⟨x,m,left,c⟩ _ w2 ⟨rfl,v,hx,hv,l0,l1,hm,y⟩;dsimp only at hx l0 l1 hm y⊢;subst hx;subst hm;refine AB (λaF=>⟨by decide,Am λNJ aB=> ?_⟩) λhz=> ?_
 .rw[Int.tdiv_eq_ediv_of_nonneg (by omega),AM,Xf,Tk]at aB;have b0:1<=NJ/\NJ<=left/\2*NJ<=left+1:=by omega
  refine⟨by omega,Am λx' aA=> ?_⟩;rw[oY v (by omega) (by omega),oW]at aA;rw[AM (n:=left+1-NJ),AM (n:=left-NJ)];refine⟨⟨by trivial,_,aA,λi hi=>by grind,by omega,by omega,by omega,λi=> ?_⟩,by omega⟩;rw[<-y];have O: ∀j,(v j&&(decide (j+NJ.toNat<64)&&v (j+NJ.toNat)))=true↔v j=true/\v (j+NJ.toNat)=true:=λj=>by grind
  constructor
  .intro h k hk;by_cases g:k<(left-NJ).toNat+1
   .exact((O _).1 (h k g)).1
   .have:=((O _).1 (h (k-NJ.toNat) (by omega))).2;rwa[show i+(k-NJ.toNat)+NJ.toNat=i+k by omega]at this
  .intro h k hk;refine(O _).2 ⟨h k (by omega),?_⟩;have:=h (k+NJ.toNat) (by omega)
   grind
 .have e:left=0:=by omega
  subst e;have J: ∀i,v i=true↔KZ u i n.toNat:=λi=>by
   rw[<-y];constructor
   .intro h k hk;have:k=0:=by omega
    subst this;exact h
   .intro h;exact h 0 (by decide)
  refine SF hT (λaD=> ?_) λr hr T aE=> ?_
  .have e0:W v=0:=Gn.2 aD
   grind
  .have aK:W v≠0:=λe=>by rw[Gn.1 e r hr]at T;cases T
   have e1:(W v !=0)=true:=by grind
   rw[e1];have Y:=(J r).1 T;refine aC r Y (λj hj=> ?_) ?_
   .refine Classical.byContradiction λg=> ?_
    grind
   .refine Classical.byContradiction λg=> ?_;have h3:=Y (n.toNat-1) (by omega)
    grind
structure CS where
 base:Int
 has:Nat->Bool
 rel:Nat->Bool
structure Q3(S:CS):Prop where
 b0:0<=S.base
 b1:S.base<34359738368
 b64:S.base %64=0
 hz: ∀i,64<=i->S.has i=false
 rh: ∀i,S.rel i=true->S.has i=true
def CS.nil:CS:=⟨0,λ_=>false,λ_=>false⟩
def CS.empty(S:CS):Prop:= ∀i,S.has i=false
def BY(E:Env)(c:Nat)(S:CS):Pr:=Kk (Q3 S) (Cells c E.GW [.int .u64 S.base,.int .u64 (W S.has),.int .u64 (W S.rel)])
def Q3.nil:Q3 CS.nil:=⟨by decide,by decide,by decide,λ_ _=>rfl,λ_ h=>h⟩
def Sat.cache{c:Nat}{S:CS}:Sat (BY E c S::Z) w↔Q3 S/\Sat (Cells c E.GW [.int .u64 S.base,.int .u64 (W S.has),.int .u64 (W S.rel)]::Z) w:=Sat.where
def lZ(H:Sat Z w){K:Option Addr->World->Prop}(y: ∀w' c,Sat (BY E c CS.nil::Z) w'->K (some ⟨c,0,none⟩) w'):F.NX E K w:=by
 unfold F.NX;refine AQ H λc w' j _=>y w' c (Sat.cache.2 ⟨Q3.nil,?_⟩);have e:W CS.nil.has=0:=Xn;have v:W CS.nil.rel=0:=Xn;rw[e,v];exact j
variable{c t:Nat}{S:CS}{V:TV}
def Q3.emp(h:Q3 S):W S.has=0↔S.empty:=by
 rw[Gn];constructor
 .intro g i;by_cases e:i<64
  .exact g i e
  .exact h.hz i (by omega)
 .intro g i _;exact g i
def MX(H:Sat (BY E c S::Z) w){K:Bool->World->Prop}(v:S.empty->K true w)(j: ¬S.empty->K false w):F.FQ E (some ⟨c,0,none⟩) K w:=by
 obtain⟨hI,H⟩:=Sat.cache.1 H;unfold F.FQ;simp only[AH];refine⟨_,H.cell rfl,?_⟩;by_cases g:W S.has=0
 .rw[show(W S.has==0)=true by grind];exact v (hI.emp.1 g)
 .rw[show(W S.has==0)=false by grind];exact j λh=>g (hI.emp.2 h)
def eU(H:Sat (BY E c S::Z) w){K:Int->Int->Int->World->Prop}(v:S.empty->K 0 0 0 w)(y: ¬S.empty-> ∀w',Sat (BY E c S::Z) w'->K S.base (W S.has) (W S.rel) w'):F.Dc E (some ⟨c,0,none⟩) K w:=by
 unfold F.Dc T0.Dc;refine MX H (λh=>AS rfl (v h)) λh=>AO rfl ?_;have J:=H.drew;obtain⟨hI,j⟩:=Sat.cache.1 J;simp only[AH];exact⟨_,j.Aa rfl,_,j.cell rfl,_,j.cell rfl,y h _ J⟩
def CS.alloc(S:CS)(i n:Nat):CS:=⟨S.base,λk=>S.has k&& !(decide (i<=k)&&decide (k<i+n)),λk=>S.rel k&& !(decide (i<=k)&&decide (k<i+n))⟩
def l8{n:Int}(h1:1<=n)(h2:n<=64){i:Nat}(j:i+n.toNat<=64):
  u64 ((Int.fdiv 18446744073709551615 (2^(min (Int.toNat (i64 (64-n))) (IntKind.bits .u64))))*2^(min (Int.toNat (i:Int)) (IntKind.bits .u64)))=W λk=>decide (i<=k)&&decide (k<i+n.toNat):=by
 rw[AM (n:=64-n),<-Xo,oY _ (by omega) (by omega),oZ _ (by omega) (by omega)]
 grind
def qA{u v:Nat->Bool}{n:Nat}(h: ∀i,i<n->u i=v i):cN u n=cN v n:=by
 induction n with
 | zero=>rfl
 | succ n ih=>simp only[cN];grind
def Zs(hT:Em E.AG w)(H:Sat (BY E c S::Z) w){n:Int}(aF: -9223372036854775808<=n)(aG:n<9223372036854775808){K:Int->Int->Int->World->Prop}
  (O:n<1∨64<n->K 0 0 1 w)(Y:1<=n->n<=64->(∀i,¬KZ S.has i n.toNat)->K 0 0 30 w)
  (aA:1<=n->n<=64-> ∀i,KZ S.has i n.toNat->(∀j,KZ S.has j n.toNat->i<=j)->i+n.toNat<=64-> ∀w',Sat (BY E c (S.alloc i n.toNat)::Z) w'->
   K (S.base+i) (cN (λk=>S.rel k&&(decide (i<=k)&&decide (k<i+n.toNat))) 64) 0 w'):F.DD E (some ⟨c,0,none⟩) n K w:=by
 obtain⟨hI,H⟩:=Sat.cache.1 H;unfold F.DD T0.DD;refine AU (AB (λh j=>AS rfl (O (.inl h))) λg1 j=>AB (λh=>O (.inr h)) λg2=> ?_);simp only[AH];refine⟨_,H.cell rfl,eT hI.hz hT (by omega) (by omega) (λaB r=>AS rfl (Y (by omega) (by omega) aB)) λi hr T J=>AO rfl ⟨?_,by omega,Am λmask hm=> ?_⟩⟩
 .rw[AM (n:=64-n)];omega
 rw[l8 (by omega) (by omega) J]at hm;subst hm;refine⟨_,H.cell rfl,?_⟩;rw[oW];refine Zr (λk hk=> ?_) ?_
 .grind
 refine⟨_,H.cell rfl,AV H rfl (by simp) λaI v=> ?_⟩;simp only[List.set,Nat.zero_add]at v;rw[Og]at v;refine⟨_,v.cell rfl,AV v rfl (by simp) λaC y=> ?_⟩;simp only[List.set,Nat.zero_add]at y;rw[Og]at y;refine⟨_,y.Aa rfl,?_⟩;have hb:=hI.b0;have aE:=hI.b1;rw[AI (n:=(i:Int)),AI (n:=S.base+(i:Int))];refine aA (by omega) (by omega) i hr T J aC (Sat.cache.2 ⟨⟨hI.b0,hI.b1,hI.b64,λk hk=> ?_,λk hk=> ?_⟩,y⟩)
 .show(S.has k&&_)=false;rw[hI.hz k hk];rfl
 .have hk:(S.rel k&& !(decide (i<=k)&&decide (k<i+n.toNat)))=true:=hk;show(S.has k&& !(decide (i<=k)&&decide (k<i+n.toNat)))=true;rw[Bool.and_eq_true]at hk⊢;exact⟨hI.rh k hk.1,hk.2⟩
variable(hE:EnvS E)
include hE
theorem eV(H:Sat (BY E c S::By E t V::Z) w){K:Int->World->Prop}
  (aI: ¬S.empty-> ∀w',Sat (BY E c S::By E t V::Z) w'->K 33 w')(aS:S.empty->(∀p,V.fr p=false)-> ∀w',Sat (BY E c S::By E t V::Z) w'->K 30 w')
  (aT:S.empty-> ∀p,HK V 1 p-> ∀w',Sat (BY E c ⟨p/64*64,λi=>decide (i<64)&&V.fr (p/64*64+i),λi=>decide (i<64)&&V.rl (p/64*64+i)⟩::By E t (V.take (p/64*64) 64)::Z) w'->K 0 w'):
  F.EH E (some ⟨c,0,none⟩) (some ⟨t,0,none⟩) K w:=by
 unfold F.EH T0.EH;have sw: ∀{A B:Pr} {w'},Sat (A::B::Z) w'->Sat (B::A::Z) w':=λh=>h.perm (.swap _ _ _);refine lU (sw H) (by decide) (λy w3 H3=> ?_) λ_ p hp w3 H3=> ?_
 .have y: ∀p,V.fr p=false:=λp=>by
   rcases y with h|h
   .cases h
   .cases g:V.fr p with
    | false=>rfl
    | true=>exact absurd (λm a b=>by grind) (h p)
  refine MX (sw H3) (λhe=>AO rfl (AS rfl (aS he y w3 (sw H3)))) λhe=>AS rfl (aI he w3 (sw H3))
 refine MX (sw H3) (λhe=>AO rfl (AO rfl ⟨by decide,?_⟩)) λhe=>AS rfl (aI he w3 (sw H3));have hv:=H3.tvok;have aU:=hp.1;have a4:=hp.2.1;obtain⟨hI,H4⟩:=Sat.cache.1 (sw H3);rw[Int.tdiv_eq_ediv_of_nonneg aU,AI (n:=p/64),AI (n:=p/64*64)];simp only[AH];generalize hB:p/64*64=B;have aG:0<=B/\B+64<=34359738368/\B %64=0:=by omega
 refine DZ H4 rfl (by simp) λw7 H7=> ?_;simp only[List.set]at H7;have hz: ∀i,S.rel i=false:=λi=>by
  cases g:S.rel i with
  | false=>rfl
  | true=>have:=hI.rh i g;rw[he i]at this;cases this
 have e1:W S.has=W λi=>decide (i<0)&&V.fr (B+i):=Hf λi _=>by rw[he i];simp
 have e2:W S.rel=W λi=>decide (i<0)&&V.rl (B+i):=Hf λi _=>by grind
 rw[e1,e2]at H7;have aA:V=V.take B 0:=by
  have e: ∀q,inr B 0 q=false:=λq=>Is.2 (by omega);unfold TV.take;simp[e]
 refine AJ (λst w'=> ∃i:Nat,st.1=(i:Int)/\i<=64/\Sat (Cells c E.GW [.int .u64 B,.int .u64 (W λk=>decide (k<i)&&V.fr (B+k)),.int .u64 (W λk=>decide (k<i)&&V.rl (B+k))]::By E t (V.take B i)::Z) w') (λst _=>(64-st.1).toNat)
  ⟨0,rfl,by decide,by rw[show((0:Nat):Int)=0 from rfl,<-aA];exact H7⟩ ?_
 rintro⟨i',v⟩ _ w9 ⟨i,Y,aX,H9⟩;dsimp only at Y⊢;subst Y;refine AB (λa3=>⟨B,H9.Aa rfl,?_⟩) λa2=> ?_
 .rw[AI (n:=B+(i:Int)),AI (n:=(i:Int)+1)];have aM:inr B i (B+i)=false:=Is.2 (by omega);have aQ:(V.take B i).fr (B+i)=V.fr (B+i):=by show(V.fr (B+i)&& !inr B i (B+i))=_;grind
  have aV:(V.take B i).rl (B+i)=V.rl (B+i):=by show(V.rl (B+i)&& !inr B i (B+i))=_;grind
  have aD: ∀q,inr B ((i+1:Nat):Int) q=(inr B i q||inr (B+i) 1 q):=λq=>by
   rw[Bool.eq_iff_iff,Bool.or_eq_true,Ai,Ai,Ai];omega
  have T:V.fr (B+i)=false-> ∀{w'},Sat (By E t (V.take B i)::Cells c E.GW [.int .u64 B,.int .u64 (W λk=>decide (k<i)&&V.fr (B+k)),.int .u64 (W λk=>decide (k<i)&&V.rl (B+k))]::Z) w'->
    (∃j:Nat,(i:Int)+1=(j:Int)/\j<=64/\Sat (Cells c E.GW [.int .u64 B,.int .u64 (W λk=>decide (k<j)&&V.fr (B+k)),.int .u64 (W λk=>decide (k<j)&&V.rl (B+k))]::By E t (V.take B j)::Z) w')/\(64-((i:Int)+1)).toNat<(64-(i:Int)).toNat:=λhf w' h=>by
   refine⟨⟨i+1,by omega,by omega,?_⟩,by omega⟩;have hr:V.rl (B+i)=false:=by
    cases g:V.rl (B+i)with
    | false=>rfl
    | true=>have:=hv.rf _ g;grind
   have f1:W (λk=>decide (k<i+1)&&V.fr (B+k))=W λk=>decide (k<i)&&V.fr (B+k):=Hf λk _=>by grind
   have f2:W (λk=>decide (k<i+1)&&V.rl (B+k))=W λk=>decide (k<i)&&V.rl (B+k):=Hf λk _=>by grind
   have f3:V.take B ((i+1:Nat):Int)=V.take B i:=by
    unfold TV.take;congr 1
    .funext q;rw[aD];by_cases e:q=B+i
     .grind
     .have:inr (B+i) 1 q=false:=Is.2 (by omega)
      grind
    .funext q;rw[aD];by_cases e:q=B+i
     .grind
     .have:inr (B+i) 1 q=false:=Is.2 (by omega)
      grind
   grind
  refine lX hE (sw H9) (by omega) (by omega) (by decide) (by decide) (λy aL J=> ?_) (λaR y aL J=> ?_) λaR aK aL J=> ?_
  .refine AO (by decide) (T ?_ J);cases g:V.fr (B+i)with
   | false=>rfl
   | true=>exact absurd ⟨by decide,by omega,λm a b=>by rw[show m=B+i by omega];exact hv.fi _ g⟩ y
  .refine AO (by decide) (T ?_ J);cases g:V.fr (B+i)with
   | false=>rfl
   | true=>exact absurd (λm a b=>by grind) y
  .have hf:V.fr (B+i)=true:=by rw[<-aQ];exact aK _ (Int.le_refl _) (by omega)
   rw[AA6,aV];have aB:=sw J;have aE: ∀(u:Nat->Bool),u64 (1*2^(min (Int.toNat (i:Int)) (IntKind.bits .u64)))=W λk=>decide (i<=k)&&(k-i==0):=λ_=>by
    have:=oZ (λk=>k==0) (n:=(i:Int)) (by omega) (by omega);rw[oV,Int.toNat_natCast]at this;exact this
   have aJ: ∀f:Int->Bool,f (B+i)=true->W (λk=>(decide (k<i)&&f (B+k))||(decide (i<=k)&&(k-i==0)))=W λk=>decide (k<i+1)&&f (B+k):=λf a1=>Hf λk _=>by grind
   refine AS (by decide) ⟨_,aB.cell rfl,by omega,AV aB rfl (by simp) λa5 aF=>⟨_,(by exact aF.cell rfl),by omega,AV aF rfl (by simp) λa6 O=> ?_⟩⟩;simp only[List.set,Nat.zero_add]at O;rw[aE (λ_=>false),oX,aJ V.fr hf]at O;have aH:GC .u64 1 (W λk=>decide (k<i)&&V.rl (B+k)) (u64 ((if V.rl (B+i)=true then 1 else 0)*2^(min (Int.toNat (i:Int)) (IntKind.bits .u64))))=W λk=>decide (k<i+1)&&V.rl (B+k):=by
    cases g:V.rl (B+i)with
    | true=>rw[if_pos rfl,aE (λ_=>false),oX,aJ V.rl g]
    | false=>
     rw[if_neg (by decide),Int.zero_mul,show u64 0=0 from rfl,<-Xn,oX];refine Hf λk _=> ?_
     grind
   rw[aH]at O;have f3:(V.take B i).take (B+i) 1=V.take B ((i+1:Nat):Int):=by
    unfold TV.take
    grind
   rw[f3]at O;exact⟨⟨i+1,by omega,by omega,O⟩,by omega⟩
 .have e:i=64:=by omega
  subst e;have:=aT he p hp w9;rw[hB]at this;refine this (Sat.cache.2 ⟨⟨aG.1,by grind,aG.2.2,λi Y=> ?_,λi Y=> ?_⟩,H9⟩)
  .grind
  .have Y:(decide (i<64)&&V.rl (B+i))=true:=Y;show(decide (i<64)&&V.fr (B+i))=true;rw[Bool.and_eq_true]at Y⊢;exact⟨Y.1,hv.rf _ Y.2⟩
def CS.own(S:CS)(p:Int):Bool:=inr S.base 64 p&&S.has (p-S.base).toNat
def CS.Q4(S:CS)(p:Int):Bool:=inr S.base 64 p&&S.rel (p-S.base).toNat
def TV.flush(V:TV)(S:CS):TV:=⟨V.LM,λp=>V.fr p||S.own p,λp=>V.rl p||S.Q4 p⟩
end
end Go.Sh

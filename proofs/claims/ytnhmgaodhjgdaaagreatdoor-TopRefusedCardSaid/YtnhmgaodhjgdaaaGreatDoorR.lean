/- The page tree and the caches of pages do what their pages say. No further condition. -/
import Derived.Test.YtnhmgaodhjgdaaaGreatDoorS
import Derived.Test.YtnhmgaodhjgdaaaGreatDoorM
import Derived.Test.YtnhmgaodhjgdaaaGreatDoorA
set_option linter.all false
set_option maxRecDepth 50000
set_option maxHeartbeats 1000000
namespace Go.Sh
def JT{α:Type}(f:Nat->α)(i:Nat)(x:α):Nat->α:=λj=>if j=i then x else f j
@[simp] theorem Jk{α:Type}(f:Nat->α)(i:Nat)(x:α):JT f i x i=x:=if_pos rfl
def Hu{α:Type}(f:Nat->α){i j:Nat}(x:α)(h:j≠i):JT f i x j=f j:=if_neg h
structure Hz(E:Env)(w:World)(b:Nat)(s:Nat->AW)(l:Nat->Iv):Prop where
 Dk: ∀i,i<4->Jj E w b (2*i) (s i) (l i)
 dis: ∀i j,i<4->j<4->i≠j-> ∀k,Ki (s i) k-> ¬Ki (s j) k
 c8: ∃v,w.cell? ⟨b,8,none⟩=some v
 f8:w.frozen? ⟨b,8,none⟩=false
section
variable{E:Env}{w w':World}{b:Nat}{s:Nat->AW}{l:Nat->Iv}
def Hz.lt(h:Hz E w b s l):b<w.heap.size:=(h.Dk 0 (by decide)).row.lt
def Hz.O4(h:Hz E w b s l){i k:Nat}(hi:i<4)(a:Ki (s i) k):k<w.heap.size:=((h.Dk i hi).row.own.EU a).2
def Hz.ext{S:Nat->Prop}(h:Hz E w b s l)(he:Ext S w w')(d: ¬S b)(m: ∀i k,i<4->Ki (s i) k-> ¬S k):Hz E w' b s l:=
 ⟨λi hi=>(h.Dk i hi).ext he d λa e=>m i _ hi ⟨a,e,rfl⟩,h.dis,h.c8.imp λv u=>he.cell u d,by rw[he.frozen (p:=⟨b,8,none⟩) h.lt d];exact h.f8⟩
def Hz.E0(h:Hz E w b s l)(he:Ext AN w w'):Hz E w' b s l:=h.ext he (λf=>f) λ_ _ _ _ f=>f
def Hz.JT(h:Hz E w b s l){i:Nat}(hi:i<4){s':AW}{l':Iv}(Y:Jj E w' b (2*i) s' l')(hu:N7 b (X5 (2*i)) w w')(T:UK w (s i) s'):
  Hz E w' b (JT s i s') (JT l i l'):=by
 have hold: ∀k,Ki s' k->Ki (s i) k∨w.heap.size<=k:=by
  rintro k ⟨a,O,rfl⟩;rcases T with e|e
  .rw[e]at O;exact .inl ⟨a,O,rfl⟩
  grind
 refine⟨λj J=> ?_,λj k J K u m hm d=> ?_,?_,?_⟩
 .by_cases e:j=i
  .subst e;rw[Jk,Jk];exact Y
  .rw[Hu _ _ e,Hu _ _ e];refine(h.Dk j J).JT hu ?_ ?_<;>(unfold X5;omega)
 .by_cases e:j=i
  .subst e;rw[Jk]at hm;rw[Hu _ _ (λe=>u e.symm)]at d;rcases hold m hm with g|g
   .exact h.dis _ _ J K u m g d
   .have:=h.O4 K d;omega
  .rw[Hu _ _ e]at hm;by_cases e2:k=i
   .subst e2;rw[Jk]at d;rcases hold m d with g|g
    .exact h.dis _ _ J K u m hm g
    .have:=h.O4 J hm;omega
   .rw[Hu _ _ e2]at d;exact h.dis _ _ J K u m hm d
 .obtain⟨v,hv⟩:=h.c8;exact⟨v,by rw[hu.GW 8 (by unfold X5;omega)];exact hv⟩
 .rw[hu.sL];exact h.f8
def Hz.u7(h:Hz E w b s l){i:Nat}(hi:i<4){s':AW}(u:UK w (s i) s'){j k:Nat}(d:Ki (Sh.JT s i s' j) k):Ki (s j) k∨w.heap.size<=k:=by
 by_cases e:j=i
 .subst e;rw[Jk]at d;obtain⟨a,m,rfl⟩:=d;rcases u with e|e
  .rw[e]at m;exact .inl ⟨a,m,rfl⟩
  grind
 .rw[Hu _ _ e]at d
  grind
end
def sumV(q:Int×Int×Int):Value:=.agg ⟨[.int .i64 q.1,.int .i64 q.2.1,.int .i64 q.2.2]⟩
structure UP(E:Env)(w:World)(b:Nat)(sm:AW)(Po:List Nat)(sum:Nat->Int->Option (Int×Int×Int)):Prop where
 c8:w.cell? ⟨b,8,none⟩=some (.slice sm.base sm.len sm.cap)
 own:I8 w 0 E.Em 1 sm (Po.map λk=>Value.map (some k))
 len:Po.length=4
 nodup:Po.Nodup
 maps: ∀j k,Po[j]? =some k-> ∃es c m,w.heap[k]? =some (.map es c)/\MapI .u64 es c m/\ ∀i,aget m i=(sum j i).map sumV
def UP.ext{E:Env}{w w':World}{b:Nat}{sm:AW}{Po:List Nat}{sum:Nat->Int->Option (Int×Int×Int)}{S:Nat->Prop}(h:UP E w b sm Po sum)(he:Ext S w w')(e: ¬S b)
  (v: ∀k,Ki sm k-> ¬S k)(hm: ∀k∈Po,¬S k):UP E w' b sm Po sum:=
 ⟨he.cell h.c8 e,h.own.ext he λg u=>v g ⟨_,u,rfl⟩,h.len,h.nodup,λj k a=>by
  obtain⟨es,c,m,h1,d⟩:=h.maps j k a;exact⟨es,c,m,he.obj h1 (hm k (List.mem_of_getElem? a)),d⟩⟩
def UP.mlt{E:Env}{w:World}{b:Nat}{sm:AW}{Po:List Nat}{sum:Nat->Int->Option (Int×Int×Int)}(h:UP E w b sm Po sum){k:Nat}(d:k∈Po):k<w.heap.size:=by
 obtain⟨j,a⟩:=List.mem_iff_getElem?.1 d;obtain⟨es,c,m,h1,_⟩:=h.maps j k a;exact Fp h1
def Qr{E:Env}{w:World}{b:Nat}{s:Nat->AW}{l:Nat->Iv}(h:Hz E w b s l){K:World->Prop}
  (hK: ∀w' sm Po,Hz E w' b s l->UP E w' b sm Po (λ_ _=>none)->Ext (KD b) w w'->(∀k,Ki sm k->w.heap.size<=k)->(∀k∈Po,w.heap.size<=k)->K w'):
  F.Cw E (some ⟨b,0,none⟩) K w:=by
 unfold F.Cw;simp only[AK,add_eq,Nat.zero_add];obtain⟨v8,aX⟩:=h.c8;refine LI aX h.f8 rfl λw2 aA=> ?_;have aB: ∀{w1 w2:World} {v:Value},Hz E w1 b s l->Nm ⟨b,8,none⟩ v w1 w2->Hz E w2 b s l:=by
  intro w1 w2 v h aJ;have hu:N7 b (λj=>j=8) w1 w2:=N7.Ie aJ rfl;exact⟨λi hi=>(h.Dk i hi).JT hu (by omega) (by omega),h.dis,⟨_,aJ.same⟩,by rw[aJ.frozen];exact h.f8⟩
 refine AM (λst w'=> ∃(n:Nat) (sm:AW) (Po:List Nat),st.1=(n:Int)/\n<=4/\Hz E w' b s l/\w'.cell? ⟨b,8,none⟩=some (.slice sm.base sm.len sm.cap)/\
   I8 w' w.heap.size E.Em 1 sm (Po.map λk=>Value.map (some k))/\Po.length=n/\Po.Nodup/\(∀k∈Po,w'.heap[k]? =some (.map #[] 0))/\(∀k∈Po,w.heap.size<=k)/\Ext (KD b) w w')
  (λst _=>(4-st.1).toNat) ⟨0,⟨none,0,0⟩,[],rfl,by decide,aB h aA,aA.same,I8.nil _ _ _ _,rfl,List.nodup_nil,by simp,by simp,aA.ext⟩ ?_
 rintro⟨i,u⟩ _ w4 ⟨n,sm,Po,hn,a6,h4,aL,d,hlen,aV,Y,aH,aD⟩;simp only at hn⊢;subst hn;refine AG (λa5=> ?_) (λa4=> ?_)
 .refine⟨sm,aL,A8 λw9 aS a1 aU=>A8 λaM aK aW aF=> ?_⟩;have aE:Ext AN w4 aM:=aU.trans' aF;have O:=d.ext aE λ_ _ f=>f;have a7:sm.len=n:=by have:=d.len;grind
  refine QU (news:=[.map (some w4.heap.size)]) rfl O (N8 aK rfl) rfl (by intro v hv;simp at hv;subst hv;rfl) (by have:=aD.size;omega) (by grind) (by grind) λEr aN aI a0 T aZ=> ?_;have aT: ¬Ki sm b:=λe=>by have:=(d.EU e).1;have:=h.lt;omega
  have aC:Hz E aN b s l:=(h4.E0 aE).ext T aT λi k hi a e=>by
   have:=(d.EU e).1;have:=h.O4 hi a;omega
  have J: ∀k∈Po++[w4.heap.size],aN.heap[k]? =some (.map #[] 0):=by
   intro k a;have aG:aM.heap[k]? =some (.map #[] 0):=by
    rcases List.mem_append.1 a with a|a
    .exact aE.obj (Y k a) λf=>f
    .rw[List.mem_singleton]at a;subst a;exact aF.obj aS λf=>f
   exact T.obj aG (O.XA aG)
  obtain⟨v,hv⟩:=aC.c8;refine LI hv aC.f8 rfl λa8 m=> ?_;refine⟨⟨n+1,Er,Po++[w4.heap.size],by rw[AI];omega,by omega,aB aC m,m.same,?_,by simp;omega,?_,?_,?_,?_⟩,by rw[AI];omega⟩
  .rw[List.map_append];refine aI.ext m.ext λg hg e=> ?_;have:=(aI.lt hg).1;have:g=b:=e;have:=h.lt
   grind
  .grind
  .intro k a;refine m.ext.obj (J k a) λe=> ?_;have:k=b:=e;subst this;have:=(aC.Dk 0 (by decide)).row.c0;exact UN (J k a) this
  .intro k a;rcases List.mem_append.1 a with a|a
   .exact aH k a
   .rw[List.mem_singleton]at a;subst a;exact aD.size
  .refine(aD.trans aE (λ_ _ e=>e) λ_ _ f=>f.elim).trans (T.trans m.ext (U:=λk=>Ki sm k∨k=b) (λ_ _ e=>.inl e) λ_ _ e=>.inr e) (λ_ _ e=>e) λk a e=> ?_;rcases e with e|e
   .have:=(d.EU e).1;omega
   .exact e
 .have hn:n=4:=by omega
  subst hn;refine hK w4 sm Po h4 ⟨aL,d.lower (Nat.zero_le _),hlen,aV,λj k a=> ?_⟩ aD (λk a=>(d.EU a).1) aH;exact⟨#[],0,[],Y k (List.mem_of_getElem? a),MapI.empty _,λ_=>rfl⟩
def pg(lv:Int):Int:=512*8^(3-lv).toNat
def u9(fr to:Int)(a:Int×Int×Int)(p:Int×Int):Int×Int×Int:=
 (if p.1=fr then p.2-p.1 else a.1,max a.2.1 (p.2-p.1),if p.2=to then p.2-p.1 else a.2.2)
def sumOf(l:Iv)(fr to:Int):Int×Int×Int:=(withinL l fr to).foldl (u9 fr to) (0,0,0)
structure NM where
 s:Nat->AW
 l:Nat->Iv
 sm:AW
 Po:List Nat
 sum:Nat->Int->Option (Int×Int×Int)
structure AAE(l:Nat->Iv):Prop where
 top: ∀n,mem (l 0) n->n<34359738368
 free: ∀n,mem (l 1) n->mem (l 0) n
 rel: ∀n,mem (l 2) n->mem (l 1) n
 idle: ∀n,mem (l 3) n↔mem (l 1) n/\ ¬mem (l 2) n
structure IA(E:Env)(w:World)(b:Nat)(G:NM):Prop where
 Dk:Hz E w b G.s G.l
 maps:UP E w b G.sm G.Po G.sum
 d: ∀k,Ki G.sm k->k≠b/\ ∀i,i<4-> ¬Ki (G.s i) k
 ok: ∀(j:Nat) (i:Int) x,G.sum j i=some x->x=sumOf (G.l 1) (i*pg j) (i*pg j+pg j)
 inv:AAE G.l
def Qt(b:Nat)(G:NM)(k:Nat):Prop:=k=b∨(∃i,i<4/\Ki (G.s i) k)∨Ki G.sm k∨k∈G.Po
section
variable{E:Env}{w w':World}{b:Nat}{G:NM}
def IA.lt(h:IA E w b G):b<w.heap.size:=h.Dk.lt
def IA.O0(h:IA E w b G){k:Nat}(a:Qt b G k):k<w.heap.size:=by
 rcases a with rfl|⟨i,hi,a⟩|a|a
 .exact h.lt
 .exact h.Dk.O4 hi a
 .exact(h.maps.own.EU a).2
 .exact h.maps.mlt a
def IA.ext{S:Nat->Prop}(h:IA E w b G)(he:Ext S w w')(hS: ∀k,Qt b G k-> ¬S k):IA E w' b G:=
 ⟨h.Dk.ext he (hS b (.inl rfl)) λi k hi a=>hS k (.inr (.inl ⟨i,hi,a⟩)),h.maps.ext he (hS b (.inl rfl)) (λk a=>hS k (.inr (.inr (.inl a)))) λk a=>hS k (.inr (.inr (.inr a))),h.d,h.ok,h.inv⟩
def IA.E0(h:IA E w b G)(he:Ext AN w w'):IA E w' b G:=h.ext he λ_ _ f=>f
end
structure Mc(E:Env)(b:Nat)(w:World)(G:NM)(w':World)(G':NM):Prop where
 rep:IA E w' b G'
 ext:Ext (Qt b G) w w'
 VZ: ∀k,Qt b G' k->Qt b G k∨w.heap.size<=k
section
variable{E:Env}{w w' w1:World}{b:Nat}{G G' G1:NM}
def Mc.nothing(h:IA E w b G)(he:Ext AN w w'):Mc E b w G w' G:=⟨h.E0 he,he.any,λ_ h=>.inl h⟩
def Mc.trans(h:Mc E b w G w1 G1)(k:Mc E b w1 G1 w' G'):Mc E b w G w' G':=
 ⟨k.rep,h.ext.trans k.ext (λ_ _ s=>s) (λi hi s=>by rcases h.VZ i s with s|s;exact s;omega),λi hi=>by
  rcases k.VZ i hi with s|s
  .exact h.VZ i s
  .have:=h.ext.size;omega⟩
end
structure yA(E:Env)(w w':World)(b:Nat)(G:NM):Prop where
 rep:IA E w' b G
 ext:Ext AN w w'
 young: ∀k,Qt b G k->w.heap.size<=k
structure Rt(E:Env)(b:Nat)(w0:World)(G0:NM)(w:World)(s:Nat->AW)(l:Nat->Iv):Prop where
 Dk:Hz E w b s l
 ext:Ext (KD b) w0 w
 O4: ∀i k,i<4->Ki (s i) k->(∃j,j<4/\Ki (G0.s j) k)∨w0.heap.size<=k
 c8:w.cell? ⟨b,8,none⟩=w0.cell? ⟨b,8,none⟩
section
variable{E:Env}{b:Nat}{w0 w w':World}{G0:NM}{s:Nat->AW}{l:Nat->Iv}
def Rt.start(h:IA E w0 b G0)(he:Ext AN w0 w):Rt E b w0 G0 w G0.s G0.l:=⟨h.Dk.E0 he,he.any,λi k hi a=>.inl ⟨i,hi,a⟩,World.cell?_of_block (he.block b h.lt λf=>f)⟩
def Rt.JT(h:Rt E b w0 G0 w s l){i:Nat}(hi:i<4){s':AW}{l':Iv}(u:Jj E w' b (2*i) s' l')(hu:N7 b (X5 (2*i)) w w')(a:UK w (s i) s'):
  Rt E b w0 G0 w' (Sh.JT s i s') (Sh.JT l i l'):=
 ⟨h.Dk.JT hi u hu a,h.ext.trans' hu.ext,λj k d m=>by
  rcases h.Dk.u7 hi a m with e|e
  .exact h.O4 j k d e
  .have:=h.ext.size;omega,by rw[hu.GW 8 (by unfold X5;omega)];exact h.c8⟩
def Rt.changed(h:Rt E b w0 G0 w s l)(h0:IA E w0 b G0)(hi:AAE l){K:World->Prop}
  (d: ∀w' G',Mc E b w0 G0 w' G'->G'.l=l->K w'):F.Cw E (some ⟨b,0,none⟩) K w:=by
 refine Qr h.Dk λw' sm Po v hm he hsm u=> ?_;have J:=h.ext.size;have m:=h0.lt;refine d w' ⟨s,l,sm,Po,λ_ _=>none⟩ ⟨⟨v,hm,λk a=>⟨?_,λi hi e=> ?_⟩,λj i x O=>(by cases O),hi⟩,(h.ext.trans' he).mono λk _ e=>.inl e,?_⟩ rfl
 .have:=hsm k a;omega
 .have:=hsm k a;have:=h.Dk.O4 hi e;omega
 .rintro k (e|⟨i,hi,e⟩|e|e)
  .exact .inl (.inl e)
  .rcases h.O4 i k hi e with g|g
   .exact .inl (.inr (.inl g))
   omega
  .grind
  grind
end
def By(l:Nat->Iv)(x n:Int)(free:Bool)(e:Int):Int:=
 if n=0∨34359738368<=x∨34359738368-x<n∨cnt (l 0) x (x+n)≠n then 10 else if cnt (l 1) x (x+n)≠(if free then n else 0)then e else 0
def findL:Iv->Int->Option Int
 | [],_=>none
 | p::r,n=>if n<=p.2-p.1 then some p.1 else findL r n
def jS{l:Iv}{n p:Int}(h:findL l n=some p): ∃q∈l,q.1=p/\n<=q.2-q.1:=by
 induction l with
 | nil=>cases h
 | cons q r ih=>
  simp only[findL]at h
  grind
section
variable{E:Env}(hE:EnvS E){w:World}{b:Nat}{G:NM}
def find_spec(h:IA E w b G){n:Int}(aV:0<=n){K:Int->Bool->World->Prop}
  (hK: ∀w',Ext AN w w'->K ((if n=0 then none else findL (G.l 1) n).getD 0) (if n=0 then none else findL (G.l 1) n).isSome w'):
  F.CX E (some ⟨b,0,none⟩) n K w:=by
 unfold F.CX T0.CX F.Hi;simp only[AK,add_eq,Nat.zero_add];refine AY (λe=> ?_) (λe=> ?_)
 .have e0:n=0:=by simpa using e
  have:=hK w (Ext.refl _ _)
  grind
 .have e0:n≠0:=by simpa using e
  rw[if_neg e0]at hK;have d:Gy E w ⟨b,2,none⟩ (G.s 1) (G.l 1):=(h.Dk.Dk 1 (by decide)).row;generalize G.s 1=s at d;generalize G.l 1=l at d hK;have hlen:=d.len;have hsm:=d.small;have aN:O9=4398046511104:=rfl;refine⟨s,d.c0,AM (λst w'=> ∃k:Nat,st.1=(k:Int)/\k<=l.length/\findL l n=findL (l.drop k) n/\Ext AN w w') (λst _=>(l.length-st.1).toNat) ⟨0,rfl,Nat.zero_le _,rfl,Ext.refl _ _⟩ ?_⟩;rintro⟨i,u⟩ _ w5 ⟨k,hk,aS,hf,m⟩;simp only at hk⊢;subst hk;refine AG (λaU=> ?_) (λaR=> ?_)
  .have hl:k<l.length:=by omega
   have hg:=List.getElem?_eq_getElem hl;obtain⟨r,aI,aA,aB⟩:=(d.E0 m).cells hg;have aH:=d.ok.get hg;generalize l[k]=q at hg aA aB aH;rw[aI];simp only[AK,add_eq,Nat.zero_add,Int.toNat_natCast,Nat.add_zero];refine⟨⟨by omega,by omega⟩,q.1,aA,q.2,aB,A8 λaW J aJ O=> ?_⟩;refine IF _ _ _ _ _ _ _ J (by simp) (by intro v hv;simp at hv;rcases hv with rfl|rfl<;>rfl) λaL T aK a=> ?_;simp at a;have aC:Ext AN w aL:=(m.trans' O).trans T (λ_ _ f=>f) λi hi e=>by have:i=w5.heap.size:=e;have:=m.size;omega
   have hd:=YT hg;refine⟨q.2,by rw[AS a];rfl,q.1,by rw[AS a];rfl,?_⟩;rw[AR];refine AG (λaG=>⟨q.1,by rw[AS a];rfl,?_⟩) (λY=> ?_)
   .have:findL l n=some q.1:=by rw[hf,hd,findL,if_pos aG]
    grind
   .rw[AI];refine⟨⟨k+1,by omega,by omega,?_,aC⟩,by omega⟩;rw[hf,hd,findL,if_neg Y]
  .have:l.drop k=[]:=List.drop_eq_nil_of_le (by omega);rw[this]at hf;have aQ:findL l n=none:=hf
   grind
include hE
theorem SS(h:IA E w b G){x n e:Int}{fr:Bool}(J:0<=x)(hx:x<18446744073709551616)(aE:0<=n)(hn:n<18446744073709551616){K:Int->World->Prop}
  (hK: ∀w',Ext AN w w'->K (By G.l x n fr e) w'):F.Ck E (some ⟨b,0,none⟩) x n fr e K w:=by
 unfold F.Ck T0.Ck;simp only[AK,add_eq,Nat.zero_add];refine AV (λst w'=>w'=w/\st.1=if fr then n else 0) ?_ ?_
 .exact AY (λe=>⟨rfl,by rw[e];rfl⟩) (λe=>⟨rfl,by rw[e];rfl⟩)
 rintro⟨want,u⟩ _ w3 ⟨rfl,a⟩;simp only at a⊢;subst a;refine AV (λst w'=>Ext AN w3 w'/\(st.1=true↔n=0∨34359738368<=x∨34359738368-x<n∨cnt (G.l 0) x (x+n)≠n)) ?_ ?_
 .refine AY (λe=>⟨Ext.refl _ _,?_⟩) (λe=>AG (λe2=>⟨Ext.refl _ _,?_⟩) (λe2=> ?_))
  .grind
  .grind
  .have e0:n≠0:=by simpa using e
   rw[AR (n:=34359738368-x)];refine AG (λe3=>⟨Ext.refl _ _,?_⟩) (λe3=> ?_)
   .grind
   .rw[AR (n:=x+n)];refine JI hE (h.Dk.Dk 0 (by decide)).row J (by omega) (by omega) λw9 T=>⟨T,?_⟩
    grind
 rintro⟨bt,u⟩ _ w6 ⟨d,m⟩;simp only at m⊢;refine AY (λht=> ?_) (λhf=> ?_)
 .have:=hK w6 d;rwa[By,if_pos (m.1 ht)]at this
 .have O: ¬(n=0∨34359738368<=x∨34359738368-x<n∨cnt (G.l 0) x (x+n)≠n):=λh=>by grind
  rw[AR (n:=x+n)];refine JI hE ((h.E0 d).Dk.Dk 1 (by decide)).row J (by omega) (by omega) λY v=> ?_;have:=hK Y (d.trans' v);rw[By,if_neg O]at this;refine AY (λe1=> ?_) (λe1=> ?_)
  .rwa[if_pos (by grind)]at this
  .rwa[if_neg (by grind)]at this
omit hE in
theorem SU{l:Nat->Iv}{x n e:Int}{fr:Bool}(he:e≠0)(h:By l x n fr e=0):
  n≠0/\x<34359738368/\n<=34359738368-x/\cnt (l 0) x (x+n)=n/\cnt (l 1) x (x+n)=if fr then n else 0:=by
 unfold By at h;omega
theorem Vw(h:IA E w b G){x n:Int}(u:0<=x)(hx:x<18446744073709551616)(aD:0<=n)(hn:n<18446744073709551616){K:Int->Int->World->Prop}
  (aB:By G.l x n true 32≠0-> ∀w',Ext AN w w'->K 0 (By G.l x n true 32) w')
  (aC:By G.l x n true 32=0-> ∀w' G',Mc E b w G w' G'->G'.l=Sh.JT (Sh.JT (Sh.JT G.l 1 (Dy (G.l 1) x (x+n))) 2 (Dy (G.l 2) x (x+n))) 3 (Dy (G.l 3) x (x+n))->K (cnt (G.l 2) x (x+n)) 0 w'):
  F.CY E (some ⟨b,0,none⟩) x n K w:=by
 unfold F.CY T0.CY;refine SS hE h u hx aD hn λw2 v=> ?_;refine AY (λe=>aB (by grind) w2 v) (λe=> ?_);have hz:By G.l x n true 32=0:=by grind
 obtain⟨g1,g2,g3,g4,g5⟩:=SU (by decide) hz;have en:u64 (x+n)=x+n:=AR;simp only[AK,add_eq,Nat.zero_add,en];have h2:=h.E0 v;refine JI hE (h2.Dk.Dk 2 (by decide)).row u (by omega) (by omega) λw5 aI=> ?_;have m5:Rt E b w G w5 G.s G.l:=Rt.start h (v.trans' aI);refine N9 hE (m5.Dk.Dk 1 (by decide)) u (by omega) (by omega) λw7 s7 aE aG Y=> ?_;have m7:=m5.JT (by decide:1<4) aE aG Y;refine N9 hE (m7.Dk.Dk 2 (by decide)) u (by omega) (by omega) λw9 s9 aF aH aA=> ?_;have m9:=m7.JT (by decide:2<4) aF aH aA;refine N9 hE (m9.Dk.Dk 3 (by decide)) u (by omega) (by omega) λaS s11 O T J=> ?_;have aJ:=m9.JT (by decide:3<4) O T J;have a:x<x+n:=by omega
 refine aJ.changed h ⟨?_,?_,?_,?_⟩ λw' G' hs hl=>aC hz w' G' hs hl
 .exact h.inv.top
 .intro m hm;have d:mem (Dy (G.l 1) x (x+n)) m:=hm;rw[Ha a]at d;exact h.inv.free m d.1
 .intro m hm;have d:mem (Dy (G.l 2) x (x+n)) m:=hm;rw[Ha a]at d;show mem (Dy (G.l 1) x (x+n)) m;rw[Ha a];exact⟨h.inv.rel m d.1,d.2⟩
 .intro m;show mem (Dy (G.l 3) x (x+n)) m↔mem (Dy (G.l 1) x (x+n)) m/\ ¬mem (Dy (G.l 2) x (x+n)) m;rw[Ha a,Ha a,Ha a,h.inv.idle m]
  grind
omit hE in
theorem Yn(h:IA E w b G){n p:Int}(T:0<n)(O:findL (G.l 1) n=some p):By G.l p n true 32=0/\0<=p/\p<34359738368:=by
 obtain⟨q,K,rfl,hle⟩:=jS O;have BU:=(h.Dk.Dk 1 (by decide)).row.ok;have u:=(h.Dk.Dk 0 (by decide)).row.ok;have v:=BU.mem K;have e: ∀m,q.1<=m->m<q.1+n->mem (G.l 1) m:=λm h1 J=>⟨q,K,h1,by omega⟩;have d: ∀m,q.1<=m->m<q.1+n->mem (G.l 0) m:=λm h1 J=>h.inv.free m (e m h1 J);have Y:=h.inv.top _ (d (q.1+n-1) (by omega) (by omega));have c1:=(Ja BU (a:=q.1) (b:=q.1+n) (by omega)).2 e;have c0:=(Ja u (a:=q.1) (b:=q.1+n) (by omega)).2 d;refine⟨?_,v.1,by omega⟩;unfold By
 grind
theorem bR(h:IA E w b G){n:Int}(d:0<=n)(hn:n<18446744073709551616){K:Int->Int->Int->World->Prop}
  (u:n=0->K 0 0 1 w)(v:n≠0->findL (G.l 1) n=none-> ∀w',Ext AN w w'->K 0 0 30 w')
  (J:n≠0-> ∀p,findL (G.l 1) n=some p-> ∀w' G',Mc E b w G w' G'->G'.l=Sh.JT (Sh.JT (Sh.JT G.l 1 (Dy (G.l 1) p (p+n))) 2 (Dy (G.l 2) p (p+n))) 3 (Dy (G.l 3) p (p+n))->K p (cnt (G.l 2) p (p+n)) 0 w'):
  F.Ay E (some ⟨b,0,none⟩) n K w:=by
 unfold F.Ay T0.Ay;refine AY (λe=>u (by simpa using e)) (λe=> ?_);have m:n≠0:=by simpa using e
 refine find_spec h d λw3 a=> ?_;rw[if_neg m];cases hf:findL (G.l 1) n with
 | none=>exact AY (λ_=>v m hf w3 a) (λe=>by cases e)
 | some p=>
  refine AY (λe=>by cases e) (λ_=> ?_);obtain⟨hz,T,aB⟩:=Yn h (by omega) hf;refine Vw hE (h.E0 a) T (by show p<_;omega) d hn (λO=>absurd hz O) λ_ w' G' hs Y=> ?_;exact J m p hf w' G' ((Mc.nothing h a).trans hs) Y
theorem jT(h:IA E w b G){c n:Int}(aX:0<=c)(hc:c<18446744073709551616)(aZ:0<=n)(hn:n<18446744073709551616){K:Int->World->Prop}
  (aL:(n=0∨262144<n∨67108864<c∨67108864-c<n)->K 1 w)
  (aM: ¬(n=0∨262144<n∨67108864<c∨67108864-c<n)->cnt (G.l 0) (c*512) ((c+n)*512)≠0-> ∀w',Ext AN w w'->K 34 w')
  (aN: ¬(n=0∨262144<n∨67108864<c∨67108864-c<n)->cnt (G.l 0) (c*512) ((c+n)*512)=0-> ∀w' G',Mc E b w G w' G'->
   G'.l=Sh.JT (Sh.JT (Sh.JT G.l 0 (ES (G.l 0) (c*512) ((c+n)*512))) 1 (ES (G.l 1) (c*512) ((c+n)*512))) 2 (ES (G.l 2) (c*512) ((c+n)*512))->K 0 w'):
  F.C8 E (some ⟨b,0,none⟩) c n K w:=by
 unfold F.C8 T0.C8;refine AV (λst w'=>w'=w/\(st.1=true↔n=0∨262144<n∨67108864<c∨67108864-c<n)) ?_ ?_
 .refine AY (λe=>⟨rfl,?_⟩) (λe=>AG (λe2=>⟨rfl,?_⟩) (λe2=>AG (λe3=>⟨rfl,?_⟩) (λe3=>⟨rfl,?_⟩)))
  .grind
  .grind
  .grind
  .have e0:n≠0:=by simpa using e
   rw[AR]
   grind
 rintro⟨bt,u⟩ _ w3 ⟨rfl,T⟩;simp only at T⊢;refine AY (λht=>aL (T.1 ht)) (λhf=> ?_);have aB: ¬(n=0∨262144<n∨67108864<c∨67108864-c<n):=λh=>by grind
 have e1:u64 (c*512)=c*512:=AR;have e2:u64 (c+n)=c+n:=AR;have e3:u64 ((c+n)*512)=(c+n)*512:=AR;rw[e1,e2,e3];simp only[AK,add_eq,Nat.zero_add];refine Ac λto aP=> ?_;subst aP;have aS:O9=4398046511104:=rfl;refine JI hE (h.Dk.Dk 0 (by decide)).row (by omega) (by omega) (by omega) λw7 aG=> ?_;have a0:=EX (G.l 0) (c*512) ((c+n)*512);refine AG (λhp=>aM aB (by omega) w7 aG) (λhp=> ?_);have hz:cnt (G.l 0) (c*512) ((c+n)*512)=0:=by omega
 have m7:Rt E b w3 G w7 G.s G.l:=Rt.start h aG;have J:c*512<(c+n)*512:=by omega
 refine LX hE (m7.Dk.Dk 0 (by decide)) (by omega) J (by omega) λw9 s9 aO aQ aK=> ?_;have m9:=m7.JT (by decide:0<4) aO aQ aK;refine LX hE (m9.Dk.Dk 1 (by decide)) (by omega) J (by omega) λa5 s11 aC aE Y=> ?_;have aH:=m9.JT (by decide:1<4) aC aE Y;refine LX hE (aH.Dk.Dk 2 (by decide)) (by omega) J (by omega) λa6 IZ aD aF aA=> ?_;have aR:=aH.JT (by decide:2<4) aD aF aA;have BU: ∀i,i<4->Ok (G.l i):=λi hi=>(h.Dk.Dk i hi).row.ok;have d: ∀i,i<4-> ∀m,mem (ES (G.l i) (c*512) ((c+n)*512)) m↔mem (G.l i) m∨(c*512<=m/\m<(c+n)*512):=λi hi m=>GI (BU i hi) J (by omega) (by omega) m;have v:=(IG (BU 0 (by decide)) (a:=c*512) (b:=(c+n)*512) (by omega)).1 hz;refine aR.changed h ⟨?_,?_,?_,?_⟩ λw' G' hs hl=>aN aB hz w' G' hs hl
 .intro m hm;rcases(d 0 (by decide) m).1 hm with g|g
  .exact h.inv.top m g
  .omega
 .intro m hm;refine(d 0 (by decide) m).2 ?_;rcases(d 1 (by decide) m).1 hm with g|g
  .exact .inl (h.inv.free m g)
  omega
 .intro m hm;refine(d 1 (by decide) m).2 ?_;rcases(d 2 (by decide) m).1 hm with g|g
  .exact .inl (h.inv.rel m g)
  omega
 .intro m;show mem (G.l 3) m↔mem (ES (G.l 1) (c*512) ((c+n)*512)) m/\ ¬mem (ES (G.l 2) (c*512) ((c+n)*512)) m;rw[d 1 (by decide),d 2 (by decide),h.inv.idle m];constructor
  .rintro⟨a1,a2⟩;have:=v m;refine⟨.inl a1,λO=> ?_⟩;rcases O with O|O
   .exact a2 O
   .exact v m O.1 O.2 (h.inv.free m a1)
  grind
theorem UQ(h:IA E w b G){x n:Int}{i:Nat}(hi:i=2∨i=3)(J:0<=x)(hx:x<18446744073709551616)(aI:0<=n)(hn:n<18446744073709551616){K:Int->World->Prop}
  (aG:By G.l x n false 31≠0-> ∀w',Ext AN w w'->K (By G.l x n false 31) w')
  (aH:By G.l x n false 31=0-> ∀w' G',Mc E b w G w' G'->G'.l=Sh.JT (Sh.JT G.l 1 (ES (G.l 1) x (x+n))) i (ES (G.l i) x (x+n))->K 0 w'):
  F.DG E (some ⟨b,0,none⟩) x n (some ⟨b,2*i,none⟩) K w:=by
 unfold F.DG T0.DG;refine SS hE h J hx aI hn λw2 aD=> ?_;refine AY (λe=>aG (by grind) w2 aD) (λe=> ?_);have hz:By G.l x n false 31=0:=by grind
 obtain⟨g1,g2,g3,g4,g5⟩:=SU (by decide) hz;have en:u64 (x+n)=x+n:=AR;simp only[AK,add_eq,Nat.zero_add,en];have aN:O9=4398046511104:=rfl;have aB:i<4:=by omega
 have T:i≠1:=by omega
 have m2:Rt E b w G w2 G.s G.l:=Rt.start h aD;have O:x<x+n:=by omega
 refine LX hE (m2.Dk.Dk 1 (by decide)) J O (by omega) λw4 s4 aJ aL aE=> ?_;have m4:=m2.JT (by decide:1<4) aJ aL aE;have aC:=m4.Dk.Dk i aB;rw[Hu _ _ T,Hu _ _ T]at aC;refine LX hE aC J O (by omega) λw5 s5 aK aM aF=> ?_;have m5:=m4.JT aB aK aM (by rw[Hu _ _ T];exact aF);have BU: ∀i,i<4->Ok (G.l i):=λi hi=>(h.Dk.Dk i hi).row.ok;have d: ∀i,i<4-> ∀m,mem (ES (G.l i) x (x+n)) m↔mem (G.l i) m∨(x<=m/\m<x+n):=λi hi m=>GI (BU i hi) O J (by omega) m;have Y:=(IG (BU 1 (by decide)) (a:=x) (b:=x+n) (by omega)).1 g5;have aA:=(Ja (BU 0 (by decide)) (a:=x) (b:=x+n) (by omega)).1 (by omega);have l0:Sh.JT (Sh.JT G.l 1 (ES (G.l 1) x (x+n))) i (ES (G.l i) x (x+n)) 0=G.l 0:=by rw[Hu _ _ (by omega),Hu _ _ (by omega)]
 have l1:Sh.JT (Sh.JT G.l 1 (ES (G.l 1) x (x+n))) i (ES (G.l i) x (x+n)) 1=ES (G.l 1) x (x+n):=by rw[Hu _ _ (by omega),Jk]
 refine m5.changed h ⟨?_,?_,?_,?_⟩ λw' G' hs hl=>aH hz w' G' hs hl
 .rw[l0];exact h.inv.top
 .intro m;rw[l0,l1,d 1 (by decide)];rintro(u|u)
  .exact h.inv.free m u
  .exact aA m u.1 u.2
 .intro m;rw[l1,d 1 (by decide)];rcases hi with rfl|rfl
  .rw[Jk,d 2 (by decide)];rintro(u|u)
   .exact .inl (h.inv.rel m u)
   omega
  .rw[Hu _ _ (by decide),Hu _ _ (by decide)];exact λu=>.inl (h.inv.rel m u)
 .intro m;rw[l1,d 1 (by decide)];have aU:x<=m/\m<x+n-> ¬mem (G.l 1) m:=λu=>Y m u.1 u.2;have v:=h.inv.idle m;have aO:=h.inv.rel m;rcases hi with rfl|rfl
  .rw[Jk,d 2 (by decide),Hu _ _ (by decide),Hu _ _ (by decide),v]
   grind
  .rw[Jk,d 3 (by decide),Hu _ _ (by decide),Hu _ _ (by decide),v]
   grind
end
def jU{E:Env}{w:World}{K:Option Addr->World->Prop}(Y: ∀w' b G,yA E w w' b G->(∀i,G.l i=[])->K (some ⟨b,0,none⟩) w'):F.Hq E K w:=by
 unfold F.Hq T0.Hq;refine A8 λw2 d T u=> ?_;have J: ∀k,¬Ki ⟨none,0,0⟩ k:=by rintro k ⟨a,ha,_⟩;cases ha
 have hs:Hz E w2 w.heap.size (λ_=>⟨none,0,0⟩) (λ_=>[]):=by
  refine⟨λi hi=> ?_,λi j _ _ _ k m=>absurd m (J k),⟨_,by rw[AS d];rfl⟩,by simp[World.frozen?,d]⟩;have:i=0∨i=1∨i=2∨i=3:=by omega
  rcases this with rfl|rfl|rfl|rfl<;>
   exact⟨⟨by rw[AS d];rfl,by simp[World.frozen?,d],I8.nil _ _ _ _,trivial,by simp,by grind⟩,by rw[AS d];rfl,by simp[World.frozen?,d]⟩
 refine Qr hs λw' sm Po O hm he hsm v=> ?_;refine Y w' w.heap.size ⟨λ_=>⟨none,0,0⟩,λ_=>[],sm,Po,λ_ _=>none⟩ ⟨⟨O,hm,λk m=>⟨?_,λi _ e=>J k e⟩,λj i x hx=>(by cases hx),?_⟩,?_,?_⟩ λ_=>rfl
 .have:=hsm k m;omega
 .exact⟨λn h=>absurd h (DL n),λn h=>absurd h (DL n),λn h=>absurd h (DL n),λn=>⟨λh=>absurd h (DL n),λh=>absurd h.1 (DL n)⟩⟩
 .exact u.trans he (λ_ _ f=>f) λk m e=>by have:k=w.heap.size:=e;omega
 .rintro k (e|⟨i,_,e⟩|e|e)
  .omega
  .exact absurd e (J k)
  .have:=hsm k e;omega
  .have:=v k e;omega
def Gz(E:Env)(b:Nat)(l:Nat->Iv):Pr where
 holds D w:= ∃G,IA E w b G/\G.l=l/\ ∀k,D k↔Qt b G k
 loc h he hS:=let⟨G,h1,h2,h3⟩:=h;⟨G,h1.ext he λk a=>hS k ((h3 k).2 a),h2,h3⟩
 lt h a:=let⟨G,h1,h2,h3⟩:=h;h1.O0 ((h3 _).1 a)
def Sat.tree{E:Env}{b:Nat}{l:Nat->Iv}{F:List Pr}{w:World}(H:Sat (Gz E b l::F) w):
  ∃G,IA E w b G/\G.l=l/\ ∀w' G',Mc E b w G w' G'->Sat (Gz E b G'.l::F) w':=by
 obtain⟨D,⟨G,h1,d,a⟩,m⟩:=H.step;refine⟨G,h1,d,λw' G' st=>m w' (Qt b G') _ (st.ext.mono λi _ hi=>(a i).2 hi) ⟨G',st.rep,rfl,λ_=>Iff.rfl⟩ λk e=> ?_⟩;rcases st.VZ k e with h|h
 .exact .inl ((a k).2 h)
 .exact .inr h
def Sat.vA{E:Env}{b:Nat}{F:List Pr}{w w':World}{G:NM}(H:Sat F w)(h:yA E w w' b G):Sat (Gz E b G.l::F) w':=
 H.new (P:=Gz E b G.l) (D:=Qt b G) h.ext ⟨G,h.rep,rfl,λ_=>Iff.rfl⟩ h.young
def Sat.Mz{E:Env}{b:Nat}{l:Nat->Iv}{F:List Pr}{w:World}(H:Sat (Gz E b l::F) w):AAE l/\ ∀i,i<4->Ok (l i):=by
 obtain⟨G,h1,rfl,_⟩:=H.tree;exact⟨h1.inv,λi hi=>(h1.Dk.Dk i hi).row.ok⟩
def gJ(l:Iv)(p n:Int):Prop:= ∀m,p<=m->m<p+n->mem l m
def bS{l:Iv}(h:Ok l){n p:Int}(hn:0<n)(u:findL l n=some p):gJ l p n/\ ∀e,gJ l e n->p<=e:=by
 induction l with
 | nil=>cases u
 | cons q r ih=>
  simp only[findL]at u;split at u
  .cases u;refine⟨λm h1 v=>mem_cons.2 (.inl ⟨h1,by omega⟩),λe d=> ?_⟩;rcases mem_cons.1 (d e (by omega) (by omega))with h1|⟨J,a,h1,v⟩
   .exact h1.1
   .have:=h.2.2.2.1 J a;omega
  .obtain⟨h1,v⟩:=ih h.tail u;refine⟨λm K O=>mem_cons.2 (.inr (h1 m K O)),λe d=> ?_⟩;obtain⟨J,a,K,O⟩:=fD h (by omega) d;rcases List.mem_cons.1 a with rfl|a
   .omega
   .exact v e λm T Y=>⟨J,a,by omega,by omega⟩
def bT{l:Iv}(h:Ok l){n:Int}(O:0<n)(d:findL l n=none): ∀p,¬gJ l p n:=by
 induction l with
 | nil=>intro p hp;exact DL _ (hp p (by omega) (by omega))
 | cons q r ih=>
  simp only[findL]at d;split at d
  .cases d
  .intro p hp;obtain⟨e,a,u,v⟩:=fD h (by omega) hp;rcases List.mem_cons.1 a with rfl|a
   .omega
   .exact ih h.tail d p λm J K=>⟨e,a,by omega,by omega⟩
section
variable{E:Env}(hE:EnvS E){w:World}{b:Nat}{G:NM}
include hE
end
def Vx(l:Nat->Iv)(x n:Int):Nat->Iv:=Sh.JT (Sh.JT (Sh.JT l 1 (Dy (l 1) x (x+n))) 2 (Dy (l 2) x (x+n))) 3 (Dy (l 3) x (x+n))
def gK(l:Nat->Iv)(c n:Int):Nat->Iv:=Sh.JT (Sh.JT (Sh.JT l 0 (ES (l 0) (c*512) ((c+n)*512))) 1 (ES (l 1) (c*512) ((c+n)*512))) 2 (ES (l 2) (c*512) ((c+n)*512))
def UR(l:Nat->Iv)(i:Nat)(x n:Int):Nat->Iv:=Sh.JT (Sh.JT l 1 (ES (l 1) x (x+n))) i (ES (l i) x (x+n))
def L5(c n:Int):Prop:=n=0∨262144<n∨67108864<c∨67108864-c<n
section
variable{E:Env}{w:World}{Z:List Pr}{b:Nat}{l:Nat->Iv}
def oW(H:Sat Z w){K:Option Addr->World->Prop}(a: ∀w' b l,(∀i,l i=[])->Sat (Gz E b l::Z) w'->K (some ⟨b,0,none⟩) w'):F.Hq E K w:=
 jU λw' b G hm d=>a w' b G.l d (H.vA hm)
def jV(H:Sat (Gz E b l::Z) w){n:Int}(a:0<=n){K:Int->Bool->World->Prop}
  (d: ∀w',Sat (Gz E b l::Z) w'->K ((if n=0 then none else findL (l 1) n).getD 0) (if n=0 then none else findL (l 1) n).isSome w'):F.CX E (some ⟨b,0,none⟩) n K w:=by
 obtain⟨G,e,rfl,st⟩:=H.tree;exact find_spec e a λw' he=>d w' (H.nothing he)
variable(hE:EnvS E)
include hE
theorem jW(H:Sat (Gz E b l::Z) w){c n:Int}(d:0<=c)(O:c<18446744073709551616)(v:0<=n)(Y:n<18446744073709551616){K:Int->World->Prop}
  (e:L5 c n->K 1 w)(m: ¬L5 c n->cnt (l 0) (c*512) ((c+n)*512)≠0-> ∀w',Sat (Gz E b l::Z) w'->K 34 w')
  (u: ¬L5 c n->cnt (l 0) (c*512) ((c+n)*512)=0-> ∀w',Sat (Gz E b (gK l c n)::Z) w'->K 0 w'):F.C8 E (some ⟨b,0,none⟩) c n K w:=by
 obtain⟨G,J,rfl,st⟩:=H.tree;exact jT hE J d O v Y e (λh1 a w' he=>m h1 a w' (H.nothing he)) λh1 a w' G' hs T=>u h1 a w' (by have:=st _ _ hs;rw[T]at this;exact this)
theorem jX(H:Sat (Gz E b l::Z) w){x n:Int}(m:0<=x)(T:x<18446744073709551616)(e:0<=n)(J:n<18446744073709551616){K:Int->Int->World->Prop}
  (a:By l x n true 32≠0-> ∀w',Sat (Gz E b l::Z) w'->K 0 (By l x n true 32) w')
  (d:By l x n true 32=0-> ∀w',Sat (Gz E b (Vx l x n)::Z) w'->K (cnt (l 2) x (x+n)) 0 w'):F.CY E (some ⟨b,0,none⟩) x n K w:=by
 obtain⟨G,u,rfl,st⟩:=H.tree;exact Vw hE u m T e J (λh1 w' he=>a h1 w' (H.nothing he)) λh1 w' G' O v=>d h1 w' (by have:=st _ _ O;rw[v]at this;exact this)
theorem bU(H:Sat (Gz E b l::Z) w){n:Int}(m:0<=n)(O:n<18446744073709551616){K:Int->Int->Int->World->Prop}
  (a:n=0->K 0 0 1 w)(d:n≠0->findL (l 1) n=none-> ∀w',Sat (Gz E b l::Z) w'->K 0 0 30 w')
  (e:n≠0-> ∀p,findL (l 1) n=some p-> ∀w',Sat (Gz E b (Vx l p n)::Z) w'->K p (cnt (l 2) p (p+n)) 0 w'):F.Ay E (some ⟨b,0,none⟩) n K w:=by
 obtain⟨G,v,rfl,st⟩:=H.tree;exact bR hE v m O a (λh1 u w' he=>d h1 u w' (H.nothing he)) λh1 p hp w' G' T J=>e h1 p hp w' (by have:=st _ _ T;rw[J]at this;exact this)
theorem jY(H:Sat (Gz E b l::Z) w){x n:Int}(m:0<=x)(T:x<18446744073709551616)(e:0<=n)(J:n<18446744073709551616){K:Int->World->Prop}
  (a:By l x n false 31≠0-> ∀w',Sat (Gz E b l::Z) w'->K (By l x n false 31) w')
  (d:By l x n false 31=0-> ∀w',Sat (Gz E b (UR l 3 x n)::Z) w'->K 0 w'):F.CV E (some ⟨b,0,none⟩) x n K w:=by
 obtain⟨G,u,rfl,st⟩:=H.tree;unfold F.CV T0.CV;simp only[AK,add_eq,Nat.zero_add];exact UQ hE u (i:=3) (.inr rfl) m T e J (λh1 w' he=>a h1 w' (H.nothing he)) λh1 w' G' O v=>d h1 w' (by have:=st _ _ O;rw[v]at this;exact this)
theorem jZ(H:Sat (Gz E b l::Z) w){x n:Int}(m:0<=x)(T:x<18446744073709551616)(e:0<=n)(J:n<18446744073709551616){K:Int->World->Prop}
  (a:By l x n false 31≠0-> ∀w',Sat (Gz E b l::Z) w'->K (By l x n false 31) w')
  (d:By l x n false 31=0-> ∀w',Sat (Gz E b (UR l 2 x n)::Z) w'->K 0 w'):F.C9 E (some ⟨b,0,none⟩) x n K w:=by
 obtain⟨G,u,rfl,st⟩:=H.tree;unfold F.C9 T0.C9;simp only[AK,add_eq,Nat.zero_add];exact UQ hE u (i:=2) (.inl rfl) m T e J (λh1 w' he=>a h1 w' (H.nothing he)) λh1 w' G' O v=>d h1 w' (by have:=st _ _ O;rw[v]at this;exact this)
end
def cu(u:Int->Bool):Nat->Int
 | 0=>0
 | k+1=>cu u k+(if u k then 1 else 0)
def AAF{u:Int->Bool}{l:Iv}{fr:Int}(h:Ok l){n:Nat}(hu: ∀k:Int,0<=k->k<n->(u k=true↔mem l (fr+k))):cu u n=cnt l fr (fr+n):=by
 induction n with
 | zero=>
  have:=EX l fr (fr+(0:Nat));have d:=Gm h (a:=fr) (b:=fr+((0:Nat):Int)) (by omega);show 0=_;omega
 | succ n ih=>
  have m:=Nr h (a:=fr) (k:=fr+n) (by omega);have e:fr+((n+1:Nat):Int)=fr+(n:Int)+1:=by omega
  rw[e];simp only[cu]
  grind
def AAG(u:Int->Bool)(n:Nat):0<=cu u n/\cu u n<=n:=by
 induction n with
 | zero=>simp[cu]
 | succ n ih=>simp only[cu];omega
structure TV where
 NZ:Int->Bool
 fr:Int->Bool
 rl:Int->Bool
def inr(x n p:Int):Bool:=decide (x<=p)&&decide (p<x+n)
def BE{x n p:Int}:inr x n p=true↔x<=p/\p<x+n:=by simp[inr]
def LY{x n p:Int}:inr x n p=false↔ ¬(x<=p/\p<x+n):=by rw[<-BE];grind
def NT(f:Int->Bool)(p n:Int):Prop:= ∀m,p<=m->m<p+n->f m=true
def TV.take(V:TV)(x n:Int):TV:=⟨V.NZ,λp=>V.fr p&& !inr x n p,λp=>V.rl p&& !inr x n p⟩
def TV.Va(V:TV)(x n:Int):TV:=⟨V.NZ,λp=>V.fr p||inr x n p,V.rl⟩
def TV.back(V:TV)(x n:Int):TV:=⟨V.NZ,λp=>V.fr p||inr x n p,λp=>V.rl p||inr x n p⟩
def TV.grow(V:TV)(c n:Int):TV:=⟨λp=>V.NZ p||inr (c*512) (n*512) p,λp=>V.fr p||inr (c*512) (n*512) p,λp=>V.rl p||inr (c*512) (n*512) p⟩
def TV.nil:TV:=⟨λ_=>false,λ_=>false,λ_=>false⟩
structure LV(l:Nat->Iv)(V:TV):Prop where
 i: ∀p,mem (l 0) p↔V.NZ p=true
 f: ∀p,mem (l 1) p↔V.fr p=true
 r: ∀p,mem (l 2) p↔V.rl p=true
def cr(f:Int->Bool)(x n:Int):Int:=cu (λk=>f (x+k)) n.toNat
def bV{f:Int->Bool}{l:Iv}(h:Ok l)(a: ∀p,mem l p↔f p=true){x n:Int}(d:0<=n):cr f x n=cnt l x (x+n):=by
 unfold cr;rw[AAF h (l:=l) (fr:=x) λk _ _=>(a (x+k)).symm]
 grind
def vB{f:Int->Bool}{x n:Int}(h: ∀m,x<=m->m<x+n->f m=false):cr f x n=0:=by
 unfold cr;have key: ∀k:Nat,(k:Int)<=n->cu (λk=>f (x+k)) k=0:=by
  intro k
  induction k with
  | zero=>intro _;rfl
  | succ k ih=>
   intro a;simp only[cu]
   grind
 by_cases g:0<=n
 .grind
 .have:n.toNat=0:=by omega
  rw[this];rfl
def AAH(f:Int->Bool)(x:Int):cr f x 1=if f x then 1 else 0:=by
 show cu (λk=>f (x+k)) 1=_;simp[cu]
def AAI(f:Int->Bool)(x:Int){n:Int}(a:0<=n):0<=cr f x n/\cr f x n<=n:=by
 have:=AAG (λk=>f (x+k)) n.toNat;unfold cr;omega
def BR(E:Env)(b:Nat)(V:TV):Pr:=Ex λl:Nat->Iv=>KR (LV l V) (Gz E b l)
structure AAJ(V:TV):Prop where
 fi: ∀p,V.fr p=true->V.NZ p=true
 rf: ∀p,V.rl p=true->V.fr p=true
 OC: ∀p,V.NZ p=true->0<=p/\p<34359738368
 ci: ∃l,Ok l/\ ∀p,mem l p↔V.NZ p=true
 cf: ∃l,Ok l/\ ∀p,mem l p↔V.fr p=true
 cr: ∃l,Ok l/\ ∀p,mem l p↔V.rl p=true
def Ik(V:TV)(x n:Int):Prop:=n≠0/\x+n<=34359738368/\NT V.NZ x n
def TV.idle(V:TV)(p:Int):Bool:=V.fr p&& !V.rl p
section
variable{E:Env}{w:World}{Z:List Pr}{b:Nat}{V:TV}{l:Nat->Iv}
def Sat.Jl:Sat (BR E b V::Z) w↔ ∃l,LV l V/\Sat (Gz E b l::Z) w:=by
 unfold BR;rw[Sat.ex];constructor
 .rintro⟨l,h⟩;exact⟨l,Sat.where.1 h⟩
 .rintro⟨l,h⟩;exact⟨l,Sat.where.2 h⟩
def LV.ok(h:LV l V)(H:Sat (Gz E b l::Z) w):AAJ V:=by
 obtain⟨hi,BU⟩:=H.Mz;exact⟨λp hp=>(h.i p).1 (hi.free p ((h.f p).2 hp)),λp hp=>(h.f p).1 (hi.rel p ((h.r p).2 hp)),λp hp=>⟨fC (BU 0 (by decide)) ((h.i p).2 hp),hi.top p ((h.i p).2 hp)⟩,
  ⟨l 0,BU 0 (by decide),h.i⟩,⟨l 1,BU 1 (by decide),h.f⟩,⟨l 2,BU 2 (by decide),h.r⟩⟩
def Sat.tvok(H:Sat (BR E b V::Z) w):AAJ V:=by
 obtain⟨l,h,H⟩:=Sat.Jl.1 H;exact h.ok H
def Ru(h:LV l V){p n:Int}:gJ (l 1) p n↔NT V.fr p n:=by
 constructor
 .intro d m a c;exact(h.f m).1 (d m a c)
 .intro d m a c;exact(h.f m).2 (d m a c)
def oX(h:LV l V)(BU: ∀i,i<4->Ok (l i)){x n:Int}(hx:0<=x)(hn:0<=n)(free:Bool){e:Int}(he:e≠0):
  (¬Ik V x n->By l x n free e=10)/\(Ik V x n->free=true-> ¬NT V.fr x n->By l x n free e=e)/\(Ik V x n->free=true->NT V.fr x n->By l x n free e=0)/\
  (Ik V x n->free=false->(∃m,x<=m/\m<x+n/\V.fr m=true)->By l x n free e=e)/\(Ik V x n->free=false->(∀m,x<=m->m<x+n->V.fr m=false)->By l x n free e=0):=by
 have K:=Ja (BU 0 (by decide)) (a:=x) (b:=x+n) (by omega);have O:=Ja (BU 1 (by decide)) (a:=x) (b:=x+n) (by omega);have T:=IG (BU 1 (by decide)) (a:=x) (b:=x+n) (by omega);have v: ∀{m:Int},NT V.NZ x n↔ ∀p,x<=p->p<x+n->mem (l 0) p:=λ{_}=>⟨λd p a c=>(h.i p).2 (d p a c),λd p a c=>(h.i p).1 (d p a c)⟩;have u:Ik V x n-> ¬(n=0∨34359738368<=x∨34359738368-x<n∨cnt (l 0) x (x+n)≠n):=λ⟨h1,h2,h3⟩ hb=>by
  have:=K.2 ((v (m:=0)).1 h3);omega
 refine⟨λY=> ?_,λhi J d=> ?_,λhi J d=> ?_,λhi J d=> ?_,λhi J d=> ?_⟩
 .unfold By;rw[if_pos];refine Classical.byContradiction λhb=>Y ⟨λe=>hb (.inl e),?_,?_⟩
  .omega
  .refine(v (m:=0)).2 (K.1 ?_);omega
 .unfold By;rw[if_neg (u hi),if_pos];rw[J,if_pos rfl];intro e0;exact d λm a c=>(h.f m).1 (O.1 (by omega) m a c)
 .unfold By;rw[if_neg (u hi),if_neg];rw[J,if_pos rfl,Decidable.not_not];have:=O.2 λm a c=>(h.f m).2 (d m a c);omega
 .unfold By;rw[if_neg (u hi),if_pos];rw[J,if_neg (by decide)];intro e0;obtain⟨m,a,c,hm⟩:=d;exact T.1 e0 m a c ((h.f m).2 hm)
 .unfold By;rw[if_neg (u hi),if_neg];rw[J,if_neg (by decide),Decidable.not_not];refine T.2 λm a c hm=> ?_;have:=(h.f m).1 hm
  grind
def LV.Vx(h:LV l V){x n:Int}(a:0<n):LV (Sh.Vx l x n) (V.take x n):=by
 refine⟨h.i,λp=> ?_,λp=> ?_⟩
 .show mem (Dy (l 1) x (x+n)) p↔(V.fr p&& !inr x n p)=true;rw[Ha (by omega),h.f,<-BE];grind
 .show mem (Dy (l 2) x (x+n)) p↔(V.rl p&& !inr x n p)=true;rw[Ha (by omega),h.r,<-BE];grind
def LV.UR(h:LV l V)(BU: ∀i,i<4->Ok (l i)){x n:Int}(d:0<=x)(m:0<n)(e:x+n<=34359738368):LV (Sh.UR l 3 x n) (V.Va x n)/\LV (Sh.UR l 2 x n) (V.back x n):=by
 have a1:=GI (BU 1 (by decide)) (a:=x) (b:=x+n) (by omega) d (by omega);have a2:=GI (BU 2 (by decide)) (a:=x) (b:=x+n) (by omega) d (by omega);refine⟨⟨h.i,λp=> ?_,h.r⟩,⟨h.i,λp=> ?_,λp=> ?_⟩⟩
 .show mem (ES (l 1) x (x+n)) p↔(V.fr p||inr x n p)=true;rw[a1,h.f,<-BE,Bool.or_eq_true]
 .show mem (ES (l 1) x (x+n)) p↔(V.fr p||inr x n p)=true;rw[a1,h.f,<-BE,Bool.or_eq_true]
 .show mem (ES (l 2) x (x+n)) p↔(V.rl p||inr x n p)=true;rw[a2,h.r,<-BE,Bool.or_eq_true]
def LV.gK(h:LV l V)(BU: ∀i,i<4->Ok (l i)){c n:Int}(m:0<=c)(u:0<n)(d:c+n<=67108864):LV (Sh.gK l c n) (V.grow c n):=by
 have e:(c+n)*512=c*512+n*512:=by omega
 have a0:=GI (BU 0 (by decide)) (a:=c*512) (b:=c*512+n*512) (by omega) (by omega) (by omega);have a1:=GI (BU 1 (by decide)) (a:=c*512) (b:=c*512+n*512) (by omega) (by omega) (by omega);have a2:=GI (BU 2 (by decide)) (a:=c*512) (b:=c*512+n*512) (by omega) (by omega) (by omega);refine⟨λp=> ?_,λp=> ?_,λp=> ?_⟩
 .show mem (ES (l 0) (c*512) ((c+n)*512)) p↔(V.NZ p||inr (c*512) (n*512) p)=true;rw[e,a0,h.i,<-BE,Bool.or_eq_true]
 .show mem (ES (l 1) (c*512) ((c+n)*512)) p↔(V.fr p||inr (c*512) (n*512) p)=true;rw[e,a1,h.f,<-BE,Bool.or_eq_true]
 .show mem (ES (l 2) (c*512) ((c+n)*512)) p↔(V.rl p||inr (c*512) (n*512) p)=true;rw[e,a2,h.r,<-BE,Bool.or_eq_true]
def oY(H:Sat Z w){K:Option Addr->World->Prop}(e: ∀w' b,Sat (BR E b TV.nil::Z) w'->K (some ⟨b,0,none⟩) w'):F.Hq E K w:=
 oW H λw' b l m d=>e w' b (Sat.Jl.2 ⟨l,by
  have a: ∀i p,¬mem (l i) p:=λi p=>by rw[m];exact DL p
  exact⟨λp=>⟨λh=>absurd h (a 0 p),λh=>(by cases h)⟩,λp=>⟨λh=>absurd h (a 1 p),λh=>(by cases h)⟩,λp=>⟨λh=>absurd h (a 2 p),λh=>(by cases h)⟩⟩,d⟩)
def Pp(V:TV)(n p:Int):Prop:=0<=p/\p+n<=34359738368/\NT V.fr p n/\ ∀a,NT V.fr a n->p<=a
def Pq(h:LV l V)(H:Sat (Gz E b l::Z) w){n:Int}(m:0<n):(findL (l 1) n=none/\ ∀p,¬NT V.fr p n)∨ ∃p,findL (l 1) n=some p/\Pp V n p:=by
 obtain⟨hi,BU⟩:=H.Mz;have d:=h.ok H;cases hf:findL (l 1) n with
 | none=>exact .inl ⟨rfl,λp hp=>bT (BU 1 (by decide)) m hf p ((Ru h).2 hp)⟩
 | some p=>
  obtain⟨h1,u⟩:=bS (BU 1 (by decide)) m hf;have a:=(Ru h).1 h1;have b1:=d.OC p (d.fi p (a p (Int.le_refl _) (by omega)));have b2:=d.OC (p+n-1) (d.fi _ (a (p+n-1) (by omega) (by omega)));exact .inr ⟨p,rfl,b1.1,by omega,a,λv e=>u v ((Ru h).2 e)⟩
def j9(H:Sat (BR E b V::Z) w){n:Int}(a:0<=n){K:Int->Bool->World->Prop}
  (m:n=0∨(∀p,¬NT V.fr p n)-> ∀w',Sat (BR E b V::Z) w'->K 0 false w')(u:n≠0-> ∀p,Pp V n p-> ∀w',Sat (BR E b V::Z) w'->K p true w'):F.CX E (some ⟨b,0,none⟩) n K w:=by
 obtain⟨l,h,H⟩:=Sat.Jl.1 H;refine jV H a λw' d=> ?_;have v:=Sat.Jl.2 ⟨l,h,d⟩;by_cases e:n=0
 .grind
 .rw[if_neg e];rcases Pq h H (n:=n) (by omega)with ⟨h1,h2⟩|⟨p,h1,h2⟩
  .grind
  grind
variable(hE:EnvS E)
include hE
theorem kA(H:Sat (BR E b V::Z) w){c n:Int}(d:0<=c)(hc:c<18446744073709551616)(T:0<=n)(hn:n<18446744073709551616){K:Int->World->Prop}
  (v:L5 c n->K 1 w)(J: ¬L5 c n->(∃p,c*512<=p/\p<(c+n)*512/\V.NZ p=true)-> ∀w',Sat (BR E b V::Z) w'->K 34 w')
  (O: ¬L5 c n->(∀p,c*512<=p->p<(c+n)*512->V.NZ p=false)-> ∀w',Sat (BR E b (V.grow c n)::Z) w'->K 0 w'):F.C8 E (some ⟨b,0,none⟩) c n K w:=by
 obtain⟨l,h,H⟩:=Sat.Jl.1 H;have BU:=H.Mz.2;refine jW hE H d hc T hn v (λe a w' m=>J e ?_ w' (Sat.Jl.2 ⟨l,h,m⟩)) λe a w' m=>O e (λp h1 u=> ?_) w' (Sat.Jl.2 ⟨_,?_,m⟩)
 .refine Classical.byContradiction λY=>a ((IG (BU 0 (by decide)) (by omega)).2 λp h1 u hm=>Y ⟨p,h1,u,(h.i p).1 hm⟩)
 .have:=(IG (BU 0 (by decide)) (by omega)).1 a p h1 u;rw[h.i]at this
  grind
 .unfold L5 at e;exact h.gK BU d (by omega) (by omega)
theorem kB(H:Sat (BR E b V::Z) w){x n:Int}(d:0<=x)(Y:x<18446744073709551616)(a:0<=n)(T:n<18446744073709551616){K:Int->Int->World->Prop}
  (J: ¬Ik V x n-> ∀w',Sat (BR E b V::Z) w'->K 0 10 w')(O:Ik V x n-> ¬NT V.fr x n-> ∀w',Sat (BR E b V::Z) w'->K 0 32 w')
  (u:Ik V x n->NT V.fr x n-> ∀w',Sat (BR E b (V.take x n)::Z) w'->K (cr V.rl x n) 0 w'):F.CY E (some ⟨b,0,none⟩) x n K w:=by
 obtain⟨l,h,H⟩:=Sat.Jl.1 H;have BU:=H.Mz.2;obtain⟨l1,l2,l3,_,_⟩:=oX h BU d a true (e:=32) (by decide);refine jX hE H d Y a T (λv w' m=> ?_) λv w' m=> ?_
 .have HV:=Sat.Jl.2 ⟨l,h,m⟩;by_cases g:Ik V x n
  .grind
  grind
 .have g:Ik V x n:=Classical.byContradiction λg=>by grind
  have g2:NT V.fr x n:=Classical.byContradiction λg2=>by grind
  rw[<-bV (BU 2 (by decide)) h.r a];have:=g.1;exact u g g2 w' (Sat.Jl.2 ⟨_,h.Vx (by omega),m⟩)
theorem US(H:Sat (BR E b V::Z) w){n:Int}(a:0<=n)(J:n<18446744073709551616){K:Int->Int->Int->World->Prop}
  (m:n=0->K 0 0 1 w)(u:n≠0->(∀p,¬NT V.fr p n)-> ∀w',Sat (BR E b V::Z) w'->K 0 0 30 w')
  (v:n≠0-> ∀p,Pp V n p-> ∀w',Sat (BR E b (V.take p n)::Z) w'->K p (cr V.rl p n) 0 w'):F.Ay E (some ⟨b,0,none⟩) n K w:=by
 obtain⟨l,h,H⟩:=Sat.Jl.1 H;have BU:=H.Mz.2;refine bU hE H a J m (λh1 d w' e=> ?_) λh1 p d w' e=> ?_
 .rcases Pq h H (n:=n) (by omega)with ⟨_,g2⟩|⟨p,g1,g2⟩
  .exact u h1 g2 w' (Sat.Jl.2 ⟨l,h,e⟩)
  .rw[d]at g1;cases g1
 .rcases Pq h H (n:=n) (by omega)with ⟨g1,_⟩|⟨p',g1,g2⟩
  .rw[d]at g1;cases g1
  .rw[d]at g1;cases g1;rw[<-bV (BU 2 (by decide)) h.r a];exact v h1 p g2 w' (Sat.Jl.2 ⟨_,h.Vx (by omega),e⟩)
theorem Vy(H:Sat (BR E b V::Z) w){x n:Int}(d:0<=x)(hx:x<18446744073709551616)(u:0<=n)(hn:n<18446744073709551616){K:Int->World->Prop}
  (T: ¬Ik V x n-> ∀w',Sat (BR E b V::Z) w'->K 10 w')(Y:Ik V x n->(∃m,x<=m/\m<x+n/\V.fr m=true)-> ∀w',Sat (BR E b V::Z) w'->K 31 w')
  (O:Ik V x n->(∀m,x<=m->m<x+n->V.fr m=false)-> ∀w',Sat (BR E b (V.Va x n)::Z) w'->K 0 w'):F.CV E (some ⟨b,0,none⟩) x n K w:=by
 obtain⟨l,h,H⟩:=Sat.Jl.1 H;have BU:=H.Mz.2;obtain⟨l1,_,_,l4,l5⟩:=oX h BU d u false (e:=31) (by decide);have em: ∀(P:Prop),P∨ ¬P:=Classical.em;refine jY hE H d hx u hn (λJ w' v=> ?_) λJ w' v=> ?_
 .have HV:=Sat.Jl.2 ⟨l,h,v⟩;by_cases g:Ik V x n
  .rcases em (∃m,x<=m/\m<x+n/\V.fr m=true)with g2|g2
   .grind
   grind
  grind
 .have g:Ik V x n:=Classical.byContradiction λg=>by grind
  have g2: ∀m,x<=m->m<x+n->V.fr m=false:=λm a c=>by
   cases e:V.fr m with
   | false=>rfl
   | true=>rw[l4 g rfl ⟨m,a,c,e⟩]at J;cases J
  have g1:=g.1;exact O g g2 w' (Sat.Jl.2 ⟨_,(h.UR BU d (by omega) g.2.1).1,v⟩)
theorem kC(H:Sat (BR E b V::Z) w){x n:Int}(d:0<=x)(hx:x<18446744073709551616)(u:0<=n)(hn:n<18446744073709551616){K:Int->World->Prop}
  (T: ¬Ik V x n-> ∀w',Sat (BR E b V::Z) w'->K 10 w')(Y:Ik V x n->(∃m,x<=m/\m<x+n/\V.fr m=true)-> ∀w',Sat (BR E b V::Z) w'->K 31 w')
  (O:Ik V x n->(∀m,x<=m->m<x+n->V.fr m=false)-> ∀w',Sat (BR E b (V.back x n)::Z) w'->K 0 w'):F.C9 E (some ⟨b,0,none⟩) x n K w:=by
 obtain⟨l,h,H⟩:=Sat.Jl.1 H;have BU:=H.Mz.2;obtain⟨l1,_,_,l4,l5⟩:=oX h BU d u false (e:=31) (by decide);have em: ∀(P:Prop),P∨ ¬P:=Classical.em;refine jZ hE H d hx u hn (λJ w' v=> ?_) λJ w' v=> ?_
 .have HV:=Sat.Jl.2 ⟨l,h,v⟩;by_cases g:Ik V x n
  .rcases em (∃m,x<=m/\m<x+n/\V.fr m=true)with g2|g2
   .grind
   grind
  grind
 .have g:Ik V x n:=Classical.byContradiction λg=>by grind
  have g2: ∀m,x<=m->m<x+n->V.fr m=false:=λm a c=>by
   cases e:V.fr m with
   | false=>rfl
   | true=>rw[l4 g rfl ⟨m,a,c,e⟩]at J;cases J
  have g1:=g.1;exact O g g2 w' (Sat.Jl.2 ⟨_,(h.UR BU d (by omega) g.2.1).2,v⟩)
end
def bkN{a b:Nat}(d:a<18446744073709551616)(e:b<18446744073709551616):DQ .u64 0 (a:Int) (b:Int)=((a&&&b:Nat):Int):=by
 show IntKind.wrap .u64 ((BitVec.ofInt 64 (a:Int)&&&BitVec.ofInt 64 (b:Int)).toNat:Int)=_;rw[BitVec.toNat_and,BitVec.ofInt_natCast,BitVec.ofInt_natCast,BitVec.toNat_ofNat,BitVec.toNat_ofNat,Nat.mod_eq_of_lt d,Nat.mod_eq_of_lt e];exact T7 (Nat.lt_of_le_of_lt Nat.and_le_left d)
def fdN(a k:Nat)(e:k<=64):Int.fdiv (a:Int) (2^(min (Int.toNat (k:Int)) (IntKind.bits .u64)))=((a/2^k:Nat):Int):=by
 have d:IntKind.bits .u64=64:=rfl
 grind
section
variable{E:Env}{w:World}{Z:List Pr}
def Rv{u:Nat->Bool}(hT:DJ E.AB w){K:Int->World->Prop}(v:(∀i,i<64->u i=false)->K 64 w)
  (J: ∀r:Nat,r<64->u r=true->(∀i,i<r->u i=false)->K r w):F.BS E (W u) K w:=by
 unfold F.BS;refine Cj (λe=>v (Hp.1 e)) λO=> ?_;have T:wN u 64≠0:=λe=>O (by unfold W;rw[e];rfl);have a:=PK u 64;obtain⟨h1,h2⟩:=Lib.lowest_bit 64 _ T a;obtain⟨c1,c2,c3⟩:=tG T a;have hand:DQ .u64 0 (W u) (u64 (0-W u))=((2^Lib.ctz 64 (wN u 64):Nat):Int):=by
  have:=mZ T a;rw[h1]at this;exact this
 rw[hand];generalize Lib.ctz 64 (wN u 64)=k at h2 c1 c2 c3;obtain⟨d1,d2⟩:=Lib.deBruijn64_at k c1;have e1:u64 (((2^k:Nat):Int)*285870213051353865)=((2^k*285870213051353865 %18446744073709551616:Nat):Int):=by
  rw[QV,Int.natCast_emod,Int.natCast_mul];rfl
 rw[e1];have Y:=fdN (2^k*285870213051353865 %18446744073709551616) 58 (by decide);have m:(2:Nat)^58=288230376151711744:=by decide
 rw[m]at Y;have d:Int.fdiv ((2^k*285870213051353865 %18446744073709551616:Nat):Int) (2^(min (Int.toNat 58) (IntKind.bits .u64)))=((2^k*285870213051353865 %18446744073709551616/288230376151711744:Nat):Int):=Y;rw[d];generalize 2^k*285870213051353865 %18446744073709551616/288230376151711744=idx at d1 d2;have Cq:=hT idx d1;rw[d2]at Cq;refine⟨by decide,⟨by omega,by omega⟩,(k:Int),?_,?_⟩
 .rw[Int.toNat_natCast,Nat.mul_one,add_eq,Nat.zero_add];exact Cq
 .rw[AI];refine J k c1 ?_ λi hi=> ?_
  .have:=c2;rw[DV]at this;grind
  .have:=c3 i hi;rw[DV]at this
   grind
def Yo{u:Nat->Bool}(hu: ∀i,64<=i->u i=false){K:Int->World->Prop}(hK:K (cN u 64) w):F.F2 E (W u) K w:=by
 unfold F.F2;have v:wN u 64<18446744073709551616:=PK u 64;have f: ∀(a k d:Nat) (k':Int),k'=(k:Int)->k<=64->2^k=d->Int.fdiv (a:Int) (2^(min (Int.toNat k') (IntKind.bits .u64)))=((a/d:Nat):Int):=λa k d k' e h hd=>by rw[e,<-hd];exact fdN a k h
 have J: ∀{a:Nat},a<18446744073709551616->u64 (a:Int)=(a:Int):=λh=>AR;have half: ∀(a d:Nat),a<18446744073709551616->a/d<18446744073709551616:=λa d h=>Nat.lt_of_le_of_lt (Nat.div_le_self _ _) h;refine⟨by decide,Ac λx1 Y=>⟨by decide,Ac λx2 aA=>⟨by decide,Ac λx3 aB=>⟨by decide,Ac λx4 aC=>⟨by decide,Ac λx5 aD=>⟨by decide,Ac λx6 aE=>Ac λt ht=> ?_⟩⟩⟩⟩⟩⟩;have m1:(6148914691236517205:Int)=((6148914691236517205:Nat):Int):=rfl;have m2:(3689348814741910323:Int)=((3689348814741910323:Nat):Int):=rfl;have m3:(1085102592571150095:Int)=((1085102592571150095:Nat):Int):=rfl;have ew:W u=((wN u 64:Nat):Int):=rfl;obtain⟨O,h0⟩: ∃O,O=wN u 64:=⟨_,rfl⟩;obtain⟨T,h1⟩: ∃T,T=(O/2&&&6148914691236517205)+(O&&&6148914691236517205):=⟨_,rfl⟩;obtain⟨y2,h2⟩: ∃y2,y2=(T/4&&&3689348814741910323)+(T&&&3689348814741910323):=⟨_,rfl⟩;obtain⟨y3,h3⟩: ∃y3,y3=(y2/16+y2)&&&1085102592571150095:=⟨_,rfl⟩;obtain⟨y4,h4⟩: ∃y4,y4=y3+y3/256:=⟨_,rfl⟩;obtain⟨y5,h5⟩: ∃y5,y5=y4+y4/65536:=⟨_,rfl⟩;obtain⟨m,h6⟩: ∃m,m=y5+y5/4294967296:=⟨_,rfl⟩;obtain⟨l1,l2,l3,l4,l5,l6,l7⟩:=swar hu h0 h1 h2 h3 h4 h5 h6;rw[<-h0]at v ew;rw[ew,f O 1 2 1 rfl (by decide) rfl,m1,bkN (half O 2 v) (by decide),bkN v (by decide),<-Int.natCast_add,<-h1,J l1]at Y;subst Y;rw[f T 2 4 2 rfl (by decide) rfl,m2,bkN (half T 4 l1) (by decide),bkN l1 (by decide),<-Int.natCast_add,<-h2,J l2]at aA;subst aA;rw[f y2 4 16 4 rfl (by decide) rfl,<-Int.natCast_add,J l3,m3,bkN l3 (by decide),<-h3]at aB;subst aB;rw[f y3 8 256 8 rfl (by decide) rfl,<-Int.natCast_add,<-h4,J l4]at aC;subst aC;rw[f y4 16 65536 16 rfl (by decide) rfl,<-Int.natCast_add,<-h5,J l5]at aD;subst aD;rw[f y5 32 4294967296 32 rfl (by decide) rfl,<-Int.natCast_add,<-h6,J (Nat.lt_trans l6 (by decide))]at aE;subst aE;rw[AI]at ht;have e:DQ .i64 0 (m:Int) 127=((m %128:Nat):Int):=by
  show IntKind.wrap .i64 ((BitVec.ofInt 64 (m:Int)&&&BitVec.ofInt 64 ((127:Nat):Int)).toNat:Int)=_;rw[BitVec.toNat_and,BitVec.ofInt_natCast,BitVec.ofInt_natCast,BitVec.toNat_ofNat,BitVec.toNat_ofNat,Nat.mod_eq_of_lt (show m<2^64 from Nat.lt_trans l6 (by decide)),Nat.mod_eq_of_lt (by decide)];have:m&&&127=m %128:=Nat.and_two_pow_sub_one_eq_mod m 7;rw[this];exact AI
 rw[e,l7]at ht
 grind
def L6(u:Nat->Bool)(i n:Nat):Prop:= ∀k,k<n->u (i+k)=true
def bW{u:Nat->Bool}(hu: ∀i,64<=i->u i=false)(hT:DJ E.AB w){n:Int}(h1:1<=n)(h2:n<=64){K:Int->Bool->World->Prop}
  (aJ:(∀i,¬L6 u i n.toNat)-> ∀r,K r false w)(aB: ∀i,L6 u i n.toNat->(∀j,L6 u j n.toNat->i<=j)->i+n.toNat<=64->K i true w):F.HC E (W u) n K w:=by
 unfold F.HC T0.HC;refine AM (λst w'=>w'=w/\ ∃v:Nat->Bool,st.1=W v/\(∀i,64<=i->v i=false)/\0<=st.2.2.1/\st.2.2.1<64/\st.2.1=st.2.2.1+1/\ ∀i,L6 v i (st.2.2.1.toNat+1)↔L6 u i n.toNat) (λst _=>st.2.2.1.toNat)
  ⟨rfl,u,rfl,hu,?_,?_,?_,λi=> ?_⟩ ?_
 .show 0<=i64 (n-1);rw[AI];omega
 .show i64 (n-1)<64;rw[AI];omega
 .show n=i64 (n-1)+1;rw[AI];omega
 .show L6 u i ((i64 (n-1)).toNat+1)↔_;rw[AI,show(n-1).toNat+1=n.toNat by omega]
 rintro⟨x,m,left,c⟩ _ w2 ⟨rfl,v,hx,hv,l0,l1,hm,a⟩;dsimp only at hx l0 l1 hm a⊢;subst hx;subst hm;refine AG (λaF=>⟨by decide,Ac λQK aA=> ?_⟩) λhz=> ?_
 .rw[Int.tdiv_eq_ediv_of_nonneg (by omega),AI,Wn,TJ]at aA;have b0:1<=QK/\QK<=left/\2*QK<=left+1:=by omega
  refine⟨by omega,Ac λx' Y=> ?_⟩;rw[mX v (by omega) (by omega),mV]at Y;rw[AI (n:=left+1-QK),AI (n:=left-QK)];refine⟨⟨by trivial,_,Y,λi hi=>by grind,by omega,by omega,by omega,λi=> ?_⟩,by omega⟩;rw[<-a];have J: ∀j,(v j&&(decide (j+QK.toNat<64)&&v (j+QK.toNat)))=true↔v j=true/\v (j+QK.toNat)=true:=λj=>by grind
  constructor
  .intro h k hk;by_cases g:k<(left-QK).toNat+1
   .exact((J _).1 (h k g)).1
   .have:=((J _).1 (h (k-QK.toNat) (by omega))).2;rwa[show i+(k-QK.toNat)+QK.toNat=i+k by omega]at this
  .intro h k hk;refine(J _).2 ⟨h k (by omega),?_⟩;have:=h (k+QK.toNat) (by omega)
   grind
 .have e:left=0:=by omega
  subst e;have d: ∀i,v i=true↔L6 u i n.toNat:=λi=>by
   rw[<-a];constructor
   .intro h k hk;have:k=0:=by omega
    subst this;exact h
   .intro h;exact h 0 (by decide)
  refine Rv hT (λaC=> ?_) λr hr O aE=> ?_
  .have e0:W v=0:=Hp.2 aC
   grind
  .have aK:W v≠0:=λe=>by rw[Hp.1 e r hr]at O;cases O
   have e1:(W v !=0)=true:=by grind
   rw[e1];have T:=(d r).1 O;refine aB r T (λj hj=> ?_) ?_
   .refine Classical.byContradiction λg=> ?_
    grind
   .refine Classical.byContradiction λg=> ?_;have h3:=T (n.toNat-1) (by omega)
    grind
structure CS where
 base:Int
 has:Nat->Bool
 rel:Nat->Bool
structure XG(S:CS):Prop where
 b0:0<=S.base
 b1:S.base<34359738368
 b64:S.base %64=0
 hz: ∀i,64<=i->S.has i=false
 rh: ∀i,S.rel i=true->S.has i=true
def CS.nil:CS:=⟨0,λ_=>false,λ_=>false⟩
def CS.empty(S:CS):Prop:= ∀i,S.has i=false
def BH(E:Env)(c:Nat)(S:CS):Pr:=KR (XG S) (Cells c E.Fq [.int .u64 S.base,.int .u64 (W S.has),.int .u64 (W S.rel)])
def XG.nil:XG CS.nil:=⟨by decide,by decide,by decide,λ_ _=>rfl,λ_ h=>h⟩
def Sat.cache{c:Nat}{S:CS}:Sat (BH E c S::Z) w↔XG S/\Sat (Cells c E.Fq [.int .u64 S.base,.int .u64 (W S.has),.int .u64 (W S.rel)]::Z) w:=Sat.where
def kD(H:Sat Z w){K:Option Addr->World->Prop}(m: ∀w' c,Sat (BH E c CS.nil::Z) w'->K (some ⟨c,0,none⟩) w'):F.Mu E K w:=by
 unfold F.Mu;refine AJ H λc w' a _=>m w' c (Sat.cache.2 ⟨XG.nil,?_⟩);have e:W CS.nil.has=0:=Wr;have d:W CS.nil.rel=0:=Wr;rw[e,d];exact a
variable{c t:Nat}{S:CS}{V:TV}
def XG.emp(h:XG S):W S.has=0↔S.empty:=by
 rw[Hp];constructor
 .intro g i;by_cases e:i<64
  .exact g i e
  .exact h.hz i (by omega)
 .intro g i _;exact g i
def OD(H:Sat (BH E c S::Z) w){K:Bool->World->Prop}(d:S.empty->K true w)(a: ¬S.empty->K false w):F.EZ E (some ⟨c,0,none⟩) K w:=by
 obtain⟨hI,H⟩:=Sat.cache.1 H;unfold F.EZ;simp only[AK];refine⟨_,H.cell rfl,?_⟩;by_cases g:W S.has=0
 .rw[show(W S.has==0)=true by grind];exact d (hI.emp.1 g)
 .rw[show(W S.has==0)=false by grind];exact a λh=>g (hI.emp.2 h)
def CS.alloc(S:CS)(i n:Nat):CS:=⟨S.base,λk=>S.has k&& !(decide (i<=k)&&decide (k<i+n)),λk=>S.rel k&& !(decide (i<=k)&&decide (k<i+n))⟩
def kE{n:Int}(h1:1<=n)(a:n<=64){i:Nat}(hi:i+n.toNat<=64):
  u64 ((Int.fdiv 18446744073709551615 (2^(min (Int.toNat (i64 (64-n))) (IntKind.bits .u64))))*2^(min (Int.toNat (i:Int)) (IntKind.bits .u64)))=W λk=>decide (i<=k)&&decide (k<i+n.toNat):=by
 rw[AI (n:=64-n),<-Ws,mX _ (by omega) (by omega),mY _ (by omega) (by omega)]
 grind
def Yp(hT:DJ E.AB w)(H:Sat (BH E c S::Z) w){n:Int}(aC: -9223372036854775808<=n)(aD:n<9223372036854775808){K:Int->Int->Int->World->Prop}
  (u:n<1∨64<n->K 0 0 1 w)(J:1<=n->n<=64->(∀i,¬L6 S.has i n.toNat)->K 0 0 30 w)
  (O:1<=n->n<=64-> ∀i,L6 S.has i n.toNat->(∀j,L6 S.has j n.toNat->i<=j)->i+n.toNat<=64-> ∀w',Sat (BH E c (S.alloc i n.toNat)::Z) w'->
   K (S.base+i) (cN (λk=>S.rel k&&(decide (i<=k)&&decide (k<i+n.toNat))) 64) 0 w'):F.CQ E (some ⟨c,0,none⟩) n K w:=by
 obtain⟨hI,H⟩:=Sat.cache.1 H;unfold F.CQ T0.CQ;refine AZ (AG (λh j=>Aa rfl (u (.inl h))) λg1 j=>AG (λh=>u (.inr h)) λg2=> ?_);simp only[AK];refine⟨_,H.cell rfl,bW hI.hz hT (by omega) (by omega) (λT r=>Aa rfl (J (by omega) (by omega) T)) λi hr v e=>AO rfl ⟨?_,by omega,Ac λmask hm=> ?_⟩⟩
 .rw[AI (n:=64-n)];omega
 rw[kE (by omega) (by omega) e]at hm;subst hm;refine⟨_,H.cell rfl,?_⟩;rw[mV];refine Yo (λk m=> ?_) ?_
 .grind
 refine⟨_,H.cell rfl,Ah H rfl (by simp) λaF a=> ?_⟩;simp only[List.set,Nat.zero_add]at a;rw[Nx]at a;refine⟨_,a.cell rfl,Ah a rfl (by simp) λY d=> ?_⟩;simp only[List.set,Nat.zero_add]at d;rw[Nx]at d;refine⟨_,d.AU rfl,?_⟩;have hb:=hI.b0;have aB:=hI.b1;rw[AR (n:=(i:Int)),AR (n:=S.base+(i:Int))];refine O (by omega) (by omega) i hr v e Y (Sat.cache.2 ⟨⟨hI.b0,hI.b1,hI.b64,λk m=> ?_,λk m=> ?_⟩,d⟩)
 .show(S.has k&&_)=false;rw[hI.hz k m];rfl
 .have m:(S.rel k&& !(decide (i<=k)&&decide (k<i+n.toNat)))=true:=m;show(S.has k&& !(decide (i<=k)&&decide (k<i+n.toNat)))=true;rw[Bool.and_eq_true]at m⊢;exact⟨hI.rh k m.1,m.2⟩
variable(hE:EnvS E)
include hE
theorem bX(H:Sat (BH E c S::BR E t V::Z) w){K:Int->World->Prop}
  (aH: ¬S.empty-> ∀w',Sat (BH E c S::BR E t V::Z) w'->K 33 w')(aR:S.empty->(∀p,V.fr p=false)-> ∀w',Sat (BH E c S::BR E t V::Z) w'->K 30 w')
  (aS:S.empty-> ∀p,Pp V 1 p-> ∀w',Sat (BH E c ⟨p/64*64,λi=>decide (i<64)&&V.fr (p/64*64+i),λi=>decide (i<64)&&V.rl (p/64*64+i)⟩::BR E t (V.take (p/64*64) 64)::Z) w'->K 0 w'):
  F.DO E (some ⟨c,0,none⟩) (some ⟨t,0,none⟩) K w:=by
 unfold F.DO T0.DO;have sw: ∀{A B:Pr} {w'},Sat (A::B::Z) w'->Sat (B::A::Z) w':=λh=>h.perm (.swap _ _ _);refine j9 (sw H) (by decide) (λd w3 H3=> ?_) λ_ p hp w3 H3=> ?_
 .have d: ∀p,V.fr p=false:=λp=>by
   rcases d with h|h
   .cases h
   .cases g:V.fr p with
    | false=>rfl
    | true=>exact absurd (λm a b=>by grind) (h p)
  refine OD (sw H3) (λhe=>AO rfl (Aa rfl (aR he d w3 (sw H3)))) λhe=>Aa rfl (aH he w3 (sw H3))
 refine OD (sw H3) (λhe=>AO rfl (AO rfl ⟨by decide,?_⟩)) λhe=>Aa rfl (aH he w3 (sw H3));have hv:=H3.tvok;have aT:=hp.1;have a4:=hp.2.1;obtain⟨hI,H4⟩:=Sat.cache.1 (sw H3);rw[Int.tdiv_eq_ediv_of_nonneg aT,AR (n:=p/64),AR (n:=p/64*64)];simp only[AK];generalize hB:p/64*64=B;have aF:0<=B/\B+64<=34359738368/\B %64=0:=by omega
 refine BT H4 rfl (by simp) λw7 H7=> ?_;simp only[List.set]at H7;have hz: ∀i,S.rel i=false:=λi=>by
  cases g:S.rel i with
  | false=>rfl
  | true=>have:=hI.rh i g;rw[he i]at this;cases this
 have e1:W S.has=W λi=>decide (i<0)&&V.fr (B+i):=HM λi _=>by rw[he i];simp
 have e2:W S.rel=W λi=>decide (i<0)&&V.rl (B+i):=HM λi _=>by grind
 rw[e1,e2]at H7;have Y:V=V.take B 0:=by
  have e: ∀q,inr B 0 q=false:=λq=>LY.2 (by omega);unfold TV.take;simp[e]
 refine AM (λst w'=> ∃i:Nat,st.1=(i:Int)/\i<=64/\Sat (Cells c E.Fq [.int .u64 B,.int .u64 (W λk=>decide (k<i)&&V.fr (B+k)),.int .u64 (W λk=>decide (k<i)&&V.rl (B+k))]::BR E t (V.take B i)::Z) w') (λst _=>(64-st.1).toNat)
  ⟨0,rfl,by decide,by rw[show((0:Nat):Int)=0 from rfl,<-Y];exact H7⟩ ?_
 rintro⟨i',v⟩ _ w9 ⟨i,hi,aX,H9⟩;dsimp only at hi⊢;subst hi;refine AG (λa3=>⟨B,H9.AU rfl,?_⟩) λa2=> ?_
 .rw[AR (n:=B+(i:Int)),AR (n:=(i:Int)+1)];have aL:inr B i (B+i)=false:=LY.2 (by omega);have aP:(V.take B i).fr (B+i)=V.fr (B+i):=by show(V.fr (B+i)&& !inr B i (B+i))=_;grind
  have aU:(V.take B i).rl (B+i)=V.rl (B+i):=by show(V.rl (B+i)&& !inr B i (B+i))=_;grind
  have aC: ∀q,inr B ((i+1:Nat):Int) q=(inr B i q||inr (B+i) 1 q):=λq=>by
   rw[Bool.eq_iff_iff,Bool.or_eq_true,BE,BE,BE];omega
  have T:V.fr (B+i)=false-> ∀{w'},Sat (BR E t (V.take B i)::Cells c E.Fq [.int .u64 B,.int .u64 (W λk=>decide (k<i)&&V.fr (B+k)),.int .u64 (W λk=>decide (k<i)&&V.rl (B+k))]::Z) w'->
    (∃j:Nat,(i:Int)+1=(j:Int)/\j<=64/\Sat (Cells c E.Fq [.int .u64 B,.int .u64 (W λk=>decide (k<j)&&V.fr (B+k)),.int .u64 (W λk=>decide (k<j)&&V.rl (B+k))]::BR E t (V.take B j)::Z) w')/\(64-((i:Int)+1)).toNat<(64-(i:Int)).toNat:=λhf w' h=>by
   refine⟨⟨i+1,by omega,by omega,?_⟩,by omega⟩;have hr:V.rl (B+i)=false:=by
    cases g:V.rl (B+i)with
    | false=>rfl
    | true=>have:=hv.rf _ g;grind
   have f1:W (λk=>decide (k<i+1)&&V.fr (B+k))=W λk=>decide (k<i)&&V.fr (B+k):=HM λk _=>by grind
   have f2:W (λk=>decide (k<i+1)&&V.rl (B+k))=W λk=>decide (k<i)&&V.rl (B+k):=HM λk _=>by grind
   have f3:V.take B ((i+1:Nat):Int)=V.take B i:=by
    unfold TV.take;congr 1
    .funext q;rw[aC];by_cases e:q=B+i
     .grind
     .have:inr (B+i) 1 q=false:=LY.2 (by omega)
      grind
    .funext q;rw[aC];by_cases e:q=B+i
     .grind
     .have:inr (B+i) 1 q=false:=LY.2 (by omega)
      grind
   grind
  refine kB hE (sw H9) (by omega) (by omega) (by decide) (by decide) (λd aK J=> ?_) (λaQ d aK J=> ?_) λaQ aJ aK J=> ?_
  .refine AO (by decide) (T ?_ J);cases g:V.fr (B+i)with
   | false=>rfl
   | true=>exact absurd ⟨by decide,by omega,λm a b=>by rw[show m=B+i by omega];exact hv.fi _ g⟩ d
  .refine AO (by decide) (T ?_ J);cases g:V.fr (B+i)with
   | false=>rfl
   | true=>exact absurd (λm a b=>by grind) d
  .have hf:V.fr (B+i)=true:=by rw[<-aP];exact aJ _ (Int.le_refl _) (by omega)
   rw[AAH,aU];have aA:=sw J;have aD: ∀(u:Nat->Bool),u64 (1*2^(min (Int.toNat (i:Int)) (IntKind.bits .u64)))=W λk=>decide (i<=k)&&(k-i==0):=λ_=>by
    have:=mY (λk=>k==0) (n:=(i:Int)) (by omega) (by omega);rw[mU,Int.toNat_natCast]at this;exact this
   have aI: ∀f:Int->Bool,f (B+i)=true->W (λk=>(decide (k<i)&&f (B+k))||(decide (i<=k)&&(k-i==0)))=W λk=>decide (k<i+1)&&f (B+k):=λf a1=>HM λk _=>by grind
   refine Aa (by decide) ⟨_,aA.cell rfl,by omega,Ah aA rfl (by simp) λa5 aE=>⟨_,(by exact aE.cell rfl),by omega,Ah aE rfl (by simp) λa6 O=> ?_⟩⟩;simp only[List.set,Nat.zero_add]at O;rw[aD (λ_=>false),mW,aI V.fr hf]at O;have aG:DQ .u64 1 (W λk=>decide (k<i)&&V.rl (B+k)) (u64 ((if V.rl (B+i)=true then 1 else 0)*2^(min (Int.toNat (i:Int)) (IntKind.bits .u64))))=W λk=>decide (k<i+1)&&V.rl (B+k):=by
    cases g:V.rl (B+i)with
    | true=>rw[if_pos rfl,aD (λ_=>false),mW,aI V.rl g]
    | false=>
     rw[if_neg (by decide),Int.zero_mul,show u64 0=0 from rfl,<-Wr,mW];refine HM λk _=> ?_
     grind
   rw[aG]at O;have f3:(V.take B i).take (B+i) 1=V.take B ((i+1:Nat):Int):=by
    unfold TV.take
    grind
   rw[f3]at O;exact⟨⟨i+1,by omega,by omega,O⟩,by omega⟩
 .have e:i=64:=by omega
  subst e;have:=aS he p hp w9;rw[hB]at this;refine this (Sat.cache.2 ⟨⟨aF.1,by grind,aF.2.2,λi hi=> ?_,λi hi=> ?_⟩,H9⟩)
  .grind
  .have hi:(decide (i<64)&&V.rl (B+i))=true:=hi;show(decide (i<64)&&V.fr (B+i))=true;rw[Bool.and_eq_true]at hi⊢;exact⟨hi.1,hv.rf _ hi.2⟩
def CS.own(S:CS)(p:Int):Bool:=inr S.base 64 p&&S.has (p-S.base).toNat
def CS.Yq(S:CS)(p:Int):Bool:=inr S.base 64 p&&S.rel (p-S.base).toNat
end
end Go.Sh

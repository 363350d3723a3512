/- The page tree and the caches of pages do what their pages say. No further condition. -/
import Derived.Test.YtcjamkpfbpfeoaaGreatDoorS
import Derived.Test.YtcjamkpfbpfeoaaGreatDoorM
import Derived.Test.YtcjamkpfbpfeoaaGreatDoorA
set_option linter.all false
set_option maxRecDepth 4000
namespace Go.Sh
def IF{α:Type}(f:Nat->α)(i:Nat)(x:α):Nat->α:=fun j=>if j=i then x else f j
@[simp] theorem Gu{α:Type}(f:Nat->α)(i:Nat)(x:α):IF f i x i=x:=if_pos rfl
theorem EW{α:Type}(f:Nat->α){i j:Nat}(x:α)(h:j≠i):IF f i x j=f j:=if_neg h
structure Gk(E:Env)(w:World)(b:Nat)(s:Nat->AZ)(l:Nat->Iv):Prop where
 Dp: ∀i,i<4->IT E w b (2*i) (s i) (l i)
 dis: ∀i j,i<4->j<4->i≠j-> ∀k,I4 (s i) k-> ¬I4 (s j) k
 c8: ∃v,w.cell? ⟨b,8,none⟩=some v
 f8:w.frozen? ⟨b,8,none⟩=false
section
variable{E:Env}{w w':World}{b:Nat}{s:Nat->AZ}{l:Nat->Iv}
theorem Gk.lt(h:Gk E w b s l):b<w.heap.size:=(h.Dp 0 (by decide)).row.lt
theorem Gk.MS(h:Gk E w b s l){i k:Nat}(hi:i<4)(d:I4 (s i) k):k<w.heap.size:=((h.Dp i hi).row.own.Wu d).2
theorem Gk.ext{S:Nat->Prop}(h:Gk E w b s l)(he:Ext S w w')(d: ¬S b)(hs: ∀i k,i<4->I4 (s i) k-> ¬S k):Gk E w' b s l:=
 ⟨fun i hi=>(h.Dp i hi).ext he d fun a j=>hs i _ hi ⟨a,j,rfl⟩,h.dis,h.c8.imp fun v y=>he.cell y d,by rw[he.frozen (p:=⟨b,8,none⟩) h.lt d];exact h.f8⟩
theorem Gk.E0(h:Gk E w b s l)(he:Ext AN w w'):Gk E w' b s l:=h.ext he (fun f=>f) fun _ _ _ _ f=>f
theorem Gk.IF(h:Gk E w b s l){i:Nat}(hi:i<4){s':AZ}{l':Iv}(hs:IT E w' b (2*i) s' l')(hu:L0 b (UY (2*i)) w w')(hf:Qn w (s i) s'):
  Gk E w' b (IF s i s') (IF l i l'):=by
 have hold: ∀k,I4 s' k->I4 (s i) k∨w.heap.size<=k:=by
  rintro k ⟨a,K,rfl⟩;rcases hf with e|e
  ·rw[e]at K;exact .inl ⟨a,K,rfl⟩
  ·exact .inr (e a K)
 refine⟨fun j C=> ?_,fun j k C J y m hm d=> ?_,?_,?_⟩
 ·by_cases e:j=i
  ·subst e;rw[Gu,Gu];exact hs
  ·rw[EW _ _ e,EW _ _ e];refine(h.Dp j C).IF hu ?_ ?_<;>(unfold UY;omega)
 ·by_cases e:j=i
  ·subst e;rw[Gu]at hm;rw[EW _ _ (fun e=>y e.symm)]at d;rcases hold m hm with g|g
   ·exact h.dis _ _ C J y m g d
   ·have:=h.MS J d;omega
  ·rw[EW _ _ e]at hm;by_cases e2:k=i
   ·subst e2;rw[Gu]at d;rcases hold m d with g|g
    ·exact h.dis _ _ C J y m hm g
    ·have:=h.MS C hm;omega
   ·rw[EW _ _ e2]at d;exact h.dis _ _ C J y m hm d
 ·obtain⟨v,O⟩:=h.c8;exact⟨v,by rw[hu.DP 8 (by unfold UY;omega)];exact O⟩
 ·rw[hu.gZ];exact h.f8
theorem Gk.lW(h:Gk E w b s l){i:Nat}(hi:i<4){s':AZ}(hf:Qn w (s i) s'){j k:Nat}(d:I4 (Sh.IF s i s' j) k):I4 (s j) k∨w.heap.size<=k:=by
 by_cases e:j=i
 ·subst e;rw[Gu]at d;obtain⟨a,v,rfl⟩:=d;rcases hf with e|e
  ·rw[e]at v;exact .inl ⟨a,v,rfl⟩
  ·exact .inr (e a v)
 ·rw[EW _ _ e]at d;exact .inl d
end
end Go.Sh
set_option linter.all false
set_option maxRecDepth 4000
namespace Go.Sh
def sumV(q:Int×Int×Int):Value:=.agg ⟨[.int .i64 q.1,.int .i64 q.2.1,.int .i64 q.2.2]⟩
structure Qr(E:Env)(w:World)(b:Nat)(sm:AZ)(Mg:List Nat)(sum:Nat->Int->Option (Int×Int×Int)):Prop where
 c8:w.cell? ⟨b,8,none⟩=some (.slice sm.base sm.len sm.cap)
 own:Hp w 0 E.Em 1 sm (Mg.map fun k=>Value.map (some k))
 len:Mg.length=4
 nodup:Mg.Nodup
 maps: ∀j k,Mg[j]? =some k-> ∃es c m,w.heap[k]? =some (.map es c)/\MapI .u64 es c m/\ ∀i,aget m i=(sum j i).map sumV
theorem Qr.ext{E:Env}{w w':World}{b:Nat}{sm:AZ}{Mg:List Nat}{sum:Nat->Int->Option (Int×Int×Int)}{S:Nat->Prop}(h:Qr E w b sm Mg sum)(he:Ext S w w')(C: ¬S b)
  (hs: ∀k,I4 sm k-> ¬S k)(hm: ∀k∈Mg,¬S k):Qr E w' b sm Mg sum:=
 ⟨he.cell h.c8 C,h.own.ext he fun g y=>hs g ⟨_,y,rfl⟩,h.len,h.nodup,fun j k d=>by
  obtain⟨es,c,m,h1,v⟩:=h.maps j k d;exact⟨es,c,m,he.obj h1 (hm k (List.mem_of_getElem? d)),v⟩⟩
theorem Qr.mlt{E:Env}{w:World}{b:Nat}{sm:AZ}{Mg:List Nat}{sum:Nat->Int->Option (Int×Int×Int)}(h:Qr E w b sm Mg sum){k:Nat}(v:k∈Mg):k<w.heap.size:=by
 obtain⟨j,d⟩:=List.mem_iff_getElem?.1 v;obtain⟨es,c,m,h1,_⟩:=h.maps j k d;exact FU h1
theorem Nr{E:Env}{w:World}{b:Nat}{s:Nat->AZ}{l:Nat->Iv}(h:Gk E w b s l){K:World->Prop}
  (hK: ∀w' sm Mg,Gk E w' b s l->Qr E w' b sm Mg (fun _ _=>none)->Ext (Ix b) w w'->(∀k,I4 sm k->w.heap.size<=k)->(∀k∈Mg,w.heap.size<=k)->K w'):
  F.Ch E (some ⟨b,0,none⟩) K w:=by
 unfold F.Ch;simp only[AI,add_eq,Nat.zero_add];obtain⟨v8,aY⟩:=h.c8;refine JZ aY h.f8 rfl fun w2 Y=> ?_;have aA: ∀{w1 w2:World} {v:Value},Gk E w1 b s l->Li ⟨b,8,none⟩ v w1 w2->Gk E w2 b s l:=by
  intro w1 w2 v h aJ;have hu:L0 b (fun j=>j=8) w1 w2:=L0.HI aJ rfl;exact⟨fun i hi=>(h.Dp i hi).IF hu (by omega) (by omega),h.dis,⟨_,aJ.same⟩,by rw[aJ.frozen];exact h.f8⟩
 refine AK (fun st w'=> ∃(n:Nat) (sm:AZ) (Mg:List Nat),st.1=(n:Int)/\n<=4/\Gk E w' b s l/\w'.cell? ⟨b,8,none⟩=some (.slice sm.base sm.len sm.cap)/\
   Hp w' w.heap.size E.Em 1 sm (Mg.map fun k=>Value.map (some k))/\Mg.length=n/\Mg.Nodup/\(∀k∈Mg,w'.heap[k]? =some (.map #[] 0))/\(∀k∈Mg,w.heap.size<=k)/\Ext (Ix b) w w')
  (fun st _=>(4-st.1).toNat) ⟨0,⟨none,0,0⟩,[],rfl,by decide,aA h Y,Y.same,Hp.nil _ _ _ _,rfl,List.nodup_nil,by simp,by simp,Y.ext⟩ ?_
 rintro⟨i,u⟩ _ w4 ⟨n,sm,Mg,hn,bB,h4,aM,C,hlen,aP,J,aF,aD⟩;simp only at hn⊢;subst hn;refine AD (fun a9=> ?_) (fun a3=> ?_)
 ·refine⟨sm,aM,BK fun w9 aV a1 aW=>BK fun aO aN aX aI=> ?_⟩;have aB:Ext AN w4 aO:=aW.trans' aI;have O:=C.ext aB fun _ _ f=>f;have a4:sm.len=n:=by have:=C.len;simp at this;omega
  refine NV (news:=[.map (some w4.heap.size)]) rfl O (L1 aN rfl) rfl (by intro v hv;simp at hv;subst hv;rfl) (by have:=aD.size;have:=aB.size;omega) (by simp only;omega) (by simp only;omega) fun aT aL aH a0 aC a2=> ?_;have aU: ¬I4 sm b:=fun e=>by have:=(C.Wu e).1;have:=h.lt;omega
  have aE:Gk E aL b s l:=(h4.E0 aB).ext aC aU fun i k hi y e=>by
   have:=(C.Wu e).1;have:=h.MS hi y;omega
  have T: ∀k∈Mg++[w4.heap.size],aL.heap[k]? =some (.map #[] 0):=by
   intro k y;have aG:aO.heap[k]? =some (.map #[] 0):=by
    rcases List.mem_append.1 y with y|y
    ·exact aB.obj (J k y) fun f=>f
    ·rw[List.mem_singleton]at y;subst y;exact aI.obj aV fun f=>f
   exact aC.obj aG (O.Tf aG)
  obtain⟨v,hv⟩:=aE.c8;refine JZ hv aE.f8 rfl fun a8 d=> ?_;refine⟨⟨n+1,aT,Mg++[w4.heap.size],by rw[AH];omega,by omega,aA aE d,d.same,?_,by simp;omega,?_,?_,?_,?_⟩,by rw[AH];omega⟩
  ·rw[List.map_append];refine aH.ext d.ext fun g hg e=> ?_;have:=(aH.lt hg).1;have:g=b:=e;have:=h.lt;simp only at *;omega
  ·refine List.nodup_append.2 ⟨aP,by simp,?_⟩;intro a ha c hc e;rw[List.mem_singleton]at hc;have:=FU (J a ha);omega
  ·intro k y;refine d.ext.obj (T k y) fun e=> ?_;have:k=b:=e;subst this;have:=(aE.Dp 0 (by decide)).row.c0;exact Nn (T k y) this
  ·intro k y;rcases List.mem_append.1 y with y|y
   ·exact aF k y
   ·rw[List.mem_singleton]at y;subst y;exact aD.size
  ·refine(aD.trans aB (fun _ _ e=>e) fun _ _ f=>f.elim).trans (aC.trans d.ext (U:=fun k=>I4 sm k∨k=b) (fun _ _ e=>.inl e) fun _ _ e=>.inr e) (fun _ _ e=>e) fun k y e=> ?_;rcases e with e|e
   ·have:=(C.Wu e).1;omega
   ·exact e
 ·have hn:n=4:=by omega
  subst hn;refine hK w4 sm Mg h4 ⟨aM,C.lower (Nat.zero_le _),hlen,aP,fun j k y=> ?_⟩ aD (fun k y=>(C.Wu y).1) aF;exact⟨#[],0,[],J k (List.mem_of_getElem? y),MapI.empty _,fun _=>rfl⟩
def pg(lv:Int):Int:=512*8^(3-lv).toNat
def lX(fr to:Int)(a:Int×Int×Int)(p:Int×Int):Int×Int×Int:=
 (if p.1=fr then p.2-p.1 else a.1,max a.2.1 (p.2-p.1),if p.2=to then p.2-p.1 else a.2.2)
def nP(l:Iv)(fr to:Int):Int×Int×Int:=(withinL l fr to).foldl (lX fr to) (0,0,0)
structure LP where
 s:Nat->AZ
 l:Nat->Iv
 sm:AZ
 Mg:List Nat
 sum:Nat->Int->Option (Int×Int×Int)
structure Ze(l:Nat->Iv):Prop where
 top: ∀n,mem (l 0) n->n<34359738368
 free: ∀n,mem (l 1) n->mem (l 0) n
 rel: ∀n,mem (l 2) n->mem (l 1) n
 idle: ∀n,mem (l 3) n↔mem (l 1) n/\ ¬mem (l 2) n
structure Fw(E:Env)(w:World)(b:Nat)(G:LP):Prop where
 Dp:Gk E w b G.s G.l
 maps:Qr E w b G.sm G.Mg G.sum
 d: ∀k,I4 G.sm k->k≠b/\ ∀i,i<4-> ¬I4 (G.s i) k
 ok: ∀(j:Nat) (i:Int) x,G.sum j i=some x->x=nP (G.l 1) (i*pg j) (i*pg j+pg j)
 inv:Ze G.l
def Ns(b:Nat)(G:LP)(k:Nat):Prop:=k=b∨(∃i,i<4/\I4 (G.s i) k)∨I4 G.sm k∨k∈G.Mg
section
variable{E:Env}{w w':World}{b:Nat}{G:LP}
theorem Fw.lt(h:Fw E w b G):b<w.heap.size:=h.Dp.lt
theorem Fw.mb(h:Fw E w b G){k:Nat}(v:k∈G.Mg):k≠b:=by
 rintro rfl;obtain⟨j,d⟩:=List.mem_iff_getElem?.1 v;obtain⟨es,c,m,h1,_⟩:=h.maps.maps j k d;exact Nn h1 h.maps.c8
theorem Fw.MY(h:Fw E w b G){k:Nat}(d:Ns b G k):k<w.heap.size:=by
 rcases d with rfl|⟨i,hi,d⟩|d|d
 ·exact h.lt
 ·exact h.Dp.MS hi d
 ·exact(h.maps.own.Wu d).2
 ·exact h.maps.mlt d
theorem Fw.ext{S:Nat->Prop}(h:Fw E w b G)(he:Ext S w w')(j: ∀k,Ns b G k-> ¬S k):Fw E w' b G:=
 ⟨h.Dp.ext he (j b (.inl rfl)) fun i k hi v=>j k (.inr (.inl ⟨i,hi,v⟩)),h.maps.ext he (j b (.inl rfl)) (fun k v=>j k (.inr (.inr (.inl v)))) fun k v=>j k (.inr (.inr (.inr v))),h.d,h.ok,h.inv⟩
theorem Fw.E0(h:Fw E w b G)(he:Ext AN w w'):Fw E w' b G:=h.ext he fun _ _ f=>f
end
structure Jh(E:Env)(b:Nat)(w:World)(G:LP)(w':World)(G':LP):Prop where
 rep:Fw E w' b G'
 ext:Ext (Ns b G) w w'
 SB: ∀k,Ns b G' k->Ns b G k∨w.heap.size<=k
section
variable{E:Env}{w w' w1:World}{b:Nat}{G G' G1:LP}
theorem Jh.nothing(h:Fw E w b G)(he:Ext AN w w'):Jh E b w G w' G:=⟨h.E0 he,he.any,fun _ h=>.inl h⟩
theorem Jh.trans(h:Jh E b w G w1 G1)(k:Jh E b w1 G1 w' G'):Jh E b w G w' G':=
 ⟨k.rep,h.ext.trans k.ext (fun _ _ s=>s) (fun i hi s=>by rcases h.SB i s with s|s;exact s;omega),fun i hi=>by
  rcases k.SB i hi with s|s
  ·exact h.SB i s
  ·have:=h.ext.size;exact .inr (by omega)⟩
end
structure nQ(E:Env)(w w':World)(b:Nat)(G:LP):Prop where
 rep:Fw E w' b G
 ext:Ext AN w w'
 young: ∀k,Ns b G k->w.heap.size<=k
structure L3(E:Env)(b:Nat)(w0:World)(G0:LP)(w:World)(s:Nat->AZ)(l:Nat->Iv):Prop where
 Dp:Gk E w b s l
 ext:Ext (Ix b) w0 w
 MS: ∀i k,i<4->I4 (s i) k->(∃j,j<4/\I4 (G0.s j) k)∨w0.heap.size<=k
 c8:w.cell? ⟨b,8,none⟩=w0.cell? ⟨b,8,none⟩
section
variable{E:Env}{b:Nat}{w0 w w':World}{G0:LP}{s:Nat->AZ}{l:Nat->Iv}
theorem L3.start(h:Fw E w0 b G0)(he:Ext AN w0 w):L3 E b w0 G0 w G0.s G0.l:=⟨h.Dp.E0 he,he.any,fun i k hi d=>.inl ⟨i,hi,d⟩,World.cell?_of_block (he.block b h.lt fun f=>f)⟩
theorem L3.IF(h:L3 E b w0 G0 w s l){i:Nat}(hi:i<4){s':AZ}{l':Iv}(hs:IT E w' b (2*i) s' l')(hu:L0 b (UY (2*i)) w w')(hf:Qn w (s i) s'):
  L3 E b w0 G0 w' (Sh.IF s i s') (Sh.IF l i l'):=
 ⟨h.Dp.IF hi hs hu hf,h.ext.trans' hu.ext,fun j k d v=>by
  rcases h.Dp.lW hi hf v with e|e
  ·exact h.MS j k d e
  ·have:=h.ext.size;exact .inr (by omega),by rw[hu.DP 8 (by unfold UY;omega)];exact h.c8⟩
theorem L3.DP(h:L3 E b w0 G0 w s l)(h0:Fw E w0 b G0)(T:l 1=G0.l 1)(hi:Ze l):Jh E b w0 G0 w {G0 with s:=s,l:=l}:=by
 have Y: ∀k,I4 G0.sm k-> ¬Ix b k:=fun k v e=>(h0.d k v).1 e;have K: ∀k∈G0.Mg,¬Ix b k:=fun k v e=>h0.mb v e;refine⟨⟨h.Dp,?_,fun k v=>⟨(h0.d k v).1,fun i hi e=> ?_⟩,fun j i x O=> ?_,hi⟩,h.ext.mono fun k _ e=>.inl e,?_⟩
 ·refine⟨by rw[h.c8];exact h0.maps.c8,h0.maps.own.ext h.ext fun g J=>Y g ⟨_,J,rfl⟩,h0.maps.len,h0.maps.nodup,fun j k v=> ?_⟩;obtain⟨es,c,m,h1,C⟩:=h0.maps.maps j k v;exact⟨es,c,m,h.ext.obj h1 (K k (List.mem_of_getElem? v)),C⟩
 ·rcases h.MS i k hi e with ⟨j,y,g⟩|g
  ·exact(h0.d k v).2 j y g
  ·have:=(h0.maps.own.Wu v).2;omega
 ·show x=nP (l 1) _ _;rw[T];exact h0.ok j i x O
 ·rintro k (e|⟨i,hi,e⟩|e|e)
  ·exact .inl (.inl e)
  ·rcases h.MS i k hi e with g|g
   ·exact .inl (.inr (.inl g))
   ·exact .inr g
  ·exact .inl (.inr (.inr (.inl e)))
  ·exact .inl (.inr (.inr (.inr e)))
theorem L3.changed(h:L3 E b w0 G0 w s l)(h0:Fw E w0 b G0)(hi:Ze l){K:World->Prop}
  (C: ∀w' G',Jh E b w0 G0 w' G'->G'.l=l->K w'):F.Ch E (some ⟨b,0,none⟩) K w:=by
 refine Nr h.Dp fun w' sm Mg hs hm he hsm d=> ?_;have O:=h.ext.size;have y:=h0.lt;refine C w' ⟨s,l,sm,Mg,fun _ _=>none⟩ ⟨⟨hs,hm,fun k v=>⟨?_,fun i hi e=> ?_⟩,fun j i x J=>(by cases J),hi⟩,(h.ext.trans' he).mono fun k _ e=>.inl e,?_⟩ rfl
 ·have:=hsm k v;omega
 ·have:=hsm k v;have:=h.Dp.MS hi e;omega
 ·rintro k (e|⟨i,hi,e⟩|e|e)
  ·exact .inl (.inl e)
  ·rcases h.MS i k hi e with g|g
   ·exact .inl (.inr (.inl g))
   ·exact .inr g
  ·exact .inr (by have:=hsm k e;omega)
  ·exact .inr (by have:=d k e;omega)
end
end Go.Sh
set_option linter.all false
set_option maxRecDepth 4000
namespace Go.Sh
def At(l:Nat->Iv)(x n:Int)(free:Bool)(e:Int):Int:=
 if n=0∨34359738368<=x∨34359738368-x<n∨cnt (l 0) x (x+n)≠n then 10 else if cnt (l 1) x (x+n)≠(if free then n else 0)then e else 0
def findL:Iv->Int->Option Int
 | [],_=>none
 | p::r,n=>if n<=p.2-p.1 then some p.1 else findL r n
theorem Zf{l:Iv}{n p:Int}(h:findL l n=some p): ∃q∈l,q.1=p/\n<=q.2-q.1:=by
 induction l with
 | nil=>cases h
 | cons q r ih=>
  simp only[findL]at h;split at h
  ·cases h;exact⟨q,List.mem_cons_self,rfl,by assumption⟩
  ·obtain⟨j,h1,d⟩:=ih h;exact⟨j,List.mem_cons_of_mem _ h1,d⟩
section
variable{E:Env}(hE:EnvS E){w:World}{b:Nat}{G:LP}
theorem find_spec(h:Fw E w b G){n:Int}(aU:0<=n){K:Int->Bool->World->Prop}
  (J: ∀w',Ext AN w w'->K ((if n=0 then none else findL (G.l 1) n).getD 0) (if n=0 then none else findL (G.l 1) n).isSome w'):
  F.Ck E (some ⟨b,0,none⟩) n K w:=by
 unfold F.Ck T0.Ck F.EN;simp only[AI,add_eq,Nat.zero_add];refine AQ (fun e=> ?_) (fun e=> ?_)
 ·have e0:n=0:=by simpa using e
  have:=J w (Ext.refl _ _);rwa[if_pos e0]at this
 ·have e0:n≠0:=by simpa using e
  rw[if_neg e0]at J;have C:F2 E w ⟨b,2,none⟩ (G.s 1) (G.l 1):=(h.Dp.Dp 1 (by decide)).row;generalize G.s 1=s at C;generalize G.l 1=l at C J;have hlen:=C.len;have hsm:=C.small;have aM:Lz=4398046511104:=rfl;refine⟨s,C.c0,AK (fun st w'=> ∃k:Nat,st.1=(k:Int)/\k<=l.length/\findL l n=findL (l.drop k) n/\Ext AN w w') (fun st _=>(l.length-st.1).toNat) ⟨0,rfl,Nat.zero_le _,rfl,Ext.refl _ _⟩ ?_⟩;rintro⟨i,u⟩ _ w5 ⟨k,hk,aV,hf,j⟩;simp only at hk⊢;subst hk;refine AD (fun aR=> ?_) (fun aQ=> ?_)
  ·have hl:k<l.length:=by omega
   have hg:=List.getElem?_eq_getElem hl;obtain⟨r,aG,aA,O⟩:=(C.E0 j).cells hg;have aK:=C.ok.get hg;generalize l[k]=q at hg aA O aK;rw[aG];simp only[AI,add_eq,Nat.zero_add,Int.toNat_natCast,Nat.add_zero];refine⟨⟨by omega,by omega⟩,q.1,aA,q.2,O,BK fun aS aC aJ Y=> ?_⟩;refine HZ _ _ _ _ _ _ _ aC (by simp) (by intro v hv;simp at hv;rcases hv with rfl|rfl<;>rfl) fun aF T aH d=> ?_;simp at d;have y:Ext AN w aF:=(j.trans' Y).trans T (fun _ _ f=>f) fun i hi e=>by have:i=w5.heap.size:=e;have:=j.size;omega
   have hd:=Qc hg;refine⟨q.2,by rw[AS d];rfl,q.1,by rw[AS d];rfl,?_⟩;rw[AM];refine AD (fun aE=>⟨q.1,by rw[AS d];rfl,?_⟩) (fun aB=> ?_)
   ·have:findL l n=some q.1:=by rw[hf,hd,findL,if_pos aE]
    rw[this]at J;exact J _ y
   ·rw[AH];refine⟨⟨k+1,by omega,by omega,?_,y⟩,by omega⟩;rw[hf,hd,findL,if_neg aB]
  ·have:l.drop k=[]:=List.drop_eq_nil_of_le (by omega);rw[this]at hf;have aI:findL l n=none:=hf;rw[aI]at J;exact J _ j
theorem SC(h:Fw E w b G){K:Int->World->Prop}(d:K (DE (G.l 2)) w):F.Bx E (some ⟨b,0,none⟩) K w:=by
 unfold F.Bx T0.Bx F.Dj;simp only[AI,add_eq,Nat.zero_add];exact⟨_,(h.Dp.Dp 2 (by decide)).c1,d⟩
include hE
theorem PH(h:Fw E w b G){x n e:Int}{fr:Bool}(J:0<=x)(hx:x<18446744073709551616)(aF:0<=n)(hn:n<18446744073709551616){K:Int->World->Prop}
  (hK: ∀w',Ext AN w w'->K (At G.l x n fr e) w'):F.Cx E (some ⟨b,0,none⟩) x n fr e K w:=by
 unfold F.Cx T0.Cx;simp only[AI,add_eq,Nat.zero_add];refine AX (fun st w'=>w'=w/\st.1=if fr then n else 0) ?_ ?_
 ·exact AQ (fun e=>⟨rfl,by rw[e];rfl⟩) (fun e=>⟨rfl,by rw[e];rfl⟩)
 rintro⟨want,u⟩ _ w3 ⟨rfl,d⟩;simp only at d⊢;subst d;refine AX (fun st w'=>Ext AN w3 w'/\(st.1=true↔n=0∨34359738368<=x∨34359738368-x<n∨cnt (G.l 0) x (x+n)≠n)) ?_ ?_
 ·refine AQ (fun e=>⟨Ext.refl _ _,?_⟩) (fun e=>AD (fun e2=>⟨Ext.refl _ _,?_⟩) (fun e2=> ?_))
  ·have:n=0:=by simpa using e
   simp[this]
  ·have:34359738368<=x:=e2;simp[this]
  ·have e0:n≠0:=by simpa using e
   rw[AM (n:=34359738368-x)];refine AD (fun e3=>⟨Ext.refl _ _,?_⟩) (fun e3=> ?_)
   ·have:34359738368-x<n:=e3;simp[this]
   ·rw[AM (n:=x+n)];refine IB hE (h.Dp.Dp 0 (by decide)).row J (by omega) (by omega) fun w9 O=>⟨O,?_⟩;have: ¬34359738368<=x:=by omega
    have: ¬34359738368-x<n:=by omega
    simp only[bne_iff_ne,ne_eq];constructor
    ·intro v;exact .inr (.inr (.inr v))
    ·rintro(v|v|v|v)
     ·exact absurd v e0
     ·omega
     ·omega
     ·exact v
 rintro⟨bt,u⟩ _ w6 ⟨j,y⟩;simp only at y⊢;refine AQ (fun ht=> ?_) (fun hf=> ?_)
 ·have:=hK w6 j;rwa[At,if_pos (y.1 ht)]at this
 ·have Y: ¬(n=0∨34359738368<=x∨34359738368-x<n∨cnt (G.l 0) x (x+n)≠n):=fun h=>by rw[y.2 h]at hf;cases hf
  rw[AM (n:=x+n)];refine IB hE ((h.E0 j).Dp.Dp 1 (by decide)).row J (by omega) (by omega) fun T C=> ?_;have:=hK T (j.trans' C);rw[At,if_neg Y]at this;refine AQ (fun e1=> ?_) (fun e1=> ?_)
  ·rwa[if_pos (by simpa using e1)]at this
  ·rwa[if_neg (by simpa using e1)]at this
omit hE in
theorem PI{l:Nat->Iv}{x n e:Int}{fr:Bool}(he:e≠0)(h:At l x n fr e=0):
  n≠0/\x<34359738368/\n<=34359738368-x/\cnt (l 0) x (x+n)=n/\cnt (l 1) x (x+n)=if fr then n else 0:=by
 unfold At at h;by_cases h1:n=0∨34359738368<=x∨34359738368-x<n∨cnt (l 0) x (x+n)≠n
 ·rw[if_pos h1]at h;cases h
 ·rw[if_neg h1]at h;by_cases h2:cnt (l 1) x (x+n)=if fr then n else 0
  ·exact⟨by omega,by omega,by omega,by omega,h2⟩
  ·rw[if_pos h2]at h;exact absurd h he
theorem Sd(h:Fw E w b G){x n:Int}(v:0<=x)(hx:x<18446744073709551616)(aG:0<=n)(hn:n<18446744073709551616){K:Int->Int->World->Prop}
  (aB:At G.l x n true 32≠0-> ∀w',Ext AN w w'->K 0 (At G.l x n true 32) w')
  (aI:At G.l x n true 32=0-> ∀w' G',Jh E b w G w' G'->G'.l=Sh.IF (Sh.IF (Sh.IF G.l 1 (Cs (G.l 1) x (x+n))) 2 (Cs (G.l 2) x (x+n))) 3 (Cs (G.l 3) x (x+n))->K (cnt (G.l 2) x (x+n)) 0 w'):
  F.Cm E (some ⟨b,0,none⟩) x n K w:=by
 unfold F.Cm T0.Cm;refine PH hE h v hx aG hn fun w2 y=> ?_;refine AQ (fun e=>aB (by simpa using e) w2 y) (fun e=> ?_);have hz:At G.l x n true 32=0:=by simpa using e
 obtain⟨g1,g2,g3,g4,g5⟩:=PI (by decide) hz;have en:u64 (x+n)=x+n:=AM;simp only[AI,add_eq,Nat.zero_add,en];have h2:=h.E0 y;refine IB hE (h2.Dp.Dp 2 (by decide)).row v (by omega) (by omega) fun w5 aK=> ?_;have m5:L3 E b w G w5 G.s G.l:=L3.start h (y.trans' aK);refine Kc hE (m5.Dp.Dp 1 (by decide)) v (by omega) (by omega) fun w7 s7 aA aF aJ=> ?_;have m7:=m5.IF (by decide:1<4) aA aF aJ;refine Kc hE (m7.Dp.Dp 2 (by decide)) v (by omega) (by omega) fun w9 s9 Y aH aC=> ?_;have m9:=m7.IF (by decide:2<4) Y aH aC;refine Kc hE (m9.Dp.Dp 3 (by decide)) v (by omega) (by omega) fun aP aV O C J=> ?_;have aE:=m9.IF (by decide:3<4) O C J;have d:x<x+n:=by omega
 refine aE.changed h ⟨?_,?_,?_,?_⟩ fun w' G' hs hl=>aI hz w' G' hs hl
 ·exact h.inv.top
 ·intro m hm;have j:mem (Cs (G.l 1) x (x+n)) m:=hm;rw[Cw d]at j;exact h.inv.free m j.1
 ·intro m hm;have j:mem (Cs (G.l 2) x (x+n)) m:=hm;rw[Cw d]at j;show mem (Cs (G.l 1) x (x+n)) m;rw[Cw d];exact⟨h.inv.rel m j.1,j.2⟩
 ·intro m;show mem (Cs (G.l 3) x (x+n)) m↔mem (Cs (G.l 1) x (x+n)) m/\ ¬mem (Cs (G.l 2) x (x+n)) m;rw[Cw d,Cw d,Cw d,h.inv.idle m];constructor
  ·rintro⟨⟨a1,a2⟩,T⟩;exact⟨⟨a1,T⟩,fun a4=>a2 a4.1⟩
  ·rintro⟨⟨a1,T⟩,a2⟩;exact⟨⟨a1,fun a4=>a2 ⟨a4,T⟩⟩,T⟩
omit hE in
theorem VD(h:Fw E w b G){n p:Int}(K:0<n)(hf:findL (G.l 1) n=some p):At G.l p n true 32=0/\0<=p/\p<34359738368:=by
 obtain⟨q,J,rfl,hle⟩:=Zf hf;have Bi:=(h.Dp.Dp 1 (by decide)).row.ok;have v:=(h.Dp.Dp 0 (by decide)).row.ok;have y:=Bi.mem J;have j: ∀m,q.1<=m->m<q.1+n->mem (G.l 1) m:=fun m h1 C=>⟨q,J,h1,by omega⟩;have d: ∀m,q.1<=m->m<q.1+n->mem (G.l 0) m:=fun m h1 C=>h.inv.free m (j m h1 C);have O:=h.inv.top _ (d (q.1+n-1) (by omega) (by omega));have c1:=(DM Bi (a:=q.1) (b:=q.1+n) (by omega)).2 j;have c0:=(DM v (a:=q.1) (b:=q.1+n) (by omega)).2 d;refine⟨?_,y.1,by omega⟩;unfold At;rw[if_neg (by omega),if_neg (by simp;omega)]
theorem XB(h:Fw E w b G){n:Int}(j:0<=n)(hn:n<18446744073709551616){K:Int->Int->Int->World->Prop}
  (v:n=0->K 0 0 1 w)(y:n≠0->findL (G.l 1) n=none-> ∀w',Ext AN w w'->K 0 0 30 w')
  (J:n≠0-> ∀p,findL (G.l 1) n=some p-> ∀w' G',Jh E b w G w' G'->G'.l=Sh.IF (Sh.IF (Sh.IF G.l 1 (Cs (G.l 1) p (p+n))) 2 (Cs (G.l 2) p (p+n))) 3 (Cs (G.l 3) p (p+n))->K p (cnt (G.l 2) p (p+n)) 0 w'):
  F.BJ E (some ⟨b,0,none⟩) n K w:=by
 unfold F.BJ T0.BJ;refine AQ (fun e=>v (by simpa using e)) (fun e=> ?_);have O:n≠0:=by simpa using e
 refine find_spec h j fun Y d=> ?_;rw[if_neg O];cases hf:findL (G.l 1) n with
 | none=>exact AQ (fun _=>y O hf Y d) (fun e=>by cases e)
 | some p=>
  refine AQ (fun e=>by cases e) (fun _=> ?_);obtain⟨hz,T,aC⟩:=VD h (by omega) hf;refine Sd hE (h.E0 d) T (by show p<_;omega) j hn (fun C=>absurd hz C) fun _ w' G' hs hl=> ?_;exact J O p hf w' G' ((Jh.nothing h d).trans hs) hl
theorem Zg(h:Fw E w b G){c n:Int}(aW:0<=c)(hc:c<18446744073709551616)(aZ:0<=n)(hn:n<18446744073709551616){K:Int->World->Prop}
  (aF:(n=0∨262144<n∨67108864<c∨67108864-c<n)->K 1 w)
  (aO: ¬(n=0∨262144<n∨67108864<c∨67108864-c<n)->cnt (G.l 0) (c*512) ((c+n)*512)≠0-> ∀w',Ext AN w w'->K 34 w')
  (aN: ¬(n=0∨262144<n∨67108864<c∨67108864-c<n)->cnt (G.l 0) (c*512) ((c+n)*512)=0-> ∀w' G',Jh E b w G w' G'->
   G'.l=Sh.IF (Sh.IF (Sh.IF G.l 0 (CX (G.l 0) (c*512) ((c+n)*512))) 1 (CX (G.l 1) (c*512) ((c+n)*512))) 2 (CX (G.l 2) (c*512) ((c+n)*512))->K 0 w'):
  F.DA E (some ⟨b,0,none⟩) c n K w:=by
 unfold F.DA T0.DA;refine AX (fun st w'=>w'=w/\(st.1=true↔n=0∨262144<n∨67108864<c∨67108864-c<n)) ?_ ?_
 ·refine AQ (fun e=>⟨rfl,?_⟩) (fun e=>AD (fun e2=>⟨rfl,?_⟩) (fun e2=>AD (fun e3=>⟨rfl,?_⟩) (fun e3=>⟨rfl,?_⟩)))
  ·have:n=0:=by simpa using e
   simp[this]
  ·simp only[true_iff];omega
  ·simp only[true_iff];omega
  ·have e0:n≠0:=by simpa using e
   rw[AM];simp only[decide_eq_true_iff];omega
 rintro⟨bt,u⟩ _ w3 ⟨rfl,C⟩;simp only at C⊢;refine AQ (fun ht=>aF (C.1 ht)) (fun hf=> ?_);have aA: ¬(n=0∨262144<n∨67108864<c∨67108864-c<n):=fun h=>by rw[C.2 h]at hf;cases hf
 have e1:u64 (c*512)=c*512:=AM;have e2:u64 (c+n)=c+n:=AM;have e3:u64 ((c+n)*512)=(c+n)*512:=AM;rw[e1,e2,e3];simp only[AI,add_eq,Nat.zero_add];refine AU fun to aJ=> ?_;subst aJ;have aR:Lz=4398046511104:=rfl;refine IB hE (h.Dp.Dp 0 (by decide)).row (by omega) (by omega) (by omega) fun w7 J=> ?_;have a4:=Cg (G.l 0) (c*512) ((c+n)*512);refine AD (fun hp=>aO aA (by omega) w7 J) (fun hp=> ?_);have hz:cnt (G.l 0) (c*512) ((c+n)*512)=0:=by omega
 have m7:L3 E b w3 G w7 G.s G.l:=L3.start h J;have v:c*512<(c+n)*512:=by omega
 refine I5 hE (m7.Dp.Dp 0 (by decide)) (by omega) v (by omega) fun w9 s9 aI aG aK=> ?_;have m9:=m7.IF (by decide:0<4) aI aG aK;refine I5 hE (m9.Dp.Dp 1 (by decide)) (by omega) v (by omega) fun aY a5 Y O T=> ?_;have aC:=m9.IF (by decide:1<4) Y O T;refine I5 hE (aC.Dp.Dp 2 (by decide)) (by omega) v (by omega) fun aT aU aE aD aB=> ?_;have aH:=aC.IF (by decide:2<4) aE aD aB;have Bi: ∀i,i<4->Ok (G.l i):=fun i hi=>(h.Dp.Dp i hi).row.ok;have d: ∀i,i<4-> ∀m,mem (CX (G.l i) (c*512) ((c+n)*512)) m↔mem (G.l i) m∨(c*512<=m/\m<(c+n)*512):=fun i hi m=>Ca (Bi i hi) v (by omega) (by omega) m;have j:=(C4 (Bi 0 (by decide)) (a:=c*512) (b:=(c+n)*512) (by omega)).1 hz;refine aH.changed h ⟨?_,?_,?_,?_⟩ fun w' G' hs hl=>aN aA hz w' G' hs hl
 ·intro m hm;rcases(d 0 (by decide) m).1 hm with g|g
  ·exact h.inv.top m g
  ·omega
 ·intro m hm;refine(d 0 (by decide) m).2 ?_;rcases(d 1 (by decide) m).1 hm with g|g
  ·exact .inl (h.inv.free m g)
  ·exact .inr g
 ·intro m hm;refine(d 1 (by decide) m).2 ?_;rcases(d 2 (by decide) m).1 hm with g|g
  ·exact .inl (h.inv.rel m g)
  ·exact .inr g
 ·intro m;show mem (G.l 3) m↔mem (CX (G.l 1) (c*512) ((c+n)*512)) m/\ ¬mem (CX (G.l 2) (c*512) ((c+n)*512)) m;rw[d 1 (by decide),d 2 (by decide),h.inv.idle m];constructor
  ·rintro⟨a1,a2⟩;have:=j m;refine⟨.inl a1,fun y=> ?_⟩;rcases y with y|y
   ·exact a2 y
   ·exact j m y.1 y.2 (h.inv.free m a1)
  ·rintro⟨a1,a2⟩;rcases a1 with a1|a1
   ·exact⟨a1,fun y=>a2 (.inl y)⟩
   ·exact absurd (.inr a1) a2
theorem Qt(h:Fw E w b G){x n:Int}{i:Nat}(hi:i=2∨i=3)(y:0<=x)(hx:x<18446744073709551616)(aL:0<=n)(hn:n<18446744073709551616){K:Int->World->Prop}
  (aG:At G.l x n false 31≠0-> ∀w',Ext AN w w'->K (At G.l x n false 31) w')
  (aM:At G.l x n false 31=0-> ∀w' G',Jh E b w G w' G'->G'.l=Sh.IF (Sh.IF G.l 1 (CX (G.l 1) x (x+n))) i (CX (G.l i) x (x+n))->K 0 w'):
  F.DG E (some ⟨b,0,none⟩) x n (some ⟨b,2*i,none⟩) K w:=by
 unfold F.DG T0.DG;refine PH hE h y hx aL hn fun w2 aA=> ?_;refine AQ (fun e=>aG (by simpa using e) w2 aA) (fun e=> ?_);have hz:At G.l x n false 31=0:=by simpa using e
 obtain⟨g1,g2,g3,g4,g5⟩:=PI (by decide) hz;have en:u64 (x+n)=x+n:=AM;simp only[AI,add_eq,Nat.zero_add,en];have aN:Lz=4398046511104:=rfl;have aB:i<4:=by omega
 have C:i≠1:=by omega
 have m2:L3 E b w G w2 G.s G.l:=L3.start h aA;have O:x<x+n:=by omega
 refine I5 hE (m2.Dp.Dp 1 (by decide)) y O (by omega) fun w4 s4 aF aK aJ=> ?_;have m4:=m2.IF (by decide:1<4) aF aK aJ;have T:=m4.Dp.Dp i aB;rw[EW _ _ C,EW _ _ C]at T;refine I5 hE T y O (by omega) fun w5 s5 aE aH aI=> ?_;have m5:=m4.IF aB aE aH (by rw[EW _ _ C];exact aI);have Bi: ∀i,i<4->Ok (G.l i):=fun i hi=>(h.Dp.Dp i hi).row.ok;have j: ∀i,i<4-> ∀m,mem (CX (G.l i) x (x+n)) m↔mem (G.l i) m∨(x<=m/\m<x+n):=fun i hi m=>Ca (Bi i hi) O y (by omega) m;have J:=(C4 (Bi 1 (by decide)) (a:=x) (b:=x+n) (by omega)).1 g5;have aD:=(DM (Bi 0 (by decide)) (a:=x) (b:=x+n) (by omega)).1 (by omega);have l0:Sh.IF (Sh.IF G.l 1 (CX (G.l 1) x (x+n))) i (CX (G.l i) x (x+n)) 0=G.l 0:=by rw[EW _ _ (by omega),EW _ _ (by omega)]
 have l1:Sh.IF (Sh.IF G.l 1 (CX (G.l 1) x (x+n))) i (CX (G.l i) x (x+n)) 1=CX (G.l 1) x (x+n):=by rw[EW _ _ (by omega),Gu]
 refine m5.changed h ⟨?_,?_,?_,?_⟩ fun w' G' hs hl=>aM hz w' G' hs hl
 ·rw[l0];exact h.inv.top
 ·intro m;rw[l0,l1,j 1 (by decide)];rintro(d|d)
  ·exact h.inv.free m d
  ·exact aD m d.1 d.2
 ·intro m;rw[l1,j 1 (by decide)];rcases hi with rfl|rfl
  ·rw[Gu,j 2 (by decide)];rintro(d|d)
   ·exact .inl (h.inv.rel m d)
   ·exact .inr d
  ·rw[EW _ _ (by decide),EW _ _ (by decide)];exact fun d=>.inl (h.inv.rel m d)
 ·intro m;rw[l1,j 1 (by decide)];have aC:x<=m/\m<x+n-> ¬mem (G.l 1) m:=fun d=>J m d.1 d.2;have v:=h.inv.idle m;have Y:=h.inv.rel m;rcases hi with rfl|rfl
  ·rw[Gu,j 2 (by decide),EW _ _ (by decide),EW _ _ (by decide),v];constructor
   ·rintro⟨a1,a2⟩;refine⟨.inl a1,fun d=> ?_⟩;rcases d with d|d
    ·exact a2 d
    ·exact aC d a1
   ·rintro⟨a1,a2⟩;rcases a1 with a1|a1
    ·exact⟨a1,fun d=>a2 (.inl d)⟩
    ·exact absurd (.inr a1) a2
  ·rw[Gu,j 3 (by decide),EW _ _ (by decide),EW _ _ (by decide),v];constructor
   ·rintro(⟨a1,a2⟩|a1)
    ·exact⟨.inl a1,a2⟩
    ·exact⟨.inr a1,fun d=>aC a1 (Y d)⟩
   ·rintro⟨a1,a2⟩;rcases a1 with a1|a1
    ·exact .inl ⟨a1,a2⟩
    ·exact .inr a1
end
end Go.Sh
set_option linter.all false
set_option maxRecDepth 4000
namespace Go.Sh
theorem Zh{E:Env}{w:World}{K:Option Addr->World->Prop}(hK: ∀w' b G,nQ E w w' b G->(∀i,G.l i=[])->K (some ⟨b,0,none⟩) w'):F.Ge E K w:=by
 unfold F.Ge T0.Ge;refine BK fun Y d T O=> ?_;have C: ∀k,¬I4 ⟨none,0,0⟩ k:=by rintro k ⟨a,ha,_⟩;cases ha
 have hs:Gk E Y w.heap.size (fun _=>⟨none,0,0⟩) (fun _=>[]):=by
  refine⟨fun i hi=> ?_,fun i j _ _ _ k v=>absurd v (C k),⟨_,by rw[AS d];rfl⟩,by simp[World.frozen?,d]⟩;have:i=0∨i=1∨i=2∨i=3:=by omega
  rcases this with rfl|rfl|rfl|rfl<;>
   exact⟨⟨by rw[AS d];rfl,by simp[World.frozen?,d],Hp.nil _ _ _ _,trivial,by simp,by intro a h;cases h⟩,by rw[AS d];rfl,by simp[World.frozen?,d]⟩
 refine Nr hs fun w' sm Mg y hm he hsm J=> ?_;refine hK w' w.heap.size ⟨fun _=>⟨none,0,0⟩,fun _=>[],sm,Mg,fun _ _=>none⟩ ⟨⟨y,hm,fun k v=>⟨?_,fun i _ e=>C k e⟩,fun j i x hx=>(by cases hx),?_⟩,?_,?_⟩ fun _=>rfl
 ·have:=hsm k v;omega
 ·exact⟨fun n h=>absurd h (A9 n),fun n h=>absurd h (A9 n),fun n h=>absurd h (A9 n),fun n=>⟨fun h=>absurd h (A9 n),fun h=>absurd h.1 (A9 n)⟩⟩
 ·exact O.trans he (fun _ _ f=>f) fun k v e=>by have:k=w.heap.size:=e;omega
 ·rintro k (e|⟨i,_,e⟩|e|e)
  ·omega
  ·exact absurd e (C k)
  ·have:=hsm k e;omega
  ·have:=J k e;omega
end Go.Sh
set_option linter.all false
set_option maxRecDepth 4000
namespace Go.Sh
def Ff(E:Env)(b:Nat)(l:Nat->Iv):Pr where
 holds D w:= ∃G,Fw E w b G/\G.l=l/\ ∀k,D k↔Ns b G k
 loc h he hS:=let⟨G,h1,h2,h3⟩:=h;⟨G,h1.ext he fun k d=>hS k ((h3 k).2 d),h2,h3⟩
 lt h d:=let⟨G,h1,h2,h3⟩:=h;h1.MY ((h3 _).1 d)
theorem Sat.tree{E:Env}{b:Nat}{l:Nat->Iv}{F:List Pr}{w:World}(H:Sat (Ff E b l::F) w):
  ∃G,Fw E w b G/\G.l=l/\ ∀w' G',Jh E b w G w' G'->Sat (Ff E b G'.l::F) w':=by
 obtain⟨D,⟨G,h1,j,d⟩,hs⟩:=H.step;refine⟨G,h1,j,fun w' G' st=>hs w' (Ns b G') _ (st.ext.mono fun i _ hi=>(d i).2 hi) ⟨G',st.rep,rfl,fun _=>Iff.rfl⟩ fun k v=> ?_⟩;rcases st.SB k v with h|h
 ·exact .inl ((d k).2 h)
 ·exact .inr h
theorem Sat.lY{E:Env}{b:Nat}{F:List Pr}{w w':World}{G:LP}(H:Sat F w)(h:nQ E w w' b G):Sat (Ff E b G.l::F) w':=
 H.new (P:=Ff E b G.l) (D:=Ns b G) h.ext ⟨G,h.rep,rfl,fun _=>Iff.rfl⟩ h.young
theorem Sat.JK{E:Env}{b:Nat}{l:Nat->Iv}{F:List Pr}{w:World}(H:Sat (Ff E b l::F) w):Ze l/\ ∀i,i<4->Ok (l i):=by
 obtain⟨G,h1,rfl,_⟩:=H.tree;exact⟨h1.inv,fun i hi=>(h1.Dp.Dp i hi).row.ok⟩
def PJ(l:Iv)(p n:Int):Prop:= ∀m,p<=m->m<p+n->mem l m
theorem Ji{l:Iv}(h:Ok l){n p:Int}(O:0<n)(hf:findL l n=some p):PJ l p n/\ ∀v,PJ l v n->p<=v:=by
 induction l with
 | nil=>cases hf
 | cons q r ih=>
  simp only[findL]at hf;split at hf
  ·cases hf;refine⟨fun m h1 y=>mem_cons.2 (.inl ⟨h1,by omega⟩),fun v j=> ?_⟩;rcases mem_cons.1 (j v (by omega) (by omega))with h1|⟨C,d,h1,y⟩
   ·exact h1.1
   ·have:=h.2.2.2.1 C d;have:=h.2.1;omega
  ·obtain⟨h1,y⟩:=ih h.tail hf;refine⟨fun m K J=>mem_cons.2 (.inr (h1 m K J)),fun v j=> ?_⟩;obtain⟨C,d,K,J⟩:=Py h (by omega) j;rcases List.mem_cons.1 d with rfl|d
   ·omega
   ·exact y v fun m Y T=>⟨C,d,by omega,by omega⟩
theorem K2{l:Iv}(h:Ok l){n:Int}(y:0<n)(hf:findL l n=none): ∀p,¬PJ l p n:=by
 induction l with
 | nil=>intro p hp;exact A9 _ (hp p (by omega) (by omega))
 | cons q r ih=>
  simp only[findL]at hf;split at hf
  ·cases hf
  ·intro p hp;obtain⟨j,d,K,v⟩:=Py h (by omega) hp;rcases List.mem_cons.1 d with rfl|d
   ·omega
   ·exact ih h.tail hf p fun m J C=>⟨j,d,by omega,by omega⟩
end Go.Sh
set_option linter.all false
set_option maxRecDepth 4000
set_option maxHeartbeats 1000000
namespace Go.Sh
section
variable{E:Env}(hE:EnvS E){w:World}{b:Nat}{G:LP}
include hE
theorem Zi(h:Fw E w b G){n:Int}(a7:0<=n)(hn:n<18446744073709551616){K:Int->Int->World->Prop}
  (T:G.l 3=[]∨n=0->K 0 0 w)
  (aX:n≠0-> ∀q r p k,G.l 3=r++[q]->k=min (q.2-max q.1 ((q.2-1)/512*512)) n->p=q.2-k->0<k->q.1<=p-> ∀w' G',Jh E b w G w' G'->
   G'.l=Sh.IF (Sh.IF G.l 3 (Cs (G.l 3) p (p+k))) 2 (CX (G.l 2) p (p+k))->K p k w'):
  F.Bv E (some ⟨b,0,none⟩) n K w:=by
 unfold F.Bv T0.Bv F.EN;simp only[AI,add_eq,Nat.zero_add];have J:F2 E w ⟨b,6,none⟩ (G.s 3) (G.l 3):=(h.Dp.Dp 3 (by decide)).row;have hlen:=J.len;have hsm:=J.small;have aZ:Lz=4398046511104:=rfl;refine⟨G.s 3,J.c0,An (BW (fun e=> ?_) fun e=> ?_)⟩
 ·refine fun j=>AV rfl (T (.inl (List.eq_nil_of_length_eq_zero (by omega))))
 ·refine fun j=>BW (fun e2=>T (.inr e2)) fun e2=> ?_;obtain⟨r,q,C⟩: ∃r q,G.l 3=r++[q]:=by
   rcases List.eq_nil_or_concat (G.l 3)with h|⟨r,q,h⟩
   ·rw[h]at hlen;simp at hlen;omega
   ·exact⟨r,q,by simpa using h⟩
  have hi:(G.l 3)[r.length]? =some q:=by rw[C];simp
  have a8:(G.l 3).length=r.length+1:=by rw[C];simp
  have ei:i64 (((G.s 3).len:Int)-1)=(r.length:Int):=by rw[AH];omega
  obtain⟨bb,hb,c1,c2⟩:=J.own.cells2 hi;have hq:=J.ok.get hi;have a0:=h.inv.top (q.2-1) (h.inv.free _ ((h.inv.idle _).1 ⟨q,List.mem_of_getElem? hi,by omega,by omega⟩).1);rw[ei,hb];simp only[AI,add_eq,Nat.zero_add,Int.toNat_natCast,Nat.add_zero];refine⟨⟨by omega,by omega⟩,q.1,c1,q.2,c2,?_⟩;refine BK fun aS aB aW aF=> ?_;refine HZ [.int .u64 q.1,.int .u64 q.2] w.heap.size 0 0 _ aS _ aB (Nat.le_refl _) (by simp[Value.oneCell']) fun d O aT aE=> ?_;have v:d.heap[w.heap.size]? =some (.cells ⟨[.int .u64 q.1,.int .u64 q.2]⟩ E.AF):=aE;have Y:Ext AN w d:=aF.trans O (fun _ _ f=>f) fun i hi e=>by have:i=w.heap.size:=e;omega
  have d1:d.cell? ⟨w.heap.size,0,none⟩=some (.int .u64 q.1):=by rw[AS v];rfl
  have d2:d.cell? ⟨w.heap.size,1,none⟩=some (.int .u64 q.2):=by rw[AS v];rfl
  refine⟨q.1,d1,q.2,d2,by decide,AU fun fr aH=>⟨q.2,d2,AU fun k hk=>⟨q.2,d2,?_⟩⟩⟩;have aC:fr=max q.1 ((q.2-1)/512*512):=by
   rw[aH,NW,AM (n:=q.2-1),Int.tdiv_eq_ediv_of_nonneg (by omega),AM (n:=(q.2-1)/512),AM]
  have aN:k=min (q.2-max q.1 ((q.2-1)/512*512)) n:=by
   rw[hk,Pv,aC,AM]
  have aL:0<k:=by omega
  have aM:q.1<=q.2-k:=by omega
  rw[AM (n:=q.2-k),AM (n:=q.2-k+k)];have m0:L3 E b w G d G.s G.l:=L3.start h Y;refine Kc hE (m0.Dp.Dp 3 (by decide)) (by omega) (by omega) (by omega) fun a9 s3 aK aR aQ=> ?_;have m1:=m0.IF (by decide:3<4) aK aR aQ;have aA:=m1.Dp.Dp 2 (by decide);rw[EW _ _ (by decide),EW _ _ (by decide)]at aA;refine I5 hE aA (by omega) (by omega) (by omega) fun aO s2 aI aP aU=> ?_;have m2:=m1.IF (by decide:2<4) aI aP (by rw[EW _ _ (by decide)];exact aU);have Bi: ∀i,i<4->Ok (G.l i):=fun i hi=>(h.Dp.Dp i hi).row.ok;have aD: ∀m,q.2-k<=m->m<q.2-k+k->mem (G.l 3) m:=fun m h1 h2=>⟨q,List.mem_of_getElem? hi,by omega,by omega⟩;have l1:Sh.IF (Sh.IF G.l 3 (Cs (G.l 3) (q.2-k) (q.2-k+k))) 2 (CX (G.l 2) (q.2-k) (q.2-k+k)) 1=G.l 1:=by rw[EW _ _ (by decide),EW _ _ (by decide)]
  have l2:Sh.IF (Sh.IF G.l 3 (Cs (G.l 3) (q.2-k) (q.2-k+k))) 2 (CX (G.l 2) (q.2-k) (q.2-k+k)) 2=CX (G.l 2) (q.2-k) (q.2-k+k):=by rw[Gu]
  have l3:Sh.IF (Sh.IF G.l 3 (Cs (G.l 3) (q.2-k) (q.2-k+k))) 2 (CX (G.l 2) (q.2-k) (q.2-k+k)) 3=Cs (G.l 3) (q.2-k) (q.2-k+k):=by rw[EW _ _ (by decide),Gu]
  have ma: ∀m,mem (CX (G.l 2) (q.2-k) (q.2-k+k)) m↔mem (G.l 2) m∨(q.2-k<=m/\m<q.2-k+k):=fun m=>Ca (Bi 2 (by decide)) (by omega) (by omega) (by omega) m;refine aX e2 q r _ k C aN rfl aL aM aO _ (m2.DP h l1 ⟨?_,?_,?_,?_⟩) rfl
  ·intro m;rw[EW _ _ (by decide),EW _ _ (by decide)];exact h.inv.top m
  ·intro m;rw[l1,EW _ _ (by decide),EW _ _ (by decide)];exact h.inv.free m
  ·intro m;rw[l1,l2,ma];rintro(y|y)
   ·exact h.inv.rel m y
   ·exact((h.inv.idle m).1 (aD m y.1 y.2)).1
  ·intro m;rw[l1,l2,l3,ma,Cw (by omega),h.inv.idle m];constructor
   ·rintro⟨⟨g1,g2⟩,g3⟩;exact⟨g1,fun y=>y.elim g2 g3⟩
   ·rintro⟨g1,g2⟩;exact⟨⟨g1,fun y=>g2 (.inl y)⟩,fun y=>g2 (.inr y)⟩
end
end Go.Sh
set_option linter.all false
set_option maxRecDepth 4000
set_option maxHeartbeats 1000000
namespace Go.Sh
def Mo(l:Nat->Iv)(x n:Int):Nat->Iv:=Sh.IF (Sh.IF (Sh.IF l 1 (Cs (l 1) x (x+n))) 2 (Cs (l 2) x (x+n))) 3 (Cs (l 3) x (x+n))
def Se(l:Nat->Iv)(c n:Int):Nat->Iv:=Sh.IF (Sh.IF (Sh.IF l 0 (CX (l 0) (c*512) ((c+n)*512))) 1 (CX (l 1) (c*512) ((c+n)*512))) 2 (CX (l 2) (c*512) ((c+n)*512))
def LQ(l:Nat->Iv)(i:Nat)(x n:Int):Nat->Iv:=Sh.IF (Sh.IF l 1 (CX (l 1) x (x+n))) i (CX (l i) x (x+n))
def nR(l:Nat->Iv)(p k:Int):Nat->Iv:=Sh.IF (Sh.IF l 3 (Cs (l 3) p (p+k))) 2 (CX (l 2) p (p+k))
def Jz(c n:Int):Prop:=n=0∨262144<n∨67108864<c∨67108864-c<n
section
variable{E:Env}{w:World}{Z:List Pr}{b:Nat}{l:Nat->Iv}
theorem eD(H:Sat Z w){K:Option Addr->World->Prop}(j: ∀w' b l,(∀i,l i=[])->Sat (Ff E b l::Z) w'->K (some ⟨b,0,none⟩) w'):F.Ge E K w:=
 Zh fun w' b G hm d=>j w' b G.l d (H.lY hm)
theorem Zj(H:Sat (Ff E b l::Z) w){n:Int}(d:0<=n){K:Int->Bool->World->Prop}
  (v: ∀w',Sat (Ff E b l::Z) w'->K ((if n=0 then none else findL (l 1) n).getD 0) (if n=0 then none else findL (l 1) n).isSome w'):F.Ck E (some ⟨b,0,none⟩) n K w:=by
 obtain⟨G,j,rfl,st⟩:=H.tree;exact find_spec j d fun w' he=>v w' (H.nothing he)
theorem SD(H:Sat (Ff E b l::Z) w){K:Int->World->Prop}(j:K (DE (l 2)) w):F.Bx E (some ⟨b,0,none⟩) K w:=by
 obtain⟨G,d,rfl,st⟩:=H.tree;exact SC d j
variable(hE:EnvS E)
include hE
theorem Zk(H:Sat (Ff E b l::Z) w){c n:Int}(y:0<=c)(T:c<18446744073709551616)(v:0<=n)(O:n<18446744073709551616){K:Int->World->Prop}
  (C:Jz c n->K 1 w)(J: ¬Jz c n->cnt (l 0) (c*512) ((c+n)*512)≠0-> ∀w',Sat (Ff E b l::Z) w'->K 34 w')
  (j: ¬Jz c n->cnt (l 0) (c*512) ((c+n)*512)=0-> ∀w',Sat (Ff E b (Se l c n)::Z) w'->K 0 w'):F.DA E (some ⟨b,0,none⟩) c n K w:=by
 obtain⟨G,hR,rfl,st⟩:=H.tree;exact Zg hE hR y T v O C (fun h1 d w' he=>J h1 d w' (H.nothing he)) fun h1 d w' G' hs Y=>j h1 d w' (by have:=st _ _ hs;rw[Y]at this;exact this)
theorem Zl(H:Sat (Ff E b l::Z) w){x n:Int}(j:0<=x)(J:x<18446744073709551616)(d:0<=n)(C:n<18446744073709551616){K:Int->Int->World->Prop}
  (v:At l x n true 32≠0-> ∀w',Sat (Ff E b l::Z) w'->K 0 (At l x n true 32) w')
  (y:At l x n true 32=0-> ∀w',Sat (Ff E b (Mo l x n)::Z) w'->K (cnt (l 2) x (x+n)) 0 w'):F.Cm E (some ⟨b,0,none⟩) x n K w:=by
 obtain⟨G,T,rfl,st⟩:=H.tree;exact Sd hE T j J d C (fun h1 w' he=>v h1 w' (H.nothing he)) fun h1 w' G' hs O=>y h1 w' (by have:=st _ _ hs;rw[O]at this;exact this)
theorem XC(H:Sat (Ff E b l::Z) w){n:Int}(d:0<=n)(J:n<18446744073709551616){K:Int->Int->Int->World->Prop}
  (j:n=0->K 0 0 1 w)(v:n≠0->findL (l 1) n=none-> ∀w',Sat (Ff E b l::Z) w'->K 0 0 30 w')
  (y:n≠0-> ∀p,findL (l 1) n=some p-> ∀w',Sat (Ff E b (Mo l p n)::Z) w'->K p (cnt (l 2) p (p+n)) 0 w'):F.BJ E (some ⟨b,0,none⟩) n K w:=by
 obtain⟨G,T,rfl,st⟩:=H.tree;exact XB hE T d J j (fun h1 C w' he=>v h1 C w' (H.nothing he)) fun h1 p hp w' G' hs O=>y h1 p hp w' (by have:=st _ _ hs;rw[O]at this;exact this)
theorem Zm(H:Sat (Ff E b l::Z) w){x n:Int}(j:0<=x)(J:x<18446744073709551616)(d:0<=n)(C:n<18446744073709551616){K:Int->World->Prop}
  (v:At l x n false 31≠0-> ∀w',Sat (Ff E b l::Z) w'->K (At l x n false 31) w')
  (y:At l x n false 31=0-> ∀w',Sat (Ff E b (LQ l 3 x n)::Z) w'->K 0 w'):F.CT E (some ⟨b,0,none⟩) x n K w:=by
 obtain⟨G,T,rfl,st⟩:=H.tree;unfold F.CT T0.CT;simp only[AI,add_eq,Nat.zero_add];exact Qt hE T (i:=3) (.inr rfl) j J d C (fun h1 w' he=>v h1 w' (H.nothing he)) fun h1 w' G' hs O=>y h1 w' (by have:=st _ _ hs;rw[O]at this;exact this)
theorem Zn(H:Sat (Ff E b l::Z) w){x n:Int}(j:0<=x)(J:x<18446744073709551616)(d:0<=n)(C:n<18446744073709551616){K:Int->World->Prop}
  (v:At l x n false 31≠0-> ∀w',Sat (Ff E b l::Z) w'->K (At l x n false 31) w')
  (y:At l x n false 31=0-> ∀w',Sat (Ff E b (LQ l 2 x n)::Z) w'->K 0 w'):F.Co E (some ⟨b,0,none⟩) x n K w:=by
 obtain⟨G,T,rfl,st⟩:=H.tree;unfold F.Co T0.Co;simp only[AI,add_eq,Nat.zero_add];exact Qt hE T (i:=2) (.inl rfl) j J d C (fun h1 w' he=>v h1 w' (H.nothing he)) fun h1 w' G' hs O=>y h1 w' (by have:=st _ _ hs;rw[O]at this;exact this)
theorem Zo(H:Sat (Ff E b l::Z) w){n:Int}(d:0<=n)(C:n<18446744073709551616){K:Int->Int->World->Prop}
  (j:l 3=[]∨n=0->K 0 0 w)
  (v:n≠0-> ∀q r p k,l 3=r++[q]->k=min (q.2-max q.1 ((q.2-1)/512*512)) n->p=q.2-k->0<k->q.1<=p-> ∀w',Sat (Ff E b (nR l p k)::Z) w'->K p k w'):
  F.Bv E (some ⟨b,0,none⟩) n K w:=by
 obtain⟨G,Y,rfl,st⟩:=H.tree;exact Zi hE Y d C j fun h1 q r p k O y e3 e4 J w' G' hs T=>v h1 q r p k O y e3 e4 J w' (by have:=st _ _ hs;rw[T]at this;exact this)
end
end Go.Sh
set_option linter.all false
set_option maxRecDepth 4000
namespace Go.Sh
def cu(u:Int->Bool):Nat->Int
 | 0=>0
 | k+1=>cu u k+(if u k then 1 else 0)
theorem eE{u:Int->Bool}{l:Iv}{fr:Int}(h:Ok l){n:Nat}(hu: ∀k:Int,0<=k->k<n->(u k=true↔mem l (fr+k))):cu u n=cnt l fr (fr+n):=by
 induction n with
 | zero=>
  have:=Cg l fr (fr+(0:Nat));have j:=Ec h (a:=fr) (b:=fr+((0:Nat):Int)) (by omega);show 0=_;omega
 | succ n ih=>
  have hs:=IN h (a:=fr) (k:=fr+n) (by omega);have e:fr+((n+1:Nat):Int)=fr+(n:Int)+1:=by omega
  rw[e];simp only[cu];rw[ih fun k h0 h1=>hu k h0 (by omega)];have d:=hu n (by omega) (by omega);by_cases g:u n=true
  ·rw[hs.1 (d.1 g),if_pos g]
  ·rw[hs.2 (fun e=>g (d.2 e)),if_neg g];omega
theorem eF(u:Int->Bool)(n:Nat):0<=cu u n/\cu u n<=n:=by
 induction n with
 | zero=>simp[cu]
 | succ n ih=>simp only[cu];split<;>omega
end Go.Sh
set_option linter.all false
set_option maxRecDepth 4000
set_option maxHeartbeats 1000000
namespace Go.Sh
structure TV where
 GH:Int->Bool
 fr:Int->Bool
 rl:Int->Bool
def inr(x n p:Int):Bool:=decide (x<=p)&&decide (p<x+n)
theorem AR{x n p:Int}:inr x n p=true↔x<=p/\p<x+n:=by simp[inr]
theorem Fg{x n p:Int}:inr x n p=false↔ ¬(x<=p/\p<x+n):=by rw[<-AR];cases inr x n p<;>simp
def Im(f:Int->Bool)(p n:Int):Prop:= ∀m,p<=m->m<p+n->f m=true
def TV.take(V:TV)(x n:Int):TV:=⟨V.GH,fun p=>V.fr p&& !inr x n p,fun p=>V.rl p&& !inr x n p⟩
def TV.JL(V:TV)(x n:Int):TV:=⟨V.GH,fun p=>V.fr p||inr x n p,V.rl⟩
def TV.back(V:TV)(x n:Int):TV:=⟨V.GH,fun p=>V.fr p||inr x n p,fun p=>V.rl p||inr x n p⟩
def TV.grow(V:TV)(c n:Int):TV:=⟨fun p=>V.GH p||inr (c*512) (n*512) p,fun p=>V.fr p||inr (c*512) (n*512) p,fun p=>V.rl p||inr (c*512) (n*512) p⟩
def TV.K3(V:TV)(p k:Int):TV:=⟨V.GH,V.fr,fun q=>V.rl q||inr p k q⟩
def TV.nil:TV:=⟨fun _=>false,fun _=>false,fun _=>false⟩
structure LV(l:Nat->Iv)(V:TV):Prop where
 i: ∀p,mem (l 0) p↔V.GH p=true
 f: ∀p,mem (l 1) p↔V.fr p=true
 r: ∀p,mem (l 2) p↔V.rl p=true
noncomputable def NT(f:Int->Bool):Int:= @dite Int (∃l,Ok l/\ ∀p,mem l p↔f p=true) (Classical.propDecidable _) (fun h=>DE (Classical.choose h)) fun _=>0
theorem VE{f:Int->Bool}{l:Iv}(h:Ok l)(d: ∀p,mem l p↔f p=true):NT f=DE l:=by
 have hex: ∃l,Ok l/\ ∀p,mem l p↔f p=true:=⟨l,h,d⟩;unfold NT;rw[dif_pos hex];have j:=Classical.choose_spec hex;rw[bW j.1 h fun p=>(j.2 p).trans (d p).symm]
def cr(f:Int->Bool)(x n:Int):Int:=cu (fun k=>f (x+k)) n.toNat
theorem XD{f:Int->Bool}{l:Iv}(h:Ok l)(d: ∀p,mem l p↔f p=true){x n:Int}(j:0<=n):cr f x n=cnt l x (x+n):=by
 unfold cr;rw[eE h (l:=l) (fr:=x) fun k _ _=>(d (x+k)).symm];rw[show((n.toNat:Nat):Int)=n by omega]
theorem lZ{f:Int->Bool}{x n:Int}(h: ∀m,x<=m->m<x+n->f m=false):cr f x n=0:=by
 unfold cr;have key: ∀k:Nat,(k:Int)<=n->cu (fun k=>f (x+k)) k=0:=by
  intro k
  induction k with
  | zero=>intro _;rfl
  | succ k ih=>
   intro d;simp only[cu];rw[ih (by omega),if_neg (by rw[h (x+k) (by omega) (by omega)];decide)];rfl
 by_cases g:0<=n
 ·exact key n.toNat (by omega)
 ·have:n.toNat=0:=by omega
  rw[this];rfl
theorem vN(f:Int->Bool)(x:Int):cr f x 1=if f x then 1 else 0:=by
 show cu (fun k=>f (x+k)) 1=_;simp[cu]
theorem vO(f:Int->Bool)(x:Int){n:Int}(d:0<=n):0<=cr f x n/\cr f x n<=n:=by
 have:=eF (fun k=>f (x+k)) n.toNat;unfold cr;omega
def BI(E:Env)(b:Nat)(V:TV):Pr:=Ex fun l:Nat->Iv=>Jv (LV l V) (Ff E b l)
structure M6(V:TV):Prop where
 fi: ∀p,V.fr p=true->V.GH p=true
 rf: ∀p,V.rl p=true->V.fr p=true
 Gn: ∀p,V.GH p=true->0<=p/\p<34359738368
 ci: ∃l,Ok l/\ ∀p,mem l p↔V.GH p=true
 cf: ∃l,Ok l/\ ∀p,mem l p↔V.fr p=true
 cr: ∃l,Ok l/\ ∀p,mem l p↔V.rl p=true
def GL(V:TV)(x n:Int):Prop:=n≠0/\x+n<=34359738368/\Im V.GH x n
def TV.idle(V:TV)(p:Int):Bool:=V.fr p&& !V.rl p
section
variable{E:Env}{w:World}{Z:List Pr}{b:Nat}{V:TV}{l:Nat->Iv}
theorem Sat.HO:Sat (BI E b V::Z) w↔ ∃l,LV l V/\Sat (Ff E b l::Z) w:=by
 unfold BI;rw[Sat.ex];constructor
 ·rintro⟨l,h⟩;exact⟨l,Sat.where.1 h⟩
 ·rintro⟨l,h⟩;exact⟨l,Sat.where.2 h⟩
theorem LV.ok(h:LV l V)(H:Sat (Ff E b l::Z) w):M6 V:=by
 obtain⟨hi,Bi⟩:=H.JK;exact⟨fun p hp=>(h.i p).1 (hi.free p ((h.f p).2 hp)),fun p hp=>(h.f p).1 (hi.rel p ((h.r p).2 hp)),fun p hp=>⟨NZ (Bi 0 (by decide)) ((h.i p).2 hp),hi.top p ((h.i p).2 hp)⟩,
  ⟨l 0,Bi 0 (by decide),h.i⟩,⟨l 1,Bi 1 (by decide),h.f⟩,⟨l 2,Bi 2 (by decide),h.r⟩⟩
theorem Sat.tvok(H:Sat (BI E b V::Z) w):M6 V:=by
 obtain⟨l,h,H⟩:=Sat.HO.1 H;exact h.ok H
theorem HJ(h:LV l V){p n:Int}:PJ (l 1) p n↔Im V.fr p n:=by
 constructor
 ·intro d m a c;exact(h.f m).1 (d m a c)
 ·intro d m a c;exact(h.f m).2 (d m a c)
theorem Qu(h:LV l V)(Bi: ∀i,i<4->Ok (l i)){x n:Int}(hx:0<=x)(Y:0<=n)(free:Bool){e:Int}(he:e≠0):
  (¬GL V x n->At l x n free e=10)/\(GL V x n->free=true-> ¬Im V.fr x n->At l x n free e=e)/\(GL V x n->free=true->Im V.fr x n->At l x n free e=0)/\
  (GL V x n->free=false->(∃m,x<=m/\m<x+n/\V.fr m=true)->At l x n free e=e)/\(GL V x n->free=false->(∀m,x<=m->m<x+n->V.fr m=false)->At l x n free e=0):=by
 have K:=DM (Bi 0 (by decide)) (a:=x) (b:=x+n) (by omega);have C:=DM (Bi 1 (by decide)) (a:=x) (b:=x+n) (by omega);have J:=C4 (Bi 1 (by decide)) (a:=x) (b:=x+n) (by omega);have y: ∀{m:Int},Im V.GH x n↔ ∀p,x<=p->p<x+n->mem (l 0) p:=fun{_}=>⟨fun d p a c=>(h.i p).2 (d p a c),fun d p a c=>(h.i p).1 (d p a c)⟩;have v:GL V x n-> ¬(n=0∨34359738368<=x∨34359738368-x<n∨cnt (l 0) x (x+n)≠n):=fun⟨h1,h2,h3⟩ j=>by
  have:=K.2 ((y (m:=0)).1 h3);rcases j with j|j|j|j<;>omega
 refine⟨fun O=> ?_,fun hi hf d=> ?_,fun hi hf d=> ?_,fun hi hf d=> ?_,fun hi hf d=> ?_⟩
 ·unfold At;rw[if_pos];refine Classical.byContradiction fun j=>O ⟨fun e=>j (.inl e),?_,?_⟩
  ·refine Classical.byContradiction fun e=>j ?_;by_cases e2:34359738368<=x
   ·exact .inr (.inl e2)
   ·exact .inr (.inr (.inl (by omega)))
  ·refine(y (m:=0)).2 (K.1 ?_);refine Classical.byContradiction fun e=>j (.inr (.inr (.inr (by omega))))
 ·unfold At;rw[if_neg (v hi),if_pos];rw[hf,if_pos rfl];intro T;exact d fun m a c=>(h.f m).1 (C.1 (by omega) m a c)
 ·unfold At;rw[if_neg (v hi),if_neg];rw[hf,if_pos rfl,Decidable.not_not];have:=C.2 fun m a c=>(h.f m).2 (d m a c);omega
 ·unfold At;rw[if_neg (v hi),if_pos];rw[hf,if_neg (by decide)];intro T;obtain⟨m,a,c,hm⟩:=d;exact J.1 T m a c ((h.f m).2 hm)
 ·unfold At;rw[if_neg (v hi),if_neg];rw[hf,if_neg (by decide),Decidable.not_not];refine J.2 fun m a c hm=> ?_;have:=(h.f m).1 hm;rw[d m a c]at this;cases this
theorem LV.Mo(h:LV l V){x n:Int}(d:0<n):LV (Sh.Mo l x n) (V.take x n):=by
 refine⟨h.i,fun p=> ?_,fun p=> ?_⟩
 ·show mem (Cs (l 1) x (x+n)) p↔(V.fr p&& !inr x n p)=true;rw[Cw (by omega),h.f,<-AR];cases inr x n p<;>simp
 ·show mem (Cs (l 2) x (x+n)) p↔(V.rl p&& !inr x n p)=true;rw[Cw (by omega),h.r,<-AR];cases inr x n p<;>simp
theorem LV.LQ(h:LV l V)(Bi: ∀i,i<4->Ok (l i)){x n:Int}(d:0<=x)(j:0<n)(v:x+n<=34359738368):LV (Sh.LQ l 3 x n) (V.JL x n)/\LV (Sh.LQ l 2 x n) (V.back x n):=by
 have a1:=Ca (Bi 1 (by decide)) (a:=x) (b:=x+n) (by omega) d (by omega);have a2:=Ca (Bi 2 (by decide)) (a:=x) (b:=x+n) (by omega) d (by omega);refine⟨⟨h.i,fun p=> ?_,h.r⟩,⟨h.i,fun p=> ?_,fun p=> ?_⟩⟩
 ·show mem (CX (l 1) x (x+n)) p↔(V.fr p||inr x n p)=true;rw[a1,h.f,<-AR,Bool.or_eq_true]
 ·show mem (CX (l 1) x (x+n)) p↔(V.fr p||inr x n p)=true;rw[a1,h.f,<-AR,Bool.or_eq_true]
 ·show mem (CX (l 2) x (x+n)) p↔(V.rl p||inr x n p)=true;rw[a2,h.r,<-AR,Bool.or_eq_true]
theorem LV.Se(h:LV l V)(Bi: ∀i,i<4->Ok (l i)){c n:Int}(d:0<=c)(j:0<n)(v:c+n<=67108864):LV (Sh.Se l c n) (V.grow c n):=by
 have e:(c+n)*512=c*512+n*512:=by omega
 have a0:=Ca (Bi 0 (by decide)) (a:=c*512) (b:=c*512+n*512) (by omega) (by omega) (by omega);have a1:=Ca (Bi 1 (by decide)) (a:=c*512) (b:=c*512+n*512) (by omega) (by omega) (by omega);have a2:=Ca (Bi 2 (by decide)) (a:=c*512) (b:=c*512+n*512) (by omega) (by omega) (by omega);refine⟨fun p=> ?_,fun p=> ?_,fun p=> ?_⟩
 ·show mem (CX (l 0) (c*512) ((c+n)*512)) p↔(V.GH p||inr (c*512) (n*512) p)=true;rw[e,a0,h.i,<-AR,Bool.or_eq_true]
 ·show mem (CX (l 1) (c*512) ((c+n)*512)) p↔(V.fr p||inr (c*512) (n*512) p)=true;rw[e,a1,h.f,<-AR,Bool.or_eq_true]
 ·show mem (CX (l 2) (c*512) ((c+n)*512)) p↔(V.rl p||inr (c*512) (n*512) p)=true;rw[e,a2,h.r,<-AR,Bool.or_eq_true]
theorem eG(H:Sat Z w){K:Option Addr->World->Prop}(y: ∀w' b,Sat (BI E b TV.nil::Z) w'->K (some ⟨b,0,none⟩) w'):F.Ge E K w:=
 eD H fun w' b l v j=>y w' b (Sat.HO.2 ⟨l,by
  have d: ∀i p,¬mem (l i) p:=fun i p=>by rw[v];exact A9 p
  exact⟨fun p=>⟨fun h=>absurd h (d 0 p),fun h=>(by cases h)⟩,fun p=>⟨fun h=>absurd h (d 1 p),fun h=>(by cases h)⟩,fun p=>⟨fun h=>absurd h (d 2 p),fun h=>(by cases h)⟩⟩,j⟩)
def Fz(V:TV)(n p:Int):Prop:=0<=p/\p+n<=34359738368/\Im V.fr p n/\ ∀d,Im V.fr d n->p<=d
theorem M7(h:LV l V)(H:Sat (Ff E b l::Z) w){n:Int}(y:0<n):(findL (l 1) n=none/\ ∀p,¬Im V.fr p n)∨ ∃p,findL (l 1) n=some p/\Fz V n p:=by
 obtain⟨hi,Bi⟩:=H.JK;have j:=h.ok H;cases hf:findL (l 1) n with
 | none=>exact .inl ⟨rfl,fun p hp=>K2 (Bi 1 (by decide)) y hf p ((HJ h).2 hp)⟩
 | some p=>
  obtain⟨h1,C⟩:=Ji (Bi 1 (by decide)) y hf;have d:=(HJ h).1 h1;have b1:=j.Gn p (j.fi p (d p (Int.le_refl _) (by omega)));have K:=j.Gn (p+n-1) (j.fi _ (d (p+n-1) (by omega) (by omega)));exact .inr ⟨p,rfl,b1.1,by omega,d,fun J v=>C J ((HJ h).2 v)⟩
theorem Zp(H:Sat (BI E b V::Z) w){n:Int}(v:0<=n){K:Int->Bool->World->Prop}
  (d:n=0∨(∀p,¬Im V.fr p n)-> ∀w',Sat (BI E b V::Z) w'->K 0 false w')(j:n≠0-> ∀p,Fz V n p-> ∀w',Sat (BI E b V::Z) w'->K p true w'):F.Ck E (some ⟨b,0,none⟩) n K w:=by
 obtain⟨l,h,H⟩:=Sat.HO.1 H;refine Zj H v fun w' C=> ?_;have y:=Sat.HO.2 ⟨l,h,C⟩;by_cases e:n=0
 ·rw[if_pos e];exact d (.inl e) w' y
 ·rw[if_neg e];rcases M7 h H (n:=n) (by omega)with ⟨h1,h2⟩|⟨p,h1,h2⟩
  ·rw[h1];exact d (.inr h2) w' y
  ·rw[h1];exact j e p h2 w' y
theorem SE(H:Sat (BI E b V::Z) w){K:Int->World->Prop}(d:K (NT V.rl) w):F.Bx E (some ⟨b,0,none⟩) K w:=by
 obtain⟨l,h,H⟩:=Sat.HO.1 H;rw[VE (H.JK.2 2 (by decide)) h.r]at d;exact SD H d
variable(hE:EnvS E)
include hE
theorem Zq(H:Sat (BI E b V::Z) w){c n:Int}(j:0<=c)(hc:c<18446744073709551616)(T:0<=n)(hn:n<18446744073709551616){K:Int->World->Prop}
  (Y:Jz c n->K 1 w)(aA: ¬Jz c n->(∃p,c*512<=p/\p<(c+n)*512/\V.GH p=true)-> ∀w',Sat (BI E b V::Z) w'->K 34 w')
  (O: ¬Jz c n->(∀p,c*512<=p->p<(c+n)*512->V.GH p=false)-> ∀w',Sat (BI E b (V.grow c n)::Z) w'->K 0 w'):F.DA E (some ⟨b,0,none⟩) c n K w:=by
 obtain⟨l,h,H⟩:=Sat.HO.1 H;have Bi:=H.JK.2;refine Zk hE H j hc T hn Y (fun v d w' y=>aA v ?_ w' (Sat.HO.2 ⟨l,h,y⟩)) fun v d w' y=>O v (fun p h1 C=> ?_) w' (Sat.HO.2 ⟨_,?_,y⟩)
 ·refine Classical.byContradiction fun J=>d ((C4 (Bi 0 (by decide)) (by omega)).2 fun p h1 C hm=>J ⟨p,h1,C,(h.i p).1 hm⟩)
 ·have:=(C4 (Bi 0 (by decide)) (by omega)).1 d p h1 C;rw[h.i]at this;simpa using this
 ·unfold Jz at v;exact h.Se Bi j (by omega) (by omega)
theorem Zr(H:Sat (BI E b V::Z) w){x n:Int}(y:0<=x)(hx:x<18446744073709551616)(d:0<=n)(hn:n<18446744073709551616){K:Int->Int->World->Prop}
  (J: ¬GL V x n-> ∀w',Sat (BI E b V::Z) w'->K 0 10 w')(O:GL V x n-> ¬Im V.fr x n-> ∀w',Sat (BI E b V::Z) w'->K 0 32 w')
  (T:GL V x n->Im V.fr x n-> ∀w',Sat (BI E b (V.take x n)::Z) w'->K (cr V.rl x n) 0 w'):F.Cm E (some ⟨b,0,none⟩) x n K w:=by
 obtain⟨l,h,H⟩:=Sat.HO.1 H;have Bi:=H.JK.2;obtain⟨l1,l2,l3,_,_⟩:=Qu h Bi y d true (e:=32) (by decide);refine Zl hE H y hx d hn (fun v w' C=> ?_) fun v w' C=> ?_
 ·have Y:=Sat.HO.2 ⟨l,h,C⟩;by_cases g:GL V x n
  ·by_cases j:Im V.fr x n
   ·exact absurd (l3 g rfl j) v
   ·rw[l2 g rfl j];exact O g j w' Y
  ·rw[l1 g];exact J g w' Y
 ·have g:GL V x n:=Classical.byContradiction fun g=>by rw[l1 g]at v;cases v
  have j:Im V.fr x n:=Classical.byContradiction fun j=>by rw[l2 g rfl j]at v;cases v
  rw[<-XD (Bi 2 (by decide)) h.r d];have:=g.1;exact T g j w' (Sat.HO.2 ⟨_,h.Mo (by omega),C⟩)
theorem Qv(H:Sat (BI E b V::Z) w){n:Int}(d:0<=n)(J:n<18446744073709551616){K:Int->Int->Int->World->Prop}
  (v:n=0->K 0 0 1 w)(y:n≠0->(∀p,¬Im V.fr p n)-> ∀w',Sat (BI E b V::Z) w'->K 0 0 30 w')
  (C:n≠0-> ∀p,Fz V n p-> ∀w',Sat (BI E b (V.take p n)::Z) w'->K p (cr V.rl p n) 0 w'):F.BJ E (some ⟨b,0,none⟩) n K w:=by
 obtain⟨l,h,H⟩:=Sat.HO.1 H;have Bi:=H.JK.2;refine XC hE H d J v (fun h1 hf w' j=> ?_) fun h1 p hf w' j=> ?_
 ·rcases M7 h H (n:=n) (by omega)with ⟨_,g2⟩|⟨p,g1,g2⟩
  ·exact y h1 g2 w' (Sat.HO.2 ⟨l,h,j⟩)
  ·rw[hf]at g1;cases g1
 ·rcases M7 h H (n:=n) (by omega)with ⟨g1,_⟩|⟨p',g1,g2⟩
  ·rw[hf]at g1;cases g1
  ·rw[hf]at g1;cases g1;rw[<-XD (Bi 2 (by decide)) h.r d];exact C h1 p g2 w' (Sat.HO.2 ⟨_,h.Mo (by omega),j⟩)
theorem On(H:Sat (BI E b V::Z) w){x n:Int}(d:0<=x)(hx:x<18446744073709551616)(y:0<=n)(hn:n<18446744073709551616){K:Int->World->Prop}
  (J: ¬GL V x n-> ∀w',Sat (BI E b V::Z) w'->K 10 w')(O:GL V x n->(∃m,x<=m/\m<x+n/\V.fr m=true)-> ∀w',Sat (BI E b V::Z) w'->K 31 w')
  (T:GL V x n->(∀m,x<=m->m<x+n->V.fr m=false)-> ∀w',Sat (BI E b (V.JL x n)::Z) w'->K 0 w'):F.CT E (some ⟨b,0,none⟩) x n K w:=by
 obtain⟨l,h,H⟩:=Sat.HO.1 H;have Bi:=H.JK.2;obtain⟨l1,_,_,l4,l5⟩:=Qu h Bi d y false (e:=31) (by decide);have em: ∀(P:Prop),P∨ ¬P:=Classical.em;refine Zm hE H d hx y hn (fun j w' C=> ?_) fun j w' C=> ?_
 ·have Y:=Sat.HO.2 ⟨l,h,C⟩;by_cases g:GL V x n
  ·rcases em (∃m,x<=m/\m<x+n/\V.fr m=true)with v|v
   ·rw[l4 g rfl v];exact O g v w' Y
   ·refine absurd (l5 g rfl fun m a c=> ?_) j;cases e:V.fr m with
    | false=>rfl
    | true=>exact absurd ⟨m,a,c,e⟩ v
  ·rw[l1 g];exact J g w' Y
 ·have g:GL V x n:=Classical.byContradiction fun g=>by rw[l1 g]at j;cases j
  have v: ∀m,x<=m->m<x+n->V.fr m=false:=fun m a c=>by
   cases e:V.fr m with
   | false=>rfl
   | true=>rw[l4 g rfl ⟨m,a,c,e⟩]at j;cases j
  have g1:=g.1;exact T g v w' (Sat.HO.2 ⟨_,(h.LQ Bi d (by omega) g.2.1).1,C⟩)
theorem Sf(H:Sat (BI E b V::Z) w){x n:Int}(d:0<=x)(hx:x<18446744073709551616)(y:0<=n)(hn:n<18446744073709551616){K:Int->World->Prop}
  (J: ¬GL V x n-> ∀w',Sat (BI E b V::Z) w'->K 10 w')(O:GL V x n->(∃m,x<=m/\m<x+n/\V.fr m=true)-> ∀w',Sat (BI E b V::Z) w'->K 31 w')
  (T:GL V x n->(∀m,x<=m->m<x+n->V.fr m=false)-> ∀w',Sat (BI E b (V.back x n)::Z) w'->K 0 w'):F.Co E (some ⟨b,0,none⟩) x n K w:=by
 obtain⟨l,h,H⟩:=Sat.HO.1 H;have Bi:=H.JK.2;obtain⟨l1,_,_,l4,l5⟩:=Qu h Bi d y false (e:=31) (by decide);have em: ∀(P:Prop),P∨ ¬P:=Classical.em;refine Zn hE H d hx y hn (fun j w' C=> ?_) fun j w' C=> ?_
 ·have Y:=Sat.HO.2 ⟨l,h,C⟩;by_cases g:GL V x n
  ·rcases em (∃m,x<=m/\m<x+n/\V.fr m=true)with v|v
   ·rw[l4 g rfl v];exact O g v w' Y
   ·refine absurd (l5 g rfl fun m a c=> ?_) j;cases e:V.fr m with
    | false=>rfl
    | true=>exact absurd ⟨m,a,c,e⟩ v
  ·rw[l1 g];exact J g w' Y
 ·have g:GL V x n:=Classical.byContradiction fun g=>by rw[l1 g]at j;cases j
  have v: ∀m,x<=m->m<x+n->V.fr m=false:=fun m a c=>by
   cases e:V.fr m with
   | false=>rfl
   | true=>rw[l4 g rfl ⟨m,a,c,e⟩]at j;cases j
  have g1:=g.1;exact T g v w' (Sat.HO.2 ⟨_,(h.LQ Bi d (by omega) g.2.1).2,C⟩)
structure Oo(V:TV)(n p k:Int):Prop where
 k0:0<k
 kn:k<=n
 row:Im V.idle p k
 last: ∀q,V.idle q=true->q<p+k
 chunk:p/512=(p+k-1)/512
 most:k=n∨p %512=0∨V.idle (p-1)=false
theorem Zs(H:Sat (BI E b V::Z) w){n:Int}(aC:0<=n)(hn:n<18446744073709551616){K:Int->Int->World->Prop}
  (aB:n=0∨(∀p,V.idle p=false)->K 0 0 w)(aD: ∀p k,Oo V n p k-> ∀w',Sat (BI E b (V.K3 p k)::Z) w'->K p k w'):F.Bv E (some ⟨b,0,none⟩) n K w:=by
 obtain⟨l,h,H⟩:=Sat.HO.1 H;obtain⟨hi,Bi⟩:=H.JK;have d: ∀p,mem (l 3) p↔V.idle p=true:=fun p=>by
  rw[hi.idle,h.f,h.r];unfold TV.idle;cases V.fr p<;>cases V.rl p<;>simp
 refine Zo hE H aC hn (fun hz=>aB ?_) fun aH q r p k Y e2 e3 e4 e5 w' H'=> ?_
 ·rcases hz with hz|hz
  ·refine .inr fun p=> ?_;have:=d p;rw[hz]at this;cases g:V.idle p with
   | false=>rfl
   | true=>exact absurd (this.2 g) (A9 p)
  ·exact .inl hz
 ·have MZ:=Bi 3 (by decide);rw[Y]at MZ;obtain⟨_,aA,J⟩:=EJ.1 MZ;have hq:=aA.mem (List.mem_singleton.2 rfl);have C: ∀x,mem (l 3) x->x<q.2:=fun x v=>by
   rw[Y,mem_append]at v;rcases v with ⟨y,hy,h1,T⟩|v
   ·have:=J y hy q (List.mem_singleton.2 rfl);omega
   ·rcases mem_cons.1 v with h1|h1
    ·exact h1.2
    ·exact absurd h1 (A9 x)
  have O: ∀x,q.1<=x->x<q.2->mem (l 3) x:=fun x h1 T=>by rw[Y,mem_append];exact .inr (mem_cons.2 (.inl ⟨h1,T⟩))
  have j:q.1=0∨ ¬mem (l 3) (q.1-1):=by
   right;intro v;rw[Y,mem_append]at v;rcases v with ⟨y,hy,h1,T⟩|v
   ·have:=J y hy q (List.mem_singleton.2 rfl);omega
   ·rcases mem_cons.1 v with h1|h1
    ·omega
    ·exact absurd h1 (A9 _)
  have aF:q.2<=34359738368:=by
   have h1:=O (q.2-1) (by omega) (by omega);have:=hi.top _ (hi.free _ ((hi.idle _).1 h1).1);omega
  refine aD p k ⟨e4,by omega,fun m h1 T=>(d m).1 (O m (by omega) (by omega)),fun x v=>by have:=C x ((d x).2 v);omega,by omega,?_⟩ w' (Sat.HO.2 ⟨_,?_,H'⟩)
  ·by_cases g:k=n
   ·exact .inl g
   ·by_cases g2:p %512=0
    ·exact .inr (.inl g2)
    ·right;right;have e:p=q.1:=by omega
     cases g3:V.idle (p-1)with
     | false=>rfl
     | true=>
      have hm:=(d _).2 g3;rw[e]at hm;rcases j with h1|h1
      ·omega
      ·exact absurd hm h1
  ·have a2:=Ca (Bi 2 (by decide)) (a:=p) (b:=p+k) (by omega) (by omega) (by omega);refine⟨h.i,h.f,fun x=> ?_⟩;show mem (CX (l 2) p (p+k)) x↔(V.rl x||inr p k x)=true;rw[a2,h.r,<-AR,Bool.or_eq_true]
end
end Go.Sh
set_option linter.all false
set_option maxRecDepth 4000
set_option maxHeartbeats 1000000
namespace Go.Sh
theorem vP{a b:Nat}(d:a<18446744073709551616)(j:b<18446744073709551616):D8 .u64 0 (a:Int) (b:Int)=((a&&&b:Nat):Int):=by
 show IntKind.wrap .u64 ((BitVec.ofInt 64 (a:Int)&&&BitVec.ofInt 64 (b:Int)).toNat:Int)=_;rw[BitVec.toNat_and,BitVec.ofInt_natCast,BitVec.ofInt_natCast,BitVec.toNat_ofNat,BitVec.toNat_ofNat,Nat.mod_eq_of_lt d,Nat.mod_eq_of_lt j];exact Qi (Nat.lt_of_le_of_lt Nat.and_le_left d)
theorem fdN(a k:Nat)(j:k<=64):Int.fdiv (a:Int) (2^(min (Int.toNat (k:Int)) (IntKind.bits .u64)))=((a/2^k:Nat):Int):=by
 have d:IntKind.bits .u64=64:=rfl;rw[d,Int.toNat_natCast,Nat.min_eq_left j,Int.fdiv_eq_ediv_of_nonneg _ (Int.pow_nonneg (by decide)),Int.natCast_ediv,Int.natCast_pow];rfl
section
variable{E:Env}{w:World}{Z:List Pr}
theorem Oq{u:Nat->Bool}(hT:GV E.AP w){K:Int->World->Prop}(y:(∀i,i<64->u i=false)->K 64 w)
  (J: ∀r:Nat,r<64->u r=true->(∀i,i<r->u i=false)->K r w):F.BF E (W u) K w:=by
 unfold F.BF;refine BW (fun e=>y (Fh.1 e)) fun O=> ?_;have C:wN u 64≠0:=fun e=>O (by unfold W;rw[e];rfl);have d:=LO u 64;obtain⟨h1,h2⟩:=Lib.lowest_bit 64 _ C d;obtain⟨c1,c2,c3⟩:=iH C d;have hand:D8 .u64 0 (W u) (u64 (0-W u))=((2^Lib.ctz 64 (wN u 64):Nat):Int):=by
  have:=cJ C d;rw[h1]at this;exact this
 rw[hand];generalize Lib.ctz 64 (wN u 64)=k at h2 c1 c2 c3;obtain⟨d1,d2⟩:=Lib.deBruijn64_at k c1;have e1:u64 (((2^k:Nat):Int)*285870213051353865)=((2^k*285870213051353865 %18446744073709551616:Nat):Int):=by
  rw[Pu,Int.natCast_emod,Int.natCast_mul];rfl
 rw[e1];have Y:=fdN (2^k*285870213051353865 %18446744073709551616) 58 (by decide);have v:(2:Nat)^58=288230376151711744:=by decide
 rw[v]at Y;have T:Int.fdiv ((2^k*285870213051353865 %18446744073709551616:Nat):Int) (2^(min (Int.toNat 58) (IntKind.bits .u64)))=((2^k*285870213051353865 %18446744073709551616/288230376151711744:Nat):Int):=Y;rw[T];generalize 2^k*285870213051353865 %18446744073709551616/288230376151711744=idx at d1 d2;have Ba:=hT idx d1;rw[d2]at Ba;refine⟨by decide,⟨by omega,by omega⟩,(k:Int),?_,?_⟩
 ·rw[Int.toNat_natCast,Nat.mul_one,add_eq,Nat.zero_add];exact Ba
 ·rw[AH];refine J k c1 ?_ fun i hi=> ?_
  ·have:=c2;rw[Da]at this;simpa[c1]using this
  ·have:=c3 i hi;rw[Da]at this;have j:i<64:=by omega
   simpa[j]using this
theorem VF{u:Nat->Bool}(hu: ∀i,64<=i->u i=false){K:Int->World->Prop}(hK:K (cN u 64) w):F.EZ E (W u) K w:=by
 unfold F.EZ;have v:wN u 64<18446744073709551616:=LO u 64;have f: ∀(a k d:Nat) (k':Int),k'=(k:Int)->k<=64->2^k=d->Int.fdiv (a:Int) (2^(min (Int.toNat k') (IntKind.bits .u64)))=((a/d:Nat):Int):=fun a k d k' e h hd=>by rw[e,<-hd];exact fdN a k h
 have C: ∀{a:Nat},a<18446744073709551616->u64 (a:Int)=(a:Int):=fun h=>AM;have half: ∀(a d:Nat),a<18446744073709551616->a/d<18446744073709551616:=fun a d h=>Nat.lt_of_le_of_lt (Nat.div_le_self _ _) h;refine⟨by decide,AU fun x1 Y=>⟨by decide,AU fun x2 O=>⟨by decide,AU fun x3 aB=>⟨by decide,AU fun x4 aA=>⟨by decide,AU fun x5 aG=>⟨by decide,AU fun x6 aE=>AU fun t ht=> ?_⟩⟩⟩⟩⟩⟩;have m1:(6148914691236517205:Int)=((6148914691236517205:Nat):Int):=rfl;have m2:(3689348814741910323:Int)=((3689348814741910323:Nat):Int):=rfl;have m3:(1085102592571150095:Int)=((1085102592571150095:Nat):Int):=rfl;have ew:W u=((wN u 64:Nat):Int):=rfl;obtain⟨J,h0⟩: ∃J,J=wN u 64:=⟨_,rfl⟩;obtain⟨y,h1⟩: ∃y,y=(J/2&&&6148914691236517205)+(J&&&6148914691236517205):=⟨_,rfl⟩;obtain⟨y2,h2⟩: ∃y2,y2=(y/4&&&3689348814741910323)+(y&&&3689348814741910323):=⟨_,rfl⟩;obtain⟨y3,h3⟩: ∃y3,y3=(y2/16+y2)&&&1085102592571150095:=⟨_,rfl⟩;obtain⟨y4,h4⟩: ∃y4,y4=y3+y3/256:=⟨_,rfl⟩;obtain⟨T,h5⟩: ∃T,T=y4+y4/65536:=⟨_,rfl⟩;obtain⟨j,h6⟩: ∃j,j=T+T/4294967296:=⟨_,rfl⟩;obtain⟨l1,l2,l3,l4,l5,l6,l7⟩:=swar hu h0 h1 h2 h3 h4 h5 h6;rw[<-h0]at v ew;rw[ew,f J 1 2 1 rfl (by decide) rfl,m1,vP (half J 2 v) (by decide),vP v (by decide),<-Int.natCast_add,<-h1,C l1]at Y;subst Y;rw[f y 2 4 2 rfl (by decide) rfl,m2,vP (half y 4 l1) (by decide),vP l1 (by decide),<-Int.natCast_add,<-h2,C l2]at O;subst O;rw[f y2 4 16 4 rfl (by decide) rfl,<-Int.natCast_add,C l3,m3,vP l3 (by decide),<-h3]at aB;subst aB;rw[f y3 8 256 8 rfl (by decide) rfl,<-Int.natCast_add,<-h4,C l4]at aA;subst aA;rw[f y4 16 65536 16 rfl (by decide) rfl,<-Int.natCast_add,<-h5,C l5]at aG;subst aG;rw[f T 32 4294967296 32 rfl (by decide) rfl,<-Int.natCast_add,<-h6,C (Nat.lt_trans l6 (by decide))]at aE;subst aE;rw[AH]at ht;have e:D8 .i64 0 (j:Int) 127=((j %128:Nat):Int):=by
  show IntKind.wrap .i64 ((BitVec.ofInt 64 (j:Int)&&&BitVec.ofInt 64 ((127:Nat):Int)).toNat:Int)=_;rw[BitVec.toNat_and,BitVec.ofInt_natCast,BitVec.ofInt_natCast,BitVec.toNat_ofNat,BitVec.toNat_ofNat,Nat.mod_eq_of_lt (show j<2^64 from Nat.lt_trans l6 (by decide)),Nat.mod_eq_of_lt (by decide)];have:j&&&127=j %128:=Nat.and_two_pow_sub_one_eq_mod j 7;rw[this];exact AH
 rw[e,l7]at ht;subst ht;exact hK
def IU(u:Nat->Bool)(i n:Nat):Prop:= ∀k,k<n->u (i+k)=true
theorem XE{u:Nat->Bool}(hu: ∀i,64<=i->u i=false)(hT:GV E.AP w){n:Int}(h1:1<=n)(h2:n<=64){K:Int->Bool->World->Prop}
  (aF:(∀i,¬IU u i n.toNat)-> ∀r,K r false w)(aD: ∀i,IU u i n.toNat->(∀j,IU u j n.toNat->i<=j)->i+n.toNat<=64->K i true w):F.GK E (W u) n K w:=by
 unfold F.GK T0.GK;refine AK (fun st w'=>w'=w/\ ∃v:Nat->Bool,st.1=W v/\(∀i,64<=i->v i=false)/\0<=st.2.2.1/\st.2.2.1<64/\st.2.1=st.2.2.1+1/\ ∀i,IU v i (st.2.2.1.toNat+1)↔IU u i n.toNat) (fun st _=>st.2.2.1.toNat)
  ⟨rfl,u,rfl,hu,?_,?_,?_,fun i=> ?_⟩ ?_
 ·show 0<=i64 (n-1);rw[AH];omega
 ·show i64 (n-1)<64;rw[AH];omega
 ·show n=i64 (n-1)+1;rw[AH];omega
 ·show IU u i ((i64 (n-1)).toNat+1)↔_;rw[AH,show(n-1).toNat+1=n.toNat by omega]
 rintro⟨x,m,left,c⟩ _ w2 ⟨rfl,v,hx,hv,l0,l1,hm,y⟩;dsimp only at hx l0 l1 hm y⊢;subst hx;subst hm;refine AD (fun aI=>⟨by decide,AU fun KS aG=> ?_⟩) fun hz=> ?_
 ·rw[Int.tdiv_eq_ediv_of_nonneg (by omega),AH,Pv,NW]at aG;have b0:1<=KS/\KS<=left/\2*KS<=left+1:=by omega
  refine⟨by omega,AU fun x' aB=> ?_⟩;rw[cG v (by omega) (by omega),cD]at aB;rw[AH (n:=left+1-KS),AH (n:=left-KS)];refine⟨⟨by trivial,_,aB,fun i hi=>by rw[hv i hi];rfl,by omega,by omega,by omega,fun i=> ?_⟩,by omega⟩;rw[<-y];have J: ∀j,(v j&&(decide (j+KS.toNat<64)&&v (j+KS.toNat)))=true↔v j=true/\v (j+KS.toNat)=true:=fun j=>by
   by_cases g:j+KS.toNat<64
   ·simp[g]
   ·have:=hv (j+KS.toNat) (by omega);simp[g,this]
  constructor
  ·intro h k hk;by_cases g:k<(left-KS).toNat+1
   ·exact((J _).1 (h k g)).1
   ·have:=((J _).1 (h (k-KS.toNat) (by omega))).2;rwa[show i+(k-KS.toNat)+KS.toNat=i+k by omega]at this
  ·intro h k hk;refine(J _).2 ⟨h k (by omega),?_⟩;have:=h (k+KS.toNat) (by omega);rwa[<-Nat.add_assoc]at this
 ·have e:left=0:=by omega
  subst e;have d: ∀i,v i=true↔IU u i n.toNat:=fun i=>by
   rw[<-y];constructor
   ·intro h k hk;have:k=0:=by omega
    subst this;exact h
   ·intro h;exact h 0 (by decide)
  refine Oq hT (fun aA=> ?_) fun r hr C Y=> ?_
  ·have e0:W v=0:=Fh.2 aA;rw[e0];refine aF (fun i hi=> ?_) 64;have:=(d i).2 hi;by_cases g:i<64
   ·rw[aA i g]at this;cases this
   ·rw[hv i (by omega)]at this;cases this
  ·have aE:W v≠0:=fun e=>by rw[Fh.1 e r hr]at C;cases C
   have e1:(W v !=0)=true:=by simpa using aE
   rw[e1];have O:=(d r).1 C;refine aD r O (fun j hj=> ?_) ?_
   ·refine Classical.byContradiction fun g=> ?_;have T:=(d j).2 hj;rw[Y j (by omega)]at T;cases T
   ·refine Classical.byContradiction fun g=> ?_;have T:=O (n.toNat-1) (by omega);rw[hu _ (by omega)]at T;cases T
structure CS where
 base:Int
 has:Nat->Bool
 rel:Nat->Bool
structure L4(S:CS):Prop where
 b0:0<=S.base
 b1:S.base<34359738368
 wZ:S.base %64=0
 hz: ∀i,64<=i->S.has i=false
 rh: ∀i,S.rel i=true->S.has i=true
def CS.nil:CS:=⟨0,fun _=>false,fun _=>false⟩
def CS.empty(S:CS):Prop:= ∀i,S.has i=false
def A3(E:Env)(c:Nat)(S:CS):Pr:=Jv (L4 S) (Cells c E.En [.int .u64 S.base,.int .u64 (W S.has),.int .u64 (W S.rel)])
theorem L4.nil:L4 CS.nil:=⟨by decide,by decide,by decide,fun _ _=>rfl,fun _ h=>h⟩
theorem Sat.cache{c:Nat}{S:CS}:Sat (A3 E c S::Z) w↔L4 S/\Sat (Cells c E.En [.int .u64 S.base,.int .u64 (W S.has),.int .u64 (W S.rel)]::Z) w:=Sat.where
theorem Zt(H:Sat Z w){K:Option Addr->World->Prop}(v: ∀w' c,Sat (A3 E c CS.nil::Z) w'->K (some ⟨c,0,none⟩) w'):F.Jg E K w:=by
 unfold F.Jg;refine Ad H fun c w' d _=>v w' c (Sat.cache.2 ⟨L4.nil,?_⟩);have e:W CS.nil.has=0:=Og;have j:W CS.nil.rel=0:=Og;rw[e,j];exact d
variable{c t:Nat}{S:CS}{V:TV}
theorem L4.emp(h:L4 S):W S.has=0↔S.empty:=by
 rw[Fh];constructor
 ·intro g i;by_cases e:i<64
  ·exact g i e
  ·exact h.hz i (by omega)
 ·intro g i _;exact g i
theorem J0(H:Sat (A3 E c S::Z) w){K:Bool->World->Prop}(d:S.empty->K true w)(j: ¬S.empty->K false w):F.Dn E (some ⟨c,0,none⟩) K w:=by
 obtain⟨v,H⟩:=Sat.cache.1 H;unfold F.Dn;simp only[AI];refine⟨_,H.cell rfl,?_⟩;by_cases g:W S.has=0
 ·rw[show(W S.has==0)=true by simpa using g];exact d (v.emp.1 g)
 ·rw[show(W S.has==0)=false by simpa using g];exact j fun h=>g (v.emp.2 h)
theorem XF(H:Sat (A3 E c S::Z) w){K:Int->Int->Int->World->Prop}(v:S.empty->K 0 0 0 w)(d: ¬S.empty-> ∀w',Sat (A3 E c S::Z) w'->K S.base (W S.has) (W S.rel) w'):F.CZ E (some ⟨c,0,none⟩) K w:=by
 unfold F.CZ T0.CZ;refine J0 H (fun h=>AV rfl (v h)) fun h=>Ac rfl ?_;have y:=H.drew;obtain⟨C,j⟩:=Sat.cache.1 y;simp only[AI];exact⟨_,j.A2 rfl,_,j.cell rfl,_,j.cell rfl,d h _ y⟩
def CS.alloc(S:CS)(i n:Nat):CS:=⟨S.base,fun k=>S.has k&& !(decide (i<=k)&&decide (k<i+n)),fun k=>S.rel k&& !(decide (i<=k)&&decide (k<i+n))⟩
theorem Zu{n:Int}(h1:1<=n)(d:n<=64){i:Nat}(hi:i+n.toNat<=64):
  u64 ((Int.fdiv 18446744073709551615 (2^(min (Int.toNat (i64 (64-n))) (IntKind.bits .u64))))*2^(min (Int.toNat (i:Int)) (IntKind.bits .u64)))=W fun k=>decide (i<=k)&&decide (k<i+n.toNat):=by
 rw[AH (n:=64-n),<-Tc,cG _ (by omega) (by omega),cH _ (by omega) (by omega)];refine FI fun k j=> ?_;rw[Int.toNat_natCast];by_cases g:i<=k
 ·have:decide (k-i+(64-n).toNat<64)=decide (k<i+n.toNat):=decide_eq_decide.2 (by omega);simp[g,this]
 ·simp[g]
theorem eH{u v:Nat->Bool}{n:Nat}(h: ∀i,i<n->u i=v i):cN u n=cN v n:=by
 induction n with
 | zero=>rfl
 | succ n ih=>simp only[cN];rw[ih fun i hi=>h i (by omega),h n (by omega)]
theorem VH(hT:GV E.AP w)(H:Sat (A3 E c S::Z) w){n:Int}(aD: -9223372036854775808<=n)(aF:n<9223372036854775808){K:Int->Int->Int->World->Prop}
  (O:n<1∨64<n->K 0 0 1 w)(aA:1<=n->n<=64->(∀i,¬IU S.has i n.toNat)->K 0 0 30 w)
  (aB:1<=n->n<=64-> ∀i,IU S.has i n.toNat->(∀j,IU S.has j n.toNat->i<=j)->i+n.toNat<=64-> ∀w',Sat (A3 E c (S.alloc i n.toNat)::Z) w'->
   K (S.base+i) (cN (fun k=>S.rel k&&(decide (i<=k)&&decide (k<i+n.toNat))) 64) 0 w'):F.Ci E (some ⟨c,0,none⟩) n K w:=by
 obtain⟨d,H⟩:=Sat.cache.1 H;unfold F.Ci T0.Ci;refine An (AD (fun h j=>AV rfl (O (.inl h))) fun g1 j=>AD (fun h=>O (.inr h)) fun g2=> ?_);simp only[AI];refine⟨_,H.cell rfl,XE d.hz hT (by omega) (by omega) (fun Y r=>AV rfl (aA (by omega) (by omega) Y)) fun i hr T J=>Ac rfl ⟨?_,by omega,AU fun mask hm=> ?_⟩⟩
 ·rw[AH (n:=64-n)];omega
 rw[Zu (by omega) (by omega) J]at hm;subst hm;refine⟨_,H.cell rfl,?_⟩;rw[cD];refine VF (fun k C=> ?_) ?_
 ·have:S.rel k=false:=by
   cases g:S.rel k with
   | false=>rfl
   | true=>have:=d.rh k g;rw[d.hz k C]at this;cases this
  rw[this];rfl
 refine⟨_,H.cell rfl,Ak H rfl (by simp) fun aG v=> ?_⟩;simp only[List.set,Nat.zero_add]at v;rw[Lu]at v;refine⟨_,v.cell rfl,Ak v rfl (by simp) fun aC y=> ?_⟩;simp only[List.set,Nat.zero_add]at y;rw[Lu]at y;refine⟨_,y.A2 rfl,?_⟩;have hb:=d.b0;have aH:=d.b1;rw[AM (n:=(i:Int)),AM (n:=S.base+(i:Int))];refine aB (by omega) (by omega) i hr T J aC (Sat.cache.2 ⟨⟨d.b0,d.b1,d.wZ,fun k C=> ?_,fun k C=> ?_⟩,y⟩)
 ·show(S.has k&&_)=false;rw[d.hz k C];rfl
 ·have C:(S.rel k&& !(decide (i<=k)&&decide (k<i+n.toNat)))=true:=C;show(S.has k&& !(decide (i<=k)&&decide (k<i+n.toNat)))=true;rw[Bool.and_eq_true]at C⊢;exact⟨d.rh k C.1,C.2⟩
variable(hE:EnvS E)
include hE
theorem XG(H:Sat (A3 E c S::BI E t V::Z) w){K:Int->World->Prop}
  (aE: ¬S.empty-> ∀w',Sat (A3 E c S::BI E t V::Z) w'->K 33 w')(aQ:S.empty->(∀p,V.fr p=false)-> ∀w',Sat (A3 E c S::BI E t V::Z) w'->K 30 w')
  (aW:S.empty-> ∀p,Fz V 1 p-> ∀w',Sat (A3 E c ⟨p/64*64,fun i=>decide (i<64)&&V.fr (p/64*64+i),fun i=>decide (i<64)&&V.rl (p/64*64+i)⟩::BI E t (V.take (p/64*64) 64)::Z) w'->K 0 w'):
  F.DV E (some ⟨c,0,none⟩) (some ⟨t,0,none⟩) K w:=by
 unfold F.DV T0.DV;have sw: ∀{A B:Pr} {w'},Sat (A::B::Z) w'->Sat (B::A::Z) w':=fun h=>h.perm (.swap _ _ _);refine Zp (sw H) (by decide) (fun d w3 H3=> ?_) fun _ p hp w3 H3=> ?_
 ·have d: ∀p,V.fr p=false:=fun p=>by
   rcases d with h|h
   ·cases h
   ·cases g:V.fr p with
    | false=>rfl
    | true=>exact absurd (fun m a b=>by rw[show m=p by omega];exact g) (h p)
  refine J0 (sw H3) (fun he=>Ac rfl (AV rfl (aQ he d w3 (sw H3)))) fun he=>AV rfl (aE he w3 (sw H3))
 refine J0 (sw H3) (fun he=>Ac rfl (Ac rfl ⟨by decide,?_⟩)) fun he=>AV rfl (aE he w3 (sw H3));have hv:=H3.tvok;have aT:=hp.1;have a7:=hp.2.1;obtain⟨hI,H4⟩:=Sat.cache.1 (sw H3);rw[Int.tdiv_eq_ediv_of_nonneg aT,AM (n:=p/64),AM (n:=p/64*64)];simp only[AI];generalize hB:p/64*64=B;have aF:0<=B/\B+64<=34359738368/\B %64=0:=by omega
 refine El H4 rfl (by simp) fun w7 H7=> ?_;simp only[List.set]at H7;have hz: ∀i,S.rel i=false:=fun i=>by
  cases g:S.rel i with
  | false=>rfl
  | true=>have:=hI.rh i g;rw[he i]at this;cases this
 have e1:W S.has=W fun i=>decide (i<0)&&V.fr (B+i):=FI fun i _=>by rw[he i];simp
 have e2:W S.rel=W fun i=>decide (i<0)&&V.rl (B+i):=FI fun i _=>by rw[hz i];simp
 rw[e1,e2]at H7;have Y:V=V.take B 0:=by
  have e: ∀q,inr B 0 q=false:=fun q=>Fg.2 (by omega);unfold TV.take;simp[e]
 refine AK (fun st w'=> ∃i:Nat,st.1=(i:Int)/\i<=64/\Sat (Cells c E.En [.int .u64 B,.int .u64 (W fun k=>decide (k<i)&&V.fr (B+k)),.int .u64 (W fun k=>decide (k<i)&&V.rl (B+k))]::BI E t (V.take B i)::Z) w') (fun st _=>(64-st.1).toNat)
  ⟨0,rfl,by decide,by rw[show((0:Nat):Int)=0 from rfl,<-Y];exact H7⟩ ?_
 rintro⟨i',v⟩ _ w9 ⟨i,hi,aY,H9⟩;dsimp only at hi⊢;subst hi;refine AD (fun a8=>⟨B,H9.A2 rfl,?_⟩) fun a0=> ?_
 ·rw[AM (n:=B+(i:Int)),AM (n:=(i:Int)+1)];have C:inr B i (B+i)=false:=Fg.2 (by omega);have aD:(V.take B i).fr (B+i)=V.fr (B+i):=by show(V.fr (B+i)&& !inr B i (B+i))=_;rw[C];simp
  have aS:(V.take B i).rl (B+i)=V.rl (B+i):=by show(V.rl (B+i)&& !inr B i (B+i))=_;rw[C];simp
  have y: ∀q,inr B ((i+1:Nat):Int) q=(inr B i q||inr (B+i) 1 q):=fun q=>by
   rw[Bool.eq_iff_iff,Bool.or_eq_true,AR,AR,AR];omega
  have J:V.fr (B+i)=false-> ∀{w'},Sat (BI E t (V.take B i)::Cells c E.En [.int .u64 B,.int .u64 (W fun k=>decide (k<i)&&V.fr (B+k)),.int .u64 (W fun k=>decide (k<i)&&V.rl (B+k))]::Z) w'->
    (∃j:Nat,(i:Int)+1=(j:Int)/\j<=64/\Sat (Cells c E.En [.int .u64 B,.int .u64 (W fun k=>decide (k<j)&&V.fr (B+k)),.int .u64 (W fun k=>decide (k<j)&&V.rl (B+k))]::BI E t (V.take B j)::Z) w')/\(64-((i:Int)+1)).toNat<(64-(i:Int)).toNat:=fun hf w' h=>by
   refine⟨⟨i+1,by omega,by omega,?_⟩,by omega⟩;have hr:V.rl (B+i)=false:=by
    cases g:V.rl (B+i)with
    | false=>rfl
    | true=>have:=hv.rf _ g;rw[hf]at this;cases this
   have f1:W (fun k=>decide (k<i+1)&&V.fr (B+k))=W fun k=>decide (k<i)&&V.fr (B+k):=FI fun k _=>by
    by_cases e:k=i
    ·subst e;simp[hf]
    ·have:decide (k<i+1)=decide (k<i):=decide_eq_decide.2 (by omega);rw[this]
   have f2:W (fun k=>decide (k<i+1)&&V.rl (B+k))=W fun k=>decide (k<i)&&V.rl (B+k):=FI fun k _=>by
    by_cases e:k=i
    ·subst e;simp[hr]
    ·have:decide (k<i+1)=decide (k<i):=decide_eq_decide.2 (by omega);rw[this]
   have f3:V.take B ((i+1:Nat):Int)=V.take B i:=by
    unfold TV.take;congr 1
    ·funext q;rw[y];by_cases e:q=B+i
     ·rw[e,hf];rfl
     ·have:inr (B+i) 1 q=false:=Fg.2 (by omega);rw[this,Bool.or_false]
    ·funext q;rw[y];by_cases e:q=B+i
     ·rw[e,hr];rfl
     ·have:inr (B+i) 1 q=false:=Fg.2 (by omega);rw[this,Bool.or_false]
   rw[f1,f2,f3];exact sw h
  refine Zr hE (sw H9) (by omega) (by omega) (by decide) (by decide) (fun d aG T=> ?_) (fun aO d aG T=> ?_) fun aO aH aG T=> ?_
  ·refine Ac (by decide) (J ?_ T);cases g:V.fr (B+i)with
   | false=>rfl
   | true=>exact absurd ⟨by decide,by omega,fun m a b=>by rw[show m=B+i by omega];exact hv.fi _ g⟩ d
  ·refine Ac (by decide) (J ?_ T);cases g:V.fr (B+i)with
   | false=>rfl
   | true=>exact absurd (fun m a b=>by rw[show m=B+i by omega,aD];exact g) d
  ·have hf:V.fr (B+i)=true:=by rw[<-aD];exact aH _ (Int.le_refl _) (by omega)
   rw[vN,aS];have aA:=sw T;have aB: ∀(u:Nat->Bool),u64 (1*2^(min (Int.toNat (i:Int)) (IntKind.bits .u64)))=W fun k=>decide (i<=k)&&(k-i==0):=fun _=>by
    have:=cH (fun k=>k==0) (n:=(i:Int)) (by omega) (by omega);rw[cC,Int.toNat_natCast]at this;exact this
   have aJ: ∀f:Int->Bool,f (B+i)=true->W (fun k=>(decide (k<i)&&f (B+k))||(decide (i<=k)&&(k-i==0)))=W fun k=>decide (k<i+1)&&f (B+k):=fun f aN=>FI fun k _=>by
    by_cases e:k=i
    ·subst e;simp[aN]
    ·by_cases e2:k<i
     ·have: ¬(i<=k):=by omega
      have h3:k<i+1:=by omega
      simp[e2,this,h3]
     ·have h3: ¬(k<i+1):=by omega
      have h4: ¬(k-i=0):=by omega
      simp[e2,h3,h4]
   refine AV (by decide) ⟨_,aA.cell rfl,by omega,Ak aA rfl (by simp) fun a6 aK=>⟨_,(by exact aK.cell rfl),by omega,Ak aK rfl (by simp) fun a5 O=> ?_⟩⟩;simp only[List.set,Nat.zero_add]at O;rw[aB (fun _=>false),cE,aJ V.fr hf]at O;have aI:D8 .u64 1 (W fun k=>decide (k<i)&&V.rl (B+k)) (u64 ((if V.rl (B+i)=true then 1 else 0)*2^(min (Int.toNat (i:Int)) (IntKind.bits .u64))))=W fun k=>decide (k<i+1)&&V.rl (B+k):=by
    cases g:V.rl (B+i)with
    | true=>rw[if_pos rfl,aB (fun _=>false),cE,aJ V.rl g]
    | false=>
     rw[if_neg (by decide),Int.zero_mul,show u64 0=0 from rfl,<-Og,cE];refine FI fun k _=> ?_;by_cases e:k=i
     ·subst e;simp[g]
     ·have:decide (k<i+1)=decide (k<i):=decide_eq_decide.2 (by omega);rw[this,Bool.or_false]
   rw[aI]at O;have f3:(V.take B i).take (B+i) 1=V.take B ((i+1:Nat):Int):=by
    unfold TV.take;congr 1
    ·funext q;rw[y];show(V.fr q&& !inr B i q&& !inr (B+i) 1 q)=(V.fr q&& !(inr B i q||inr (B+i) 1 q));cases V.fr q<;>cases inr B i q<;>cases inr (B+i) 1 q<;>rfl
    ·funext q;rw[y];show(V.rl q&& !inr B i q&& !inr (B+i) 1 q)=(V.rl q&& !(inr B i q||inr (B+i) 1 q));cases V.rl q<;>cases inr B i q<;>cases inr (B+i) 1 q<;>rfl
   rw[f3]at O;exact⟨⟨i+1,by omega,by omega,O⟩,by omega⟩
 ·have e:i=64:=by omega
  subst e;have:=aW he p hp w9;rw[hB]at this;refine this (Sat.cache.2 ⟨⟨aF.1,by show B<_;omega,aF.2.2,fun i hi=> ?_,fun i hi=> ?_⟩,H9⟩)
  ·show(decide (i<64)&&_)=false;have: ¬(i<64):=by omega
   simp[this]
  ·have hi:(decide (i<64)&&V.rl (B+i))=true:=hi;show(decide (i<64)&&V.fr (B+i))=true;rw[Bool.and_eq_true]at hi⊢;exact⟨hi.1,hv.rf _ hi.2⟩
def CS.own(S:CS)(p:Int):Bool:=inr S.base 64 p&&S.has (p-S.base).toNat
def CS.F3(S:CS)(p:Int):Bool:=inr S.base 64 p&&S.rel (p-S.base).toNat
def vQ(S:CS)(V:TV):Prop:= ∀p,S.own p=true->V.GH p=true/\V.fr p=false
def TV.flush(V:TV)(S:CS):TV:=⟨V.GH,fun p=>V.fr p||S.own p,fun p=>V.rl p||S.F3 p⟩
theorem VI(H:Sat (A3 E c S::BI E t V::Z) w)(hR:vQ S V){K:World->Prop}(hK: ∀w',Sat (A3 E c CS.nil::BI E t (V.flush S)::Z) w'->K w'):
  F.C7 E (some ⟨c,0,none⟩) (some ⟨t,0,none⟩) K w:=by
 unfold F.C7 T0.C7;have sw: ∀{A B:Pr} {w'},Sat (A::B::Z) w'->Sat (B::A::Z) w':=fun h=>h.perm (.swap _ _ _);obtain⟨hI,H0⟩:=Sat.cache.1 H;simp only[AI];generalize hP:(fun i:Nat=>(⟨V.GH,fun p=>V.fr p||(S.own p&&inr S.base i p),fun p=>V.rl p||(S.F3 p&&inr S.base i p)⟩:TV))=P;have d: ∀i:Nat,P i=⟨V.GH,fun p=>V.fr p||(S.own p&&inr S.base i p),fun p=>V.rl p||(S.F3 p&&inr S.base i p)⟩:=fun i=>(congrFun hP i).symm;have aW:=hI.b0;have aY:=hI.b1;have aL:=hI.wZ;refine AK (fun st w'=> ∃i:Nat,st.1=(i:Int)/\i<=64/\Sat (Cells c E.En [.int .u64 S.base,.int .u64 (W S.has),.int .u64 (W S.rel)]::BI E t (P i)::Z) w') (fun st _=>(64-st.1).toNat) ⟨0,rfl,by decide,?_⟩ ?_
 ·have e: ∀q,inr S.base ((0:Nat):Int) q=false:=fun q=>Fg.2 (by omega);rw[d];simp only[e,Bool.and_false,Bool.or_false];exact H0
 rintro⟨i',v⟩ _ w2 ⟨i,hi,aO,Y⟩;dsimp only at hi⊢;subst hi;refine AD (fun aC=>⟨_,Y.cell rfl,by omega,?_⟩) fun aP=> ?_
 ·rw[cI S.has (by omega) aC,Int.toNat_natCast,AM (n:=(i:Int)+1)];have O: ∀q,inr S.base ((i+1:Nat):Int) q=(inr S.base i q||inr (S.base+i) 1 q):=fun q=>by
   rw[Bool.eq_iff_iff,Bool.or_eq_true,AR,AR,AR];omega
  have y: ∀q,inr (S.base+i) 1 q=true->S.own q=S.has i/\S.F3 q=S.rel i/\q=S.base+i:=fun q hq=>by
   have hq:=AR.1 hq;have e:q=S.base+i:=by omega
   subst e;have h1:inr S.base 64 (S.base+i)=true:=AR.2 (by omega);have h2:(S.base+(i:Int)-S.base).toNat=i:=by omega
   refine⟨?_,?_,rfl⟩
   ·unfold CS.own;rw[h1,h2,Bool.true_and]
   ·unfold CS.F3;rw[h1,h2,Bool.true_and]
  have j: ∀(F G:Int->Bool),(∀q,F q=(V.fr q||(S.own q&&inr S.base i q)||(S.has i&&inr (S.base+i) 1 q)))->(∀q,G q=(V.rl q||(S.F3 q&&inr S.base i q)||(S.rel i&&inr (S.base+i) 1 q)))->(⟨V.GH,F,G⟩:TV)=P (i+1):=fun F G hF hG=>by
   rw[d];congr 1
   ·funext q;rw[hF,O];by_cases g:inr (S.base+i) 1 q=true
    ·obtain⟨e1,_,_⟩:=y q g;rw[g,e1];cases V.fr q<;>cases S.has i<;>cases inr S.base i q<;>rfl
    ·have g:inr (S.base+i) 1 q=false:=by simpa using g
     rw[g];cases V.fr q<;>cases S.own q<;>cases inr S.base i q<;>cases S.has i<;>rfl
   ·funext q;rw[hG,O];by_cases g:inr (S.base+i) 1 q=true
    ·obtain⟨_,e1,_⟩:=y q g;rw[g,e1];cases V.rl q<;>cases S.rel i<;>cases inr S.base i q<;>rfl
    ·have g:inr (S.base+i) 1 q=false:=by simpa using g
     rw[g];cases V.rl q<;>cases S.F3 q<;>cases inr S.base i q<;>cases S.rel i<;>rfl
  have aI:S.has i=false->S.rel i=false:=fun h=>by
   cases g:S.rel i with
   | false=>rfl
   | true=>have:=hI.rh i g;rw[h]at this;cases this
  have aA:=y (S.base+i) (AR.2 (by omega));have C:inr S.base i (S.base+i)=false:=Fg.2 (by omega);cases hhas:S.has i with
  | false=>
   refine AV rfl ⟨⟨i+1,by omega,by omega,?_⟩,by omega⟩;rw[<-j (P i).fr (P i).rl (fun q=>by rw[d,hhas];simp) (fun q=>by rw[d,aI hhas];simp)];have:(⟨V.GH,(P i).fr,(P i).rl⟩:TV)=P i:=by rw[d]
   rw[this];exact Y
  | true=>
   have J:=hR (S.base+i) (by rw[aA.1,hhas]);have aE:GL (P i) (S.base+i) 1:=⟨by decide,by omega,fun m a b=>by rw[show m=S.base+i by omega,d];exact J.1⟩;have aG: ∀m,S.base+i<=m->m<S.base+i+1->(P i).fr m=false:=fun m a b=>by
    rw[show m=S.base+i by omega,d];show(V.fr (S.base+i)||(S.own (S.base+i)&&inr S.base i (S.base+i)))=false;rw[J.2,C];simp
   refine Ac rfl ⟨_,Y.cell rfl,by omega,?_⟩;have T:=cI S.rel (n:=(i:Int)) (by omega) aC;rw[Int.toNat_natCast]at T;rw[T];cases hrl:S.rel i with
   | true=>
    refine AV rfl ⟨_,Y.A2 rfl,?_⟩;rw[AM (n:=S.base+(i:Int))];refine Sf hE (sw Y) (by omega) (by omega) (by decide) (by decide) (fun h=>absurd aE h) (fun _ ⟨m,a,b,hm⟩=>by rw[aG m a b]at hm;cases hm) fun _ _ aJ aB=>⟨⟨i+1,by omega,by omega,?_⟩,by omega⟩;have e:(P i).back (S.base+i) 1=P (i+1):=by
     rw[<-j ((P i).back (S.base+i) 1).fr ((P i).back (S.base+i) 1).rl (fun q=>by rw[hhas,Bool.true_and];unfold TV.back;rw[d]) fun q=>by rw[hrl,Bool.true_and];unfold TV.back;rw[d]];unfold TV.back;rw[d]
    rw[<-e];exact sw aB
   | false=>
    refine Ac rfl ⟨_,Y.A2 rfl,?_⟩;rw[AM (n:=S.base+(i:Int))];refine On hE (sw Y) (by omega) (by omega) (by decide) (by decide) (fun h=>absurd aE h) (fun _ ⟨m,a,b,hm⟩=>by rw[aG m a b]at hm;cases hm) fun _ _ aJ aB=>⟨⟨i+1,by omega,by omega,?_⟩,by omega⟩;have e:(P i).JL (S.base+i) 1=P (i+1):=by
     rw[<-j ((P i).JL (S.base+i) 1).fr ((P i).JL (S.base+i) 1).rl (fun q=>by rw[hhas,Bool.true_and];unfold TV.JL;rw[d]) fun q=>by rw[hrl,Bool.false_and,Bool.or_false];unfold TV.JL;rw[d]];unfold TV.JL;rw[d]
    rw[<-e];exact sw aB
 ·have e:i=64:=by omega
  subst e;refine Jc Y (by rfl) (by simp[Value.oneCell']) fun aK aD=>hK aK (Sat.cache.2 ⟨L4.nil,?_⟩);have e1:W CS.nil.has=0:=Og;have e2:W CS.nil.rel=0:=Og;rw[e1,e2];have e3:P 64=V.flush S:=by
   rw[d];unfold TV.flush;congr 1
   ·funext q;show(V.fr q||(S.own q&&inr S.base 64 q))=_;unfold CS.own;cases inr S.base 64 q<;>simp
   ·funext q;show(V.rl q||(S.F3 q&&inr S.base 64 q))=_;unfold CS.F3;cases inr S.base 64 q<;>simp
  rw[e3]at aD;exact aD
end
end Go.Sh

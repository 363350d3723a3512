/- The page tree and the caches of pages do what their pages say. No further condition. -/
import Derived.Test.YtbkjmfgdoceogaaGreatDoorS
import Derived.Test.YtbkjmfgdoceogaaGreatDoorM
import Derived.Test.YtbkjmfgdoceogaaGreatDoorA
set_option linter.all false
set_option maxRecDepth 4000
namespace Go.Sh
def F1{α:Type}(f:Nat->α)(i:Nat)(x:α):Nat->α:=fun j=>if j=i then x else f j
@[simp] theorem FK{α:Type}(f:Nat->α)(i:Nat)(x:α):F1 f i x i=x:=if_pos rfl
theorem DT{α:Type}(f:Nat->α){i j:Nat}(x:α)(h:j≠i):F1 f i x j=f j:=if_neg h
structure FE(E:Env)(w:World)(b:Nat)(s:Nat->AZ)(l:Nat->Iv):Prop where
 Cy: ∀i,i<4->GI E w b (2*i) (s i) (l i)
 lO: ∀i j,i<4->j<4->i≠j-> ∀k,Gx (s i) k-> ¬Gx (s j) k
 c8: ∃v,w.cell? ⟨b,8,none⟩=some v
 f8:w.frozen? ⟨b,8,none⟩=false
section
variable{E:Env}{w w':World}{b:Nat}{s:Nat->AZ}{l:Nat->Iv}
theorem FE.lt(h:FE E w b s l):b<w.heap.size:=(h.Cy 0 (by decide)).row.lt
theorem FE.JT(h:FE E w b s l){i k:Nat}(d:i<4)(j:Gx (s i) k):k<w.heap.size:=((h.Cy i d).row.own.TY j).2
theorem FE.ext{S:Nat->Prop}(h:FE E w b s l)(he:Ext S w w')(d: ¬S b)(hs: ∀i k,i<4->Gx (s i) k-> ¬S k):FE E w' b s l:=
 ⟨fun i j=>(h.Cy i j).ext he d fun a C=>hs i _ j ⟨a,C,rfl⟩,h.lO,h.c8.imp fun v J=>he.cell J d,by rw[he.frozen (p:=⟨b,8,none⟩) h.lt d];exact h.f8⟩
theorem FE.Dm(h:FE E w b s l)(he:Ext AK w w'):FE E w' b s l:=h.ext he (fun f=>f) fun _ _ _ _ f=>f
theorem FE.F1(h:FE E w b s l){i:Nat}(T:i<4){s':AZ}{l':Iv}(hs:GI E w' b (2*i) s' l')(hu:Js b (RI (2*i)) w w')(hf:OJ w (s i) s'):
  FE E w' b (F1 s i s') (F1 l i l'):=by
 have hold: ∀k,Gx s' k->Gx (s i) k∨w.heap.size<=k:=by
  rintro k ⟨a,N,rfl⟩;rcases hf with e|e
  ·rw[e]at N;exact .inl ⟨a,N,rfl⟩
  ·exact .inr (e a N)
 refine⟨fun j J=> ?_,fun j k J K C m hm d=> ?_,?_,?_⟩
 ·by_cases e:j=i
  ·subst e;rw[FK,FK];exact hs
  ·rw[DT _ _ e,DT _ _ e];refine(h.Cy j J).F1 hu ?_ ?_<;>(unfold RI;omega)
 ·by_cases e:j=i
  ·subst e;rw[FK]at hm;rw[DT _ _ (fun e=>C e.symm)]at d;rcases hold m hm with g|g
   ·exact h.lO _ _ J K C m g d
   ·have:=h.JT K d;omega
  ·rw[DT _ _ e]at hm;by_cases e2:k=i
   ·subst e2;rw[FK]at d;rcases hold m d with g|g
    ·exact h.lO _ _ J K C m hm g
    ·have:=h.JT J hm;omega
   ·rw[DT _ _ e2]at d;exact h.lO _ _ J K C m hm d
 ·obtain⟨v,O⟩:=h.c8;exact⟨v,by rw[hu.Dd 8 (by unfold RI;omega)];exact O⟩
 ·rw[hu.Yr];exact h.f8
theorem FE.Zz(h:FE E w b s l){i:Nat}(C:i<4){s':AZ}(hf:OJ w (s i) s'){j k:Nat}(d:Gx (Sh.F1 s i s' j) k):Gx (s j) k∨w.heap.size<=k:=by
 by_cases e:j=i
 ·subst e;rw[FK]at d;obtain⟨a,v,rfl⟩:=d;rcases hf with e|e
  ·rw[e]at v;exact .inl ⟨a,v,rfl⟩
  ·exact .inr (e a v)
 ·rw[DT _ _ e]at d;exact .inl d
end
end Go.Sh
set_option linter.all false
set_option maxRecDepth 4000
namespace Go.Sh
def rW(q:Int×Int×Int):Value:=.agg ⟨[.int .i64 q.1,.int .i64 q.2.1,.int .i64 q.2.2]⟩
structure OM(E:Env)(w:World)(b:Nat)(sm:AZ)(KZ:List Nat)(sum:Nat->Int->Option (Int×Int×Int)):Prop where
 c8:w.cell? ⟨b,8,none⟩=some (.slice sm.base sm.len sm.cap)
 own:Fs w 0 E.De 1 sm (KZ.map fun k=>Value.map (some k))
 len:KZ.length=4
 nodup:KZ.Nodup
 maps: ∀j k,KZ[j]? =some k-> ∃es c m,w.heap[k]? =some (.map es c)/\MapI .u64 es c m/\ ∀i,aget m i=(sum j i).map rW
theorem OM.ext{E:Env}{w w':World}{b:Nat}{sm:AZ}{KZ:List Nat}{sum:Nat->Int->Option (Int×Int×Int)}{S:Nat->Prop}(h:OM E w b sm KZ sum)(he:Ext S w w')(v: ¬S b)
  (hs: ∀k,Gx sm k-> ¬S k)(hm: ∀k∈KZ,¬S k):OM E w' b sm KZ sum:=
 ⟨he.cell h.c8 v,h.own.ext he fun g J=>hs g ⟨_,J,rfl⟩,h.len,h.nodup,fun j k d=>by
  obtain⟨es,c,m,h1,C⟩:=h.maps j k d;exact⟨es,c,m,he.obj h1 (hm k (List.mem_of_getElem? d)),C⟩⟩
theorem OM.mlt{E:Env}{w:World}{b:Nat}{sm:AZ}{KZ:List Nat}{sum:Nat->Int->Option (Int×Int×Int)}(h:OM E w b sm KZ sum){k:Nat}(v:k∈KZ):k<w.heap.size:=by
 obtain⟨j,d⟩:=List.mem_iff_getElem?.1 v;obtain⟨es,c,m,h1,_⟩:=h.maps j k d;exact Ff h1
theorem Li{E:Env}{w:World}{b:Nat}{s:Nat->AZ}{l:Nat->Iv}(h:FE E w b s l){K:World->Prop}
  (hK: ∀w' sm KZ,FE E w' b s l->OM E w' b sm KZ (fun _ _=>none)->Ext (Gr b) w w'->(∀k,Gx sm k->w.heap.size<=k)->(∀k∈KZ,w.heap.size<=k)->K w'):
  F.B2 E (some ⟨b,0,none⟩) K w:=by
 unfold F.B2;simp only[AI,add_eq,Nat.zero_add];obtain⟨v8,aX⟩:=h.c8;refine IP aX h.f8 rfl fun w2 aB=> ?_;have Y: ∀{w1 w2:World} {v:Value},FE E w1 b s l->JZ ⟨b,8,none⟩ v w1 w2->FE E w2 b s l:=by
  intro w1 w2 v h aJ;have hu:Js b (fun j=>j=8) w1 w2:=Js.FV aJ rfl;exact⟨fun i hi=>(h.Cy i hi).F1 hu (by omega) (by omega),h.lO,⟨_,aJ.same⟩,by rw[aJ.frozen];exact h.f8⟩
 refine AM (fun st w'=> ∃(n:Nat) (sm:AZ) (KZ:List Nat),st.1=(n:Int)/\n<=4/\FE E w' b s l/\w'.cell? ⟨b,8,none⟩=some (.slice sm.base sm.len sm.cap)/\
   Fs w' w.heap.size E.De 1 sm (KZ.map fun k=>Value.map (some k))/\KZ.length=n/\KZ.Nodup/\(∀k∈KZ,w'.heap[k]? =some (.map #[] 0))/\(∀k∈KZ,w.heap.size<=k)/\Ext (Gr b) w w')
  (fun st _=>(4-st.1).toNat) ⟨0,⟨none,0,0⟩,[],rfl,by decide,Y h aB,aB.same,Fs.nil _ _ _ _,rfl,List.nodup_nil,by simp,by simp,aB.ext⟩ ?_
 rintro⟨i,u⟩ _ w4 ⟨n,sm,KZ,hn,a4,h4,aQ,C,hlen,aP,N,aH,aE⟩;simp only at hn⊢;subst hn;refine AE (fun bC=> ?_) (fun a5=> ?_)
 ·refine⟨sm,aQ,A7 fun w9 aT a1 aW=>A7 fun aO aK aY aG=> ?_⟩;have aA:Ext AK w4 aO:=aW.trans' aG;have T:=C.ext aA fun _ _ f=>f;have a7:sm.len=n:=by have:=C.len;simp at this;omega
  refine LO (news:=[.map (some w4.heap.size)]) rfl T (Jt aK rfl) rfl (by intro v hv;simp at hv;subst hv;rfl) (by have:=aE.size;have:=aA.size;omega) (by simp only;omega) (by simp only;omega) fun aU aL aF a0 aC a2=> ?_;have aV: ¬Gx sm b:=fun e=>by have:=(C.TY e).1;have:=h.lt;omega
  have aD:FE E aL b s l:=(h4.Dm aA).ext aC aV fun i k hi J e=>by
   have:=(C.TY e).1;have:=h.JT hi J;omega
  have O: ∀k∈KZ++[w4.heap.size],aL.heap[k]? =some (.map #[] 0):=by
   intro k J;have aI:aO.heap[k]? =some (.map #[] 0):=by
    rcases List.mem_append.1 J with J|J
    ·exact aA.obj (N k J) fun f=>f
    ·rw[List.mem_singleton]at J;subst J;exact aG.obj aT fun f=>f
   exact aC.obj aI (T.Qb aI)
  obtain⟨v,hv⟩:=aD.c8;refine IP hv aD.f8 rfl fun a9 d=> ?_;refine⟨⟨n+1,aU,KZ++[w4.heap.size],by rw[AN];omega,by omega,Y aD d,d.same,?_,by simp;omega,?_,?_,?_,?_⟩,by rw[AN];omega⟩
  ·rw[List.map_append];refine aF.ext d.ext fun g hg e=> ?_;have:=(aF.lt hg).1;have:g=b:=e;have:=h.lt;simp only at *;omega
  ·refine List.nodup_append.2 ⟨aP,by simp,?_⟩;intro a ha c hc e;rw[List.mem_singleton]at hc;have:=Ff (N a ha);omega
  ·intro k J;refine d.ext.obj (O k J) fun e=> ?_;have:k=b:=e;subst this;have:=(aD.Cy 0 (by decide)).row.c0;exact Le (O k J) this
  ·intro k J;rcases List.mem_append.1 J with J|J
   ·exact aH k J
   ·rw[List.mem_singleton]at J;subst J;exact aE.size
  ·refine(aE.trans aA (fun _ _ e=>e) fun _ _ f=>f.elim).trans (aC.trans d.ext (U:=fun k=>Gx sm k∨k=b) (fun _ _ e=>.inl e) fun _ _ e=>.inr e) (fun _ _ e=>e) fun k J e=> ?_;rcases e with e|e
   ·have:=(C.TY e).1;omega
   ·exact e
 ·have hn:n=4:=by omega
  subst hn;refine hK w4 sm KZ h4 ⟨aQ,C.lower (Nat.zero_le _),hlen,aP,fun j k J=> ?_⟩ aE (fun k J=>(C.TY J).1) aH;exact⟨#[],0,[],N k (List.mem_of_getElem? J),MapI.empty _,fun _=>rfl⟩
def pg(lv:Int):Int:=512*8^(3-lv).toNat
def Z0(fr to:Int)(a:Int×Int×Int)(p:Int×Int):Int×Int×Int:=
 (if p.1=fr then p.2-p.1 else a.1,max a.2.1 (p.2-p.1),if p.2=to then p.2-p.1 else a.2.2)
def bE(l:Iv)(fr to:Int):Int×Int×Int:=(withinL l fr to).foldl (Z0 fr to) (0,0,0)
structure JE where
 s:Nat->AZ
 l:Nat->Iv
 sm:AZ
 KZ:List Nat
 sum:Nat->Int->Option (Int×Int×Int)
structure Vr(l:Nat->Iv):Prop where
 top: ∀n,mem (l 0) n->n<34359738368
 free: ∀n,mem (l 1) n->mem (l 0) n
 rel: ∀n,mem (l 2) n->mem (l 1) n
 idle: ∀n,mem (l 3) n↔mem (l 1) n/\ ¬mem (l 2) n
structure EZ(E:Env)(w:World)(b:Nat)(G:JE):Prop where
 Cy:FE E w b G.s G.l
 maps:OM E w b G.sm G.KZ G.sum
 d: ∀k,Gx G.sm k->k≠b/\ ∀i,i<4-> ¬Gx (G.s i) k
 ok: ∀(j:Nat) (i:Int) x,G.sum j i=some x->x=bE (G.l 1) (i*pg j) (i*pg j+pg j)
 inv:Vr G.l
def Lj(b:Nat)(G:JE)(k:Nat):Prop:=k=b∨(∃i,i<4/\Gx (G.s i) k)∨Gx G.sm k∨k∈G.KZ
section
variable{E:Env}{w w':World}{b:Nat}{G:JE}
theorem EZ.lt(h:EZ E w b G):b<w.heap.size:=h.Cy.lt
theorem EZ.mb(h:EZ E w b G){k:Nat}(v:k∈G.KZ):k≠b:=by
 rintro rfl;obtain⟨j,d⟩:=List.mem_iff_getElem?.1 v;obtain⟨es,c,m,h1,_⟩:=h.maps.maps j k d;exact Le h1 h.maps.c8
theorem EZ.KQ(h:EZ E w b G){k:Nat}(d:Lj b G k):k<w.heap.size:=by
 rcases d with rfl|⟨i,j,d⟩|d|d
 ·exact h.lt
 ·exact h.Cy.JT j d
 ·exact(h.maps.own.TY d).2
 ·exact h.maps.mlt d
theorem EZ.ext{S:Nat->Prop}(h:EZ E w b G)(he:Ext S w w')(j: ∀k,Lj b G k-> ¬S k):EZ E w' b G:=
 ⟨h.Cy.ext he (j b (.inl rfl)) fun i k C v=>j k (.inr (.inl ⟨i,C,v⟩)),h.maps.ext he (j b (.inl rfl)) (fun k v=>j k (.inr (.inr (.inl v)))) fun k v=>j k (.inr (.inr (.inr v))),h.d,h.ok,h.inv⟩
theorem EZ.Dm(h:EZ E w b G)(he:Ext AK w w'):EZ E w' b G:=h.ext he fun _ _ f=>f
end
structure Hi(E:Env)(b:Nat)(w:World)(G:JE)(w':World)(G':JE):Prop where
 rep:EZ E w' b G'
 ext:Ext (Lj b G) w w'
 PB: ∀k,Lj b G' k->Lj b G k∨w.heap.size<=k
section
variable{E:Env}{w w' w1:World}{b:Nat}{G G' G1:JE}
theorem Hi.nothing(h:EZ E w b G)(he:Ext AK w w'):Hi E b w G w' G:=⟨h.Dm he,he.any,fun _ h=>.inl h⟩
theorem Hi.trans(h:Hi E b w G w1 G1)(k:Hi E b w1 G1 w' G'):Hi E b w G w' G':=
 ⟨k.rep,h.ext.trans k.ext (fun _ _ s=>s) (fun i d s=>by rcases h.PB i s with s|s;exact s;omega),fun i d=>by
  rcases k.PB i d with s|s
  ·exact h.PB i s
  ·have:=h.ext.size;exact .inr (by omega)⟩
end
structure bF(E:Env)(w w':World)(b:Nat)(G:JE):Prop where
 rep:EZ E w' b G
 ext:Ext AK w w'
 lP: ∀k,Lj b G k->w.heap.size<=k
structure Jw(E:Env)(b:Nat)(w0:World)(G0:JE)(w:World)(s:Nat->AZ)(l:Nat->Iv):Prop where
 Cy:FE E w b s l
 ext:Ext (Gr b) w0 w
 JT: ∀i k,i<4->Gx (s i) k->(∃j,j<4/\Gx (G0.s j) k)∨w0.heap.size<=k
 c8:w.cell? ⟨b,8,none⟩=w0.cell? ⟨b,8,none⟩
section
variable{E:Env}{b:Nat}{w0 w w':World}{G0:JE}{s:Nat->AZ}{l:Nat->Iv}
theorem Jw.start(h:EZ E w0 b G0)(he:Ext AK w0 w):Jw E b w0 G0 w G0.s G0.l:=⟨h.Cy.Dm he,he.any,fun i k d j=>.inl ⟨i,d,j⟩,World.cell?_of_block (he.block b h.lt fun f=>f)⟩
theorem Jw.F1(h:Jw E b w0 G0 w s l){i:Nat}(d:i<4){s':AZ}{l':Iv}(hs:GI E w' b (2*i) s' l')(hu:Js b (RI (2*i)) w w')(hf:OJ w (s i) s'):
  Jw E b w0 G0 w' (Sh.F1 s i s') (Sh.F1 l i l'):=
 ⟨h.Cy.F1 d hs hu hf,h.ext.trans' hu.ext,fun j k v C=>by
  rcases h.Cy.Zz d hf C with e|e
  ·exact h.JT j k v e
  ·have:=h.ext.size;exact .inr (by omega),by rw[hu.Dd 8 (by unfold RI;omega)];exact h.c8⟩
theorem Jw.Dd(h:Jw E b w0 G0 w s l)(h0:EZ E w0 b G0)(J:l 1=G0.l 1)(C:Vr l):Hi E b w0 G0 w {G0 with s:=s,l:=l}:=by
 have Y: ∀k,Gx G0.sm k-> ¬Gr b k:=fun k v e=>(h0.d k v).1 e;have N: ∀k∈G0.KZ,¬Gr b k:=fun k v e=>h0.mb v e;refine⟨⟨h.Cy,?_,fun k v=>⟨(h0.d k v).1,fun i C e=> ?_⟩,fun j i x K=> ?_,C⟩,h.ext.mono fun k _ e=>.inl e,?_⟩
 ·refine⟨by rw[h.c8];exact h0.maps.c8,h0.maps.own.ext h.ext fun g hg=>Y g ⟨_,hg,rfl⟩,h0.maps.len,h0.maps.nodup,fun j k v=> ?_⟩;obtain⟨es,c,m,h1,O⟩:=h0.maps.maps j k v;exact⟨es,c,m,h.ext.obj h1 (N k (List.mem_of_getElem? v)),O⟩
 ·rcases h.JT i k C e with ⟨j,T,g⟩|g
  ·exact(h0.d k v).2 j T g
  ·have:=(h0.maps.own.TY v).2;omega
 ·show x=bE (l 1) _ _;rw[J];exact h0.ok j i x K
 ·rintro k (e|⟨i,C,e⟩|e|e)
  ·exact .inl (.inl e)
  ·rcases h.JT i k C e with g|g
   ·exact .inl (.inr (.inl g))
   ·exact .inr g
  ·exact .inl (.inr (.inr (.inl e)))
  ·exact .inl (.inr (.inr (.inr e)))
theorem Jw.changed(h:Jw E b w0 G0 w s l)(h0:EZ E w0 b G0)(v:Vr l){K:World->Prop}
  (O: ∀w' G',Hi E b w0 G0 w' G'->G'.l=l->K w'):F.B2 E (some ⟨b,0,none⟩) K w:=by
 refine Li h.Cy fun w' sm KZ hs hm he d C=> ?_;have N:=h.ext.size;have Y:=h0.lt;refine O w' ⟨s,l,sm,KZ,fun _ _=>none⟩ ⟨⟨hs,hm,fun k J=>⟨?_,fun i v e=> ?_⟩,fun j i x T=>(by cases T),v⟩,(h.ext.trans' he).mono fun k _ e=>.inl e,?_⟩ rfl
 ·have:=d k J;omega
 ·have:=d k J;have:=h.Cy.JT v e;omega
 ·rintro k (e|⟨i,v,e⟩|e|e)
  ·exact .inl (.inl e)
  ·rcases h.JT i k v e with g|g
   ·exact .inl (.inr (.inl g))
   ·exact .inr g
  ·exact .inr (by have:=d k e;omega)
  ·exact .inr (by have:=C k e;omega)
end
end Go.Sh
set_option linter.all false
set_option maxRecDepth 4000
namespace Go.Sh
def Ae(l:Nat->Iv)(x n:Int)(free:Bool)(e:Int):Int:=
 if n=0∨34359738368<=x∨34359738368-x<n∨cnt (l 0) x (x+n)≠n then 10 else if cnt (l 1) x (x+n)≠(if free then n else 0)then e else 0
def findL:Iv->Int->Option Int
 | [],_=>none
 | p::r,n=>if n<=p.2-p.1 then some p.1 else findL r n
theorem Vs{l:Iv}{n p:Int}(h:findL l n=some p): ∃q∈l,q.1=p/\n<=q.2-q.1:=by
 induction l with
 | nil=>cases h
 | cons q r ih=>
  simp only[findL]at h;split at h
  ·cases h;exact⟨q,List.mem_cons_self,rfl,by assumption⟩
  ·obtain⟨j,h1,d⟩:=ih h;exact⟨j,List.mem_cons_of_mem _ h1,d⟩
section
variable{E:Env}(hE:EnvS E){w:World}{b:Nat}{G:JE}
theorem find_spec(h:EZ E w b G){n:Int}(aW:0<=n){K:Int->Bool->World->Prop}
  (J: ∀w',Ext AK w w'->K ((if n=0 then none else findL (G.l 1) n).getD 0) (if n=0 then none else findL (G.l 1) n).isSome w'):
  F.B8 E (some ⟨b,0,none⟩) n K w:=by
 unfold F.B8 T0.B8 F.DN;simp only[AI,add_eq,Nat.zero_add];refine AR (fun e=> ?_) (fun e=> ?_)
 ·have e0:n=0:=by simpa using e
  have:=J w (Ext.refl _ _);rwa[if_pos e0]at this
 ·have e0:n≠0:=by simpa using e
  rw[if_neg e0]at J;have N:Eg E w ⟨b,2,none⟩ (G.s 1) (G.l 1):=(h.Cy.Cy 1 (by decide)).row;generalize G.s 1=s at N;generalize G.l 1=l at N J;have hlen:=N.len;have aS:=N.small;have aN:Jr=4398046511104:=rfl;refine⟨s,N.c0,AM (fun st w'=> ∃k:Nat,st.1=(k:Int)/\k<=l.length/\findL l n=findL (l.drop k) n/\Ext AK w w') (fun st _=>(l.length-st.1).toNat) ⟨0,rfl,Nat.zero_le _,rfl,Ext.refl _ _⟩ ?_⟩;rintro⟨i,u⟩ _ w5 ⟨k,hk,aU,hf,j⟩;simp only at hk⊢;subst hk;refine AE (fun aX=> ?_) (fun aV=> ?_)
  ·have hl:k<l.length:=by omega
   have hg:=List.getElem?_eq_getElem hl;obtain⟨r,aL,aB,aC⟩:=(N.Dm j).cells hg;have aG:=N.ok.get hg;generalize l[k]=q at hg aB aC aG;rw[aL];simp only[AI,add_eq,Nat.zero_add,Int.toNat_natCast,Nat.add_zero];refine⟨⟨by omega,by omega⟩,q.1,aB,q.2,aC,A7 fun aR O aF T=> ?_⟩;refine Fg _ _ _ _ _ _ _ O (by simp) (by intro v hv;simp at hv;rcases hv with rfl|rfl<;>rfl) fun aH aA aE d=> ?_;simp at d;have C:Ext AK w aH:=(j.trans' T).trans aA (fun _ _ f=>f) fun i hi e=>by have:i=w5.heap.size:=e;have:=j.size;omega
   have hd:=N7 hg;refine⟨q.2,by rw[AO d];rfl,q.1,by rw[AO d];rfl,?_⟩;rw[AG];refine AE (fun aJ=>⟨q.1,by rw[AO d];rfl,?_⟩) (fun Y=> ?_)
   ·have:findL l n=some q.1:=by rw[hf,hd,findL,if_pos aJ]
    rw[this]at J;exact J _ C
   ·rw[AN];refine⟨⟨k+1,by omega,by omega,?_,C⟩,by omega⟩;rw[hf,hd,findL,if_neg Y]
  ·have:l.drop k=[]:=List.drop_eq_nil_of_le (by omega);rw[this]at hf;have aK:findL l n=none:=hf;rw[aK]at J;exact J _ j
theorem PC(h:EZ E w b G){K:Int->World->Prop}(d:K (CK (G.l 2)) w):F.BQ E (some ⟨b,0,none⟩) K w:=by
 unfold F.BQ T0.BQ F.Cv;simp only[AI,add_eq,Nat.zero_add];exact⟨_,(h.Cy.Cy 2 (by decide)).c1,d⟩
include hE
theorem Mr(h:EZ E w b G){x n e:Int}{fr:Bool}(J:0<=x)(hx:x<18446744073709551616)(aI:0<=n)(hn:n<18446744073709551616){K:Int->World->Prop}
  (hK: ∀w',Ext AK w w'->K (Ae G.l x n fr e) w'):F.CM E (some ⟨b,0,none⟩) x n fr e K w:=by
 unfold F.CM T0.CM;simp only[AI,add_eq,Nat.zero_add];refine Ak (fun st w'=>w'=w/\st.1=if fr then n else 0) ?_ ?_
 ·exact AR (fun e=>⟨rfl,by rw[e];rfl⟩) (fun e=>⟨rfl,by rw[e];rfl⟩)
 rintro⟨want,u⟩ _ w3 ⟨rfl,d⟩;simp only at d⊢;subst d;refine Ak (fun st w'=>Ext AK w3 w'/\(st.1=true↔n=0∨34359738368<=x∨34359738368-x<n∨cnt (G.l 0) x (x+n)≠n)) ?_ ?_
 ·refine AR (fun e=>⟨Ext.refl _ _,?_⟩) (fun e=>AE (fun e2=>⟨Ext.refl _ _,?_⟩) (fun e2=> ?_))
  ·have:n=0:=by simpa using e
   simp[this]
  ·have:34359738368<=x:=e2;simp[this]
  ·have e0:n≠0:=by simpa using e
   rw[AG (n:=34359738368-x)];refine AE (fun e3=>⟨Ext.refl _ _,?_⟩) (fun e3=> ?_)
   ·have:34359738368-x<n:=e3;simp[this]
   ·rw[AG (n:=x+n)];refine Fy hE (h.Cy.Cy 0 (by decide)).row J (by omega) (by omega) fun w9 T=>⟨T,?_⟩;have: ¬34359738368<=x:=by omega
    have: ¬34359738368-x<n:=by omega
    simp only[bne_iff_ne,ne_eq];constructor
    ·intro j;exact .inr (.inr (.inr j))
    ·rintro(j|j|j|j)
     ·exact absurd j e0
     ·omega
     ·omega
     ·exact j
 rintro⟨bt,u⟩ _ w6 ⟨v,C⟩;simp only at C⊢;refine AR (fun ht=> ?_) (fun hf=> ?_)
 ·have:=hK w6 v;rwa[Ae,if_pos (C.1 ht)]at this
 ·have Y: ¬(n=0∨34359738368<=x∨34359738368-x<n∨cnt (G.l 0) x (x+n)≠n):=fun h=>by rw[C.2 h]at hf;cases hf
  rw[AG (n:=x+n)];refine Fy hE ((h.Dm v).Cy.Cy 1 (by decide)).row J (by omega) (by omega) fun aA N=> ?_;have:=hK aA (v.trans' N);rw[Ae,if_neg Y]at this;refine AR (fun O=> ?_) (fun O=> ?_)
  ·rwa[if_pos (by simpa using O)]at this
  ·rwa[if_neg (by simpa using O)]at this
omit hE in
theorem Ms{l:Nat->Iv}{x n e:Int}{fr:Bool}(he:e≠0)(h:Ae l x n fr e=0):
  n≠0/\x<34359738368/\n<=34359738368-x/\cnt (l 0) x (x+n)=n/\cnt (l 1) x (x+n)=if fr then n else 0:=by
 unfold Ae at h;by_cases h1:n=0∨34359738368<=x∨34359738368-x<n∨cnt (l 0) x (x+n)≠n
 ·rw[if_pos h1]at h;cases h
 ·rw[if_neg h1]at h;by_cases h2:cnt (l 1) x (x+n)=if fr then n else 0
  ·exact⟨by omega,by omega,by omega,by omega,h2⟩
  ·rw[if_pos h2]at h;exact absurd h he
theorem Pa(h:EZ E w b G){x n:Int}(v:0<=x)(hx:x<18446744073709551616)(aK:0<=n)(hn:n<18446744073709551616){K:Int->Int->World->Prop}
  (aF:Ae G.l x n true 32≠0-> ∀w',Ext AK w w'->K 0 (Ae G.l x n true 32) w')
  (aI:Ae G.l x n true 32=0-> ∀w' G',Hi E b w G w' G'->G'.l=Sh.F1 (Sh.F1 (Sh.F1 G.l 1 (B6 (G.l 1) x (x+n))) 2 (B6 (G.l 2) x (x+n))) 3 (B6 (G.l 3) x (x+n))->K (cnt (G.l 2) x (x+n)) 0 w'):
  F.B9 E (some ⟨b,0,none⟩) x n K w:=by
 unfold F.B9 T0.B9;refine Mr hE h v hx aK hn fun w2 C=> ?_;refine AR (fun e=>aF (by simpa using e) w2 C) (fun e=> ?_);have hz:Ae G.l x n true 32=0:=by simpa using e
 obtain⟨g1,g2,g3,g4,g5⟩:=Ms (by decide) hz;have en:u64 (x+n)=x+n:=AG;simp only[AI,add_eq,Nat.zero_add,en];have h2:=h.Dm C;refine Fy hE (h2.Cy.Cy 2 (by decide)).row v (by omega) (by omega) fun w5 aB=> ?_;have m5:Jw E b w G w5 G.s G.l:=Jw.start h (C.trans' aB);refine Ig hE (m5.Cy.Cy 1 (by decide)) v (by omega) (by omega) fun w7 s7 aH aG aD=> ?_;have m7:=m5.F1 (by decide:1<4) aH aG aD;refine Ig hE (m7.Cy.Cy 2 (by decide)) v (by omega) (by omega) fun w9 s9 aJ aA aC=> ?_;have m9:=m7.F1 (by decide:2<4) aJ aA aC;refine Ig hE (m9.Cy.Cy 3 (by decide)) v (by omega) (by omega) fun aQ aW N O J=> ?_;have Y:=m9.F1 (by decide:3<4) N O J;have d:x<x+n:=by omega
 refine Y.changed h ⟨?_,?_,?_,?_⟩ fun w' G' hs hl=>aI hz w' G' hs hl
 ·exact h.inv.top
 ·intro m hm;have j:mem (B6 (G.l 1) x (x+n)) m:=hm;rw[B7 d]at j;exact h.inv.free m j.1
 ·intro m hm;have j:mem (B6 (G.l 2) x (x+n)) m:=hm;rw[B7 d]at j;show mem (B6 (G.l 1) x (x+n)) m;rw[B7 d];exact⟨h.inv.rel m j.1,j.2⟩
 ·intro m;show mem (B6 (G.l 3) x (x+n)) m↔mem (B6 (G.l 1) x (x+n)) m/\ ¬mem (B6 (G.l 2) x (x+n)) m;rw[B7 d,B7 d,B7 d,h.inv.idle m];constructor
  ·rintro⟨⟨a1,a2⟩,T⟩;exact⟨⟨a1,T⟩,fun a4=>a2 a4.1⟩
  ·rintro⟨⟨a1,T⟩,a2⟩;exact⟨⟨a1,fun a4=>a2 ⟨a4,T⟩⟩,T⟩
omit hE in
theorem R1(h:EZ E w b G){n p:Int}(O:0<n)(hf:findL (G.l 1) n=some p):Ae G.l p n true 32=0/\0<=p/\p<34359738368:=by
 obtain⟨q,K,rfl,hle⟩:=Vs hf;have BH:=(h.Cy.Cy 1 (by decide)).row.ok;have v:=(h.Cy.Cy 0 (by decide)).row.ok;have C:=BH.mem K;have j: ∀m,q.1<=m->m<q.1+n->mem (G.l 1) m:=fun m h1 J=>⟨q,K,h1,by omega⟩;have d: ∀m,q.1<=m->m<q.1+n->mem (G.l 0) m:=fun m h1 J=>h.inv.free m (j m h1 J);have N:=h.inv.top _ (d (q.1+n-1) (by omega) (by omega));have c1:=(Ci BH (a:=q.1) (b:=q.1+n) (by omega)).2 j;have c0:=(Ci v (a:=q.1) (b:=q.1+n) (by omega)).2 d;refine⟨?_,C.1,by omega⟩;unfold Ae;rw[if_neg (by omega),if_neg (by simp;omega)]
theorem Tk(h:EZ E w b G){n:Int}(j:0<=n)(hn:n<18446744073709551616){K:Int->Int->Int->World->Prop}
  (T:n=0->K 0 0 1 w)(O:n≠0->findL (G.l 1) n=none-> ∀w',Ext AK w w'->K 0 0 30 w')
  (v:n≠0-> ∀p,findL (G.l 1) n=some p-> ∀w' G',Hi E b w G w' G'->G'.l=Sh.F1 (Sh.F1 (Sh.F1 G.l 1 (B6 (G.l 1) p (p+n))) 2 (B6 (G.l 2) p (p+n))) 3 (B6 (G.l 3) p (p+n))->K p (cnt (G.l 2) p (p+n)) 0 w'):
  F.A1 E (some ⟨b,0,none⟩) n K w:=by
 unfold F.A1 T0.A1;refine AR (fun e=>T (by simpa using e)) (fun e=> ?_);have J:n≠0:=by simpa using e
 refine find_spec h j fun w3 d=> ?_;rw[if_neg J];cases hf:findL (G.l 1) n with
 | none=>exact AR (fun _=>O J hf w3 d) (fun e=>by cases e)
 | some p=>
  refine AR (fun e=>by cases e) (fun _=> ?_);obtain⟨hz,C,aA⟩:=R1 h (by omega) hf;refine Pa hE (h.Dm d) C (by show p<_;omega) j hn (fun N=>absurd hz N) fun _ w' G' hs Y=> ?_;exact v J p hf w' G' ((Hi.nothing h d).trans hs) Y
theorem Vt(h:EZ E w b G){c n:Int}(aX:0<=c)(hc:c<18446744073709551616)(a5:0<=n)(hn:n<18446744073709551616){K:Int->World->Prop}
  (aG:(n=0∨262144<n∨67108864<c∨67108864-c<n)->K 1 w)
  (aM: ¬(n=0∨262144<n∨67108864<c∨67108864-c<n)->cnt (G.l 0) (c*512) ((c+n)*512)≠0-> ∀w',Ext AK w w'->K 34 w')
  (aJ: ¬(n=0∨262144<n∨67108864<c∨67108864-c<n)->cnt (G.l 0) (c*512) ((c+n)*512)=0-> ∀w' G',Hi E b w G w' G'->
   G'.l=Sh.F1 (Sh.F1 (Sh.F1 G.l 0 (Bk (G.l 0) (c*512) ((c+n)*512))) 1 (Bk (G.l 1) (c*512) ((c+n)*512))) 2 (Bk (G.l 2) (c*512) ((c+n)*512))->K 0 w'):
  F.CY E (some ⟨b,0,none⟩) c n K w:=by
 unfold F.CY T0.CY;refine Ak (fun st w'=>w'=w/\(st.1=true↔n=0∨262144<n∨67108864<c∨67108864-c<n)) ?_ ?_
 ·refine AR (fun e=>⟨rfl,?_⟩) (fun e=>AE (fun e2=>⟨rfl,?_⟩) (fun e2=>AE (fun e3=>⟨rfl,?_⟩) (fun e3=>⟨rfl,?_⟩)))
  ·have:n=0:=by simpa using e
   simp[this]
  ·simp only[true_iff];omega
  ·simp only[true_iff];omega
  ·have e0:n≠0:=by simpa using e
   rw[AG];simp only[decide_eq_true_iff];omega
 rintro⟨bt,u⟩ _ w3 ⟨rfl,J⟩;simp only at J⊢;refine AR (fun ht=>aG (J.1 ht)) (fun hf=> ?_);have aD: ¬(n=0∨262144<n∨67108864<c∨67108864-c<n):=fun h=>by rw[J.2 h]at hf;cases hf
 have e1:u64 (c*512)=c*512:=AG;have e2:u64 (c+n)=c+n:=AG;have e3:u64 ((c+n)*512)=(c+n)*512:=AG;rw[e1,e2,e3];simp only[AI,add_eq,Nat.zero_add];refine AY fun to aP=> ?_;subst aP;have aR:Jr=4398046511104:=rfl;refine Fy hE (h.Cy.Cy 0 (by decide)).row (by omega) (by omega) (by omega) fun w7 Y=> ?_;have a4:=B1 (G.l 0) (c*512) ((c+n)*512);refine AE (fun hp=>aM aD (by omega) w7 Y) (fun hp=> ?_);have hz:cnt (G.l 0) (c*512) ((c+n)*512)=0:=by omega
 have m7:Jw E b w3 G w7 G.s G.l:=Jw.start h Y;have v:c*512<(c+n)*512:=by omega
 refine Gy hE (m7.Cy.Cy 0 (by decide)) (by omega) v (by omega) fun w9 s9 aH aF aL=> ?_;have m9:=m7.F1 (by decide:0<4) aH aF aL;refine Gy hE (m9.Cy.Cy 1 (by decide)) (by omega) v (by omega) fun a3 a6 aC T O=> ?_;have aB:=m9.F1 (by decide:1<4) aC T O;refine Gy hE (aB.Cy.Cy 2 (by decide)) (by omega) v (by omega) fun aV aY aE N aA=> ?_;have aK:=aB.F1 (by decide:2<4) aE N aA;have BH: ∀i,i<4->Ok (G.l i):=fun i hi=>(h.Cy.Cy i hi).row.ok;have d: ∀i,i<4-> ∀m,mem (Bk (G.l i) (c*512) ((c+n)*512)) m↔mem (G.l i) m∨(c*512<=m/\m<(c+n)*512):=fun i hi m=>Bo (BH i hi) v (by omega) (by omega) m;have j:=(CU (BH 0 (by decide)) (a:=c*512) (b:=(c+n)*512) (by omega)).1 hz;refine aK.changed h ⟨?_,?_,?_,?_⟩ fun w' G' hs hl=>aJ aD hz w' G' hs hl
 ·intro m hm;rcases(d 0 (by decide) m).1 hm with g|g
  ·exact h.inv.top m g
  ·omega
 ·intro m hm;refine(d 0 (by decide) m).2 ?_;rcases(d 1 (by decide) m).1 hm with g|g
  ·exact .inl (h.inv.free m g)
  ·exact .inr g
 ·intro m hm;refine(d 1 (by decide) m).2 ?_;rcases(d 2 (by decide) m).1 hm with g|g
  ·exact .inl (h.inv.rel m g)
  ·exact .inr g
 ·intro m;show mem (G.l 3) m↔mem (Bk (G.l 1) (c*512) ((c+n)*512)) m/\ ¬mem (Bk (G.l 2) (c*512) ((c+n)*512)) m;rw[d 1 (by decide),d 2 (by decide),h.inv.idle m];constructor
  ·rintro⟨a1,a2⟩;have:=j m;refine⟨.inl a1,fun C=> ?_⟩;rcases C with C|C
   ·exact a2 C
   ·exact j m C.1 C.2 (h.inv.free m a1)
  ·rintro⟨a1,a2⟩;rcases a1 with a1|a1
   ·exact⟨a1,fun C=>a2 (.inl C)⟩
   ·exact absurd (.inr a1) a2
theorem ON(h:EZ E w b G){x n:Int}{i:Nat}(T:i=2∨i=3)(C:0<=x)(hx:x<18446744073709551616)(aL:0<=n)(hn:n<18446744073709551616){K:Int->World->Prop}
  (aH:Ae G.l x n false 31≠0-> ∀w',Ext AK w w'->K (Ae G.l x n false 31) w')
  (aI:Ae G.l x n false 31=0-> ∀w' G',Hi E b w G w' G'->G'.l=Sh.F1 (Sh.F1 G.l 1 (Bk (G.l 1) x (x+n))) i (Bk (G.l i) x (x+n))->K 0 w'):
  F.Ce E (some ⟨b,0,none⟩) x n (some ⟨b,2*i,none⟩) K w:=by
 unfold F.Ce T0.Ce;refine Mr hE h C hx aL hn fun w2 aD=> ?_;refine AR (fun e=>aH (by simpa using e) w2 aD) (fun e=> ?_);have hz:Ae G.l x n false 31=0:=by simpa using e
 obtain⟨g1,g2,g3,g4,g5⟩:=Ms (by decide) hz;have en:u64 (x+n)=x+n:=AG;simp only[AI,add_eq,Nat.zero_add,en];have aR:Jr=4398046511104:=rfl;have aC:i<4:=by omega
 have O:i≠1:=by omega
 have m2:Jw E b w G w2 G.s G.l:=Jw.start h aD;have N:x<x+n:=by omega
 refine Gy hE (m2.Cy.Cy 1 (by decide)) C N (by omega) fun w4 s4 aM aK aN=> ?_;have m4:=m2.F1 (by decide:1<4) aM aK aN;have Y:=m4.Cy.Cy i aC;rw[DT _ _ O,DT _ _ O]at Y;refine Gy hE Y C N (by omega) fun w5 s5 aJ aF aG=> ?_;have m5:=m4.F1 aC aJ aF (by rw[DT _ _ O];exact aG);have BH: ∀i,i<4->Ok (G.l i):=fun i T=>(h.Cy.Cy i T).row.ok;have j: ∀i,i<4-> ∀m,mem (Bk (G.l i) x (x+n)) m↔mem (G.l i) m∨(x<=m/\m<x+n):=fun i T m=>Bo (BH i T) N C (by omega) m;have J:=(CU (BH 1 (by decide)) (a:=x) (b:=x+n) (by omega)).1 g5;have aB:=(Ci (BH 0 (by decide)) (a:=x) (b:=x+n) (by omega)).1 (by omega);have l0:Sh.F1 (Sh.F1 G.l 1 (Bk (G.l 1) x (x+n))) i (Bk (G.l i) x (x+n)) 0=G.l 0:=by rw[DT _ _ (by omega),DT _ _ (by omega)]
 have l1:Sh.F1 (Sh.F1 G.l 1 (Bk (G.l 1) x (x+n))) i (Bk (G.l i) x (x+n)) 1=Bk (G.l 1) x (x+n):=by rw[DT _ _ (by omega),FK]
 refine m5.changed h ⟨?_,?_,?_,?_⟩ fun w' G' hs hl=>aI hz w' G' hs hl
 ·rw[l0];exact h.inv.top
 ·intro m;rw[l0,l1,j 1 (by decide)];rintro(d|d)
  ·exact h.inv.free m d
  ·exact aB m d.1 d.2
 ·intro m;rw[l1,j 1 (by decide)];rcases T with rfl|rfl
  ·rw[FK,j 2 (by decide)];rintro(d|d)
   ·exact .inl (h.inv.rel m d)
   ·exact .inr d
  ·rw[DT _ _ (by decide),DT _ _ (by decide)];exact fun d=>.inl (h.inv.rel m d)
 ·intro m;rw[l1,j 1 (by decide)];have aE:x<=m/\m<x+n-> ¬mem (G.l 1) m:=fun d=>J m d.1 d.2;have v:=h.inv.idle m;have aA:=h.inv.rel m;rcases T with rfl|rfl
  ·rw[FK,j 2 (by decide),DT _ _ (by decide),DT _ _ (by decide),v];constructor
   ·rintro⟨a1,a2⟩;refine⟨.inl a1,fun d=> ?_⟩;rcases d with d|d
    ·exact a2 d
    ·exact aE d a1
   ·rintro⟨a1,a2⟩;rcases a1 with a1|a1
    ·exact⟨a1,fun d=>a2 (.inl d)⟩
    ·exact absurd (.inr a1) a2
  ·rw[FK,j 3 (by decide),DT _ _ (by decide),DT _ _ (by decide),v];constructor
   ·rintro(⟨a1,a2⟩|a1)
    ·exact⟨.inl a1,a2⟩
    ·exact⟨.inr a1,fun d=>aE a1 (aA d)⟩
   ·rintro⟨a1,a2⟩;rcases a1 with a1|a1
    ·exact .inl ⟨a1,a2⟩
    ·exact .inr a1
end
end Go.Sh
set_option linter.all false
set_option maxRecDepth 4000
namespace Go.Sh
theorem Vu{E:Env}{w:World}{K:Option Addr->World->Prop}(hK: ∀w' b G,bF E w w' b G->(∀i,G.l i=[])->K (some ⟨b,0,none⟩) w'):F.E6 E K w:=by
 unfold F.E6 T0.E6;refine A7 fun w2 d Y O=> ?_;have J: ∀k,¬Gx ⟨none,0,0⟩ k:=by rintro k ⟨a,ha,_⟩;cases ha
 have hs:FE E w2 w.heap.size (fun _=>⟨none,0,0⟩) (fun _=>[]):=by
  refine⟨fun i hi=> ?_,fun i j _ _ _ k C=>absurd C (J k),⟨_,by rw[AO d];rfl⟩,by simp[World.frozen?,d]⟩;have:i=0∨i=1∨i=2∨i=3:=by omega
  rcases this with rfl|rfl|rfl|rfl<;>
   exact⟨⟨by rw[AO d];rfl,by simp[World.frozen?,d],Fs.nil _ _ _ _,trivial,by simp,by intro a h;cases h⟩,by rw[AO d];rfl,by simp[World.frozen?,d]⟩
 refine Li hs fun w' sm KZ T hm he v N=> ?_;refine hK w' w.heap.size ⟨fun _=>⟨none,0,0⟩,fun _=>[],sm,KZ,fun _ _=>none⟩ ⟨⟨T,hm,fun k C=>⟨?_,fun i _ e=>J k e⟩,fun j i x hx=>(by cases hx),?_⟩,?_,?_⟩ fun _=>rfl
 ·have:=v k C;omega
 ·exact⟨fun n h=>absurd h (Ar n),fun n h=>absurd h (Ar n),fun n h=>absurd h (Ar n),fun n=>⟨fun h=>absurd h (Ar n),fun h=>absurd h.1 (Ar n)⟩⟩
 ·exact O.trans he (fun _ _ f=>f) fun k C e=>by have:k=w.heap.size:=e;omega
 ·rintro k (e|⟨i,_,e⟩|e|e)
  ·omega
  ·exact absurd e (J k)
  ·have:=v k e;omega
  ·have:=N k e;omega
end Go.Sh
set_option linter.all false
set_option maxRecDepth 4000
namespace Go.Sh
def EM(E:Env)(b:Nat)(l:Nat->Iv):Pr where
 holds D w:= ∃G,EZ E w b G/\G.l=l/\ ∀k,D k↔Lj b G k
 loc h he hS:=let⟨G,h1,h2,h3⟩:=h;⟨G,h1.ext he fun k d=>hS k ((h3 k).2 d),h2,h3⟩
 lt h d:=let⟨G,h1,h2,h3⟩:=h;h1.KQ ((h3 _).1 d)
theorem Sat.tree{E:Env}{b:Nat}{l:Nat->Iv}{F:List Pr}{w:World}(H:Sat (EM E b l::F) w):
  ∃G,EZ E w b G/\G.l=l/\ ∀w' G',Hi E b w G w' G'->Sat (EM E b G'.l::F) w':=by
 obtain⟨D,⟨G,h1,j,d⟩,hs⟩:=H.step;refine⟨G,h1,j,fun w' G' st=>hs w' (Lj b G') _ (st.ext.mono fun i _ v=>(d i).2 v) ⟨G',st.rep,rfl,fun _=>Iff.rfl⟩ fun k C=> ?_⟩;rcases st.PB k C with h|h
 ·exact .inl ((d k).2 h)
 ·exact .inr h
theorem Sat.Z1{E:Env}{b:Nat}{F:List Pr}{w w':World}{G:JE}(H:Sat F w)(h:bF E w w' b G):Sat (EM E b G.l::F) w':=
 H.new (P:=EM E b G.l) (D:=Lj b G) h.ext ⟨G,h.rep,rfl,fun _=>Iff.rfl⟩ h.lP
theorem Sat.HO{E:Env}{b:Nat}{l:Nat->Iv}{F:List Pr}{w:World}(H:Sat (EM E b l::F) w):Vr l/\ ∀i,i<4->Ok (l i):=by
 obtain⟨G,h1,rfl,_⟩:=H.tree;exact⟨h1.inv,fun i d=>(h1.Cy.Cy i d).row.ok⟩
def Mt(l:Iv)(p n:Int):Prop:= ∀m,p<=m->m<p+n->mem l m
theorem Hj{l:Iv}(h:Ok l){n p:Int}(Y:0<n)(hf:findL l n=some p):Mt l p n/\ ∀v,Mt l v n->p<=v:=by
 induction l with
 | nil=>cases hf
 | cons q r ih=>
  simp only[findL]at hf;split at hf
  ·cases hf;refine⟨fun m h1 J=>mem_cons.2 (.inl ⟨h1,by omega⟩),fun v j=> ?_⟩;rcases mem_cons.1 (j v (by omega) (by omega))with h1|⟨C,d,h1,J⟩
   ·exact h1.1
   ·have:=h.2.2.2.1 C d;have:=h.2.1;omega
  ·obtain⟨h1,J⟩:=ih h.tail hf;refine⟨fun m K N=>mem_cons.2 (.inr (h1 m K N)),fun v j=> ?_⟩;obtain⟨C,d,K,N⟩:=NX h (by omega) j;rcases List.mem_cons.1 d with rfl|d
   ·omega
   ·exact J v fun m O T=>⟨C,d,by omega,by omega⟩
theorem I2{l:Iv}(h:Ok l){n:Int}(K:0<n)(hf:findL l n=none): ∀p,¬Mt l p n:=by
 induction l with
 | nil=>intro p hp;exact Ar _ (hp p (by omega) (by omega))
 | cons q r ih=>
  simp only[findL]at hf;split at hf
  ·cases hf
  ·intro p hp;obtain⟨j,d,C,N⟩:=NX h (by omega) hp;rcases List.mem_cons.1 d with rfl|d
   ·omega
   ·exact ih h.tail hf p fun m v J=>⟨j,d,by omega,by omega⟩
end Go.Sh
set_option linter.all false
set_option maxRecDepth 4000
set_option maxHeartbeats 1000000
namespace Go.Sh
section
variable{E:Env}(hE:EnvS E){w:World}{b:Nat}{G:JE}
include hE
theorem Vv(h:EZ E w b G){n:Int}(bA:0<=n)(hn:n<18446744073709551616){K:Int->Int->World->Prop}
  (aC:G.l 3=[]∨n=0->K 0 0 w)
  (aT:n≠0-> ∀q r p k,G.l 3=r++[q]->k=min (q.2-max q.1 ((q.2-1)/512*512)) n->p=q.2-k->0<k->q.1<=p-> ∀w' G',Hi E b w G w' G'->
   G'.l=Sh.F1 (Sh.F1 G.l 3 (B6 (G.l 3) p (p+k))) 2 (Bk (G.l 2) p (p+k))->K p k w'):
  F.BR E (some ⟨b,0,none⟩) n K w:=by
 unfold F.BR T0.BR F.DN;simp only[AI,add_eq,Nat.zero_add];have hr:Eg E w ⟨b,6,none⟩ (G.s 3) (G.l 3):=(h.Cy.Cy 3 (by decide)).row;have hlen:=hr.len;have a4:=hr.small;have a0:Jr=4398046511104:=rfl;refine⟨G.s 3,hr.c0,Ax (CO (fun e=> ?_) fun e=> ?_)⟩
 ·refine fun j=>Ao rfl (aC (.inl (List.eq_nil_of_length_eq_zero (by omega))))
 ·refine fun j=>CO (fun e2=>aC (.inr e2)) fun e2=> ?_;obtain⟨r,q,J⟩: ∃r q,G.l 3=r++[q]:=by
   rcases List.eq_nil_or_concat (G.l 3)with h|⟨r,q,h⟩
   ·rw[h]at hlen;simp at hlen;omega
   ·exact⟨r,q,by simpa using h⟩
  have N:(G.l 3)[r.length]? =some q:=by rw[J];simp
  have a3:(G.l 3).length=r.length+1:=by rw[J];simp
  have ei:i64 (((G.s 3).len:Int)-1)=(r.length:Int):=by rw[AN];omega
  obtain⟨bb,hb,c1,c2⟩:=hr.own.cells2 N;have hq:=hr.ok.get N;have a9:=h.inv.top (q.2-1) (h.inv.free _ ((h.inv.idle _).1 ⟨q,List.mem_of_getElem? N,by omega,by omega⟩).1);rw[ei,hb];simp only[AI,add_eq,Nat.zero_add,Int.toNat_natCast,Nat.add_zero];refine⟨⟨by omega,by omega⟩,q.1,c1,q.2,c2,?_⟩;refine A7 fun aR aA aU aB=> ?_;refine Fg [.int .u64 q.1,.int .u64 q.2] w.heap.size 0 0 _ aR _ aA (Nat.le_refl _) (by simp[Value.oneCell']) fun v aD aJ O=> ?_;have d:v.heap[w.heap.size]? =some (.cells ⟨[.int .u64 q.1,.int .u64 q.2]⟩ E.AD):=O;have aF:Ext AK w v:=aB.trans aD (fun _ _ f=>f) fun i N e=>by have:i=w.heap.size:=e;omega
  have d1:v.cell? ⟨w.heap.size,0,none⟩=some (.int .u64 q.1):=by rw[AO d];rfl
  have d2:v.cell? ⟨w.heap.size,1,none⟩=some (.int .u64 q.2):=by rw[AO d];rfl
  refine⟨q.1,d1,q.2,d2,by decide,AY fun fr aV=>⟨q.2,d2,AY fun k hk=>⟨q.2,d2,?_⟩⟩⟩;have Y:fr=max q.1 ((q.2-1)/512*512):=by
   rw[aV,LP,AG (n:=q.2-1),Int.tdiv_eq_ediv_of_nonneg (by omega),AG (n:=(q.2-1)/512),AG]
  have aN:k=min (q.2-max q.1 ((q.2-1)/512*512)) n:=by
   rw[hk,NV,Y,AG]
  have aY:0<k:=by omega
  have aK:q.1<=q.2-k:=by omega
  rw[AG (n:=q.2-k),AG (n:=q.2-k+k)];have m0:Jw E b w G v G.s G.l:=Jw.start h aF;refine Ig hE (m0.Cy.Cy 3 (by decide)) (by omega) (by omega) (by omega) fun bB s3 aW aI aS=> ?_;have m1:=m0.F1 (by decide:3<4) aW aI aS;have aE:=m1.Cy.Cy 2 (by decide);rw[DT _ _ (by decide),DT _ _ (by decide)]at aE;refine Gy hE aE (by omega) (by omega) (by omega) fun aM s2 aQ aL aO=> ?_;have m2:=m1.F1 (by decide:2<4) aQ aL (by rw[DT _ _ (by decide)];exact aO);have BH: ∀i,i<4->Ok (G.l i):=fun i N=>(h.Cy.Cy i N).row.ok;have T: ∀m,q.2-k<=m->m<q.2-k+k->mem (G.l 3) m:=fun m h1 h2=>⟨q,List.mem_of_getElem? N,by omega,by omega⟩;have l1:Sh.F1 (Sh.F1 G.l 3 (B6 (G.l 3) (q.2-k) (q.2-k+k))) 2 (Bk (G.l 2) (q.2-k) (q.2-k+k)) 1=G.l 1:=by rw[DT _ _ (by decide),DT _ _ (by decide)]
  have l2:Sh.F1 (Sh.F1 G.l 3 (B6 (G.l 3) (q.2-k) (q.2-k+k))) 2 (Bk (G.l 2) (q.2-k) (q.2-k+k)) 2=Bk (G.l 2) (q.2-k) (q.2-k+k):=by rw[FK]
  have l3:Sh.F1 (Sh.F1 G.l 3 (B6 (G.l 3) (q.2-k) (q.2-k+k))) 2 (Bk (G.l 2) (q.2-k) (q.2-k+k)) 3=B6 (G.l 3) (q.2-k) (q.2-k+k):=by rw[DT _ _ (by decide),FK]
  have ma: ∀m,mem (Bk (G.l 2) (q.2-k) (q.2-k+k)) m↔mem (G.l 2) m∨(q.2-k<=m/\m<q.2-k+k):=fun m=>Bo (BH 2 (by decide)) (by omega) (by omega) (by omega) m;refine aT e2 q r _ k J aN rfl aY aK aM _ (m2.Dd h l1 ⟨?_,?_,?_,?_⟩) rfl
  ·intro m;rw[DT _ _ (by decide),DT _ _ (by decide)];exact h.inv.top m
  ·intro m;rw[l1,DT _ _ (by decide),DT _ _ (by decide)];exact h.inv.free m
  ·intro m;rw[l1,l2,ma];rintro(C|C)
   ·exact h.inv.rel m C
   ·exact((h.inv.idle m).1 (T m C.1 C.2)).1
  ·intro m;rw[l1,l2,l3,ma,B7 (by omega),h.inv.idle m];constructor
   ·rintro⟨⟨g1,g2⟩,g3⟩;exact⟨g1,fun C=>C.elim g2 g3⟩
   ·rintro⟨g1,g2⟩;exact⟨⟨g1,fun C=>g2 (.inl C)⟩,fun C=>g2 (.inr C)⟩
end
end Go.Sh
set_option linter.all false
set_option maxRecDepth 4000
set_option maxHeartbeats 1000000
namespace Go.Sh
def Kh(l:Nat->Iv)(x n:Int):Nat->Iv:=Sh.F1 (Sh.F1 (Sh.F1 l 1 (B6 (l 1) x (x+n))) 2 (B6 (l 2) x (x+n))) 3 (B6 (l 3) x (x+n))
def Pb(l:Nat->Iv)(c n:Int):Nat->Iv:=Sh.F1 (Sh.F1 (Sh.F1 l 0 (Bk (l 0) (c*512) ((c+n)*512))) 1 (Bk (l 1) (c*512) ((c+n)*512))) 2 (Bk (l 2) (c*512) ((c+n)*512))
def JF(l:Nat->Iv)(i:Nat)(x n:Int):Nat->Iv:=Sh.F1 (Sh.F1 l 1 (Bk (l 1) x (x+n))) i (Bk (l i) x (x+n))
def bG(l:Nat->Iv)(p k:Int):Nat->Iv:=Sh.F1 (Sh.F1 l 3 (B6 (l 3) p (p+k))) 2 (Bk (l 2) p (p+k))
def II(c n:Int):Prop:=n=0∨262144<n∨67108864<c∨67108864-c<n
section
variable{E:Env}{w:World}{Z:List Pr}{b:Nat}{l:Nat->Iv}
theorem Xs(H:Sat Z w){K:Option Addr->World->Prop}(j: ∀w' b l,(∀i,l i=[])->Sat (EM E b l::Z) w'->K (some ⟨b,0,none⟩) w'):F.E6 E K w:=
 Vu fun w' b G hm d=>j w' b G.l d (H.Z1 hm)
theorem Vw(H:Sat (EM E b l::Z) w){n:Int}(d:0<=n){K:Int->Bool->World->Prop}
  (j: ∀w',Sat (EM E b l::Z) w'->K ((if n=0 then none else findL (l 1) n).getD 0) (if n=0 then none else findL (l 1) n).isSome w'):F.B8 E (some ⟨b,0,none⟩) n K w:=by
 obtain⟨G,v,rfl,st⟩:=H.tree;exact find_spec v d fun w' he=>j w' (H.nothing he)
theorem PD(H:Sat (EM E b l::Z) w){K:Int->World->Prop}(j:K (CK (l 2)) w):F.BQ E (some ⟨b,0,none⟩) K w:=by
 obtain⟨G,d,rfl,st⟩:=H.tree;exact PC d j
variable(hE:EnvS E)
include hE
theorem Vx(H:Sat (EM E b l::Z) w){c n:Int}(C:0<=c)(hc:c<18446744073709551616)(J:0<=n)(T:n<18446744073709551616){K:Int->World->Prop}
  (N:II c n->K 1 w)(d: ¬II c n->cnt (l 0) (c*512) ((c+n)*512)≠0-> ∀w',Sat (EM E b l::Z) w'->K 34 w')
  (j: ¬II c n->cnt (l 0) (c*512) ((c+n)*512)=0-> ∀w',Sat (EM E b (Pb l c n)::Z) w'->K 0 w'):F.CY E (some ⟨b,0,none⟩) c n K w:=by
 obtain⟨G,Y,rfl,st⟩:=H.tree;exact Vt hE Y C hc J T N (fun h1 v w' he=>d h1 v w' (H.nothing he)) fun h1 v w' G' hs O=>j h1 v w' (by have:=st _ _ hs;rw[O]at this;exact this)
theorem Vy(H:Sat (EM E b l::Z) w){x n:Int}(C:0<=x)(N:x<18446744073709551616)(j:0<=n)(O:n<18446744073709551616){K:Int->Int->World->Prop}
  (v:Ae l x n true 32≠0-> ∀w',Sat (EM E b l::Z) w'->K 0 (Ae l x n true 32) w')
  (d:Ae l x n true 32=0-> ∀w',Sat (EM E b (Kh l x n)::Z) w'->K (cnt (l 2) x (x+n)) 0 w'):F.B9 E (some ⟨b,0,none⟩) x n K w:=by
 obtain⟨G,T,rfl,st⟩:=H.tree;exact Pa hE T C N j O (fun h1 w' he=>v h1 w' (H.nothing he)) fun h1 w' G' hs J=>d h1 w' (by have:=st _ _ hs;rw[J]at this;exact this)
theorem Tl(H:Sat (EM E b l::Z) w){n:Int}(j:0<=n)(O:n<18446744073709551616){K:Int->Int->Int->World->Prop}
  (C:n=0->K 0 0 1 w)(v:n≠0->findL (l 1) n=none-> ∀w',Sat (EM E b l::Z) w'->K 0 0 30 w')
  (d:n≠0-> ∀p,findL (l 1) n=some p-> ∀w',Sat (EM E b (Kh l p n)::Z) w'->K p (cnt (l 2) p (p+n)) 0 w'):F.A1 E (some ⟨b,0,none⟩) n K w:=by
 obtain⟨G,T,rfl,st⟩:=H.tree;exact Tk hE T j O C (fun h1 N w' he=>v h1 N w' (H.nothing he)) fun h1 p hp w' G' hs J=>d h1 p hp w' (by have:=st _ _ hs;rw[J]at this;exact this)
theorem Vz(H:Sat (EM E b l::Z) w){x n:Int}(C:0<=x)(N:x<18446744073709551616)(j:0<=n)(O:n<18446744073709551616){K:Int->World->Prop}
  (v:Ae l x n false 31≠0-> ∀w',Sat (EM E b l::Z) w'->K (Ae l x n false 31) w')
  (d:Ae l x n false 31=0-> ∀w',Sat (EM E b (JF l 3 x n)::Z) w'->K 0 w'):F.CB E (some ⟨b,0,none⟩) x n K w:=by
 obtain⟨G,T,rfl,st⟩:=H.tree;unfold F.CB T0.CB;simp only[AI,add_eq,Nat.zero_add];exact ON hE T (i:=3) (.inr rfl) C N j O (fun h1 w' he=>v h1 w' (H.nothing he)) fun h1 w' G' hs J=>d h1 w' (by have:=st _ _ hs;rw[J]at this;exact this)
theorem V0(H:Sat (EM E b l::Z) w){x n:Int}(C:0<=x)(N:x<18446744073709551616)(j:0<=n)(O:n<18446744073709551616){K:Int->World->Prop}
  (v:Ae l x n false 31≠0-> ∀w',Sat (EM E b l::Z) w'->K (Ae l x n false 31) w')
  (d:Ae l x n false 31=0-> ∀w',Sat (EM E b (JF l 2 x n)::Z) w'->K 0 w'):F.Ca E (some ⟨b,0,none⟩) x n K w:=by
 obtain⟨G,T,rfl,st⟩:=H.tree;unfold F.Ca T0.Ca;simp only[AI,add_eq,Nat.zero_add];exact ON hE T (i:=2) (.inl rfl) C N j O (fun h1 w' he=>v h1 w' (H.nothing he)) fun h1 w' G' hs J=>d h1 w' (by have:=st _ _ hs;rw[J]at this;exact this)
theorem V1(H:Sat (EM E b l::Z) w){n:Int}(j:0<=n)(T:n<18446744073709551616){K:Int->Int->World->Prop}
  (v:l 3=[]∨n=0->K 0 0 w)
  (d:n≠0-> ∀q r p k,l 3=r++[q]->k=min (q.2-max q.1 ((q.2-1)/512*512)) n->p=q.2-k->0<k->q.1<=p-> ∀w',Sat (EM E b (bG l p k)::Z) w'->K p k w'):
  F.BR E (some ⟨b,0,none⟩) n K w:=by
 obtain⟨G,Y,rfl,st⟩:=H.tree;exact Vv hE Y j T v fun h1 q r p k J O e3 N e5 w' G' hs C=>d h1 q r p k J O e3 N e5 w' (by have:=st _ _ hs;rw[C]at this;exact this)
end
end Go.Sh
set_option linter.all false
set_option maxRecDepth 4000
namespace Go.Sh
def cu(u:Int->Bool):Nat->Int
 | 0=>0
 | k+1=>cu u k+(if u k then 1 else 0)
theorem Xt{u:Int->Bool}{l:Iv}{fr:Int}(h:Ok l){n:Nat}(hu: ∀k:Int,0<=k->k<n->(u k=true↔mem l (fr+k))):cu u n=cnt l fr (fr+n):=by
 induction n with
 | zero=>
  have:=B1 l fr (fr+(0:Nat));have j:=DY h (a:=fr) (b:=fr+((0:Nat):Int)) (by omega);show 0=_;omega
 | succ n ih=>
  have hs:=F9 h (a:=fr) (k:=fr+n) (by omega);have e:fr+((n+1:Nat):Int)=fr+(n:Int)+1:=by omega
  rw[e];simp only[cu];rw[ih fun k h0 h1=>hu k h0 (by omega)];have d:=hu n (by omega) (by omega);by_cases g:u n=true
  ·rw[hs.1 (d.1 g),if_pos g]
  ·rw[hs.2 (fun e=>g (d.2 e)),if_neg g];omega
theorem Xu(u:Int->Bool)(n:Nat):0<=cu u n/\cu u n<=n:=by
 induction n with
 | zero=>simp[cu]
 | succ n ih=>simp only[cu];split<;>omega
end Go.Sh
set_option linter.all false
set_option maxRecDepth 4000
set_option maxHeartbeats 1000000
namespace Go.Sh
structure TV where
 Fb:Int->Bool
 fr:Int->Bool
 rl:Int->Bool
def inr(x n p:Int):Bool:=decide (x<=p)&&decide (p<x+n)
theorem AU{x n p:Int}:inr x n p=true↔x<=p/\p<x+n:=by simp[inr]
theorem Ey{x n p:Int}:inr x n p=false↔ ¬(x<=p/\p<x+n):=by rw[<-AU];cases inr x n p<;>simp
def Gb(f:Int->Bool)(p n:Int):Prop:= ∀m,p<=m->m<p+n->f m=true
def TV.take(V:TV)(x n:Int):TV:=⟨V.Fb,fun p=>V.fr p&& !inr x n p,fun p=>V.rl p&& !inr x n p⟩
def TV.Ka(V:TV)(x n:Int):TV:=⟨V.Fb,fun p=>V.fr p||inr x n p,V.rl⟩
def TV.back(V:TV)(x n:Int):TV:=⟨V.Fb,fun p=>V.fr p||inr x n p,fun p=>V.rl p||inr x n p⟩
def TV.grow(V:TV)(c n:Int):TV:=⟨fun p=>V.Fb p||inr (c*512) (n*512) p,fun p=>V.fr p||inr (c*512) (n*512) p,fun p=>V.rl p||inr (c*512) (n*512) p⟩
def TV.F5(V:TV)(p k:Int):TV:=⟨V.Fb,V.fr,fun q=>V.rl q||inr p k q⟩
def TV.nil:TV:=⟨fun _=>false,fun _=>false,fun _=>false⟩
structure LV(l:Nat->Iv)(V:TV):Prop where
 i: ∀p,mem (l 0) p↔V.Fb p=true
 f: ∀p,mem (l 1) p↔V.fr p=true
 r: ∀p,mem (l 2) p↔V.rl p=true
noncomputable def NT(f:Int->Bool):Int:= @dite Int (∃l,Ok l/\ ∀p,mem l p↔f p=true) (Classical.propDecidable _) (fun h=>CK (Classical.choose h)) fun _=>0
theorem R4{f:Int->Bool}{l:Iv}(h:Ok l)(d: ∀p,mem l p↔f p=true):NT f=CK l:=by
 have hex: ∃l,Ok l/\ ∀p,mem l p↔f p=true:=⟨l,h,d⟩;unfold NT;rw[dif_pos hex];have j:=Classical.choose_spec hex;rw[XG j.1 h fun p=>(j.2 p).trans (d p).symm]
def cr(f:Int->Bool)(x n:Int):Int:=cu (fun k=>f (x+k)) n.toNat
theorem Tm{f:Int->Bool}{l:Iv}(h:Ok l)(d: ∀p,mem l p↔f p=true){x n:Int}(j:0<=n):cr f x n=cnt l x (x+n):=by
 unfold cr;rw[Xt h (l:=l) (fr:=x) fun k _ _=>(d (x+k)).symm];rw[show((n.toNat:Nat):Int)=n by omega]
theorem Z2{f:Int->Bool}{x n:Int}(h: ∀m,x<=m->m<x+n->f m=false):cr f x n=0:=by
 unfold cr;have key: ∀k:Nat,(k:Int)<=n->cu (fun k=>f (x+k)) k=0:=by
  intro k
  induction k with
  | zero=>intro _;rfl
  | succ k ih=>
   intro d;simp only[cu];rw[ih (by omega),if_neg (by rw[h (x+k) (by omega) (by omega)];decide)];rfl
 by_cases g:0<=n
 ·exact key n.toNat (by omega)
 ·have:n.toNat=0:=by omega
  rw[this];rfl
theorem gT(f:Int->Bool)(x:Int):cr f x 1=if f x then 1 else 0:=by
 show cu (fun k=>f (x+k)) 1=_;simp[cu]
theorem gU(f:Int->Bool)(x:Int){n:Int}(d:0<=n):0<=cr f x n/\cr f x n<=n:=by
 have:=Xu (fun k=>f (x+k)) n.toNat;unfold cr;omega
def BG(E:Env)(b:Nat)(V:TV):Pr:=Ex fun l:Nat->Iv=>ID (LV l V) (EM E b l)
structure K1(V:TV):Prop where
 fi: ∀p,V.fr p=true->V.Fb p=true
 rf: ∀p,V.rl p=true->V.fr p=true
 Gc: ∀p,V.Fb p=true->0<=p/\p<34359738368
 ci: ∃l,Ok l/\ ∀p,mem l p↔V.Fb p=true
 cf: ∃l,Ok l/\ ∀p,mem l p↔V.fr p=true
 cr: ∃l,Ok l/\ ∀p,mem l p↔V.rl p=true
def Ez(V:TV)(x n:Int):Prop:=n≠0/\x+n<=34359738368/\Gb V.Fb x n
def TV.idle(V:TV)(p:Int):Bool:=V.fr p&& !V.rl p
section
variable{E:Env}{w:World}{Z:List Pr}{b:Nat}{V:TV}{l:Nat->Iv}
theorem Sat.Fc:Sat (BG E b V::Z) w↔ ∃l,LV l V/\Sat (EM E b l::Z) w:=by
 unfold BG;rw[Sat.ex];constructor
 ·rintro⟨l,h⟩;exact⟨l,Sat.where.1 h⟩
 ·rintro⟨l,h⟩;exact⟨l,Sat.where.2 h⟩
theorem LV.ok(h:LV l V)(H:Sat (EM E b l::Z) w):K1 V:=by
 obtain⟨d,BH⟩:=H.HO;exact⟨fun p hp=>(h.i p).1 (d.free p ((h.f p).2 hp)),fun p hp=>(h.f p).1 (d.rel p ((h.r p).2 hp)),fun p hp=>⟨LS (BH 0 (by decide)) ((h.i p).2 hp),d.top p ((h.i p).2 hp)⟩,
  ⟨l 0,BH 0 (by decide),h.i⟩,⟨l 1,BH 1 (by decide),h.f⟩,⟨l 2,BH 2 (by decide),h.r⟩⟩
theorem Sat.lQ(H:Sat (BG E b V::Z) w):K1 V:=by
 obtain⟨l,h,H⟩:=Sat.Fc.1 H;exact h.ok H
theorem FW(h:LV l V){p n:Int}:Mt (l 1) p n↔Gb V.fr p n:=by
 constructor
 ·intro d m a c;exact(h.f m).1 (d m a c)
 ·intro d m a c;exact(h.f m).2 (d m a c)
theorem OO(h:LV l V)(BH: ∀i,i<4->Ok (l i)){x n:Int}(hx:0<=x)(hn:0<=n)(free:Bool){e:Int}(he:e≠0):
  (¬Ez V x n->Ae l x n free e=10)/\(Ez V x n->free=true-> ¬Gb V.fr x n->Ae l x n free e=e)/\(Ez V x n->free=true->Gb V.fr x n->Ae l x n free e=0)/\
  (Ez V x n->free=false->(∃m,x<=m/\m<x+n/\V.fr m=true)->Ae l x n free e=e)/\(Ez V x n->free=false->(∀m,x<=m->m<x+n->V.fr m=false)->Ae l x n free e=0):=by
 have K:=Ci (BH 0 (by decide)) (a:=x) (b:=x+n) (by omega);have N:=Ci (BH 1 (by decide)) (a:=x) (b:=x+n) (by omega);have O:=CU (BH 1 (by decide)) (a:=x) (b:=x+n) (by omega);have C: ∀{m:Int},Gb V.Fb x n↔ ∀p,x<=p->p<x+n->mem (l 0) p:=fun{_}=>⟨fun d p a c=>(h.i p).2 (d p a c),fun d p a c=>(h.i p).1 (d p a c)⟩;have v:Ez V x n-> ¬(n=0∨34359738368<=x∨34359738368-x<n∨cnt (l 0) x (x+n)≠n):=fun⟨h1,h2,h3⟩ j=>by
  have:=K.2 ((C (m:=0)).1 h3);rcases j with j|j|j|j<;>omega
 refine⟨fun T=> ?_,fun J hf d=> ?_,fun J hf d=> ?_,fun J hf d=> ?_,fun J hf d=> ?_⟩
 ·unfold Ae;rw[if_pos];refine Classical.byContradiction fun j=>T ⟨fun e=>j (.inl e),?_,?_⟩
  ·refine Classical.byContradiction fun e=>j ?_;by_cases e2:34359738368<=x
   ·exact .inr (.inl e2)
   ·exact .inr (.inr (.inl (by omega)))
  ·refine(C (m:=0)).2 (K.1 ?_);refine Classical.byContradiction fun e=>j (.inr (.inr (.inr (by omega))))
 ·unfold Ae;rw[if_neg (v J),if_pos];rw[hf,if_pos rfl];intro Y;exact d fun m a c=>(h.f m).1 (N.1 (by omega) m a c)
 ·unfold Ae;rw[if_neg (v J),if_neg];rw[hf,if_pos rfl,Decidable.not_not];have:=N.2 fun m a c=>(h.f m).2 (d m a c);omega
 ·unfold Ae;rw[if_neg (v J),if_pos];rw[hf,if_neg (by decide)];intro Y;obtain⟨m,a,c,hm⟩:=d;exact O.1 Y m a c ((h.f m).2 hm)
 ·unfold Ae;rw[if_neg (v J),if_neg];rw[hf,if_neg (by decide),Decidable.not_not];refine O.2 fun m a c hm=> ?_;have:=(h.f m).1 hm;rw[d m a c]at this;cases this
theorem LV.Kh(h:LV l V){x n:Int}(d:0<n):LV (Sh.Kh l x n) (V.take x n):=by
 refine⟨h.i,fun p=> ?_,fun p=> ?_⟩
 ·show mem (B6 (l 1) x (x+n)) p↔(V.fr p&& !inr x n p)=true;rw[B7 (by omega),h.f,<-AU];cases inr x n p<;>simp
 ·show mem (B6 (l 2) x (x+n)) p↔(V.rl p&& !inr x n p)=true;rw[B7 (by omega),h.r,<-AU];cases inr x n p<;>simp
theorem LV.JF(h:LV l V)(BH: ∀i,i<4->Ok (l i)){x n:Int}(d:0<=x)(j:0<n)(v:x+n<=34359738368):LV (Sh.JF l 3 x n) (V.Ka x n)/\LV (Sh.JF l 2 x n) (V.back x n):=by
 have a1:=Bo (BH 1 (by decide)) (a:=x) (b:=x+n) (by omega) d (by omega);have a2:=Bo (BH 2 (by decide)) (a:=x) (b:=x+n) (by omega) d (by omega);refine⟨⟨h.i,fun p=> ?_,h.r⟩,⟨h.i,fun p=> ?_,fun p=> ?_⟩⟩
 ·show mem (Bk (l 1) x (x+n)) p↔(V.fr p||inr x n p)=true;rw[a1,h.f,<-AU,Bool.or_eq_true]
 ·show mem (Bk (l 1) x (x+n)) p↔(V.fr p||inr x n p)=true;rw[a1,h.f,<-AU,Bool.or_eq_true]
 ·show mem (Bk (l 2) x (x+n)) p↔(V.rl p||inr x n p)=true;rw[a2,h.r,<-AU,Bool.or_eq_true]
theorem LV.Pb(h:LV l V)(BH: ∀i,i<4->Ok (l i)){c n:Int}(v:0<=c)(d:0<n)(j:c+n<=67108864):LV (Sh.Pb l c n) (V.grow c n):=by
 have e:(c+n)*512=c*512+n*512:=by omega
 have a0:=Bo (BH 0 (by decide)) (a:=c*512) (b:=c*512+n*512) (by omega) (by omega) (by omega);have a1:=Bo (BH 1 (by decide)) (a:=c*512) (b:=c*512+n*512) (by omega) (by omega) (by omega);have a2:=Bo (BH 2 (by decide)) (a:=c*512) (b:=c*512+n*512) (by omega) (by omega) (by omega);refine⟨fun p=> ?_,fun p=> ?_,fun p=> ?_⟩
 ·show mem (Bk (l 0) (c*512) ((c+n)*512)) p↔(V.Fb p||inr (c*512) (n*512) p)=true;rw[e,a0,h.i,<-AU,Bool.or_eq_true]
 ·show mem (Bk (l 1) (c*512) ((c+n)*512)) p↔(V.fr p||inr (c*512) (n*512) p)=true;rw[e,a1,h.f,<-AU,Bool.or_eq_true]
 ·show mem (Bk (l 2) (c*512) ((c+n)*512)) p↔(V.rl p||inr (c*512) (n*512) p)=true;rw[e,a2,h.r,<-AU,Bool.or_eq_true]
theorem Xv(H:Sat Z w){K:Option Addr->World->Prop}(v: ∀w' b,Sat (BG E b TV.nil::Z) w'->K (some ⟨b,0,none⟩) w'):F.E6 E K w:=
 Xs H fun w' b l j C=>v w' b (Sat.Fc.2 ⟨l,by
  have d: ∀i p,¬mem (l i) p:=fun i p=>by rw[j];exact Ar p
  exact⟨fun p=>⟨fun h=>absurd h (d 0 p),fun h=>(by cases h)⟩,fun p=>⟨fun h=>absurd h (d 1 p),fun h=>(by cases h)⟩,fun p=>⟨fun h=>absurd h (d 2 p),fun h=>(by cases h)⟩⟩,C⟩)
def Eh(V:TV)(n p:Int):Prop:=0<=p/\p+n<=34359738368/\Gb V.fr p n/\ ∀d,Gb V.fr d n->p<=d
theorem K2(h:LV l V)(H:Sat (EM E b l::Z) w){n:Int}(C:0<n):(findL (l 1) n=none/\ ∀p,¬Gb V.fr p n)∨ ∃p,findL (l 1) n=some p/\Eh V n p:=by
 obtain⟨N,BH⟩:=H.HO;have j:=h.ok H;cases hf:findL (l 1) n with
 | none=>exact .inl ⟨rfl,fun p hp=>I2 (BH 1 (by decide)) C hf p ((FW h).2 hp)⟩
 | some p=>
  obtain⟨h1,J⟩:=Hj (BH 1 (by decide)) C hf;have d:=(FW h).1 h1;have b1:=j.Gc p (j.fi p (d p (Int.le_refl _) (by omega)));have O:=j.Gc (p+n-1) (j.fi _ (d (p+n-1) (by omega) (by omega)));exact .inr ⟨p,rfl,b1.1,by omega,d,fun K v=>J K ((FW h).2 v)⟩
theorem V2(H:Sat (BG E b V::Z) w){n:Int}(j:0<=n){K:Int->Bool->World->Prop}
  (d:n=0∨(∀p,¬Gb V.fr p n)-> ∀w',Sat (BG E b V::Z) w'->K 0 false w')(C:n≠0-> ∀p,Eh V n p-> ∀w',Sat (BG E b V::Z) w'->K p true w'):F.B8 E (some ⟨b,0,none⟩) n K w:=by
 obtain⟨l,h,H⟩:=Sat.Fc.1 H;refine Vw H j fun w' J=> ?_;have v:=Sat.Fc.2 ⟨l,h,J⟩;by_cases e:n=0
 ·rw[if_pos e];exact d (.inl e) w' v
 ·rw[if_neg e];rcases K2 h H (n:=n) (by omega)with ⟨h1,h2⟩|⟨p,h1,h2⟩
  ·rw[h1];exact d (.inr h2) w' v
  ·rw[h1];exact C e p h2 w' v
theorem PE(H:Sat (BG E b V::Z) w){K:Int->World->Prop}(d:K (NT V.rl) w):F.BQ E (some ⟨b,0,none⟩) K w:=by
 obtain⟨l,h,H⟩:=Sat.Fc.1 H;rw[R4 (H.HO.2 2 (by decide)) h.r]at d;exact PD H d
variable(hE:EnvS E)
include hE
theorem V3(H:Sat (BG E b V::Z) w){c n:Int}(j:0<=c)(hc:c<18446744073709551616)(T:0<=n)(hn:n<18446744073709551616){K:Int->World->Prop}
  (aA:II c n->K 1 w)(C: ¬II c n->(∃p,c*512<=p/\p<(c+n)*512/\V.Fb p=true)-> ∀w',Sat (BG E b V::Z) w'->K 34 w')
  (N: ¬II c n->(∀p,c*512<=p->p<(c+n)*512->V.Fb p=false)-> ∀w',Sat (BG E b (V.grow c n)::Z) w'->K 0 w'):F.CY E (some ⟨b,0,none⟩) c n K w:=by
 obtain⟨l,h,H⟩:=Sat.Fc.1 H;have BH:=H.HO.2;refine Vx hE H j hc T hn aA (fun v d w' Y=>C v ?_ w' (Sat.Fc.2 ⟨l,h,Y⟩)) fun v d w' Y=>N v (fun p h1 O=> ?_) w' (Sat.Fc.2 ⟨_,?_,Y⟩)
 ·refine Classical.byContradiction fun J=>d ((CU (BH 0 (by decide)) (by omega)).2 fun p h1 O hm=>J ⟨p,h1,O,(h.i p).1 hm⟩)
 ·have:=(CU (BH 0 (by decide)) (by omega)).1 d p h1 O;rw[h.i]at this;simpa using this
 ·unfold II at v;exact h.Pb BH j (by omega) (by omega)
theorem V4(H:Sat (BG E b V::Z) w){x n:Int}(C:0<=x)(hx:x<18446744073709551616)(j:0<=n)(hn:n<18446744073709551616){K:Int->Int->World->Prop}
  (T: ¬Ez V x n-> ∀w',Sat (BG E b V::Z) w'->K 0 10 w')(O:Ez V x n-> ¬Gb V.fr x n-> ∀w',Sat (BG E b V::Z) w'->K 0 32 w')
  (J:Ez V x n->Gb V.fr x n-> ∀w',Sat (BG E b (V.take x n)::Z) w'->K (cr V.rl x n) 0 w'):F.B9 E (some ⟨b,0,none⟩) x n K w:=by
 obtain⟨l,h,H⟩:=Sat.Fc.1 H;have BH:=H.HO.2;obtain⟨l1,l2,l3,_,_⟩:=OO h BH C j true (e:=32) (by decide);refine Vy hE H C hx j hn (fun v w' N=> ?_) fun v w' N=> ?_
 ·have Y:=Sat.Fc.2 ⟨l,h,N⟩;by_cases g:Ez V x n
  ·by_cases d:Gb V.fr x n
   ·exact absurd (l3 g rfl d) v
   ·rw[l2 g rfl d];exact O g d w' Y
  ·rw[l1 g];exact T g w' Y
 ·have g:Ez V x n:=Classical.byContradiction fun g=>by rw[l1 g]at v;cases v
  have d:Gb V.fr x n:=Classical.byContradiction fun d=>by rw[l2 g rfl d]at v;cases v
  rw[<-Tm (BH 2 (by decide)) h.r j];have:=g.1;exact J g d w' (Sat.Fc.2 ⟨_,h.Kh (by omega),N⟩)
theorem OP(H:Sat (BG E b V::Z) w){n:Int}(d:0<=n)(N:n<18446744073709551616){K:Int->Int->Int->World->Prop}
  (J:n=0->K 0 0 1 w)(C:n≠0->(∀p,¬Gb V.fr p n)-> ∀w',Sat (BG E b V::Z) w'->K 0 0 30 w')
  (j:n≠0-> ∀p,Eh V n p-> ∀w',Sat (BG E b (V.take p n)::Z) w'->K p (cr V.rl p n) 0 w'):F.A1 E (some ⟨b,0,none⟩) n K w:=by
 obtain⟨l,h,H⟩:=Sat.Fc.1 H;have BH:=H.HO.2;refine Tl hE H d N J (fun h1 hf w' v=> ?_) fun h1 p hf w' v=> ?_
 ·rcases K2 h H (n:=n) (by omega)with ⟨_,g2⟩|⟨p,g1,g2⟩
  ·exact C h1 g2 w' (Sat.Fc.2 ⟨l,h,v⟩)
  ·rw[hf]at g1;cases g1
 ·rcases K2 h H (n:=n) (by omega)with ⟨g1,_⟩|⟨p',g1,g2⟩
  ·rw[hf]at g1;cases g1
  ·rw[hf]at g1;cases g1;rw[<-Tm (BH 2 (by decide)) h.r d];exact j h1 p g2 w' (Sat.Fc.2 ⟨_,h.Kh (by omega),v⟩)
theorem Pc(H:Sat (BG E b V::Z) w){x n:Int}(d:0<=x)(hx:x<18446744073709551616)(C:0<=n)(hn:n<18446744073709551616){K:Int->World->Prop}
  (T: ¬Ez V x n-> ∀w',Sat (BG E b V::Z) w'->K 10 w')(O:Ez V x n->(∃m,x<=m/\m<x+n/\V.fr m=true)-> ∀w',Sat (BG E b V::Z) w'->K 31 w')
  (J:Ez V x n->(∀m,x<=m->m<x+n->V.fr m=false)-> ∀w',Sat (BG E b (V.Ka x n)::Z) w'->K 0 w'):F.CB E (some ⟨b,0,none⟩) x n K w:=by
 obtain⟨l,h,H⟩:=Sat.Fc.1 H;have BH:=H.HO.2;obtain⟨l1,_,_,Y,l5⟩:=OO h BH d C false (e:=31) (by decide);have em: ∀(P:Prop),P∨ ¬P:=Classical.em;refine Vz hE H d hx C hn (fun v w' N=> ?_) fun v w' N=> ?_
 ·have HV:=Sat.Fc.2 ⟨l,h,N⟩;by_cases g:Ez V x n
  ·rcases em (∃m,x<=m/\m<x+n/\V.fr m=true)with j|j
   ·rw[Y g rfl j];exact O g j w' HV
   ·refine absurd (l5 g rfl fun m a c=> ?_) v;cases e:V.fr m with
    | false=>rfl
    | true=>exact absurd ⟨m,a,c,e⟩ j
  ·rw[l1 g];exact T g w' HV
 ·have g:Ez V x n:=Classical.byContradiction fun g=>by rw[l1 g]at v;cases v
  have j: ∀m,x<=m->m<x+n->V.fr m=false:=fun m a c=>by
   cases e:V.fr m with
   | false=>rfl
   | true=>rw[Y g rfl ⟨m,a,c,e⟩]at v;cases v
  have g1:=g.1;exact J g j w' (Sat.Fc.2 ⟨_,(h.JF BH d (by omega) g.2.1).1,N⟩)
theorem V5(H:Sat (BG E b V::Z) w){x n:Int}(d:0<=x)(hx:x<18446744073709551616)(C:0<=n)(hn:n<18446744073709551616){K:Int->World->Prop}
  (T: ¬Ez V x n-> ∀w',Sat (BG E b V::Z) w'->K 10 w')(O:Ez V x n->(∃m,x<=m/\m<x+n/\V.fr m=true)-> ∀w',Sat (BG E b V::Z) w'->K 31 w')
  (J:Ez V x n->(∀m,x<=m->m<x+n->V.fr m=false)-> ∀w',Sat (BG E b (V.back x n)::Z) w'->K 0 w'):F.Ca E (some ⟨b,0,none⟩) x n K w:=by
 obtain⟨l,h,H⟩:=Sat.Fc.1 H;have BH:=H.HO.2;obtain⟨l1,_,_,Y,l5⟩:=OO h BH d C false (e:=31) (by decide);have em: ∀(P:Prop),P∨ ¬P:=Classical.em;refine V0 hE H d hx C hn (fun v w' N=> ?_) fun v w' N=> ?_
 ·have HV:=Sat.Fc.2 ⟨l,h,N⟩;by_cases g:Ez V x n
  ·rcases em (∃m,x<=m/\m<x+n/\V.fr m=true)with j|j
   ·rw[Y g rfl j];exact O g j w' HV
   ·refine absurd (l5 g rfl fun m a c=> ?_) v;cases e:V.fr m with
    | false=>rfl
    | true=>exact absurd ⟨m,a,c,e⟩ j
  ·rw[l1 g];exact T g w' HV
 ·have g:Ez V x n:=Classical.byContradiction fun g=>by rw[l1 g]at v;cases v
  have j: ∀m,x<=m->m<x+n->V.fr m=false:=fun m a c=>by
   cases e:V.fr m with
   | false=>rfl
   | true=>rw[Y g rfl ⟨m,a,c,e⟩]at v;cases v
  have g1:=g.1;exact J g j w' (Sat.Fc.2 ⟨_,(h.JF BH d (by omega) g.2.1).2,N⟩)
structure MW(V:TV)(n p k:Int):Prop where
 k0:0<k
 kn:k<=n
 row:Gb V.idle p k
 last: ∀q,V.idle q=true->q<p+k
 chunk:p/512=(p+k-1)/512
 Ii:k=n∨p %512=0∨V.idle (p-1)=false
theorem V6(H:Sat (BG E b V::Z) w){n:Int}(aE:0<=n)(hn:n<18446744073709551616){K:Int->Int->World->Prop}
  (aC:n=0∨(∀p,V.idle p=false)->K 0 0 w)(aD: ∀p k,MW V n p k-> ∀w',Sat (BG E b (V.F5 p k)::Z) w'->K p k w'):F.BR E (some ⟨b,0,none⟩) n K w:=by
 obtain⟨l,h,H⟩:=Sat.Fc.1 H;obtain⟨Y,BH⟩:=H.HO;have d: ∀p,mem (l 3) p↔V.idle p=true:=fun p=>by
  rw[Y.idle,h.f,h.r];unfold TV.idle;cases V.fr p<;>cases V.rl p<;>simp
 refine V1 hE H aE hn (fun hz=>aC ?_) fun aH q r p k O e2 e3 e4 e5 w' H'=> ?_
 ·rcases hz with hz|hz
  ·refine .inr fun p=> ?_;have:=d p;rw[hz]at this;cases g:V.idle p with
   | false=>rfl
   | true=>exact absurd (this.2 g) (Ar p)
  ·exact .inl hz
 ·have JM:=BH 3 (by decide);rw[O]at JM;obtain⟨_,aA,N⟩:=DL.1 JM;have hq:=aA.mem (List.mem_singleton.2 rfl);have C: ∀x,mem (l 3) x->x<q.2:=fun x j=>by
   rw[O,mem_append]at j;rcases j with ⟨y,hy,h1,T⟩|j
   ·have:=N y hy q (List.mem_singleton.2 rfl);omega
   ·rcases mem_cons.1 j with h1|h1
    ·exact h1.2
    ·exact absurd h1 (Ar x)
  have J: ∀x,q.1<=x->x<q.2->mem (l 3) x:=fun x h1 T=>by rw[O,mem_append];exact .inr (mem_cons.2 (.inl ⟨h1,T⟩))
  have v:q.1=0∨ ¬mem (l 3) (q.1-1):=by
   right;intro j;rw[O,mem_append]at j;rcases j with ⟨y,hy,h1,T⟩|j
   ·have:=N y hy q (List.mem_singleton.2 rfl);omega
   ·rcases mem_cons.1 j with h1|h1
    ·omega
    ·exact absurd h1 (Ar _)
  have aF:q.2<=34359738368:=by
   have h1:=J (q.2-1) (by omega) (by omega);have:=Y.top _ (Y.free _ ((Y.idle _).1 h1).1);omega
  refine aD p k ⟨e4,by omega,fun m h1 T=>(d m).1 (J m (by omega) (by omega)),fun x j=>by have:=C x ((d x).2 j);omega,by omega,?_⟩ w' (Sat.Fc.2 ⟨_,?_,H'⟩)
  ·by_cases g:k=n
   ·exact .inl g
   ·by_cases g2:p %512=0
    ·exact .inr (.inl g2)
    ·right;right;have e:p=q.1:=by omega
     cases g3:V.idle (p-1)with
     | false=>rfl
     | true=>
      have hm:=(d _).2 g3;rw[e]at hm;rcases v with h1|h1
      ·omega
      ·exact absurd hm h1
  ·have a2:=Bo (BH 2 (by decide)) (a:=p) (b:=p+k) (by omega) (by omega) (by omega);refine⟨h.i,h.f,fun x=> ?_⟩;show mem (Bk (l 2) p (p+k)) x↔(V.rl x||inr p k x)=true;rw[a2,h.r,<-AU,Bool.or_eq_true]
end
end Go.Sh
set_option linter.all false
set_option maxRecDepth 4000
set_option maxHeartbeats 1000000
namespace Go.Sh
theorem bH{a b:Nat}(d:a<18446744073709551616)(j:b<18446744073709551616):E8 .u64 0 (a:Int) (b:Int)=((a&&&b:Nat):Int):=by
 show IntKind.wrap .u64 ((BitVec.ofInt 64 (a:Int)&&&BitVec.ofInt 64 (b:Int)).toNat:Int)=_;rw[BitVec.toNat_and,BitVec.ofInt_natCast,BitVec.ofInt_natCast,BitVec.toNat_ofNat,BitVec.toNat_ofNat,Nat.mod_eq_of_lt d,Nat.mod_eq_of_lt j];exact Ro (Nat.lt_of_le_of_lt Nat.and_le_left d)
theorem sU(a k:Nat)(j:k<=64):Int.fdiv (a:Int) (2^(min (Int.toNat (k:Int)) (IntKind.bits .u64)))=((a/2^k:Nat):Int):=by
 have d:IntKind.bits .u64=64:=rfl;rw[d,Int.toNat_natCast,Nat.min_eq_left j,Int.fdiv_eq_ediv_of_nonneg _ (Int.pow_nonneg (by decide)),Int.natCast_ediv,Int.natCast_pow];rfl
section
variable{E:Env}{w:World}{Z:List Pr}
theorem V7{u:Nat->Bool}(hT:GC E.AQ w){K:Int->World->Prop}(T:(∀i,i<64->u i=false)->K 64 w)
  (O: ∀r:Nat,r<64->u r=true->(∀i,i<r->u i=false)->K r w):F.Cl E (W u) K w:=by
 unfold F.Cl;refine CO (fun e=>T (GZ.1 e)) fun J=> ?_;have C:wN u 64≠0:=fun e=>J (by unfold W;rw[e];rfl);have d:=Jm u 64;obtain⟨h1,h2⟩:=Lib.lowest_bit 64 _ C d;obtain⟨c1,c2,c3⟩:=ZD C d;have hand:E8 .u64 0 (W u) (u64 (0-W u))=((2^Lib.ctz 64 (wN u 64):Nat):Int):=by
  have:=XN C d;rw[h1]at this;exact this
 rw[hand];generalize Lib.ctz 64 (wN u 64)=k at h2 c1 c2 c3;obtain⟨d1,d2⟩:=Lib.deBruijn64_at k c1;have e1:u64 (((2^k:Nat):Int)*285870213051353865)=((2^k*285870213051353865 %18446744073709551616:Nat):Int):=by
  rw[NU,Int.natCast_emod,Int.natCast_mul];rfl
 rw[e1];have Y:=sU (2^k*285870213051353865 %18446744073709551616) 58 (by decide);have N:(2:Nat)^58=288230376151711744:=by decide
 rw[N]at Y;have v:Int.fdiv ((2^k*285870213051353865 %18446744073709551616:Nat):Int) (2^(min (Int.toNat 58) (IntKind.bits .u64)))=((2^k*285870213051353865 %18446744073709551616/288230376151711744:Nat):Int):=Y;rw[v];generalize 2^k*285870213051353865 %18446744073709551616/288230376151711744=idx at d1 d2;have CC:=hT idx d1;rw[d2]at CC;refine⟨by decide,⟨by omega,by omega⟩,(k:Int),?_,?_⟩
 ·rw[Int.toNat_natCast,Nat.mul_one,add_eq,Nat.zero_add];exact CC
 ·rw[AN];refine O k c1 ?_ fun i hi=> ?_
  ·have:=c2;rw[DZ]at this;simpa[c1]using this
  ·have:=c3 i hi;rw[DZ]at this;have j:i<64:=by omega
   simpa[j]using this
theorem R5{u:Nat->Bool}(hu: ∀i,64<=i->u i=false){K:Int->World->Prop}(hK:K (cN u 64) w):F.DV E (W u) K w:=by
 unfold F.DV;have v:wN u 64<18446744073709551616:=Jm u 64;have f: ∀(a k d:Nat) (k':Int),k'=(k:Int)->k<=64->2^k=d->Int.fdiv (a:Int) (2^(min (Int.toNat k') (IntKind.bits .u64)))=((a/d:Nat):Int):=fun a k d k' e h hd=>by rw[e,<-hd];exact sU a k h
 have C: ∀{a:Nat},a<18446744073709551616->u64 (a:Int)=(a:Int):=fun h=>AG;have half: ∀(a d:Nat),a<18446744073709551616->a/d<18446744073709551616:=fun a d h=>Nat.lt_of_le_of_lt (Nat.div_le_self _ _) h;refine⟨by decide,AY fun x1 Y=>⟨by decide,AY fun x2 aB=>⟨by decide,AY fun x3 aC=>⟨by decide,AY fun x4 aD=>⟨by decide,AY fun x5 T=>⟨by decide,AY fun x6 O=>AY fun t ht=> ?_⟩⟩⟩⟩⟩⟩;have m1:(6148914691236517205:Int)=((6148914691236517205:Nat):Int):=rfl;have m2:(3689348814741910323:Int)=((3689348814741910323:Nat):Int):=rfl;have m3:(1085102592571150095:Int)=((1085102592571150095:Nat):Int):=rfl;have ew:W u=((wN u 64:Nat):Int):=rfl;obtain⟨x0,h0⟩: ∃x0,x0=wN u 64:=⟨_,rfl⟩;obtain⟨J,h1⟩: ∃J,J=(x0/2&&&6148914691236517205)+(x0&&&6148914691236517205):=⟨_,rfl⟩;obtain⟨y2,h2⟩: ∃y2,y2=(J/4&&&3689348814741910323)+(J&&&3689348814741910323):=⟨_,rfl⟩;obtain⟨y3,h3⟩: ∃y3,y3=(y2/16+y2)&&&1085102592571150095:=⟨_,rfl⟩;obtain⟨y4,h4⟩: ∃y4,y4=y3+y3/256:=⟨_,rfl⟩;obtain⟨N,h5⟩: ∃N,N=y4+y4/65536:=⟨_,rfl⟩;obtain⟨j,h6⟩: ∃j,j=N+N/4294967296:=⟨_,rfl⟩;obtain⟨l1,l2,l3,l4,l5,l6,l7⟩:=nP hu h0 h1 h2 h3 h4 h5 h6;rw[<-h0]at v ew;rw[ew,f x0 1 2 1 rfl (by decide) rfl,m1,bH (half x0 2 v) (by decide),bH v (by decide),<-Int.natCast_add,<-h1,C l1]at Y;subst Y;rw[f J 2 4 2 rfl (by decide) rfl,m2,bH (half J 4 l1) (by decide),bH l1 (by decide),<-Int.natCast_add,<-h2,C l2]at aB;subst aB;rw[f y2 4 16 4 rfl (by decide) rfl,<-Int.natCast_add,C l3,m3,bH l3 (by decide),<-h3]at aC;subst aC;rw[f y3 8 256 8 rfl (by decide) rfl,<-Int.natCast_add,<-h4,C l4]at aD;subst aD;rw[f y4 16 65536 16 rfl (by decide) rfl,<-Int.natCast_add,<-h5,C l5]at T;subst T;rw[f N 32 4294967296 32 rfl (by decide) rfl,<-Int.natCast_add,<-h6,C (Nat.lt_trans l6 (by decide))]at O;subst O;rw[AN]at ht;have e:E8 .i64 0 (j:Int) 127=((j %128:Nat):Int):=by
  show IntKind.wrap .i64 ((BitVec.ofInt 64 (j:Int)&&&BitVec.ofInt 64 ((127:Nat):Int)).toNat:Int)=_;rw[BitVec.toNat_and,BitVec.ofInt_natCast,BitVec.ofInt_natCast,BitVec.toNat_ofNat,BitVec.toNat_ofNat,Nat.mod_eq_of_lt (show j<2^64 from Nat.lt_trans l6 (by decide)),Nat.mod_eq_of_lt (by decide)];have:j&&&127=j %128:=Nat.and_two_pow_sub_one_eq_mod j 7;rw[this];exact AN
 rw[e,l7]at ht;subst ht;exact hK
def GJ(u:Nat->Bool)(i n:Nat):Prop:= ∀k,k<n->u (i+k)=true
theorem Tn{u:Nat->Bool}(hu: ∀i,64<=i->u i=false)(hT:GC E.AQ w){n:Int}(h1:1<=n)(h2:n<=64){K:Int->Bool->World->Prop}
  (aH:(∀i,¬GJ u i n.toNat)-> ∀r,K r false w)(aE: ∀i,GJ u i n.toNat->(∀j,GJ u j n.toNat->i<=j)->i+n.toNat<=64->K i true w):F.Eo E (W u) n K w:=by
 unfold F.Eo T0.Eo;refine AM (fun st w'=>w'=w/\ ∃v:Nat->Bool,st.1=W v/\(∀i,64<=i->v i=false)/\0<=st.2.2.1/\st.2.2.1<64/\st.2.1=st.2.2.1+1/\ ∀i,GJ v i (st.2.2.1.toNat+1)↔GJ u i n.toNat) (fun st _=>st.2.2.1.toNat)
  ⟨rfl,u,rfl,hu,?_,?_,?_,fun i=> ?_⟩ ?_
 ·show 0<=i64 (n-1);rw[AN];omega
 ·show i64 (n-1)<64;rw[AN];omega
 ·show n=i64 (n-1)+1;rw[AN];omega
 ·show GJ u i ((i64 (n-1)).toNat+1)↔_;rw[AN,show(n-1).toNat+1=n.toNat by omega]
 rintro⟨x,m,left,c⟩ _ w2 ⟨rfl,v,hx,hv,l0,l1,hm,C⟩;dsimp only at hx l0 l1 hm C⊢;subst hx;subst hm;refine AE (fun aI=>⟨by decide,AY fun IX aD=> ?_⟩) fun hz=> ?_
 ·rw[Int.tdiv_eq_ediv_of_nonneg (by omega),AN,NV,LP]at aD;have b0:1<=IX/\IX<=left/\2*IX<=left+1:=by omega
  refine⟨by omega,AY fun x' T=> ?_⟩;rw[a6 v (by omega) (by omega),a5]at T;rw[AN (n:=left+1-IX),AN (n:=left-IX)];refine⟨⟨by trivial,_,T,fun i hi=>by rw[hv i hi];rfl,by omega,by omega,by omega,fun i=> ?_⟩,by omega⟩;rw[<-C];have J: ∀j,(v j&&(decide (j+IX.toNat<64)&&v (j+IX.toNat)))=true↔v j=true/\v (j+IX.toNat)=true:=fun j=>by
   by_cases g:j+IX.toNat<64
   ·simp[g]
   ·have:=hv (j+IX.toNat) (by omega);simp[g,this]
  constructor
  ·intro h k hk;by_cases g:k<(left-IX).toNat+1
   ·exact((J _).1 (h k g)).1
   ·have:=((J _).1 (h (k-IX.toNat) (by omega))).2;rwa[show i+(k-IX.toNat)+IX.toNat=i+k by omega]at this
  ·intro h k hk;refine(J _).2 ⟨h k (by omega),?_⟩;have:=h (k+IX.toNat) (by omega);rwa[<-Nat.add_assoc]at this
 ·have e:left=0:=by omega
  subst e;have d: ∀i,v i=true↔GJ u i n.toNat:=fun i=>by
   rw[<-C];constructor
   ·intro h k hk;have:k=0:=by omega
    subst this;exact h
   ·intro h;exact h 0 (by decide)
  refine V7 hT (fun aA=> ?_) fun r hr N O=> ?_
  ·have e0:W v=0:=GZ.2 aA;rw[e0];refine aH (fun i hi=> ?_) 64;have:=(d i).2 hi;by_cases g:i<64
   ·rw[aA i g]at this;cases this
   ·rw[hv i (by omega)]at this;cases this
  ·have aC:W v≠0:=fun e=>by rw[GZ.1 e r hr]at N;cases N
   have e1:(W v !=0)=true:=by simpa using aC
   rw[e1];have aB:=(d r).1 N;refine aE r aB (fun j hj=> ?_) ?_
   ·refine Classical.byContradiction fun g=> ?_;have Y:=(d j).2 hj;rw[O j (by omega)]at Y;cases Y
   ·refine Classical.byContradiction fun g=> ?_;have Y:=aB (n.toNat-1) (by omega);rw[hu _ (by omega)]at Y;cases Y
structure CS where
 base:Int
 has:Nat->Bool
 rel:Nat->Bool
structure Lk(S:CS):Prop where
 b0:0<=S.base
 b1:S.base<34359738368
 lR:S.base %64=0
 hz: ∀i,64<=i->S.has i=false
 rh: ∀i,S.rel i=true->S.has i=true
def CS.nil:CS:=⟨0,fun _=>false,fun _=>false⟩
def CS.empty(S:CS):Prop:= ∀i,S.has i=false
def A0(E:Env)(c:Nat)(S:CS):Pr:=ID (Lk S) (Cells c E.EE [.int .u64 S.base,.int .u64 (W S.has),.int .u64 (W S.rel)])
theorem Lk.nil:Lk CS.nil:=⟨by decide,by decide,by decide,fun _ _=>rfl,fun _ h=>h⟩
theorem Sat.cache{c:Nat}{S:CS}:Sat (A0 E c S::Z) w↔Lk S/\Sat (Cells c E.EE [.int .u64 S.base,.int .u64 (W S.has),.int .u64 (W S.rel)]::Z) w:=Sat.where
theorem V8(H:Sat Z w){K:Option Addr->World->Prop}(d: ∀w' c,Sat (A0 E c CS.nil::Z) w'->K (some ⟨c,0,none⟩) w'):F.Hh E K w:=by
 unfold F.Hh;refine Am H fun c w' j _=>d w' c (Sat.cache.2 ⟨Lk.nil,?_⟩);have e:W CS.nil.has=0:=QY;have v:W CS.nil.rel=0:=QY;rw[e,v];exact j
variable{c t:Nat}{S:CS}{V:TV}
theorem Lk.emp(h:Lk S):W S.has=0↔S.empty:=by
 rw[GZ];constructor
 ·intro g i;by_cases e:i<64
  ·exact g i e
  ·exact h.hz i (by omega)
 ·intro g i _;exact g i
theorem IJ(H:Sat (A0 E c S::Z) w){K:Bool->World->Prop}(d:S.empty->K true w)(j: ¬S.empty->K false w):F.Cx E (some ⟨c,0,none⟩) K w:=by
 obtain⟨v,H⟩:=Sat.cache.1 H;unfold F.Cx;simp only[AI];refine⟨_,H.cell rfl,?_⟩;by_cases g:W S.has=0
 ·rw[show(W S.has==0)=true by simpa using g];exact d (v.emp.1 g)
 ·rw[show(W S.has==0)=false by simpa using g];exact j fun h=>g (v.emp.2 h)
theorem To(H:Sat (A0 E c S::Z) w){K:Int->Int->Int->World->Prop}(v:S.empty->K 0 0 0 w)(j: ¬S.empty-> ∀w',Sat (A0 E c S::Z) w'->K S.base (W S.has) (W S.rel) w'):F.CN E (some ⟨c,0,none⟩) K w:=by
 unfold F.CN T0.CN;refine IJ H (fun h=>Ao rfl (v h)) fun h=>Ab rfl ?_;have C:=H.drew;obtain⟨J,d⟩:=Sat.cache.1 C;simp only[AI];exact⟨_,d.BI rfl,_,d.cell rfl,_,d.cell rfl,j h _ C⟩
def CS.alloc(S:CS)(i n:Nat):CS:=⟨S.base,fun k=>S.has k&& !(decide (i<=k)&&decide (k<i+n)),fun k=>S.rel k&& !(decide (i<=k)&&decide (k<i+n))⟩
theorem V9{n:Int}(h1:1<=n)(j:n<=64){i:Nat}(d:i+n.toNat<=64):
  u64 ((Int.fdiv 18446744073709551615 (2^(min (Int.toNat (i64 (64-n))) (IntKind.bits .u64))))*2^(min (Int.toNat (i:Int)) (IntKind.bits .u64)))=W fun k=>decide (i<=k)&&decide (k<i+n.toNat):=by
 rw[AN (n:=64-n),<-cB,a6 _ (by omega) (by omega),a7 _ (by omega) (by omega)];refine IG fun k v=> ?_;rw[Int.toNat_natCast];by_cases g:i<=k
 ·have:decide (k-i+(64-n).toNat<64)=decide (k<i+n.toNat):=decide_eq_decide.2 (by omega);simp[g,this]
 ·simp[g]
theorem Xw{u v:Nat->Bool}{n:Nat}(h: ∀i,i<n->u i=v i):cN u n=cN v n:=by
 induction n with
 | zero=>rfl
 | succ n ih=>simp only[cN];rw[ih fun i d=>h i (by omega),h n (by omega)]
theorem R6(hT:GC E.AQ w)(H:Sat (A0 E c S::Z) w){n:Int}(aG: -9223372036854775808<=n)(aI:n<9223372036854775808){K:Int->Int->Int->World->Prop}
  (T:n<1∨64<n->K 0 0 1 w)(aC:1<=n->n<=64->(∀i,¬GJ S.has i n.toNat)->K 0 0 30 w)
  (Y:1<=n->n<=64-> ∀i,GJ S.has i n.toNat->(∀j,GJ S.has j n.toNat->i<=j)->i+n.toNat<=64-> ∀w',Sat (A0 E c (S.alloc i n.toNat)::Z) w'->
   K (S.base+i) (cN (fun k=>S.rel k&&(decide (i<=k)&&decide (k<i+n.toNat))) 64) 0 w'):F.B3 E (some ⟨c,0,none⟩) n K w:=by
 obtain⟨d,H⟩:=Sat.cache.1 H;unfold F.B3 T0.B3;refine Ax (AE (fun h j=>Ao rfl (T (.inl h))) fun g1 j=>AE (fun h=>T (.inr h)) fun g2=> ?_);simp only[AI];refine⟨_,H.cell rfl,Tn d.hz hT (by omega) (by omega) (fun aA r=>Ao rfl (aC (by omega) (by omega) aA)) fun i hr O N=>Ab rfl ⟨?_,by omega,AY fun mask hm=> ?_⟩⟩
 ·rw[AN (n:=64-n)];omega
 rw[V9 (by omega) (by omega) N]at hm;subst hm;refine⟨_,H.cell rfl,?_⟩;rw[a5];refine R5 (fun k J=> ?_) ?_
 ·have:S.rel k=false:=by
   cases g:S.rel k with
   | false=>rfl
   | true=>have:=d.rh k g;rw[d.hz k J]at this;cases this
  rw[this];rfl
 refine⟨_,H.cell rfl,Aj H rfl (by simp) fun aD C=> ?_⟩;simp only[List.set,Nat.zero_add]at C;rw[Rp]at C;refine⟨_,C.cell rfl,Aj C rfl (by simp) fun aB v=> ?_⟩;simp only[List.set,Nat.zero_add]at v;rw[Rp]at v;refine⟨_,v.BI rfl,?_⟩;have hb:=d.b0;have aH:=d.b1;rw[AG (n:=(i:Int)),AG (n:=S.base+(i:Int))];refine Y (by omega) (by omega) i hr O N aB (Sat.cache.2 ⟨⟨d.b0,d.b1,d.lR,fun k J=> ?_,fun k J=> ?_⟩,v⟩)
 ·show(S.has k&&_)=false;rw[d.hz k J];rfl
 ·have J:(S.rel k&& !(decide (i<=k)&&decide (k<i+n.toNat)))=true:=J;show(S.has k&& !(decide (i<=k)&&decide (k<i+n.toNat)))=true;rw[Bool.and_eq_true]at J⊢;exact⟨d.rh k J.1,J.2⟩
variable(hE:EnvS E)
include hE
theorem Tp(H:Sat (A0 E c S::BG E t V::Z) w){K:Int->World->Prop}
  (aL: ¬S.empty-> ∀w',Sat (A0 E c S::BG E t V::Z) w'->K 33 w')(aP:S.empty->(∀p,V.fr p=false)-> ∀w',Sat (A0 E c S::BG E t V::Z) w'->K 30 w')
  (aU:S.empty-> ∀p,Eh V 1 p-> ∀w',Sat (A0 E c ⟨p/64*64,fun i=>decide (i<64)&&V.fr (p/64*64+i),fun i=>decide (i<64)&&V.rl (p/64*64+i)⟩::BG E t (V.take (p/64*64) 64)::Z) w'->K 0 w'):
  F.Cn E (some ⟨c,0,none⟩) (some ⟨t,0,none⟩) K w:=by
 unfold F.Cn T0.Cn;have sw: ∀{A B:Pr} {w'},Sat (A::B::Z) w'->Sat (B::A::Z) w':=fun h=>h.perm (.swap _ _ _);refine V2 (sw H) (by decide) (fun d w3 H3=> ?_) fun _ p hp w3 H3=> ?_
 ·have d: ∀p,V.fr p=false:=fun p=>by
   rcases d with h|h
   ·cases h
   ·cases g:V.fr p with
    | false=>rfl
    | true=>exact absurd (fun m a b=>by rw[show m=p by omega];exact g) (h p)
  refine IJ (sw H3) (fun he=>Ab rfl (Ao rfl (aP he d w3 (sw H3)))) fun he=>Ao rfl (aL he w3 (sw H3))
 refine IJ (sw H3) (fun he=>Ab rfl (Ab rfl ⟨by decide,?_⟩)) fun he=>Ao rfl (aL he w3 (sw H3));have hv:=H3.lQ;have aT:=hp.1;have a0:=hp.2.1;obtain⟨hI,H4⟩:=Sat.cache.1 (sw H3);rw[Int.tdiv_eq_ediv_of_nonneg aT,AG (n:=p/64),AG (n:=p/64*64)];simp only[AI];generalize hB:p/64*64=B;have aH:0<=B/\B+64<=34359738368/\B %64=0:=by omega
 refine Gs H4 rfl (by simp) fun w7 H7=> ?_;simp only[List.set]at H7;have hz: ∀i,S.rel i=false:=fun i=>by
  cases g:S.rel i with
  | false=>rfl
  | true=>have:=hI.rh i g;rw[he i]at this;cases this
 have e1:W S.has=W fun i=>decide (i<0)&&V.fr (B+i):=IG fun i _=>by rw[he i];simp
 have e2:W S.rel=W fun i=>decide (i<0)&&V.rl (B+i):=IG fun i _=>by rw[hz i];simp
 rw[e1,e2]at H7;have Y:V=V.take B 0:=by
  have e: ∀q,inr B 0 q=false:=fun q=>Ey.2 (by omega);unfold TV.take;simp[e]
 refine AM (fun st w'=> ∃i:Nat,st.1=(i:Int)/\i<=64/\Sat (Cells c E.EE [.int .u64 B,.int .u64 (W fun k=>decide (k<i)&&V.fr (B+k)),.int .u64 (W fun k=>decide (k<i)&&V.rl (B+k))]::BG E t (V.take B i)::Z) w') (fun st _=>(64-st.1).toNat)
  ⟨0,rfl,by decide,by rw[show((0:Nat):Int)=0 from rfl,<-Y];exact H7⟩ ?_
 rintro⟨i',v⟩ _ w9 ⟨i,hi,aY,H9⟩;dsimp only at hi⊢;subst hi;refine AE (fun bA=>⟨B,H9.BI rfl,?_⟩) fun a2=> ?_
 ·rw[AG (n:=B+(i:Int)),AG (n:=(i:Int)+1)];have J:inr B i (B+i)=false:=Ey.2 (by omega);have aK:(V.take B i).fr (B+i)=V.fr (B+i):=by show(V.fr (B+i)&& !inr B i (B+i))=_;rw[J];simp
  have aS:(V.take B i).rl (B+i)=V.rl (B+i):=by show(V.rl (B+i)&& !inr B i (B+i))=_;rw[J];simp
  have C: ∀q,inr B ((i+1:Nat):Int) q=(inr B i q||inr (B+i) 1 q):=fun q=>by
   rw[Bool.eq_iff_iff,Bool.or_eq_true,AU,AU,AU];omega
  have T:V.fr (B+i)=false-> ∀{w'},Sat (BG E t (V.take B i)::Cells c E.EE [.int .u64 B,.int .u64 (W fun k=>decide (k<i)&&V.fr (B+k)),.int .u64 (W fun k=>decide (k<i)&&V.rl (B+k))]::Z) w'->
    (∃j:Nat,(i:Int)+1=(j:Int)/\j<=64/\Sat (Cells c E.EE [.int .u64 B,.int .u64 (W fun k=>decide (k<j)&&V.fr (B+k)),.int .u64 (W fun k=>decide (k<j)&&V.rl (B+k))]::BG E t (V.take B j)::Z) w')/\(64-((i:Int)+1)).toNat<(64-(i:Int)).toNat:=fun hf w' h=>by
   refine⟨⟨i+1,by omega,by omega,?_⟩,by omega⟩;have hr:V.rl (B+i)=false:=by
    cases g:V.rl (B+i)with
    | false=>rfl
    | true=>have:=hv.rf _ g;rw[hf]at this;cases this
   have f1:W (fun k=>decide (k<i+1)&&V.fr (B+k))=W fun k=>decide (k<i)&&V.fr (B+k):=IG fun k _=>by
    by_cases e:k=i
    ·subst e;simp[hf]
    ·have:decide (k<i+1)=decide (k<i):=decide_eq_decide.2 (by omega);rw[this]
   have f2:W (fun k=>decide (k<i+1)&&V.rl (B+k))=W fun k=>decide (k<i)&&V.rl (B+k):=IG fun k _=>by
    by_cases e:k=i
    ·subst e;simp[hr]
    ·have:decide (k<i+1)=decide (k<i):=decide_eq_decide.2 (by omega);rw[this]
   have f3:V.take B ((i+1:Nat):Int)=V.take B i:=by
    unfold TV.take;congr 1
    ·funext q;rw[C];by_cases e:q=B+i
     ·rw[e,hf];rfl
     ·have:inr (B+i) 1 q=false:=Ey.2 (by omega);rw[this,Bool.or_false]
    ·funext q;rw[C];by_cases e:q=B+i
     ·rw[e,hr];rfl
     ·have:inr (B+i) 1 q=false:=Ey.2 (by omega);rw[this,Bool.or_false]
   rw[f1,f2,f3];exact sw h
  refine V4 hE (sw H9) (by omega) (by omega) (by decide) (by decide) (fun d aI O=> ?_) (fun aQ d aI O=> ?_) fun aQ aE aI O=> ?_
  ·refine Ab (by decide) (T ?_ O);cases g:V.fr (B+i)with
   | false=>rfl
   | true=>exact absurd ⟨by decide,by omega,fun m a b=>by rw[show m=B+i by omega];exact hv.fi _ g⟩ d
  ·refine Ab (by decide) (T ?_ O);cases g:V.fr (B+i)with
   | false=>rfl
   | true=>exact absurd (fun m a b=>by rw[show m=B+i by omega,aK];exact g) d
  ·have hf:V.fr (B+i)=true:=by rw[<-aK];exact aE _ (Int.le_refl _) (by omega)
   rw[gT,aS];have aD:=sw O;have aC: ∀(u:Nat->Bool),u64 (1*2^(min (Int.toNat (i:Int)) (IntKind.bits .u64)))=W fun k=>decide (i<=k)&&(k-i==0):=fun _=>by
    have:=a7 (fun k=>k==0) (n:=(i:Int)) (by omega) (by omega);rw[jI,Int.toNat_natCast]at this;exact this
   have aF: ∀f:Int->Bool,f (B+i)=true->W (fun k=>(decide (k<i)&&f (B+k))||(decide (i<=k)&&(k-i==0)))=W fun k=>decide (k<i+1)&&f (B+k):=fun f aR=>IG fun k _=>by
    by_cases e:k=i
    ·subst e;simp[aR]
    ·by_cases e2:k<i
     ·have: ¬(i<=k):=by omega
      have h3:k<i+1:=by omega
      simp[e2,this,h3]
     ·have h3: ¬(k<i+1):=by omega
      have h4: ¬(k-i=0):=by omega
      simp[e2,h3,h4]
   refine Ao (by decide) ⟨_,aD.cell rfl,by omega,Aj aD rfl (by simp) fun a9 aG=>⟨_,(by exact aG.cell rfl),by omega,Aj aG rfl (by simp) fun a5 N=> ?_⟩⟩;simp only[List.set,Nat.zero_add]at N;rw[aC (fun _=>false),cC,aF V.fr hf]at N;have aJ:E8 .u64 1 (W fun k=>decide (k<i)&&V.rl (B+k)) (u64 ((if V.rl (B+i)=true then 1 else 0)*2^(min (Int.toNat (i:Int)) (IntKind.bits .u64))))=W fun k=>decide (k<i+1)&&V.rl (B+k):=by
    cases g:V.rl (B+i)with
    | true=>rw[if_pos rfl,aC (fun _=>false),cC,aF V.rl g]
    | false=>
     rw[if_neg (by decide),Int.zero_mul,show u64 0=0 from rfl,<-QY,cC];refine IG fun k _=> ?_;by_cases e:k=i
     ·subst e;simp[g]
     ·have:decide (k<i+1)=decide (k<i):=decide_eq_decide.2 (by omega);rw[this,Bool.or_false]
   rw[aJ]at N;have f3:(V.take B i).take (B+i) 1=V.take B ((i+1:Nat):Int):=by
    unfold TV.take;congr 1
    ·funext q;rw[C];show(V.fr q&& !inr B i q&& !inr (B+i) 1 q)=(V.fr q&& !(inr B i q||inr (B+i) 1 q));cases V.fr q<;>cases inr B i q<;>cases inr (B+i) 1 q<;>rfl
    ·funext q;rw[C];show(V.rl q&& !inr B i q&& !inr (B+i) 1 q)=(V.rl q&& !(inr B i q||inr (B+i) 1 q));cases V.rl q<;>cases inr B i q<;>cases inr (B+i) 1 q<;>rfl
   rw[f3]at N;exact⟨⟨i+1,by omega,by omega,N⟩,by omega⟩
 ·have e:i=64:=by omega
  subst e;have:=aU he p hp w9;rw[hB]at this;refine this (Sat.cache.2 ⟨⟨aH.1,by show B<_;omega,aH.2.2,fun i hi=> ?_,fun i hi=> ?_⟩,H9⟩)
  ·show(decide (i<64)&&_)=false;have: ¬(i<64):=by omega
   simp[this]
  ·have hi:(decide (i<64)&&V.rl (B+i))=true:=hi;show(decide (i<64)&&V.fr (B+i))=true;rw[Bool.and_eq_true]at hi⊢;exact⟨hi.1,hv.rf _ hi.2⟩
def CS.own(S:CS)(p:Int):Bool:=inr S.base 64 p&&S.has (p-S.base).toNat
def CS.Ll(S:CS)(p:Int):Bool:=inr S.base 64 p&&S.rel (p-S.base).toNat
def TV.flush(V:TV)(S:CS):TV:=⟨V.Fb,fun p=>V.fr p||S.own p,fun p=>V.rl p||S.Ll p⟩
end
end Go.Sh

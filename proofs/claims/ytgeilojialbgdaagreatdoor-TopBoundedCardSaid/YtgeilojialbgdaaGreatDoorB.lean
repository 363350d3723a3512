/- The map of arenas does what its chunks and owners say. No further condition. -/
import Derived.Test.YtgeilojialbgdaaGreatDoorS
import Derived.Test.YtgeilojialbgdaaGreatDoorM
import Derived.Test.YtgeilojialbgdaaGreatDoorA
set_option linter.all false
set_option maxRecDepth 50000
set_option maxHeartbeats 1000000
namespace Go.Sh
abbrev Wd:=List (Int×Int×Int)
def flat3:Wd->List Value
 | []=>[]
 | p::r=>.int .u64 p.1:: .int .u64 p.2.1:: .int .i64 p.2.2::flat3 r
def NQ: ∀l:Wd,(flat3 l).length=l.length*3
 | []=>rfl
 | p::r=>by simp[flat3,NQ r];omega
def RI: ∀l m:Wd,flat3 (l++m)=flat3 l++flat3 m
 | [],_=>rfl
 | p::r,m=>by simp[flat3,RI r m]
def W4: ∀(l:Wd) (i:Nat) (p:Int×Int×Int),l[i]? =some p->
  (flat3 l)[i*3]? =some (.int .u64 p.1)/\(flat3 l)[i*3+1]? =some (.int .u64 p.2.1)/\(flat3 l)[i*3+2]? =some (.int .i64 p.2.2)
 | [],i,p,h=>by simp at h
 | q::r,0,p,h=>by simp at h;subst h;simp[flat3]
 | q::r,i+1,p,h=>by
  have:=W4 r i p (by grind);rw[show(i+1)*3=i*3+1+1+1 from by omega];simpa[flat3]using this
def wholeL:Wd->Int->Int
 | [],_=>0
 | p::r,c=>if p.1<=c/\c<p.2.1 then p.2.2 else wholeL r c
def Kb(p:Int×Int×Int)(a b:Int):Wd:=
 if p.2.1<=a∨b<=p.1 then [p]else(if p.1<a then [(p.1,a,p.2.2)]else [])++(if b<p.2.1 then [(b,p.2.1,p.2.2)]else [])
def wcut:Wd->Int->Int->Wd
 | [],_,_=>[]
 | p::r,a,b=>Kb p a b++wcut r a b
def W5{l m:Wd}{c:Int}(h: ∃p∈l,p.1<=c/\c<p.2.1):wholeL (l++m) c=wholeL l c:=by
 induction l with
 | nil=>grind
 | cons p r ih=>
  simp only[List.cons_append,wholeL]
  grind
def QC{l m:Wd}{c:Int}(h: ¬ ∃p∈l,p.1<=c/\c<p.2.1):wholeL (l++m) c=wholeL m c:=by
 induction l with
 | nil=>rfl
 | cons p r ih=>
  simp only[List.cons_append,wholeL]
  grind
def Zu{l:Wd}{c:Int}(h: ∀p∈l,¬(p.1<=c/\c<p.2.1)):wholeL l c=0:=by
 induction l with
 | nil=>rfl
 | cons p r ih=>rw[wholeL,if_neg (h p (by simp)),ih λq a=>h q (by simp[a])]
def RJ{p:Int×Int×Int}{a b c:Int}(j:a<b):
  (∃q∈Kb p a b,q.1<=c/\c<q.2.1)↔(p.1<=c/\c<p.2.1)/\ ¬(a<=c/\c<b):=by
 unfold Kb;split
 .grind
 .rename_i h;simp only[List.mem_append];constructor
  .grind
  .rintro⟨⟨h1,e⟩,u⟩;by_cases h4:c<a
   .exact⟨(p.1,a,p.2.2),.inl (by grind),h1,h4⟩
   .exact⟨(b,p.2.1,p.2.2),.inr (by grind),by simp only;omega,e⟩
def Tf{p:Int×Int×Int}{a b c:Int}(h: ∃q∈Kb p a b,q.1<=c/\c<q.2.1):wholeL (Kb p a b) c=p.2.2:=by
 have Kv: ∀q∈Kb p a b,q.2.2=p.2.2:=by
  intro q e;unfold Kb at e
  grind
 have key: ∀l:Wd,(∀q∈l,q.2.2=p.2.2)->(∃q∈l,q.1<=c/\c<q.2.1)->wholeL l c=p.2.2:=by
  intro l
  induction l with
  | nil=>grind
  | cons q r ih=>
   intro h1 j;rw[wholeL]
   grind
 grind
def MF{l:Wd}{a b:Int}(j:a<b)(c:Int):wholeL (wcut l a b) c=if a<=c/\c<b then 0 else wholeL l c:=by
 induction l with
 | nil=>simp[wcut,wholeL]
 | cons p r ih=>
  rw[wcut];by_cases h1:(p.1<=c/\c<p.2.1)/\ ¬(a<=c/\c<b)
  .have e:=(RJ j).2 h1;rw[W5 e,if_neg h1.2,wholeL,if_pos h1.1];exact Tf e
  .rw[QC λe=>h1 ((RJ j).1 e),ih];split
   .rfl
   .rename_i e;rw[wholeL,if_neg λu=>h1 ⟨u,e⟩]
def jS(l:Wd):Prop:=(∀p∈l,0<=p.1/\p.1<p.2.1/\p.2.1<=67108864)/\l.Pairwise λp q=>p.2.1<=q.1∨q.2.1<=p.1
def RK{p q:Int×Int×Int}{a b:Int}(j:p.1<p.2.1)(e:a<b)(h:q∈Kb p a b):p.1<=q.1/\q.1<q.2.1/\q.2.1<=p.2.1/\(q.2.1<=a∨b<=q.1):=by
 unfold Kb at h
 grind
def MG{l:Wd}{q:Int×Int×Int}{a b:Int}(j:jS l)(e:a<b)(h:q∈wcut l a b): ∃p∈l,p.1<=q.1/\q.1<q.2.1/\q.2.1<=p.2.1/\(q.2.1<=a∨b<=q.1):=by
 induction l with
 | nil=>cases h
 | cons p r ih=>
  rcases List.mem_append.1 h with h|h
  .exact⟨p,by simp,RK (j.1 p (by simp)).2.1 e h⟩
  .obtain⟨K,u,J⟩:=ih ⟨λx v=>j.1 x (by simp[v]),(List.pairwise_cons.1 j.2).2⟩ h
   grind
def Zv{l:Wd}{a b:Int}(h:jS l)(e:a<b):jS (wcut l a b):=by
 refine⟨λq u=> ?_,?_⟩
 .obtain⟨p,K,h1⟩:=MG h e u;have:=h.1 p K;omega
 .induction l with
  | nil=>exact List.Pairwise.nil
  | cons p r ih=>
   have J:jS r:=⟨λx O=>h.1 x (by simp[O]),(List.pairwise_cons.1 h.2).2⟩;rw[wcut,List.pairwise_append];refine⟨?_,ih J,λq u q' v=> ?_⟩
   .unfold Kb;split
    .simp
    .split<;>split<;>simp;omega
   .have h1:=RK (h.1 p (by simp)).2.1 e u;obtain⟨T,j,Y⟩:=MG J e v;have:=(List.pairwise_cons.1 h.2).1 T j;omega
def Uy: ∀(n:Nat) (l:List Int),l.Nodup->(∀x∈l,0<=x/\x<n)->l.length<=n
 | 0,[],_,_=>Nat.le_refl _
 | 0,x::r,_,h=>by have:=h x (by simp);omega
 | n+1,l,hn,h=>by
  have h1:(l.erase (n:Int)).length<=n:=Uy n _ (hn.erase _) λx a=>by grind
  grind
def jS.len{l:Wd}(h:jS l):l.length<=67108864:=by
 have h1:=Uy 67108864 (l.map (·.1)) ?_ ?_
 .grind
 .have u:=h.1;have j:=h.2;clear h
  induction l with
  | nil=>simp
  | cons p r ih=>
   rw[List.map_cons,List.nodup_cons];refine⟨λhm=> ?_,ih (λx e=>u x (by simp[e])) (List.pairwise_cons.1 j).2⟩;obtain⟨q,a,he⟩:=List.mem_map.1 hm;have v:=(List.pairwise_cons.1 j).1 q a
   grind
 .intro x e;obtain⟨q,a,rfl⟩:=List.mem_map.1 e;have:=h.1 q a;omega
def Uz{l m:Wd}:jS (l++m)↔jS l/\jS m/\ ∀p∈l,∀q∈m,p.2.1<=q.1∨q.2.1<=p.1:=by
 simp only[jS,List.pairwise_append,List.mem_append]
 grind
def Zw(l m:Wd)(a b:Int):wcut (l++m) a b=wcut l a b++wcut m a b:=by
 induction l with
 | nil=>rfl
 | cons p r ih=>simp[wcut,ih]
structure WideAt(E:Env)(w:World)(b:Nat)(s:AY)(ws:Wd):Prop where
 c2:w.cell? ⟨b,2,none⟩=some (.slice s.base s.len s.cap)
 f2:w.frozen? ⟨b,2,none⟩=false
 own:I2 w 0 E.BF 3 s (flat3 ws)
 ok:jS ws
 apart: ∀a,s.base=some a->a.block≠b
def WideAt.len{E:Env}{w:World}{b:Nat}{s:AY}{ws:Wd}(h:WideAt E w b s ws):s.len=ws.length:=by
 have:=h.own.len;rw[NQ]at this;omega
def WideAt.lt{E:Env}{w:World}{b:Nat}{s:AY}{ws:Wd}(h:WideAt E w b s ws):b<w.heap.size:=World.block_lt_of_cell? w _ h.c2
def WideAt.ext{E:Env}{w w':World}{b:Nat}{s:AY}{ws:Wd}{S:Nat->Prop}(h:WideAt E w b s ws)(he:Ext S w w')(e: ¬S b)(u: ∀a,s.base=some a-> ¬S a.block):WideAt E w' b s ws:=
 ⟨he.cell h.c2 e,by rw[he.frozen (p:=⟨b,2,none⟩) h.lt e];exact h.f2,h.own.ext he λg j=>u _ j,h.ok,h.apart⟩
def WideAt.cells{E:Env}{w:World}{b:Nat}{s:AY}{ws:Wd}(h:WideAt E w b s ws){i:Nat}{q:Int×Int×Int}(hi:ws[i]? =some q):
  ∃r,s.base=some ⟨r,0,none⟩/\w.cell? ⟨r,i*3,none⟩=some (.int .u64 q.1)/\w.cell? ⟨r,i*3+1,none⟩=some (.int .u64 q.2.1)/\w.cell? ⟨r,i*3+2,none⟩=some (.int .i64 q.2.2):=by
 have a:=h.own.rowAt;obtain⟨g1,g2,g3⟩:=W4 ws i q hi;rcases h.own.row with ⟨h1,e⟩|⟨b,cs,h1,_⟩
 .rw[h1]at a;have:flat3 ws=[]:=a
  grind
 .rw[h1]at a;refine⟨b,h1,?_,?_,?_⟩
  .have:=a.2 _ _ g1;rwa[add_eq,Nat.zero_add]at this
  .have:=a.2 _ _ g2;rwa[add_eq,Nat.zero_add]at this
  .have:=a.2 _ _ g3;rwa[add_eq,Nat.zero_add]at this
def U0{E:Env}{w:World}{b:Nat}{s:AY}{ws:Wd}(h:WideAt E w b s ws){c:Int}{K:Int->World->Prop}(hK: ∀w',Ext AN w w'->K (wholeL ws c) w'):
  F.HQ E (sM b) c K w:=by
 unfold F.HQ;simp only[AK,add_eq,Nat.zero_add];have hlen:=h.len;have hsm:=h.ok.len;refine⟨s,h.c2,AM (λst w'=> ∃k:Nat,st.1=(k:Int)/\k<=ws.length/\wholeL ws c=wholeL (ws.drop k) c/\Ext AN w w') (λst _=>(ws.length-st.1).toNat) ⟨0,rfl,Nat.zero_le _,rfl,Ext.refl _ _⟩ ?_⟩;rintro⟨i,u⟩ _ w4 ⟨k,hk,aN,j,J⟩;simp only at hk⊢;subst hk;have h4:=h.ext J (λf=>f) λ_ _ f=>f;refine AE (λaP=> ?_) (λaM=> ?_)
 .have hl:k<ws.length:=by omega
  have hg:=List.getElem?_eq_getElem hl;obtain⟨r,hr,aD,aE,aF⟩:=h4.cells hg;rw[hr];simp only[AK,add_eq,Nat.zero_add,Int.toNat_natCast,Nat.add_zero];refine⟨⟨by omega,by omega⟩,_,aD,_,aE,_,aF,A4 λaT O aG Y=> ?_⟩;refine HL _ _ _ _ _ _ _ O (by simp) (by intro v hv;simp at hv;rcases hv with rfl|rfl|rfl<;>rfl) λaC aA aH a=> ?_;simp at a;have aB:Ext AN w aC:=(J.trans' Y).trans aA (λ_ _ f=>f) λi hi e=>by have:i=w4.heap.size:=e;have:=J.size;omega
  refine AV (λst w'=>w'=aC/\(st.1=true↔ws[k].1<=c/\c<ws[k].2.1)) ?_ ?_
  .refine⟨ws[k].1,by rw[AU,AS a];rfl,AE (λh1=> ?_) (λh1=> ?_)⟩
   .refine⟨ws[k].2.1,by rw[AU,AS a];rfl,rfl,?_⟩
    grind
   .refine⟨rfl,?_⟩
    grind
  .rintro⟨bt,u⟩ _ aU ⟨rfl,T⟩;simp only at T⊢;have hd:=ZS hg;refine AX (λht=> ?_) (λhf=> ?_)
   .refine⟨ws[k].2.2,by rw[AU,AS a];rfl,?_⟩;have:wholeL ws c=ws[k].2.2:=by rw[j,hd,wholeL,if_pos (T.1 ht)]
    grind
   .have hn: ¬(ws[k].1<=c/\c<ws[k].2.1):=λh=>by grind
    refine⟨⟨k+1,by rw[AI];omega,by omega,by rw[j,hd,wholeL,if_neg hn],aB⟩,by rw[AI];omega⟩
 .have:ws.drop k=[]:=List.drop_eq_nil_of_le (by omega);rw[this]at j;have:wholeL ws c=0:=j
  grind
def RL{E:Env}{w:World}{B g:Nat}{s:AY}{m:Wd}{q:Int×Int×Int}{K:AY->World->Prop}(a:I2 w B E.BF 3 s (flat3 m))
  (O:w.heap[g]? =some (.cells ⟨[.int .u64 q.1,.int .u64 q.2.1,.int .i64 q.2.2]⟩ E.BF))(j:B<=w.heap.size)(hm:m.length<=67108865)
  (u: ∀s' w',I2 w' B E.BF 3 s' (flat3 (m++[q]))->Ext (KY s) w w'->(s'.base=s.base∨ ∃b,s'.base=some ⟨b,0,none⟩/\w.heap.size<=b)->K s' w'):
  APP E.BF 3 24 #[.int .u64 0,.int .u64 0,.int .i64 0] s ⟨some ⟨g,0,none⟩,1,1⟩ w K:=by
 have T:=a.len;rw[NQ]at T;refine Qj (news:=[.int .u64 q.1,.int .u64 q.2.1,.int .i64 q.2.2]) rfl a (OV O rfl) rfl (by intro v e;simp at e;rcases e with rfl|rfl|rfl<;>rfl) j (by grind) (by grind) ?_;intro s' w' ho Y he J;refine u s' w' ?_ he J;rw[RI];exact ho
def Zx{l:Wd}{a b:Int}(h:jS l)(e:a<b):(wcut l a b).length<=67108864:=(Zv h e).len
def mO{l:Wd}(h:jS l)(k:Nat):jS (l.take k):=by
 have h1:=h;rw[<-List.take_append_drop k l,Uz]at h1;exact h1.1
structure MapG where
 s:AY
 ks:Iv
 sw:AY
 ws:Wd
 mb:Nat
 lv:Int->Option (Nat×(Int->Int))
structure HE(E:Env)(w:World)(b:Nat)(G:MapG):Prop where
 set:Jk E w b 0 G.s G.ks
 wide:WideAt E w b G.sw G.ws
 c3:w.cell? ⟨b,3,none⟩=some (.map (some G.mb))
 map: ∃es c m,w.heap[G.mb]? =some (.map es c)/\MapI .u64 es c m/\ ∀k,aget m k=(G.lv k).map λq=>.pointer (sM q.1)
 leaf: ∀k q,G.lv k=some q-> ∀i:Nat,i<512->w.cell? ⟨q.1,i,none⟩=some (.int .i64 (q.2 i))/\w.frozen? ⟨q.1,i,none⟩=false
 inj: ∀k k' q q',G.lv k=some q->G.lv k'=some q'->q.1=q'.1->k=k'
 d1: ∀k,KY G.s k-> ¬KY G.sw k
 d2: ∀k q,G.lv k=some q->q.1≠b/\ ¬KY G.s q.1/\ ¬KY G.sw q.1
section
variable{E:Env}{w w':World}{b:Nat}{G:MapG}
def HE.lt(h:HE E w b G):b<w.heap.size:=h.wide.lt
def HE.mne(h:HE E w b G):G.mb≠b:=by
 rintro e;obtain⟨es,c,m,h1,_⟩:=h.map;rw[e]at h1;exact Q8 h1 h.c3
def HE.ms(h:HE E w b G): ¬KY G.s G.mb:=by
 obtain⟨es,c,m,h1,_⟩:=h.map;exact h.set.row.own.Xu h1
def HE.mw(h:HE E w b G): ¬KY G.sw G.mb:=by
 obtain⟨es,c,m,h1,_⟩:=h.map;exact h.wide.own.Xu h1
def HE.ml(h:HE E w b G){k:Int}{q:Nat×(Int->Int)}(a:G.lv k=some q):q.1≠G.mb:=by
 rintro e;obtain⟨es,c,m,h1,_⟩:=h.map;rw[<-e]at h1;exact Q8 h1 (h.leaf k q a 0 (by decide)).1
def HE.mlt(h:HE E w b G):G.mb<w.heap.size:=by
 obtain⟨es,c,m,h1,_⟩:=h.map
 grind
def Jm(b:Nat)(G:MapG)(k:Nat):Prop:=k=b∨k=G.mb∨KY G.s k∨KY G.sw k∨ ∃c q,G.lv c=some q/\k=q.1
def HE.PM(h:HE E w b G){k:Nat}(a:Jm b G k):k<w.heap.size:=by
 rcases a with rfl|rfl|a|a|⟨c,q,a,rfl⟩
 .exact h.lt
 .exact h.mlt
 .exact(h.set.row.own.EC a).2
 .exact(h.wide.own.EC a).2
 .exact World.block_lt_of_cell? w _ (h.leaf c q a 0 (by decide)).1
def HE.ext{S:Nat->Prop}(h:HE E w b G)(he:Ext S w w')(hS: ∀k,Jm b G k-> ¬S k):HE E w' b G:=by
 have u: ¬S b:=hS b (.inl rfl);refine⟨h.set.ext he u λa j=>hS _ (.inr (.inr (.inl ⟨a,j,rfl⟩))),h.wide.ext he u λa j=>hS _ (.inr (.inr (.inr (.inl ⟨a,j,rfl⟩)))),he.cell h.c3 u,?_,?_,h.inj,h.d1,h.d2⟩
 .obtain⟨es,c,m,h1,e⟩:=h.map;exact⟨es,c,m,he.obj h1 (hS _ (.inr (.inl rfl))),e⟩
 .intro k q v i hi;obtain⟨h1,e⟩:=h.leaf k q v i hi;have J: ¬S q.1:=hS _ (.inr (.inr (.inr (.inr ⟨k,q,v,rfl⟩))));exact⟨he.cell h1 J,by rw[he.frozen (World.block_lt_of_cell? w _ h1) J];exact e⟩
def HE.E9(h:HE E w b G)(he:Ext AN w w'):HE E w' b G:=h.ext he λ_ _ f=>f
end
def MapG.cut(G:MapG)(a c:Int)(sw:AY):MapG:={G with sw:=sw,ws:=wcut G.ws a c,lv:=λk=>if a<=k/\k<c then none else G.lv k}
def W6{E:Env}{w:World}{b:Nat}{G:MapG}(h:HE E w b G){a c:Int}(ha:0<=a)(bF:a<c)(hc:c<=67108864){K:World->Prop}
  (hK: ∀w' b6,HE E w' b (G.cut a c b6)->Ext (λk=>k=b∨k=G.mb) w w'->(∀k,KY b6 k->w.heap.size<=k)->K w'):
  F.It E (sM b) a c K w:=by
 unfold F.It;simp only[AK,add_eq,Nat.zero_add];have hlen:=h.wide.len;have hsm:=h.wide.ok.len;have cU:=h.lt;refine⟨G.sw,h.wide.c2,AM (λst w'=> ∃k:Nat,st.2.1=(k:Int)/\k<=G.ws.length/\I2 w' w.heap.size E.BF 3 st.1 (flat3 (wcut (G.ws.take k) a c))/\Ext AN w w')
  (λst _=>(G.ws.length-st.2.1).toNat) ⟨0,rfl,Nat.zero_le _,I2.nil _ _ _ _,Ext.refl _ _⟩ ?_⟩
 rintro⟨s3,i,u⟩ _ w4 ⟨k,hk,aA,Y,aX⟩;simp only at hk Y⊢;subst hk;refine AE (λcF=> ?_) (λcD=> ?_)
 .have hl:k<G.ws.length:=by omega
  have hg:=List.getElem?_eq_getElem hl;have h4:=h.E9 aX;obtain⟨r,hr,bZ,b0,b1⟩:=h4.wide.cells hg;generalize hq:G.ws[k]=q at hg bZ b0 b1;have cJ:q∈G.ws:=List.mem_of_getElem? hg;have c1:=h.wide.ok.1 q cJ;have bB:G.ws.take (k+1)=G.ws.take k++[q]:=Gb hg;have aK:wcut (G.ws.take (k+1)) a c=wcut (G.ws.take k) a c++Kb q a c:=by rw[bB,Zw];simp[wcut]
  have c7:(wcut (G.ws.take k) a c).length<=67108864:=Zx (mO h.wide.ok k) bF;rw[hr];simp only[AK,add_eq,Nat.zero_add,Int.toNat_natCast,Nat.add_zero];refine⟨⟨by omega,by omega⟩,_,bZ,_,b0,_,b1,A4 λdA bH cK a0=> ?_⟩;refine HL _ _ _ _ _ _ _ bH (by simp) (by intro v hv;simp at hv;rcases hv with rfl|rfl|rfl<;>rfl) λbD a1 cL O=> ?_;simp at O;have aJ:Ext AN w bD:=(aX.trans' a0).trans a1 (λ_ _ f=>f) λi hi e=>by have:i=w4.heap.size:=e;have:=aX.size;omega
  have T:I2 bD w.heap.size E.BF 3 s3 (flat3 (wcut (G.ws.take k) a c)):=(Y.ext a0 λ_ _ f=>f).ext a1 λg a6 e=>by
   have:=Y.lt a6;have:g=w4.heap.size:=e;grind
  have bR: ∀g,s3.base=some ⟨g,0,none⟩->g≠w4.heap.size:=λg a6 e=>by have:=Y.lt a6;grind
  refine AV (λst w'=>w'=bD/\(st.1=true↔q.2.1<=a∨c<=q.1)) ?_ ?_
  .refine⟨q.2.1,by rw[AU,AS O];rfl,AE (λh1=> ?_) (λh1=> ?_)⟩
   .refine⟨rfl,?_⟩;simp;omega
   .refine⟨q.1,by rw[AU,AS O];rfl,rfl,?_⟩;simp;omega
  .rintro⟨bt,u⟩ _ dB ⟨rfl,bN⟩;simp only at bN⊢;refine AX (λht=> ?_) (λhf=> ?_)
   .have cE:=bN.1 ht;refine⟨q.1,by rw[AU,AS O];rfl,q.2.1,by rw[AU,AS O];rfl,q.2.2,by rw[AU,AS O];rfl,A4 λdC bI cM aR=> ?_⟩;refine RL (T.ext aR λ_ _ f=>f) bI (by have:=aJ.size;omega) (by omega) λUm dD bW bO bM=> ?_;have b3:=HU (aJ.trans' aR) (T.ext aR λ_ _ f=>f) (Nat.le_refl _) bO;have h1:Kb q a c=[q]:=by
     unfold Kb
     grind
    refine⟨⟨k+1,by rw[AI];omega,by omega,by rw[aK,h1];exact bW,b3⟩,by rw[AI];omega⟩
   .have cZ: ¬(q.2.1<=a∨c<=q.1):=λh=>by grind
    refine AV (λst w'=>I2 w' w.heap.size E.BF 3 st.1 (flat3 (wcut (G.ws.take k) a c++if q.1<a then [(q.1,a,q.2.2)]else []))/\Ext AN w w'/\
      w'.heap[w4.heap.size]? =some (.cells #[.int .u64 q.1,.int .u64 q.2.1,.int .i64 q.2.2] E.BF)/\w4.heap.size<w'.heap.size/\ ∀g,st.1.base=some ⟨g,0,none⟩->g≠w4.heap.size) ?_ ?_
    .refine⟨q.1,by rw[AU,AS O];rfl,AE (λh1=> ?_) (λh1=> ?_)⟩
     .refine⟨q.1,by rw[AU,AS O];rfl,q.2.2,by rw[AU,AS O];rfl,A4 λdF bJ cN aL=> ?_⟩;refine RL (q:=(q.1,a,q.2.2)) (T.ext aL λ_ _ f=>f) bJ (by have:=aJ.size;omega) (by omega) λoF dG bX aS bM=> ?_;have b4:=HU (aJ.trans' aL) (T.ext aL λ_ _ f=>f) (Nat.le_refl _) aS;refine⟨by rw[if_pos h1];exact bX,b4,aS.obj (aL.obj O λf=>f) ?_,by have:=aS.size;omega,?_⟩
      .rintro⟨a',aF,cB⟩;have:=T.lt aF;exact bR a'.block (by rw[aF];cases a';simp_all) cB.symm
      grind
     .refine⟨by rw[if_neg h1,List.append_nil];exact T,aJ,O,by omega,bR⟩
    .rintro⟨Nl,u⟩ _ dE ⟨aM,aW,aO,cG,bQ⟩;simp only at aM bQ⊢;refine⟨q.2.1,by rw[AU,AS aO];rfl,AE (λh1=> ?_) (λh1=> ?_)⟩
     .refine⟨q.2.1,by rw[AU,AS aO];rfl,q.2.2,by rw[AU,AS aO];rfl,A4 λdH bK cO aT=> ?_⟩;refine RL (q:=(c,q.2.1,q.2.2)) (aM.ext aT λ_ _ f=>f) bK (by have:=aW.size;omega) (by grind) λc9 dI bY bP bM=> ?_;have b5:=HU (aW.trans' aT) (aM.ext aT λ_ _ f=>f) (Nat.le_refl _) bP;have h2:Kb q a c=(if q.1<a then [(q.1,a,q.2.2)]else [])++[(c,q.2.1,q.2.2)]:=by
       unfold Kb
       grind
      refine⟨⟨k+1,by rw[AI];omega,by omega,by rw[aK,h2,<-List.append_assoc];exact bY,b5⟩,by rw[AI];omega⟩
     .have h2:Kb q a c=(if q.1<a then [(q.1,a,q.2.2)]else []):=by
       unfold Kb
       grind
      refine⟨⟨k+1,by rw[AI];omega,by omega,by rw[aK,h2];exact aM,aW⟩,by rw[AI];omega⟩
 .have bB:G.ws.take k=G.ws:=List.take_of_length_le (by omega);rw[bB]at Y;have h4:=h.E9 aX;refine MU h4.wide.c2 h4.wide.f2 rfl λaE aH=> ?_;have hu:OU b (λj=>j=2) w4 aE:=OU.IX aH rfl;have b2:Jk E aE b 0 G.s G.ks:=h4.set.Fk hu (by decide) (by decide);have aP: ∀k,KY s3 k->w.heap.size<=k:=λk hk=>(Y.EC hk).1;have bC:WideAt E aE b s3 (wcut G.ws a c):=by
   refine⟨aH.same,by rw[aH.frozen];exact h4.wide.f2,(Y.ext aH.ext λg hg e=> ?_).lower (Nat.zero_le _),Zv h.wide.ok bF,λa' aF e=> ?_⟩
   .have:=Y.lt hg;have:g=b:=e;grind
   .have:=(Y.lt aF).1;omega
  have aQ:aE.cell? ⟨b,3,none⟩=some (.map (some G.mb)):=by rw[aH.other _ (by grind)];exact h4.c3
  obtain⟨es,cl,m,bS,bT,cA⟩:=h4.map;have aB:aE.heap[G.mb]? =some (.map es cl):=aH.ext.obj bS h.mne;have a2:Ext (Ja b) w aE:=(aX.any).trans' aH.ext;have a8: ∀k q,G.lv k=some q-> ∀i:Nat,i<512->aE.cell? ⟨q.1,i,none⟩=some (.int .i64 (q.2 i))/\aE.frozen? ⟨q.1,i,none⟩=false:=by
   intro k q hk i hi;obtain⟨h1,h2⟩:=h4.leaf k q hk i hi;have hn: ¬Ja b q.1:=(h.d2 k q hk).1;exact⟨aH.ext.cell h1 hn,by rw[aH.ext.frozen (World.block_lt_of_cell? w4 _ h1) hn];exact h2⟩
  have fin: ∀w' aC m',Ext (λk=>k=G.mb∨w.heap.size<=k/\ ¬KY s3 k) aE w'->w'.heap[G.mb]? =some (.map aC cl)->MapI .u64 aC cl m'->(∀k,aget m' k=if a<=k/\k<c then none else aget m k)->K w':=by
   intro w' aC m' J aN aG aD;have bA: ¬(b=G.mb∨w.heap.size<=b/\ ¬KY s3 b):=by
    rintro(e|⟨e,_⟩)
    .exact h.mne e.symm
    .omega
   refine hK w' s3 ⟨?_,?_,J.cell aQ bA,⟨aC,cl,m',aN,aG,?_⟩,?_,?_,?_,?_⟩ ?_ aP
   .refine b2.ext J bA λa' aF=> ?_;have:=(h.set.row.own.lt aF);rintro(e|⟨e,_⟩)
    .exact h.ms ⟨a',aF,e.symm⟩
    .omega
   .refine bC.ext J bA λa' aF=> ?_;have:=Y.lt aF;rintro(e|⟨_,e⟩)
    .have:=h.mlt;omega
    .exact e ⟨a',aF,rfl⟩
   .intro k;rw[aD,cA];show _=Option.map _ (if a<=k/\k<c then none else G.lv k)
    grind
   .intro k q hk i hi;have aA:(if a<=k/\k<c then none else G.lv k)=some q:=hk;split at aA
    .cases aA
    .obtain⟨h1,h2⟩:=a8 k q aA i hi;have hq:=World.block_lt_of_cell? w _ (h.leaf k q aA i hi).1;have hn: ¬(q.1=G.mb∨w.heap.size<=q.1/\ ¬KY s3 q.1):=by
      rintro(e|⟨e,_⟩)
      .exact h.ml aA e
      grind
     exact⟨J.cell h1 hn,by rw[J.frozen (World.block_lt_of_cell? aE _ h1) hn];exact h2⟩
   .intro k k' q q' hk a7 e;have aA:(if a<=k/\k<c then none else G.lv k)=some q:=hk;have aV:(if a<=k'/\k'<c then none else G.lv k')=some q':=a7;split at aA
    .cases aA
    .split at aV
     .cases aV
     .exact h.inj k k' q q' aA aV e
   .intro k hk a7;have:=aP k a7;have:=(h.set.row.own.EC hk).2;omega
   .intro k q hk;have aA:(if a<=k/\k<c then none else G.lv k)=some q:=hk;split at aA
    .cases aA
    .obtain⟨g1,g2,g3⟩:=h.d2 k q aA;refine⟨g1,g2,λg=> ?_⟩;have:=aP _ g;have:=World.block_lt_of_cell? w _ (h.leaf k q aA 0 (by decide)).1
     grind
   .refine a2.trans J (λi _ e=>.inl e) λi hi e=> ?_;omega
  refine⟨some G.mb,aQ,es,⟨cl,aB⟩,AX (λ_=> ?_) (λ_=> ?_)⟩
  .refine⟨some G.mb,aQ,cl,⟨es,aB⟩,A4 λdJ bL cP aU=> ?_⟩;have a9:=aU.obj aB λf=>f;have cI:=FM aB;refine range_del (K:=K) (m0:=m) (m1:=m) (es0:=es) (seen0:= #[]) (mb:=G.mb) (since:=cl) (a:=a) (b:=c) (getm:=λK' w=> ∃b7:(Option Nat),w.cell? ⟨b,3,none⟩=some (.map b7)/\K' b7 w) (λw' K' he hk=>⟨some G.mb,?_,hk⟩)
    ⟨⟨cl,bL,.inl rfl⟩,a9,bT,λ_ _=>rfl,λ_ _ h=>h,by simp⟩ (by omega) (by omega) (by omega) ?_
   .refine he.cell (aU.cell aQ λf=>f) ?_;rintro(e|e)
    .have:=a2.size;grind
    .exact h.mne e.symm
   .intro w' aC m' J c5 aN aG aD;refine fin w' aC m' ?_ aN aG aD;refine aU.any.trans J (λ_ _ f=>f) λi hi e=> ?_;omega
  .refine AM (λst w'=> ∃aC m',a<=st.1/\st.1<=c/\Ext (Ja G.mb) aE w'/\w'.heap[G.mb]? =some (.map aC cl)/\MapI .u64 aC cl m'/\ ∀k,aget m' k=if a<=k/\k<st.1 then none else aget m k)
    (λst _=>(c-st.1).toNat) ⟨es,m,Int.le_refl _,by simp only;omega,Ext.refl _ _,aB,bT,λk=>by grind⟩ ?_
   rintro⟨x,u⟩ _ cS ⟨aC,m',cQ,cR,J,aN,aG,aD⟩;simp only at cQ cR aD⊢;refine AE (λcF=> ?_) (λcD=> ?_)
   .refine⟨some G.mb,J.cell aQ (λe=>h.mne e.symm),Pz aN aG λdK b9 m2 cH bU bG _ _ _ cC _=> ?_⟩;refine⟨⟨b9,m2,?_,?_,J.trans' cC,cH,bU,λk=> ?_⟩,?_⟩
    .rw[AP];omega
    .rw[AP];omega
    .rw[AP,bG,aD]
     grind
    .rw[AP];omega
   .have:x=c:=by omega
    subst this;exact fin cS aC m' (J.mono λi _ e=>.inl e) aN aG aD
def MapG.own(G:MapG)(p:Int):Int:=match G.lv (p/512)with
 | some q=>q.2 (p %512)
 | none=>wholeL G.ws (p/512)
structure Gu(E:Env)(b:Nat)(w:World)(G:MapG)(w':World)(G':MapG):Prop where
 rep:HE E w' b G'
 ext:Ext (Jm b G) w w'
 WB: ∀k,Jm b G' k->Jm b G k∨w.heap.size<=k
section
variable{E:Env}{w w' w1:World}{b:Nat}{G G' G1:MapG}
def Gu.refl(h:HE E w b G):Gu E b w G w G:=⟨h,Ext.refl _ _,λ_ h=>.inl h⟩
def Gu.nothing(h:HE E w b G)(he:Ext AN w w'):Gu E b w G w' G:=⟨h.E9 he,he.any,λ_ h=>.inl h⟩
def Gu.trans(h:Gu E b w G w1 G1)(k:Gu E b w1 G1 w' G'):Gu E b w G w' G':=
 ⟨k.rep,h.ext.trans k.ext (λ_ _ s=>s) (λi hi s=>by rcases h.WB i s with s|s;exact s;omega),λi hi=>by
  rcases k.WB i hi with s|s
  .exact h.WB i s
  .have:=h.ext.size;omega⟩
def Gu.X4(h:Gu E b w G w' G'){k:Nat}(a: ¬Jm b G k)(j:k<w.heap.size): ¬Jm b G' k:=λe=>by
 rcases h.WB k e with s|s
 .exact a s
 .omega
end
def mP{E:Env}{w:World}{b:Nat}{G:MapG}(h:HE E w b G){c:Int}(aW:0<=c)(hc:c<67108864){K:Option Addr->World->Prop}
  (hK: ∀w' G' q,Gu E b w G w' G'->G'.ks=G.ks->G'.lv c=some q->(∀p,G'.own p=G.own p)->K (sM q.1) w'):
  F.E5 E (sM b) c K w:=by
 unfold F.E5 T0.E5;simp only[AK,add_eq,Nat.zero_add];obtain⟨es,cl,m,hm,a1,aU⟩:=h.map;refine⟨some G.mb,h.c3,Mh hm a1 ?_⟩;rw[aU];cases hlv:G.lv c with
 | some q=>exact⟨some ⟨q.1,0,none⟩,rfl,AX (λe=>by cases e) (λ_=>hK w G q (Gu.refl h) rfl hlv λ_=>rfl)⟩
 | none=>
  refine⟨none,rfl,AX (λ_=> ?_) (λe=>by cases e)⟩;refine U0 h.wide λw8 aL=> ?_;rw[AP];refine W6 (h.E9 aL) aW (by omega) (by omega) λY O h9 aN aV=> ?_;generalize hzs:Array.replicate 512 (Value.int .i64 0)=zs;have hz: ∀i:Nat,i<512->zs[i]? =some (.int .i64 0):=by grind
  clear hzs;refine A4 λa6 aH a3 aI=> ?_;have aS:=h9.E9 aI;have bJ:w8.heap.size<=Y.heap.size:=aN.size;have bI:w.heap.size<=w8.heap.size:=aL.size;have T: ¬Jm b (G.cut c (c+1) O) Y.heap.size:=λe=>by have:=h9.PM e;omega
  refine AM (λst w'=> ∃k:Nat,st.1=(k:Int)/\k<=512/\Ext (Ja Y.heap.size) a6 w'/\ ∀i:Nat,i<512->w'.cell? ⟨Y.heap.size,i,none⟩=some (.int .i64 (if i<k then wholeL G.ws c else 0))/\w'.frozen? ⟨Y.heap.size,i,none⟩=false)
   (λst _=>(512-st.1).toNat) ⟨0,rfl,by decide,Ext.refl _ _,λi hi=>⟨by rw[AS aH,if_neg (by omega)];grind,by simp[World.frozen?,aH]⟩⟩ ?_
  rintro⟨i,u⟩ _ aG ⟨k,hk,j,aB,CO⟩;simp only at hk⊢;subst hk;refine AE (λbH=> ?_) (λbG=> ?_)
  .refine⟨⟨by omega,by omega⟩,?_⟩;have aE:k<512:=by omega
   simp only[Int.toNat_natCast,Nat.mul_one];refine MU (CO k aE).1 (CO k aE).2 rfl λbL aF=> ?_;refine⟨⟨k+1,by rw[AI];omega,by omega,aB.trans' aF.ext,λi hi=> ?_⟩,by rw[AI];omega⟩;rw[aF.frozen];refine⟨?_,(CO i hi).2⟩;by_cases e:i=k
   .subst e;rw[aF.same,if_pos (by omega)]
   .rw[aF.other _ (by grind),(CO i hi).1]
    grind
  .have aE:k=512:=by omega
   subst aE;have v:HE E aG b (G.cut c (c+1) O):=aS.ext aB λk hk e=>by
    have:k=Y.heap.size:=e
    grind
   obtain⟨bF,bD,m',aY,aO,a9⟩:=v.map;refine⟨some G.mb,v.c3,UQ aY aO λaQ aR c2 m2 aZ aP bA _ _ _ J a4=> ?_⟩;have a0:(G.cut c (c+1) O).mb=G.mb:=rfl;have aM:Y.heap.size≠G.mb:=λe=>T (.inr (.inl (e.trans a0.symm)))
   let G2:MapG:={G.cut c (c+1) O with lv:=λk=>if k=c then some (Y.heap.size,λ_=>wholeL G.ws c)else(G.cut c (c+1) O).lv k}
   have aK: ¬Ja G.mb b:=λe=>v.mne e.symm;have a2:HE E aQ b G2:=by
    refine⟨v.set.ext J aK λa ha e=>v.ms ⟨a,ha,e.symm⟩,v.wide.ext J aK λa ha e=>v.mw ⟨a,ha,e.symm⟩,J.cell v.c3 aK,⟨aR,c2,m2,aZ,aP,λk=> ?_⟩,?_,?_,v.d1,?_⟩
    .grind
    .intro k q hk i hi;have j:(if k=c then some (Y.heap.size,λ_=>wholeL G.ws c)else(G.cut c (c+1) O).lv k)=some q:=hk;split at j
     .cases j;obtain⟨g1,g2⟩:=CO i hi;rw[if_pos hi]at g1;refine⟨J.cell g1 λe=>aM e,?_⟩;rw[J.frozen (World.block_lt_of_cell? aG _ g1) λe=>aM e];exact g2
     .obtain⟨g1,g2⟩:=v.leaf k q j i hi;have hn: ¬Ja G.mb q.1:=λe=>v.ml j e;exact⟨J.cell g1 hn,by rw[J.frozen (World.block_lt_of_cell? aG _ g1) hn];exact g2⟩
    .intro k k' q q' hk aX e;have j:(if k=c then some (Y.heap.size,λ_=>wholeL G.ws c)else(G.cut c (c+1) O).lv k)=some q:=hk;have aA:(if k'=c then some (Y.heap.size,λ_=>wholeL G.ws c)else(G.cut c (c+1) O).lv k')=some q':=aX;split at j
     .split at aA
      .omega
      .cases j;exact absurd (.inr (.inr (.inr (.inr ⟨k',q',aA,e⟩)))) T
     .split at aA
      .cases aA;exact absurd (.inr (.inr (.inr (.inr ⟨k,q,j,e.symm⟩)))) T
      .exact v.inj k k' q q' j aA e
    .intro k q hk;have j:(if k=c then some (Y.heap.size,λ_=>wholeL G.ws c)else(G.cut c (c+1) O).lv k)=some q:=hk;split at j
     .cases j;exact⟨λe=>T (.inl e),λe=>T (.inr (.inr (.inl e))),λe=>T (.inr (.inr (.inr (.inl e))))⟩
     .exact v.d2 k q j
   have aD: ∀k q,(G.cut c (c+1) O).lv k=some q->G.lv k=some q:=by
    intro k q hk;have j:(if c<=k/\k<c+1 then none else G.lv k)=some q:=hk
    grind
   refine hK aQ G2 (Y.heap.size,λ_=>wholeL G.ws c) ⟨a2,?_,?_⟩ rfl (if_pos rfl) ?_
   .have e1:Ext (Jm b G) w Y:=(aL.any).trans aN (λ_ _ f=>f) λi _ e=>by rcases e with e|e;exact .inl e;exact .inr (.inl e)
    have e2:Ext (Ja Y.heap.size) Y aG:=(aI.any).trans' aB;have e3:=e2.trans J (U:=λk=>k=Y.heap.size∨k=G.mb) (λi _ e=>.inl e) (λi _ e=>.inr e);refine e1.trans e3 (λ_ _ f=>f) λi hi e=> ?_;rcases e with e|e
    .omega
    .exact .inr (.inl e)
   .rintro k (e|e|e|e|⟨k',q,e,rfl⟩)
    .exact .inl (.inl e)
    .exact .inl (.inr (.inl e))
    .exact .inl (.inr (.inr (.inl e)))
    .exact .inr (by have:=aV k e;omega)
    .have j:(if k'=c then some (Y.heap.size,λ_=>wholeL G.ws c)else(G.cut c (c+1) O).lv k')=some q:=e;split at j
     .grind
     .exact .inl (.inr (.inr (.inr (.inr ⟨k',q,aD _ _ j,rfl⟩))))
   .intro p;unfold MapG.own;show(match(if p/512=c then some (Y.heap.size,λ_=>wholeL G.ws c)else if c<=p/512/\p/512<c+1 then none else G.lv (p/512))with|some q=>q.2 (p %512)|none=>wholeL (wcut G.ws c (c+1)) (p/512))=_;by_cases e:p/512=c
    .grind
    .rw[if_neg e,if_neg (by omega)];rw[MF (by omega),if_neg (by omega)]
def MapG.put(G:MapG)(c:Int)(q:Nat×(Int->Int))(i id:Int):MapG:={G with lv:=λk=>if k=c then some (q.1,λj=>if j=i then id else q.2 j)else G.lv k}
def rJ{E:Env}{w w':World}{b:Nat}{G:MapG}(h:HE E w b G){c id:Int}{i:Nat}{q:Nat×(Int->Int)}(O:G.lv c=some q)
  (v:N9 ⟨q.1,i,none⟩ (.int .i64 id) w w'):Gu E b w G w' (G.put c q i id):=by
 obtain⟨d1,d2,d3⟩:=h.d2 c q O;have hn: ¬Ja q.1 b:=λe=>d1 e.symm;refine⟨⟨h.set.ext v.ext hn λa ha e=>d2 ⟨a,ha,e.symm⟩,h.wide.ext v.ext hn λa ha e=>d3 ⟨a,ha,e.symm⟩,v.ext.cell h.c3 hn,?_,?_,?_,h.d1,?_⟩,?_,?_⟩
 .obtain⟨es,cl,m,hm,aD,aB⟩:=h.map;refine⟨es,cl,m,v.ext.obj hm λe=>h.ml O e.symm,aD,λk=> ?_⟩;rw[aB];show _=Option.map _ (if k=c then _ else _)
  grind
 .intro k K Y j hj;have u:(if k=c then some (q.1,λj=>if j=(i:Int)then id else q.2 j)else G.lv k)=some K:=Y;split at u
  .cases u;obtain⟨g1,g2⟩:=h.leaf c q O j hj;rw[v.frozen];refine⟨?_,g2⟩;simp only;by_cases e:j=i
   .subst e;rw[if_pos rfl];exact v.same
   .rw[if_neg (by omega),v.other _ (by grind)];exact g1
  .rename_i hkc;obtain⟨g1,g2⟩:=h.leaf k K u j hj;have aF: ¬Ja q.1 K.1:=λe=>hkc (h.inj k c K q u O e);exact⟨v.ext.cell g1 aF,by rw[v.frozen];exact g2⟩
 .intro k T q1 K Y aC e;have u:(if k=c then some (q.1,λj=>if j=(i:Int)then id else q.2 j)else G.lv k)=some q1:=Y;have J:(if T=c then some (q.1,λj=>if j=(i:Int)then id else q.2 j)else G.lv T)=some K:=aC;split at u
  .split at J
   .omega
   .rename_i e1 _;cases u;rw[e1];exact h.inj c T q K O J e
  .split at J
   .rename_i e1;cases J;rw[e1];exact h.inj k c q1 q u O e
   .exact h.inj k T q1 K u J e
 .intro k K Y;have u:(if k=c then some (q.1,λj=>if j=(i:Int)then id else q.2 j)else G.lv k)=some K:=Y;split at u
  .cases u;exact⟨d1,d2,d3⟩
  .exact h.d2 k K u
 .exact v.ext.mono λk _ e=>.inr (.inr (.inr (.inr ⟨c,q,O,e⟩)))
 .rintro k (e|e|e|e|⟨T,K,e,rfl⟩)
  .exact .inl (.inl e)
  .exact .inl (.inr (.inl e))
  .exact .inl (.inr (.inr (.inl e)))
  .exact .inl (.inr (.inr (.inr (.inl e))))
  .have u:(if T=c then some (q.1,λj=>if j=(i:Int)then id else q.2 j)else G.lv T)=some K:=e;split at u
   .cases u;exact .inl (.inr (.inr (.inr (.inr ⟨c,q,O,rfl⟩))))
   .exact .inl (.inr (.inr (.inr (.inr ⟨T,K,u,rfl⟩))))
def yH{G:MapG}{c id:Int}{i:Nat}{q:Nat×(Int->Int)}(a:G.lv c=some q)(p:Int):(G.put c q i id).own p=if p/512=c/\p %512=i then id else G.own p:=by
 unfold MapG.own MapG.put
 grind
def Oe{E:Env}{w:World}{b bi bm:Nat}{G:MapG}(h:HE E w b G){x y id:Int}(hx:0<=x)(hy:y<=34359738368)
  (hi:w.cell? ⟨bi,0,none⟩=some (.int .i64 id))(hm:w.cell? ⟨bm,0,none⟩=some (.pointer (sM b)))(Y: ¬Jm b G bi)(aE: ¬Jm b G bm){K:World->Prop}
  (hK: ∀w' G',Gu E b w G w' G'->G'.ks=G.ks->(∀p,G'.own p=if x<=p/\p<y then id else G.own p)->K w'):
  F.Dt E x y (sM bi) (sM bm) K w:=by
 unfold F.Dt T0.Dt;simp only[AK,add_eq,Nat.zero_add,Nat.mul_one];refine AM (λst w'=> ∃G',x<=st.1/\(st.1<=y∨st.1=x)/\Gu E b w G w' G'/\G'.ks=G.ks/\ ∀p,G'.own p=if x<=p/\p<st.1 then id else G.own p)
  (λst _=>(y-st.1).toNat) ⟨G,Int.le_refl _,.inr rfl,Gu.refl h,rfl,λp=>by omega⟩ ?_
 rintro⟨n,u⟩ _ w2 ⟨G2,aF,aG,O,v,e⟩;simp only at aF aG e⊢;refine AE (λaP=> ?_) (λaM=> ?_)
 .have hl:bi<w.heap.size:=World.block_lt_of_cell? w _ hi;have aO:bm<w.heap.size:=World.block_lt_of_cell? w _ hm;have hd:Ext AN w2 w2.drew:=Ext.drew _ _;have j:=O.trans (Gu.nothing O.rep hd);refine⟨some ⟨b,0,none⟩,j.ext.cell hm aE,by decide,by decide,id,j.ext.cell hi Y,?_⟩;have hdiv:Int.tdiv n 512=n/512:=Int.tdiv_eq_ediv_of_nonneg (by omega);have aB:Int.tmod n 512=n %512:=Int.tmod_eq_emod_of_nonneg (by omega);rw[hdiv,aB,AP];refine mP j.rep (by omega) (by omega) λw9 G9 q T aA a J=> ?_;have aC:=j.trans T;simp only[AK,add_eq,Nat.zero_add];refine⟨aC.ext.cell hi Y,⟨by omega,by omega⟩,?_⟩;have hj:(n %512).toNat<512:=by omega
  have aD:(((n %512).toNat:Nat):Int)=n %512:=by omega
  obtain⟨g1,g2⟩:=T.rep.leaf _ q a _ hj;refine MU g1 g2 rfl λaQ aI=> ?_;have aH:=rJ T.rep a aI;rw[AP];refine⟨⟨_,by omega,by omega,aC.trans aH,aA.trans v,λp=> ?_⟩,by omega⟩;rw[yH a,J,e,aD];omega
 .refine hK w2 G2 O v λp=> ?_
  grind
structure EnvA(E:Env):Prop extends EnvS E where
 yI: ∀x y p1 p2 (R:Value->World->Prop) w,F.Dt E x y p1 p2 (λw'=>R (.tuple ⟨[]⟩) w') w->E.call E.GL #[.int .u64 x,.int .u64 y,.pointer p1,.pointer p2] w R Fi
def rK{E:Env}{w:World}{K:Option Addr->World->Prop}
  (T: ∀w' b G,HE E w' b G->Ext AN w w'->(∀k,Jm b G k->w.heap.size<=k)->G.ks=[]->(∀p,G.own p=0)->K (sM b) w'):F.Ms E K w:=by
 unfold F.Ms;refine A4 λw1 J aB O=>A4 λw2 j aC v=> ?_;have hm:=v.obj J λf=>f;refine T w2 w1.heap.size ⟨⟨none,0,0⟩,[],⟨none,0,0⟩,[],w.heap.size,λ_=>none⟩ ?_ (O.trans' v) ?_ rfl (λ_=>rfl)
 .have Y: ∀k,¬KY ⟨none,0,0⟩ k:=by rintro k ⟨a,u,_⟩;cases u
  refine⟨⟨⟨by rw[AS j];rfl,by simp[World.frozen?,j],I2.nil _ _ _ _,trivial,by simp,by grind⟩,by rw[AS j];rfl,by simp[World.frozen?,j]⟩,
   ⟨by rw[AS j];rfl,by simp[World.frozen?,j],I2.nil _ _ _ _,⟨by simp,List.Pairwise.nil⟩,by grind⟩,by rw[AS j];rfl,⟨_,_,_,hm,MapI.empty _,λ_=>rfl⟩,?_,?_,λk h=>absurd h (Y k),?_⟩
  .grind
  .grind
  grind
 .rintro k (e|e|⟨a,u,_⟩|⟨a,u,_⟩|⟨c,q,hq,_⟩)
  .rw[e];omega
  .rw[e];grind
  .cases u
  .cases u
  .cases hq
section
variable{E:Env}{w:World}{b:Nat}{G:MapG}
def at_own(h:HE E w b G){x:Int}(h0:0<=x)(O:x<18446744073709551616){K:Int->World->Prop}(v: ∀w',Ext AN w w'->K (G.own (x/8192)) w'):
  F.FT E (sM b) x K w:=by
 unfold F.FT T0.FT;have e1:Int.tdiv x 8192=x/8192:=Int.tdiv_eq_ediv_of_nonneg h0;have e2:Int.tdiv (x/8192) 512=x/8192/512:=Int.tdiv_eq_ediv_of_nonneg (by omega);have u:Int.tmod (x/8192) 512=x/8192 %512:=Int.tmod_eq_emod_of_nonneg (by omega);rw[e1,AP (n:=x/8192),e2,AP (n:=x/8192/512),u];simp only[AK,add_eq,Nat.zero_add,Nat.mul_one];obtain⟨es,cl,m,hm,j,a⟩:=h.map;refine⟨by decide,some G.mb,h.c3,by decide,Mh hm j ?_⟩;rw[a];cases hlv:G.lv (x/8192/512)with
 | some q=>
  refine⟨some ⟨q.1,0,none⟩,rfl,AX (λ_=> ?_) (λe=>by cases e)⟩;refine⟨by decide,⟨by omega,by omega⟩,q.2 (x/8192 %512),?_,?_⟩
  .have:=(h.leaf _ q hlv (x/8192 %512).toNat (by omega)).1;rw[show(((x/8192 %512).toNat:Nat):Int)=x/8192 %512 from by omega]at this;simp only[add_eq,Nat.zero_add];exact this
  .have:G.own (x/8192)=q.2 (x/8192 %512):=by unfold MapG.own;rw[hlv]
   rw[<-this];exact v w (Ext.refl _ _)
 | none=>
  refine⟨none,rfl,AX (λe=>by cases e) (λ_=>⟨by decide,U0 h.wide λw' J=> ?_⟩)⟩;have:G.own (x/8192)=wholeL G.ws (x/8192/512):=by unfold MapG.own;rw[hlv]
  grind
end
section
variable{E:Env}(hE:EnvA E){w:World}{b:Nat}{G:MapG}
include hE
def MapG.grow(G:MapG)(s:AY)(ks:Iv):MapG:={G with s:=s,ks:=ks}
end
section
variable{E:Env}(hE:EnvA E){w:World}{b:Nat}{G:MapG}
def mQ{w w':World}(h:HE E w b G){J:AY}{q:Int×Int×Int}(hq:0<=q.1/\q.1<q.2.1/\q.2.1<=67108864)(hd: ∀p∈G.ws,p.2.1<=q.1∨q.2.1<=p.1)
  (u:Ext (KY G.sw) w w')(aB:I2 w' 0 E.BF 3 J (flat3 (G.ws++[q])))(hb:J.base=G.sw.base∨ ∃k,J.base=some ⟨k,0,none⟩/\w.heap.size<=k)
  {w2:World}(v:N9 ⟨b,2,none⟩ (.slice J.base J.len J.cap) w' w2):Gu E b w G w2 {G with sw:=J,ws:=G.ws++[q]}:=by
 have T: ∀k,KY J k->KY G.sw k∨w.heap.size<=k:=by
  rintro k ⟨a,Y,rfl⟩;rcases hb with e|⟨k,e,K⟩
  .rw[e]at Y;exact .inl ⟨a,Y,rfl⟩
  grind
 have O: ¬KY G.sw b:=by rintro⟨a,Y,e⟩;exact h.wide.apart a Y e.symm
 have aA: ¬KY J b:=λe=>by
  rcases T b e with e|e
  .exact O e
  .have:=h.lt;omega
 have hu:OU b (λj=>j=2) w' w2:=OU.IX v rfl;have aE:Jk E w' b 0 G.s G.ks:=h.set.ext u O λa Y e=>h.d1 a.block ⟨a,Y,rfl⟩ e;refine⟨⟨aE.Fk hu (by decide) (by decide),⟨v.same,?_,aB.ext v.ext λg hg e=>aA ⟨_,hg,e.symm⟩,?_,λa Y e=>aA ⟨a,Y,e.symm⟩⟩,?_,?_,?_,h.inj,?_,?_⟩,?_,?_⟩
 .rw[v.frozen,u.frozen (p:=⟨b,2,none⟩) h.lt O];exact h.wide.f2
 .refine Uz.2 ⟨h.wide.ok,⟨by grind,List.pairwise_singleton _ _⟩,λp hp r hr=> ?_⟩
  grind
 .rw[v.other _ (by grind)];exact u.cell h.c3 O
 .obtain⟨es,cl,m,h1,h2⟩:=h.map;exact⟨es,cl,m,v.ext.obj (u.obj h1 h.mw) h.mne,h2⟩
 .intro k q K i hi;obtain⟨g1,g2⟩:=h.leaf k q K i hi;have hn: ¬KY G.sw q.1:=(h.d2 k q K).2.2;have aD: ¬Ja b q.1:=(h.d2 k q K).1;exact⟨v.ext.cell (u.cell g1 hn) aD,by rw[v.frozen,u.frozen (World.block_lt_of_cell? w _ g1) hn];exact g2⟩
 .intro k K aC;rcases T k aC with e|e
  .exact h.d1 k K e
  .have:=(h.set.row.own.EC K).2;omega
 .intro k q K;obtain⟨g1,g2,g3⟩:=h.d2 k q K;refine⟨g1,g2,λe=> ?_⟩;rcases T _ e with e|e
  .exact g3 e
  .have:=World.block_lt_of_cell? w _ (h.leaf k q K 0 (by decide)).1
   grind
 .exact u.trans v.ext (λi _ e=>.inr (.inr (.inr (.inl e)))) (λi _ e=>.inl e)
 .rintro k (e|e|e|e|⟨c',q,e,e2⟩)
  .exact .inl (.inl e)
  .exact .inl (.inr (.inl e))
  .exact .inl (.inr (.inr (.inl e)))
  .rcases T k e with e|e
   .exact .inl (.inr (.inr (.inr (.inl e))))
   omega
  .exact .inl (.inr (.inr (.inr (.inr ⟨c',q,e,e2⟩))))
def rL{w w':World}(h:HE E w b G){a c:Int}{u:AY}(J:HE E w' b (G.cut a c u))(he:Ext (λk=>k=b∨k=G.mb) w w')(K: ∀k,KY u k->w.heap.size<=k):
  Gu E b w G w' (G.cut a c u):=by
 refine⟨J,he.mono λi _ e=>by rcases e with e|e;exact .inl e;exact .inr (.inl e),?_⟩;rintro k (e|e|e|e|⟨v,q,e,e2⟩)
 .exact .inl (.inl e)
 .exact .inl (.inr (.inl e))
 .exact .inl (.inr (.inr (.inl e)))
 .exact .inr (K k e)
 .have j:(if a<=v/\v<c then none else G.lv v)=some q:=e;split at j
  .cases j
  .exact .inl (.inr (.inr (.inr (.inr ⟨v,q,j,e2⟩))))
def yJ{a c:Int}(j:a<c)(u:AY)(p:Int):(G.cut a c u).own p=if a<=p/512/\p/512<c then 0 else G.own p:=by
 unfold MapG.own;show(match(if a<=p/512/\p/512<c then none else G.lv (p/512))with|some q=>q.2 (p %512)|none=>wholeL (wcut G.ws a c) (p/512))=_;by_cases e:a<=p/512/\p/512<c
 .rw[if_pos e,if_pos e];show wholeL (wcut G.ws a c) (p/512)=0;rw[MF j,if_pos e]
 .rw[if_neg e,if_neg e];cases G.lv (p/512)with
  | some q=>rfl
  | none=>
   show wholeL (wcut G.ws a c) (p/512)=_;rw[MF j,if_neg e]
include hE
theorem mR(h:HE E w b G){x n id:Int}(a6:0<=x)(hx:x<18446744073709551616)(cL:0<=n)(hn:n<18446744073709551616){K:Int->World->Prop}
  (b0:(n=0∨id<0)-> ∀w',Ext AN w w'->K 1 w')
  (bI: ¬(n=0∨id<0)->(34359738368<=x∨34359738368-x<n∨ ∃c,x/512<=c/\c<(x+n+511)/512/\ ¬mem G.ks c)-> ∀w',Ext AN w w'->K 10 w')
  (bJ: ¬(n=0∨id<0)->x<34359738368->n<=34359738368-x->(∀c,x/512<=c->c<(x+n+511)/512->mem G.ks c)-> ∀w' G',Gu E b w G w' G'->G'.ks=G.ks->
   (∀p,G'.own p=if x<=p/\p<x+n then id else G.own p)->K 0 w'):
  F.Dj E (sM b) x n id K w:=by
 unfold F.Dj T0.Dj;refine A4 λw2 bT cB bX=>A4 λw4 bU cC bG=> ?_;have aS:Ext AN w w4:=bX.trans' bG;have a9:=bG.obj bT λf=>f;have cm: ∀w',Ext AN w4 w'->w'.cell? ⟨w.heap.size,0,none⟩=some (.pointer (sM b)):=λw' he=>he.cell (by rw[AS a9];rfl) λf=>f;have ci: ∀w',Ext AN w4 w'->w'.cell? ⟨w2.heap.size,0,none⟩=some (.int .i64 id):=λw' he=>he.cell (by rw[AS bU];rfl) λf=>f;refine AV (λst w'=>w'=w4/\(st.1=true↔n=0∨id<0)) ?_ ?_
 .refine AX (λe=>⟨rfl,?_⟩) (λe=>⟨id,ci w4 (Ext.refl _ _),rfl,?_⟩)
  .grind
  grind
 rintro⟨bt,u⟩ _ w7 ⟨rfl,bC⟩;simp only at bC⊢;refine AX (λe=>b0 (bC.1 e) _ aS) (λe=> ?_);have aR: ¬(n=0∨id<0):=λh=>by grind
 refine AV (λst w'=>w'=w7/\(st.1=true↔34359738368<=x∨34359738368-x<n)) ?_ ?_
 .refine AE (λe=>⟨rfl,?_⟩) (λe=>⟨rfl,?_⟩)
  .grind
  .rw[AP]
   grind
 rintro⟨cE,u⟩ _ cP ⟨rfl,bD⟩;simp only at bD⊢;refine AX (λe=>bI aR (by grind) _ aS) (λe=> ?_);have b9: ¬(34359738368<=x∨34359738368-x<n):=λh=>by grind
 have bP:x<34359738368:=by omega
 have bN:n<=34359738368-x:=by omega
 have cM:1<=n:=by omega
 refine⟨by decide,by decide,AZ λlast a0=>⟨some ⟨b,0,none⟩,cm _ (Ext.refl _ _),?_⟩⟩;have cK:last=(x+n+511)/512:=by
  rw[a0,AP (n:=x+n),AP (n:=x+n+512),AP (n:=x+n+512-1)];rw[Int.tdiv_eq_ediv_of_nonneg (by omega),AP];omega
 have bY:u64 (Int.tdiv x 512)=x/512:=by rw[Int.tdiv_eq_ediv_of_nonneg a6,AP]
 simp only[AK];rw[bY];have h4:=h.E9 aS;have bH:x/512<=last:=by omega
 refine JI hE.toEnvS h4.set.row (by omega) bH (by omega) λaF J=> ?_;have bV:=Hq h.set.row.ok bH;rw[AP];have aJ:Ext AN w aF:=aS.trans' J;refine AX (λe=>bI aR (.inr (.inr ?_)) _ aJ) (λe=> ?_)
 .grind
 have a8:=bV.1 (by grind);refine⟨by decide,by decide,AZ λfr bZ=>AZ λto b4=> ?_⟩;have b7:fr=(x+511)/512:=by
  rw[bZ,AP (n:=x+512),AP (n:=x+512-1),Int.tdiv_eq_ediv_of_nonneg (by omega),AP];omega
 have cD:to=(x+n)/512:=by
  rw[b4,AP (n:=x+n),Int.tdiv_eq_ediv_of_nonneg (by omega),AP]
 have aW:=h.E9 aJ;have a1: ¬Jm b G w.heap.size:=λe=>by have:=h.PM e;omega
 have aY: ¬Jm b G w2.heap.size:=λe=>by have:=h.PM e;omega
 have aZ:w.heap.size<aF.heap.size:=by have:=J.size;omega
 have bL:w2.heap.size<aF.heap.size:=by have:=J.size;omega
 refine AV (λ_ w'=> ∃G',Gu E b aF G w' G'/\G'.ks=G.ks/\ ∀p,G'.own p=if fr<=p/512/\p/512<to then id else G.own p) ?_ ?_
 .refine AE (λaB=> ?_) (λcI=>⟨G,Gu.refl aW,rfl,λp=>by omega⟩);refine⟨some ⟨b,0,none⟩,cm _ J,W6 aW (by omega) aB (by omega) λaN aM aO bE aT=> ?_⟩;have aE:=rL aW aO bE aT;have aD: ∀w',Ext AN aN w'->w'.cell? ⟨w2.heap.size,0,none⟩=some (.int .i64 id):=λw' he=>he.cell (aE.ext.cell (ci _ J) aY) λf=>f;have O: ∀w',Ext AN aN w'->w'.cell? ⟨w.heap.size,0,none⟩=some (.pointer (sM b)):=λw' he=>he.cell (aE.ext.cell (cm _ J) a1) λf=>f;refine⟨id,aD _ (Ext.refl _ _),AE (λcA=> ?_) (λhz=>⟨_,aE,rfl,λp=> ?_⟩)⟩
  .have hd:Ext AN aN aN.drew:=Ext.drew _ _;have bW:=aO.E9 hd;refine⟨some ⟨b,0,none⟩,O _ hd,some ⟨b,0,none⟩,O _ hd,?_⟩;simp only[AK,add_eq,Nat.zero_add];refine⟨aM,bW.wide.c2,id,aD _ hd,A4 λb5 bA b3 bF=> ?_⟩;have v:Ext AN aN b5:=hd.trans' bF;have aA:=aO.E9 v;refine⟨aD _ v,aA.wide.c2,O _ v,O _ v,?_⟩;refine RL (q:=(fr,to,id)) (m:=wcut G.ws fr to) aA.wide.own bA (Nat.zero_le _) (by have:=Zx h.wide.ok aB;omega) λcG cQ bO T bB=> ?_;have aX: ∀k,k<aF.heap.size-> ¬KY (G.cut fr to aM).sw k:=λk hk e=>by have:=aT k e;omega
   have bM: ¬KY (G.cut fr to aM).sw b:=by rintro⟨a,ha,e⟩;exact aA.wide.apart a ha e.symm
   refine⟨T.cell (aD _ v) (aX _ bL),T.cell (O _ v) (aX _ aZ),T.cell (O _ v) (aX _ aZ),?_⟩;refine MU (T.cell aA.wide.c2 bM) (by rw[T.frozen (p:=⟨b,2,none⟩) aA.lt bM];exact aA.wide.f2) rfl λcR b2=> ?_;have a5:=mQ aA (q:=(fr,to,id)) ⟨by omega,aB,by grind⟩ (λp hp=>by
    obtain⟨p',b1,g1,g2,g3,g4⟩:=MG h.wide.ok aB hp;exact g4) T bO bB b2
   refine⟨_,(aE.trans (Gu.nothing aO v)).trans a5,rfl,λp=> ?_⟩;unfold MapG.own;show(match(if fr<=p/512/\p/512<to then none else G.lv (p/512))with|some q=>q.2 (p %512)|none=>wholeL (wcut G.ws fr to++[(fr,to,id)]) (p/512))=_;by_cases hin:fr<=p/512/\p/512<to
   .rw[if_pos hin,if_pos hin];show wholeL (wcut G.ws fr to++[(fr,to,id)]) (p/512)=id;rw[QC,wholeL,if_pos hin];rintro⟨p1,a3,g1,g2⟩;obtain⟨p',b1,_,_,_,g4⟩:=MG h.wide.ok aB a3;omega
   .rw[if_neg hin,if_neg hin];cases G.lv (p/512)with
    | some q=>rfl
    | none=>
     show wholeL (wcut G.ws fr to++[(fr,to,id)]) (p/512)=wholeL G.ws (p/512);rw[<-show wholeL (wcut G.ws fr to) (p/512)=wholeL G.ws (p/512)from by rw[MF aB,if_neg hin]];by_cases hex: ∃p1∈wcut G.ws fr to,p1.1<=p/512/\p/512<p1.2.1
     .rw[W5 hex]
     .rw[QC hex,wholeL,if_neg hin,Zu λp1 a3 h2=>hex ⟨p1,a3,h2⟩];rfl
  .rw[yJ aB];omega
 rintro _ _ bQ ⟨G1,j,aU,aL⟩;have aG:bQ.cell? ⟨w2.heap.size,0,none⟩=some (.int .i64 id):=j.ext.cell (ci _ J) aY;have aH:bQ.cell? ⟨w.heap.size,0,none⟩=some (.pointer (sM b)):=j.ext.cell (cm _ J) a1;have aQ: ¬Jm b G1 w.heap.size:=j.X4 a1 aZ;have aP: ¬Jm b G1 w2.heap.size:=j.X4 aY bL;have aI: ∀c,x/512<=c->c<(x+n+511)/512->mem G.ks c:=λc h1 h2=>a8 c h1 (by omega);have aV:Gu E b w G aF G:=Gu.nothing h aJ;refine AE (λcJ=> ?_) (λhle=> ?_)
 .refine hE.yI _ _ _ _ _ _ ?_;rw[AP];refine Oe j.rep a6 (by omega) aG aH aP aQ λw' G' a4 aK aC=>⟨rfl,?_⟩;refine bJ aR bP bN aI w' G' ((aV.trans j).trans a4) (aK.trans aU) λp=> ?_;rw[aC,aL];omega
 .refine hE.yI _ _ _ _ _ _ ?_;rw[AP];refine Oe j.rep a6 (by omega) aG aH aP aQ λcS G2 Y bK a2=>⟨rfl,?_⟩;refine hE.yI _ _ _ _ _ _ ?_;rw[AP (n:=to*512),AP (n:=x+n)];have b8:=j.ext.size;refine Oe Y.rep (by omega) (by omega) (Y.ext.cell aG aP) (Y.ext.cell aH aQ) (Y.X4 aP (by omega)) (Y.X4 aQ (by omega)) λw' G' a4 aK aC=>⟨rfl,?_⟩;refine bJ aR bP bN aI w' G' (((aV.trans j).trans Y).trans a4) (aK.trans (bK.trans aU)) λp=> ?_;rw[aC,a2,aL];omega
end
def BR(E:Env)(b:Nat)(ks:Iv)(own:Int->Int):Pr where
 holds D w:= ∃G,HE E w b G/\G.ks=ks/\(∀p,G.own p=own p)/\ ∀k,D k↔Jm b G k
 loc h he hS:=let⟨G,h1,h2,h3,h4⟩:=h;⟨G,h1.ext he λk a=>hS k ((h4 k).2 a),h2,h3,h4⟩
 lt h a:=let⟨G,h1,_,_,h4⟩:=h;h1.PM ((h4 _).1 a)
section
variable{E:Env}{b:Nat}{ks:Iv}{own:Int->Int}{Z:List Pr}{w:World}
def Sat.W7(H:Sat (BR E b ks own::Z) w):
  ∃G,HE E w b G/\G.ks=ks/\(∀p,G.own p=own p)/\ ∀w' G' e a,Gu E b w G w' G'->G'.ks=e->(∀p,G'.own p=a p)->Sat (BR E b e a::Z) w':=by
 obtain⟨D,⟨G,h1,u,v,j⟩,K⟩:=H.step;refine⟨G,h1,u,v,λw' G' e a st e1 e2=>K w' (Jm b G') _ (st.ext.mono λi _ hi=>(j i).2 hi) ⟨G',st.rep,e1,e2,λ_=>Iff.rfl⟩ λk J=> ?_⟩;rcases st.WB k J with h|h
 .exact .inl ((j k).2 h)
 .exact .inr h
def Sat.yK(H:Sat (BR E b ks own::Z) w):Ok ks:=by
 obtain⟨G,h1,rfl,_⟩:=H.W7;exact h1.set.row.ok
def rM(H:Sat Z w){K:Option Addr->World->Prop}(j: ∀w' b,Sat (BR E b [] (λ_=>0)::Z) w'->K (sM b) w'):F.Ms E K w:=
 rK λw' b G u he v e a=>j w' b (H.new (P:=BR E b [] λ_=>0) (D:=Jm b G) he ⟨G,u,e,a,λ_=>Iff.rfl⟩ v)
def yL(H:Sat (BR E b ks own::Z) w){x:Int}(h0:0<=x)(j:x<18446744073709551616){K:Int->World->Prop}(e: ∀w',Sat (BR E b ks own::Z) w'->K (own (x/8192)) w'):
  F.FT E (sM b) x K w:=by
 obtain⟨G,h1,u,a,_⟩:=H.W7;refine at_own h1 h0 j λw' he=> ?_;rw[a];exact e w' (H.nothing he)
def eU(H:Sat (BR E b ks own::Z) w){K:Int->World->Prop}(e:K (Hm ks) w):F.EP E (sM b) K w:=by
 obtain⟨G,h1,a,j,_⟩:=H.W7;unfold F.EP T0.EP F.HP;simp only[AK,add_eq,Nat.zero_add];refine⟨_,h1.set.c1,?_⟩;rw[a];exact e
def mS{w':World}{G:MapG}(j:HE E w b G){s5:AY}{T:Iv}(K:Jk E w' b 0 s5 T)(u:OU b (Yx 0) w w')(aA:Uo w G.s s5):Gu E b w G w' (G.grow s5 T):=by
 have J: ∀k,KY s5 k->KY G.s k∨w.heap.size<=k:=by
  rintro k ⟨a,ha,rfl⟩;rcases aA with e|e
  .rw[e]at ha;exact .inl ⟨a,ha,rfl⟩
  grind
 refine⟨?_,?_,?_⟩
 .have Y: ¬Yx 0 2:=by unfold Yx;omega
  have aB: ¬Yx 0 3:=by unfold Yx;omega
  have aD:=j.lt;refine⟨K,⟨by rw[u.EB 2 Y];exact j.wide.c2,by rw[u.uZ];exact j.wide.f2,j.wide.own.ext u.ext λg hg e=>j.wide.apart _ hg e,j.wide.ok,j.wide.apart⟩,by rw[u.EB 3 aB];exact j.c3,?_,?_,j.inj,?_,?_⟩
  .obtain⟨es,cl,m,h1,h2⟩:=j.map;exact⟨es,cl,m,u.ext.obj h1 j.mne,h2⟩
  .intro k q v i hi;obtain⟨g1,g2⟩:=j.leaf k q v i hi;have Y: ¬Ja b q.1:=(j.d2 k q v).1;exact⟨u.ext.cell g1 Y,by rw[u.ext.frozen (World.block_lt_of_cell? w _ g1) Y];exact g2⟩
  .intro k v O;rcases J k v with e|e
   .exact j.d1 k e O
   .have:=(j.wide.own.EC O).2;omega
  .intro k q v;obtain⟨g1,g2,g3⟩:=j.d2 k q v;refine⟨g1,λe=> ?_,g3⟩;rcases J _ e with e|e
   .exact g2 e
   .have:=World.block_lt_of_cell? w _ (j.leaf k q v 0 (by decide)).1
    grind
 .exact u.ext.mono λi _ e=>.inl e
 .rintro k (e|e|e|e|⟨c',q,e,e2⟩)
  .exact .inl (.inl e)
  .exact .inl (.inr (.inl e))
  .rcases J k e with e|e
   .exact .inl (.inr (.inr (.inl e)))
   omega
  .exact .inl (.inr (.inr (.inr (.inl e))))
  .exact .inl (.inr (.inr (.inr (.inr ⟨c',q,e,e2⟩))))
end
section
variable{E:Env}{b:Nat}{ks:Iv}{own:Int->Int}{Z:List Pr}{w:World}(hE:EnvA E)
include hE
theorem Zy(H:Sat (BR E b ks own::Z) w){x n id:Int}(v:0<=x)(hx:x<18446744073709551616)(e:0<=n)(Y:n<18446744073709551616){K:Int->World->Prop}
  (a:n≠0/\0<=id/\x+n<=34359738368/\ ∀p,x<=p->p<x+n->mem ks (p/512))(T: ∀w',Sat (BR E b ks (λp=>if x<=p/\p<x+n then id else own p)::Z) w'->K 0 w'):
  F.Dj E (sM b) x n id K w:=by
 obtain⟨G,h1,J,O,u⟩:=H.W7;obtain⟨g1,g2,g3,g4⟩:=a;have j: ¬(n=0∨id<0):=by omega
 refine mR hE h1 v hx e Y (λh=>absurd h j) (λ_ h=> ?_) λ_ _ _ _ w' G' st e1 e2=>T w' (u w' G' ks _ st (e1.trans J) λp=>by rw[e2,O]);exfalso;rcases h with h|h|⟨c,c1,c2,c3⟩
 .omega
 .omega
 .refine c3 ?_;rw[J];have:=g4 (max x (c*512)) (by omega) (by omega)
  grind
theorem mT(H:Sat (BR E b ks own::Z) w){a c:Int}(Y:0<=a)(j:a<c)(hc:c<=67108864){K:World->Prop}(T: ∀w',Sat (BR E b (DZ ks a c) own::Z) w'->K w'):
  F.E3 E (sM b) a c K w:=by
 obtain⟨G,h1,J,O,u⟩:=H.W7;unfold F.E3 T0.E3;simp only[AK];have v:OT=4398046511104:=rfl;refine KZ hE.toEnvS h1.set Y j (by omega) λw' s' e hu hf=>T w' (u w' (G.grow s' (DZ G.ks a c)) _ own (mS h1 e hu hf) (by rw[J];rfl) λp=>O p)
end
end Go.Sh

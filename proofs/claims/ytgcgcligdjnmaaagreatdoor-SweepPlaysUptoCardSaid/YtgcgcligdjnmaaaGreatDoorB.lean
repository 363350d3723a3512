/- The map of arenas does what its chunks and owners say. No further condition. -/
import Derived.Test.YtgcgcligdjnmaaaGreatDoorS
import Derived.Test.YtgcgcligdjnmaaaGreatDoorM
import Derived.Test.YtgcgcligdjnmaaaGreatDoorA
set_option linter.all false
set_option maxRecDepth 50000
set_option maxHeartbeats 1000000
namespace Go.Sh
abbrev Wd:=List (Int×Int×Int)
def flat3:Wd->List Value
 | []=>[]
 | p::r=>.int .u64 p.1:: .int .u64 p.2.1:: .int .i64 p.2.2::flat3 r
def Me: ∀l:Wd,(flat3 l).length=l.length*3
 | []=>rfl
 | p::r=>by simp[flat3,Me r];omega
def QD: ∀l m:Wd,flat3 (l++m)=flat3 l++flat3 m
 | [],_=>rfl
 | p::r,m=>by simp[flat3,QD r m]
def Vt: ∀(l:Wd) (i:Nat) (p:Int×Int×Int),l[i]? =some p->
  (flat3 l)[i*3]? =some (.int .u64 p.1)/\(flat3 l)[i*3+1]? =some (.int .u64 p.2.1)/\(flat3 l)[i*3+2]? =some (.int .i64 p.2.2)
 | [],i,p,h=>by simp at h
 | q::r,0,p,h=>by simp at h;subst h;simp[flat3]
 | q::r,i+1,p,h=>by
  have:=Vt r i p (by grind);rw[show(i+1)*3=i*3+1+1+1 from by omega];simpa[flat3]using this
def wholeL:Wd->Int->Int
 | [],_=>0
 | p::r,c=>if p.1<=c/\c<p.2.1 then p.2.2 else wholeL r c
def KX(p:Int×Int×Int)(a b:Int):Wd:=
 if p.2.1<=a∨b<=p.1 then [p]else(if p.1<a then [(p.1,a,p.2.2)]else [])++(if b<p.2.1 then [(b,p.2.1,p.2.2)]else [])
def wcut:Wd->Int->Int->Wd
 | [],_,_=>[]
 | p::r,a,b=>KX p a b++wcut r a b
def Vu{l m:Wd}{c:Int}(h: ∃p∈l,p.1<=c/\c<p.2.1):wholeL (l++m) c=wholeL l c:=by
 induction l with
 | nil=>grind
 | cons p r ih=>
  simp only[List.cons_append,wholeL]
  grind
def PD{l m:Wd}{c:Int}(h: ¬ ∃p∈l,p.1<=c/\c<p.2.1):wholeL (l++m) c=wholeL m c:=by
 induction l with
 | nil=>rfl
 | cons p r ih=>
  simp only[List.cons_append,wholeL]
  grind
def Yb{l:Wd}{c:Int}(h: ∀p∈l,¬(p.1<=c/\c<p.2.1)):wholeL l c=0:=by
 induction l with
 | nil=>rfl
 | cons p r ih=>rw[wholeL,if_neg (h p (by simp)),ih λq d=>h q (by simp[d])]
def QE{p:Int×Int×Int}{a b c:Int}(d:a<b):
  (∃q∈KX p a b,q.1<=c/\c<q.2.1)↔(p.1<=c/\c<p.2.1)/\ ¬(a<=c/\c<b):=by
 unfold KX;split
 .grind
 .rename_i h;simp only[List.mem_append];constructor
  .grind
  .rintro⟨⟨h1,h2⟩,j⟩;by_cases h4:c<a
   .exact⟨(p.1,a,p.2.2),.inl (by grind),h1,h4⟩
   .exact⟨(b,p.2.1,p.2.2),.inr (by grind),by simp only;omega,h2⟩
def Sf{p:Int×Int×Int}{a b c:Int}(h: ∃q∈KX p a b,q.1<=c/\c<q.2.1):wholeL (KX p a b) c=p.2.2:=by
 have O1: ∀q∈KX p a b,q.2.2=p.2.2:=by
  intro q d;unfold KX at d
  grind
 have key: ∀l:Wd,(∀q∈l,q.2.2=p.2.2)->(∃q∈l,q.1<=c/\c<q.2.1)->wholeL l c=p.2.2:=by
  intro l
  induction l with
  | nil=>grind
  | cons q r ih=>
   intro h1 h2;rw[wholeL]
   grind
 grind
def Lf{l:Wd}{a b:Int}(d:a<b)(c:Int):wholeL (wcut l a b) c=if a<=c/\c<b then 0 else wholeL l c:=by
 induction l with
 | nil=>simp[wcut,wholeL]
 | cons p r ih=>
  rw[wcut];by_cases h1:(p.1<=c/\c<p.2.1)/\ ¬(a<=c/\c<b)
  .have h2:=(QE d).2 h1;rw[Vu h2,if_neg h1.2,wholeL,if_pos h1.1];exact Sf h2
  .rw[PD λh2=>h1 ((QE d).1 h2),ih];split
   .rfl
   .rename_i h2;rw[wholeL,if_neg λj=>h1 ⟨j,h2⟩]
def gE(l:Wd):Prop:=(∀p∈l,0<=p.1/\p.1<p.2.1/\p.2.1<=67108864)/\l.Pairwise λp q=>p.2.1<=q.1∨q.2.1<=p.1
def QF{p q:Int×Int×Int}{a b:Int}(hp:p.1<p.2.1)(d:a<b)(h:q∈KX p a b):p.1<=q.1/\q.1<q.2.1/\q.2.1<=p.2.1/\(q.2.1<=a∨b<=q.1):=by
 unfold KX at h
 grind
def Lg{l:Wd}{q:Int×Int×Int}{a b:Int}(j:gE l)(d:a<b)(h:q∈wcut l a b): ∃p∈l,p.1<=q.1/\q.1<q.2.1/\q.2.1<=p.2.1/\(q.2.1<=a∨b<=q.1):=by
 induction l with
 | nil=>cases h
 | cons p r ih=>
  rcases List.mem_append.1 h with h|h
  .exact⟨p,by simp,QF (j.1 p (by simp)).2.1 d h⟩
  .obtain⟨K,v,J⟩:=ih ⟨λx y=>j.1 x (by simp[y]),(List.pairwise_cons.1 j.2).2⟩ h
   grind
def Yc{l:Wd}{a b:Int}(h:gE l)(d:a<b):gE (wcut l a b):=by
 refine⟨λq v=> ?_,?_⟩
 .obtain⟨p,hp,h1⟩:=Lg h d v;have:=h.1 p hp;omega
 .induction l with
  | nil=>exact List.Pairwise.nil
  | cons p r ih=>
   have J:gE r:=⟨λx K=>h.1 x (by simp[K]),(List.pairwise_cons.1 h.2).2⟩;rw[wcut,List.pairwise_append];refine⟨?_,ih J,λq v T y=> ?_⟩
   .unfold KX;split
    .simp
    .split<;>split<;>simp;omega
   .have h1:=QF (h.1 p (by simp)).2.1 d v;obtain⟨O,j,h2⟩:=Lg J d y;have:=(List.pairwise_cons.1 h.2).1 O j;omega
def Yd: ∀(n:Nat) (l:List Int),l.Nodup->(∀x∈l,0<=x/\x<n)->l.length<=n
 | 0,[],_,_=>Nat.le_refl _
 | 0,x::r,_,h=>by have:=h x (by simp);omega
 | n+1,l,hn,h=>by
  have h1:(l.erase (n:Int)).length<=n:=Yd n _ (hn.erase _) λx d=>by grind
  grind
def gE.len{l:Wd}(h:gE l):l.length<=67108864:=by
 have h1:=Yd 67108864 (l.map (·.1)) ?_ ?_
 .grind
 .have h2:=h.1;have v:=h.2;clear h
  induction l with
  | nil=>simp
  | cons p r ih=>
   rw[List.map_cons,List.nodup_cons];refine⟨λhm=> ?_,ih (λx j=>h2 x (by simp[j])) (List.pairwise_cons.1 v).2⟩;obtain⟨q,d,he⟩:=List.mem_map.1 hm;have y:=(List.pairwise_cons.1 v).1 q d
   grind
 .intro x j;obtain⟨q,d,rfl⟩:=List.mem_map.1 j;have:=h.1 q d;omega
def UB{l m:Wd}:gE (l++m)↔gE l/\gE m/\ ∀p∈l,∀q∈m,p.2.1<=q.1∨q.2.1<=p.1:=by
 simp only[gE,List.pairwise_append,List.mem_append]
 grind
def Ye(l m:Wd)(a b:Int):wcut (l++m) a b=wcut l a b++wcut m a b:=by
 induction l with
 | nil=>rfl
 | cons p r ih=>simp[wcut,ih]
structure WideAt(E:Env)(w:World)(b:Nat)(s:Aa)(ws:Wd):Prop where
 c2:w.cell? ⟨b,2,none⟩=some (.slice s.base s.len s.cap)
 f2:w.frozen? ⟨b,2,none⟩=false
 own:I0 w 0 E.BV 3 s (flat3 ws)
 ok:gE ws
 apart: ∀a,s.base=some a->a.block≠b
def WideAt.len{E:Env}{w:World}{b:Nat}{s:Aa}{ws:Wd}(h:WideAt E w b s ws):s.len=ws.length:=by
 have:=h.own.len;rw[Me]at this;omega
def WideAt.lt{E:Env}{w:World}{b:Nat}{s:Aa}{ws:Wd}(h:WideAt E w b s ws):b<w.heap.size:=World.block_lt_of_cell? w _ h.c2
def WideAt.ext{E:Env}{w w':World}{b:Nat}{s:Aa}{ws:Wd}{S:Nat->Prop}(h:WideAt E w b s ws)(he:Ext S w w')(hp: ¬S b)(hs: ∀a,s.base=some a-> ¬S a.block):WideAt E w' b s ws:=
 ⟨he.cell h.c2 hp,by rw[he.frozen (p:=⟨b,2,none⟩) h.lt hp];exact h.f2,h.own.ext he λg d=>hs _ d,h.ok,h.apart⟩
def WideAt.cells{E:Env}{w:World}{b:Nat}{s:Aa}{ws:Wd}(h:WideAt E w b s ws){i:Nat}{q:Int×Int×Int}(j:ws[i]? =some q):
  ∃r,s.base=some ⟨r,0,none⟩/\w.cell? ⟨r,i*3,none⟩=some (.int .u64 q.1)/\w.cell? ⟨r,i*3+1,none⟩=some (.int .u64 q.2.1)/\w.cell? ⟨r,i*3+2,none⟩=some (.int .i64 q.2.2):=by
 have d:=h.own.rowAt;obtain⟨g1,g2,g3⟩:=Vt ws i q j;rcases h.own.row with ⟨h1,h2⟩|⟨b,cs,h1,_⟩
 .rw[h1]at d;have:flat3 ws=[]:=d
  grind
 .rw[h1]at d;refine⟨b,h1,?_,?_,?_⟩
  .have:=d.2 _ _ g1;rwa[add_eq,Nat.zero_add]at this
  .have:=d.2 _ _ g2;rwa[add_eq,Nat.zero_add]at this
  .have:=d.2 _ _ g3;rwa[add_eq,Nat.zero_add]at this
def UC{E:Env}{w:World}{b:Nat}{s:Aa}{ws:Wd}(h:WideAt E w b s ws){c:Int}{K:Int->World->Prop}(hK: ∀w',Ext AP w w'->K (wholeL ws c) w'):
  F.Ha E (some ⟨b,0,none⟩) c K w:=by
 unfold F.Ha;simp only[AG,add_eq,Nat.zero_add];have hlen:=h.len;have hsm:=h.ok.len;refine⟨s,h.c2,AH (λst w'=> ∃k:Nat,st.1=(k:Int)/\k<=ws.length/\wholeL ws c=wholeL (ws.drop k) c/\Ext AP w w') (λst _=>(ws.length-st.1).toNat) ⟨0,rfl,Nat.zero_le _,rfl,Ext.refl _ _⟩ ?_⟩;rintro⟨i,u⟩ _ w4 ⟨k,hk,aL,j,y⟩;simp only at hk⊢;subst hk;have h4:=h.ext y (λf=>f) λ_ _ f=>f;refine AB (λaN=> ?_) (λaK=> ?_)
 .have hl:k<ws.length:=by omega
  have hg:=List.getElem?_eq_getElem hl;obtain⟨r,hr,aC,aD,aE⟩:=h4.cells hg;rw[hr];simp only[AG,add_eq,Nat.zero_add,Int.toNat_natCast,Nat.add_zero];refine⟨⟨by omega,by omega⟩,_,aC,_,aD,_,aE,BS λaR J aF T=> ?_⟩;refine Jc _ _ _ _ _ _ _ J (by simp) (by intro v hv;simp at hv;rcases hv with rfl|rfl|rfl<;>rfl) λaB Y aG d=> ?_;simp at d;have aA:Ext AP w aB:=(y.trans' T).trans Y (λ_ _ f=>f) λi hi e=>by have:i=w4.heap.size:=e;have:=y.size;omega
  refine AX (λst w'=>w'=aB/\(st.1=true↔ws[k].1<=c/\c<ws[k].2.1)) ?_ ?_
  .refine⟨ws[k].1,by rw[AW d];rfl,AB (λh1=> ?_) (λh1=> ?_)⟩
   .refine⟨ws[k].2.1,by rw[AW d];rfl,rfl,?_⟩
    grind
   .refine⟨rfl,?_⟩
    grind
  .rintro⟨bt,u⟩ _ aS ⟨rfl,O⟩;simp only at O⊢;have hd:=Td hg;refine AQ (λht=> ?_) (λhf=> ?_)
   .refine⟨ws[k].2.2,by rw[AW d];rfl,?_⟩;have:wholeL ws c=ws[k].2.2:=by rw[j,hd,wholeL,if_pos (O.1 ht)]
    grind
   .have hn: ¬(ws[k].1<=c/\c<ws[k].2.1):=λh=>by grind
    refine⟨⟨k+1,by rw[AE];omega,by omega,by rw[j,hd,wholeL,if_neg hn],aA⟩,by rw[AE];omega⟩
 .have:ws.drop k=[]:=List.drop_eq_nil_of_le (by omega);rw[this]at j;have:wholeL ws c=0:=j
  grind
def QG{E:Env}{w:World}{B g:Nat}{s:Aa}{m:Wd}{q:Int×Int×Int}{K:Aa->World->Prop}(d:I0 w B E.BV 3 s (flat3 m))
  (T:w.heap[g]? =some (.cells ⟨[.int .u64 q.1,.int .u64 q.2.1,.int .i64 q.2.2]⟩ E.BV))(y:B<=w.heap.size)(hm:m.length<=67108865)
  (J: ∀s' w',I0 w' B E.BV 3 s' (flat3 (m++[q]))->Ext (Ke s) w w'->(s'.base=s.base∨ ∃b,s'.base=some ⟨b,0,none⟩/\w.heap.size<=b)->K s' w'):
  APP E.BV 3 24 #[.int .u64 0,.int .u64 0,.int .i64 0] s ⟨some ⟨g,0,none⟩,1,1⟩ w K:=by
 have Y:=d.len;rw[Me]at Y;refine Pg (news:=[.int .u64 q.1,.int .u64 q.2.1,.int .i64 q.2.2]) rfl d (Np T rfl) rfl (by intro v j;simp at j;rcases j with rfl|rfl|rfl<;>rfl) y (by grind) (by grind) ?_;intro s' w' ho aA he O;refine J s' w' ?_ he O;rw[QD];exact ho
def Yf{l:Wd}{a b:Int}(h:gE l)(d:a<b):(wcut l a b).length<=67108864:=(Yc h d).len
def jP{l:Wd}(h:gE l)(k:Nat):gE (l.take k):=by
 have h1:=h;rw[<-List.take_append_drop k l,UB]at h1;exact h1.1
structure MapG where
 s:Aa
 ks:Iv
 sw:Aa
 ws:Wd
 mb:Nat
 lv:Int->Option (Nat×(Int->Int))
structure HK(E:Env)(w:World)(b:Nat)(G:MapG):Prop where
 set:Jn E w b 0 G.s G.ks
 wide:WideAt E w b G.sw G.ws
 c3:w.cell? ⟨b,3,none⟩=some (.map (some G.mb))
 map: ∃es c m,w.heap[G.mb]? =some (.map es c)/\MapI .u64 es c m/\ ∀k,aget m k=(G.lv k).map λq=>.pointer (some ⟨q.1,0,none⟩)
 leaf: ∀k q,G.lv k=some q-> ∀i:Nat,i<512->w.cell? ⟨q.1,i,none⟩=some (.int .i64 (q.2 i))/\w.frozen? ⟨q.1,i,none⟩=false
 inj: ∀k k' q q',G.lv k=some q->G.lv k'=some q'->q.1=q'.1->k=k'
 d1: ∀k,Ke G.s k-> ¬Ke G.sw k
 d2: ∀k q,G.lv k=some q->q.1≠b/\ ¬Ke G.s q.1/\ ¬Ke G.sw q.1
section
variable{E:Env}{w w':World}{b:Nat}{G:MapG}
def HK.lt(h:HK E w b G):b<w.heap.size:=h.wide.lt
def HK.xX(h:HK E w b G):G.mb≠b:=by
 rintro e;obtain⟨es,c,m,h1,_⟩:=h.map;rw[e]at h1;exact Tz h1 h.c3
def HK.ms(h:HK E w b G): ¬Ke G.s G.mb:=by
 obtain⟨es,c,m,h1,_⟩:=h.map;exact h.set.row.own.Ws h1
def HK.mw(h:HK E w b G): ¬Ke G.sw G.mb:=by
 obtain⟨es,c,m,h1,_⟩:=h.map;exact h.wide.own.Ws h1
def HK.ml(h:HK E w b G){k:Int}{q:Nat×(Int->Int)}(hk:G.lv k=some q):q.1≠G.mb:=by
 rintro e;obtain⟨es,c,m,h1,_⟩:=h.map;rw[<-e]at h1;exact Tz h1 (h.leaf k q hk 0 (by decide)).1
def HK.mlt(h:HK E w b G):G.mb<w.heap.size:=by
 obtain⟨es,c,m,h1,_⟩:=h.map
 grind
def Jq(b:Nat)(G:MapG)(k:Nat):Prop:=k=b∨k=G.mb∨Ke G.s k∨Ke G.sw k∨ ∃c q,G.lv c=some q/\k=q.1
def HK.OK(h:HK E w b G){k:Nat}(hk:Jq b G k):k<w.heap.size:=by
 rcases hk with rfl|rfl|hk|hk|⟨c,q,hk,rfl⟩
 .exact h.lt
 .exact h.mlt
 .exact(h.set.row.own.Fz hk).2
 .exact(h.wide.own.Fz hk).2
 .exact World.block_lt_of_cell? w _ (h.leaf c q hk 0 (by decide)).1
def HK.ext{S:Nat->Prop}(h:HK E w b G)(he:Ext S w w')(hS: ∀k,Jq b G k-> ¬S k):HK E w' b G:=by
 have j: ¬S b:=hS b (.inl rfl);refine⟨h.set.ext he j λa d=>hS _ (.inr (.inr (.inl ⟨a,d,rfl⟩))),h.wide.ext he j λa d=>hS _ (.inr (.inr (.inr (.inl ⟨a,d,rfl⟩)))),he.cell h.c3 j,?_,?_,h.inj,h.d1,h.d2⟩
 .obtain⟨es,c,m,h1,h2⟩:=h.map;exact⟨es,c,m,he.obj h1 (hS _ (.inr (.inl rfl))),h2⟩
 .intro k q hk i y;obtain⟨h1,h2⟩:=h.leaf k q hk i y;have v: ¬S q.1:=hS _ (.inr (.inr (.inr (.inr ⟨k,q,hk,rfl⟩))));exact⟨he.cell h1 v,by rw[he.frozen (World.block_lt_of_cell? w _ h1) v];exact h2⟩
def HK.FP(h:HK E w b G)(he:Ext AP w w'):HK E w' b G:=h.ext he λ_ _ f=>f
end
def MapG.cut(G:MapG)(a c:Int)(sw:Aa):MapG:={G with sw:=sw,ws:=wcut G.ws a c,lv:=λk=>if a<=k/\k<c then none else G.lv k}
def Vv{E:Env}{w:World}{b:Nat}{G:MapG}(h:HK E w b G){a c:Int}(ha:0<=a)(bD:a<c)(hc:c<=67108864){K:World->Prop}
  (hK: ∀w' b6,HK E w' b (G.cut a c b6)->Ext (λk=>k=b∨k=G.mb) w w'->(∀k,Ke b6 k->w.heap.size<=k)->K w'):
  F.Is E (some ⟨b,0,none⟩) a c K w:=by
 unfold F.Is;simp only[AG,add_eq,Nat.zero_add];have hlen:=h.wide.len;have hsm:=h.wide.ok.len;have cU:=h.lt;refine⟨G.sw,h.wide.c2,AH (λst w'=> ∃k:Nat,st.2.1=(k:Int)/\k<=G.ws.length/\I0 w' w.heap.size E.BV 3 st.1 (flat3 (wcut (G.ws.take k) a c))/\Ext AP w w')
  (λst _=>(G.ws.length-st.2.1).toNat) ⟨0,rfl,Nat.zero_le _,I0.nil _ _ _ _,Ext.refl _ _⟩ ?_⟩
 rintro⟨s3,i,u⟩ _ w4 ⟨k,hk,T,O,aV⟩;simp only at hk O⊢;subst hk;refine AB (λcF=> ?_) (λcD=> ?_)
 .have hl:k<G.ws.length:=by omega
  have hg:=List.getElem?_eq_getElem hl;have h4:=h.FP aV;obtain⟨r,hr,bY,bZ,b0⟩:=h4.wide.cells hg;generalize hq:G.ws[k]=q at hg bY bZ b0;have cJ:q∈G.ws:=List.mem_of_getElem? hg;have c1:=h.wide.ok.1 q cJ;have a9:G.ws.take (k+1)=G.ws.take k++[q]:=E8 hg;have aI:wcut (G.ws.take (k+1)) a c=wcut (G.ws.take k) a c++KX q a c:=by rw[a9,Ye];simp[wcut]
  have c7:(wcut (G.ws.take k) a c).length<=67108864:=Yf (jP h.wide.ok k) bD;rw[hr];simp only[AG,add_eq,Nat.zero_add,Int.toNat_natCast,Nat.add_zero];refine⟨⟨by omega,by omega⟩,_,bY,_,bZ,_,b0,BS λc9 bF cK aY=> ?_⟩;refine Jc _ _ _ _ _ _ _ bF (by simp) (by intro v hv;simp at hv;rcases hv with rfl|rfl|rfl<;>rfl) λbB aZ cL y=> ?_;simp at y;have aH:Ext AP w bB:=(aV.trans' aY).trans aZ (λ_ _ f=>f) λi hi e=>by have:i=w4.heap.size:=e;have:=aV.size;omega
  have J:I0 bB w.heap.size E.BV 3 s3 (flat3 (wcut (G.ws.take k) a c)):=(O.ext aY λ_ _ f=>f).ext aZ λg a3 e=>by
   have:=O.lt a3;have:g=w4.heap.size:=e;grind
  have bQ: ∀g,s3.base=some ⟨g,0,none⟩->g≠w4.heap.size:=λg a3 e=>by have:=O.lt a3;grind
  refine AX (λst w'=>w'=bB/\(st.1=true↔q.2.1<=a∨c<=q.1)) ?_ ?_
  .refine⟨q.2.1,by rw[AW y];rfl,AB (λh1=> ?_) (λh1=> ?_)⟩
   .refine⟨rfl,?_⟩;simp;omega
   .refine⟨q.1,by rw[AW y];rfl,rfl,?_⟩;simp;omega
  .rintro⟨bt,u⟩ _ dA ⟨rfl,bM⟩;simp only at bM⊢;refine AQ (λht=> ?_) (λhf=> ?_)
   .have cE:=bM.1 ht;refine⟨q.1,by rw[AW y];rfl,q.2.1,by rw[AW y];rfl,q.2.2,by rw[AW y];rfl,BS λdB bG cM aP=> ?_⟩;refine QG (J.ext aP λ_ _ f=>f) bG (by have:=aH.size;omega) (by omega) λQ4 dC bV bN bL=> ?_;have b3:=Hf (aH.trans' aP) (J.ext aP λ_ _ f=>f) (Nat.le_refl _) bN;have h1:KX q a c=[q]:=by
     unfold KX
     grind
    refine⟨⟨k+1,by rw[AE];omega,by omega,by rw[aI,h1];exact bV,b3⟩,by rw[AE];omega⟩
   .have cZ: ¬(q.2.1<=a∨c<=q.1):=λh=>by grind
    refine AX (λst w'=>I0 w' w.heap.size E.BV 3 st.1 (flat3 (wcut (G.ws.take k) a c++if q.1<a then [(q.1,a,q.2.2)]else []))/\Ext AP w w'/\
      w'.heap[w4.heap.size]? =some (.cells #[.int .u64 q.1,.int .u64 q.2.1,.int .i64 q.2.2] E.BV)/\w4.heap.size<w'.heap.size/\ ∀g,st.1.base=some ⟨g,0,none⟩->g≠w4.heap.size) ?_ ?_
    .refine⟨q.1,by rw[AW y];rfl,AB (λh1=> ?_) (λh1=> ?_)⟩
     .refine⟨q.1,by rw[AW y];rfl,q.2.2,by rw[AW y];rfl,BS λdE bH cN aJ=> ?_⟩;refine QG (q:=(q.1,a,q.2.2)) (J.ext aJ λ_ _ f=>f) bH (by have:=aH.size;omega) (by omega) λPW dF bW aQ bL=> ?_;have b4:=Hf (aH.trans' aJ) (J.ext aJ λ_ _ f=>f) (Nat.le_refl _) aQ;refine⟨by rw[if_pos h1];exact bW,b4,aQ.obj (aJ.obj y λf=>f) ?_,by have:=aQ.size;omega,?_⟩
      .rintro⟨a',aD,cB⟩;have:=J.lt aD;exact bQ a'.block (by rw[aD];cases a';simp_all) cB.symm
      grind
     .refine⟨by rw[if_neg h1,List.append_nil];exact J,aH,y,by omega,bQ⟩
    .rintro⟨bK,u⟩ _ dD ⟨aK,aU,aM,cG,bP⟩;simp only at aK bP⊢;refine⟨q.2.1,by rw[AW aM];rfl,AB (λh1=> ?_) (λh1=> ?_)⟩
     .refine⟨q.2.1,by rw[AW aM];rfl,q.2.2,by rw[AW aM];rfl,BS λdG bI cO aR=> ?_⟩;refine QG (q:=(c,q.2.1,q.2.2)) (aK.ext aR λ_ _ f=>f) bI (by have:=aU.size;omega) (by grind) λaE dH bX bO bL=> ?_;have b5:=Hf (aU.trans' aR) (aK.ext aR λ_ _ f=>f) (Nat.le_refl _) bO;have h2:KX q a c=(if q.1<a then [(q.1,a,q.2.2)]else [])++[(c,q.2.1,q.2.2)]:=by
       unfold KX
       grind
      refine⟨⟨k+1,by rw[AE];omega,by omega,by rw[aI,h2,<-List.append_assoc];exact bX,b5⟩,by rw[AE];omega⟩
     .have h2:KX q a c=(if q.1<a then [(q.1,a,q.2.2)]else []):=by
       unfold KX
       grind
      refine⟨⟨k+1,by rw[AE];omega,by omega,by rw[aI,h2];exact aK,aU⟩,by rw[AE];omega⟩
 .have a9:G.ws.take k=G.ws:=List.take_of_length_le (by omega);rw[a9]at O;have h4:=h.FP aV;refine Ln h4.wide.c2 h4.wide.f2 rfl λaC aG=> ?_;have hu:No b (λj=>j=2) w4 aC:=No.IV aG rfl;have b1:Jn E aC b 0 G.s G.ks:=h4.set.KV hu (by decide) (by decide);have aN: ∀k,Ke s3 k->w.heap.size<=k:=λk hk=>(O.Fz hk).1;have bA:WideAt E aC b s3 (wcut G.ws a c):=by
   refine⟨aG.same,by rw[aG.frozen];exact h4.wide.f2,(O.ext aG.ext λg hg e=> ?_).lower (Nat.zero_le _),Yc h.wide.ok bD,λa' aD e=> ?_⟩
   .have:=O.lt hg;have:g=b:=e;grind
   .have:=(O.lt aD).1;omega
  have aO:aC.cell? ⟨b,3,none⟩=some (.map (some G.mb)):=by rw[aG.other _ (by grind)];exact h4.c3
  obtain⟨es,cl,m,bR,bS,cA⟩:=h4.map;have Y:aC.heap[G.mb]? =some (.map es cl):=aG.ext.obj bR h.xX;have a0:Ext (KF b) w aC:=(aV.any).trans' aG.ext;have a6: ∀k q,G.lv k=some q-> ∀i:Nat,i<512->aC.cell? ⟨q.1,i,none⟩=some (.int .i64 (q.2 i))/\aC.frozen? ⟨q.1,i,none⟩=false:=by
   intro k q hk i hi;obtain⟨h1,h2⟩:=h4.leaf k q hk i hi;have hn: ¬KF b q.1:=(h.d2 k q hk).1;exact⟨aG.ext.cell h1 hn,by rw[aG.ext.frozen (World.block_lt_of_cell? w4 _ h1) hn];exact h2⟩
  have fin: ∀w' aA m',Ext (λk=>k=G.mb∨w.heap.size<=k/\ ¬Ke s3 k) aC w'->w'.heap[G.mb]? =some (.map aA cl)->MapI .u64 aA cl m'->(∀k,aget m' k=if a<=k/\k<c then none else aget m k)->K w':=by
   intro w' aA m' d aL aF aB;have a8: ¬(b=G.mb∨w.heap.size<=b/\ ¬Ke s3 b):=by
    rintro(e|⟨e,_⟩)
    .exact h.xX e.symm
    .omega
   refine hK w' s3 ⟨?_,?_,d.cell aO a8,⟨aA,cl,m',aL,aF,?_⟩,?_,?_,?_,?_⟩ ?_ aN
   .refine b1.ext d a8 λa' aD=> ?_;have:=(h.set.row.own.lt aD);rintro(e|⟨e,_⟩)
    .exact h.ms ⟨a',aD,e.symm⟩
    .omega
   .refine bA.ext d a8 λa' aD=> ?_;have:=O.lt aD;rintro(e|⟨_,e⟩)
    .have:=h.mlt;omega
    .exact e ⟨a',aD,rfl⟩
   .intro k;rw[aB,cA];show _=Option.map _ (if a<=k/\k<c then none else G.lv k)
    grind
   .intro k q hk i hi;have T:(if a<=k/\k<c then none else G.lv k)=some q:=hk;split at T
    .cases T
    .obtain⟨h1,h2⟩:=a6 k q T i hi;have hq:=World.block_lt_of_cell? w _ (h.leaf k q T i hi).1;have hn: ¬(q.1=G.mb∨w.heap.size<=q.1/\ ¬Ke s3 q.1):=by
      rintro(e|⟨e,_⟩)
      .exact h.ml T e
      grind
     exact⟨d.cell h1 hn,by rw[d.frozen (World.block_lt_of_cell? aC _ h1) hn];exact h2⟩
   .intro k k' q q' hk a5 e;have T:(if a<=k/\k<c then none else G.lv k)=some q:=hk;have aT:(if a<=k'/\k'<c then none else G.lv k')=some q':=a5;split at T
    .cases T
    .split at aT
     .cases aT
     .exact h.inj k k' q q' T aT e
   .intro k hk a5;have:=aN k a5;have:=(h.set.row.own.Fz hk).2;omega
   .intro k q hk;have T:(if a<=k/\k<c then none else G.lv k)=some q:=hk;split at T
    .cases T
    .obtain⟨g1,g2,g3⟩:=h.d2 k q T;refine⟨g1,g2,λg=> ?_⟩;have:=aN _ g;have:=World.block_lt_of_cell? w _ (h.leaf k q T 0 (by decide)).1
     grind
   .refine a0.trans d (λi _ e=>.inl e) λi hi e=> ?_;omega
  refine⟨some G.mb,aO,es,⟨cl,Y⟩,AQ (λ_=> ?_) (λ_=> ?_)⟩
  .refine⟨some G.mb,aO,cl,⟨es,Y⟩,BS λdI bJ cP aS=> ?_⟩;have a7:=aS.obj Y λf=>f;have cI:=F4 Y;refine range_del (K:=K) (m0:=m) (m1:=m) (es0:=es) (seen0:= #[]) (mb:=G.mb) (since:=cl) (a:=a) (b:=c) (getm:=λK' w=> ∃b7:(Option Nat),w.cell? ⟨b,3,none⟩=some (.map b7)/\K' b7 w) (λw' K' he hk=>⟨some G.mb,?_,hk⟩)
    ⟨⟨cl,bJ,.inl rfl⟩,a7,bS,λ_ _=>rfl,λ_ _ h=>h,by simp⟩ (by omega) (by omega) (by omega) ?_
   .refine he.cell (aS.cell aO λf=>f) ?_;rintro(e|e)
    .have:=a0.size;grind
    .exact h.xX e.symm
   .intro w' aA m' d c5 aL aF aB;refine fin w' aA m' ?_ aL aF aB;refine aS.any.trans d (λ_ _ f=>f) λi hi e=> ?_;omega
  .refine AH (λst w'=> ∃aA m',a<=st.1/\st.1<=c/\Ext (KF G.mb) aC w'/\w'.heap[G.mb]? =some (.map aA cl)/\MapI .u64 aA cl m'/\ ∀k,aget m' k=if a<=k/\k<st.1 then none else aget m k)
    (λst _=>(c-st.1).toNat) ⟨es,m,Int.le_refl _,by simp only;omega,Ext.refl _ _,Y,bS,λk=>by grind⟩ ?_
   rintro⟨x,u⟩ _ cS ⟨aA,m',cQ,cR,d,aL,aF,aB⟩;simp only at cQ cR aB⊢;refine AB (λcF=> ?_) (λcD=> ?_)
   .refine⟨some G.mb,d.cell aO (λe=>h.xX e.symm),O7 aL aF λdJ b9 m2 cH bT bE _ _ _ cC _=> ?_⟩;refine⟨⟨b9,m2,?_,?_,d.trans' cC,cH,bT,λk=> ?_⟩,?_⟩
    .rw[AK];omega
    .rw[AK];omega
    .rw[AK,bE,aB]
     grind
    .rw[AK];omega
   .have:x=c:=by omega
    subst this;exact fin cS aA m' (d.mono λi _ e=>.inl e) aL aF aB
def MapG.own(G:MapG)(p:Int):Int:=match G.lv (p/512)with
 | some q=>q.2 (p %512)
 | none=>wholeL G.ws (p/512)
structure Gu(E:Env)(b:Nat)(w:World)(G:MapG)(w':World)(G':MapG):Prop where
 rep:HK E w' b G'
 ext:Ext (Jq b G) w w'
 VC: ∀k,Jq b G' k->Jq b G k∨w.heap.size<=k
section
variable{E:Env}{w w' w1:World}{b:Nat}{G G' G1:MapG}
def Gu.refl(h:HK E w b G):Gu E b w G w G:=⟨h,Ext.refl _ _,λ_ h=>.inl h⟩
def Gu.nothing(h:HK E w b G)(he:Ext AP w w'):Gu E b w G w' G:=⟨h.FP he,he.any,λ_ h=>.inl h⟩
def Gu.trans(h:Gu E b w G w1 G1)(k:Gu E b w1 G1 w' G'):Gu E b w G w' G':=
 ⟨k.rep,h.ext.trans k.ext (λ_ _ s=>s) (λi d s=>by rcases h.VC i s with s|s;exact s;omega),λi d=>by
  rcases k.VC i d with s|s
  .exact h.VC i s
  .have:=h.ext.size;omega⟩
def Gu.jQ(h:Gu E b w G w' G'){k:Nat}(hk: ¬Jq b G k)(d:k<w.heap.size): ¬Jq b G' k:=λe=>by
 rcases h.VC k e with s|s
 .exact hk s
 .omega
end
def jR{E:Env}{w:World}{b:Nat}{G:MapG}(h:HK E w b G){c:Int}(aU:0<=c)(hc:c<67108864){K:Option Addr->World->Prop}
  (hK: ∀w' G' q,Gu E b w G w' G'->G'.ks=G.ks->G'.lv c=some q->(∀p,G'.own p=G.own p)->K (some ⟨q.1,0,none⟩) w'):
  F.FL E (some ⟨b,0,none⟩) c K w:=by
 unfold F.FL T0.FL;simp only[AG,add_eq,Nat.zero_add];obtain⟨es,cl,m,hm,aZ,aS⟩:=h.map;refine⟨some G.mb,h.c3,L0 hm aZ ?_⟩;rw[aS];cases hlv:G.lv c with
 | some q=>exact⟨some ⟨q.1,0,none⟩,rfl,AQ (λe=>by cases e) (λ_=>hK w G q (Gu.refl h) rfl hlv λ_=>rfl)⟩
 | none=>
  refine⟨none,rfl,AQ (λ_=> ?_) (λe=>by cases e)⟩;refine UC h.wide λw8 aJ=> ?_;rw[AK];refine Vv (h.FP aJ) aU (by omega) (by omega) λO y h9 aL aT=> ?_;generalize hzs:Array.replicate 512 (Value.int .i64 0)=zs;have hz: ∀i:Nat,i<512->zs[i]? =some (.int .i64 0):=by grind
  clear hzs;refine BS λa4 aE a1 aF=> ?_;have aQ:=h9.FP aF;have bJ:w8.heap.size<=O.heap.size:=aL.size;have bI:w.heap.size<=w8.heap.size:=aJ.size;have J: ¬Jq b (G.cut c (c+1) y) O.heap.size:=λe=>by have:=h9.OK e;omega
  refine AH (λst w'=> ∃k:Nat,st.1=(k:Int)/\k<=512/\Ext (KF O.heap.size) a4 w'/\ ∀i:Nat,i<512->w'.cell? ⟨O.heap.size,i,none⟩=some (.int .i64 (if i<k then wholeL G.ws c else 0))/\w'.frozen? ⟨O.heap.size,i,none⟩=false)
   (λst _=>(512-st.1).toNat) ⟨0,rfl,by decide,Ext.refl _ _,λi hi=>⟨by rw[AW aE,if_neg (by omega)];grind,by simp[World.frozen?,aE]⟩⟩ ?_
  rintro⟨i,u⟩ _ aD ⟨k,hk,d,Y,Ca⟩;simp only at hk⊢;subst hk;refine AB (λbH=> ?_) (λbG=> ?_)
  .refine⟨⟨by omega,by omega⟩,?_⟩;have aB:k<512:=by omega
   simp only[Int.toNat_natCast,Nat.mul_one];refine Ln (Ca k aB).1 (Ca k aB).2 rfl λbL aC=> ?_;refine⟨⟨k+1,by rw[AE];omega,by omega,Y.trans' aC.ext,λi hi=> ?_⟩,by rw[AE];omega⟩;rw[aC.frozen];refine⟨?_,(Ca i hi).2⟩;by_cases e:i=k
   .subst e;rw[aC.same,if_pos (by omega)]
   .rw[aC.other _ (by grind),(Ca i hi).1]
    grind
  .have aB:k=512:=by omega
   subst aB;have j:HK E aD b (G.cut c (c+1) y):=aQ.ext Y λk hk e=>by
    have:k=O.heap.size:=e
    grind
   obtain⟨bF,bB,m',aW,aM,a7⟩:=j.map;refine⟨some G.mb,j.c3,Te aW aM λaO aP c2 m2 aX aN a8 _ _ _ v a2=> ?_⟩;have aY:(G.cut c (c+1) y).mb=G.mb:=rfl;have aK:O.heap.size≠G.mb:=λe=>J (.inr (.inl (e.trans aY.symm)))
   let G2:MapG:={G.cut c (c+1) y with lv:=λk=>if k=c then some (O.heap.size,λ_=>wholeL G.ws c)else(G.cut c (c+1) y).lv k}
   have aI: ¬KF G.mb b:=λe=>j.xX e.symm;have a0:HK E aO b G2:=by
    refine⟨j.set.ext v aI λa ha e=>j.ms ⟨a,ha,e.symm⟩,j.wide.ext v aI λa ha e=>j.mw ⟨a,ha,e.symm⟩,v.cell j.c3 aI,⟨aP,c2,m2,aX,aN,λk=> ?_⟩,?_,?_,j.d1,?_⟩
    .grind
    .intro k q hk i hi;have d:(if k=c then some (O.heap.size,λ_=>wholeL G.ws c)else(G.cut c (c+1) y).lv k)=some q:=hk;split at d
     .cases d;obtain⟨g1,g2⟩:=Ca i hi;rw[if_pos hi]at g1;refine⟨v.cell g1 λe=>aK e,?_⟩;rw[v.frozen (World.block_lt_of_cell? aD _ g1) λe=>aK e];exact g2
     .obtain⟨g1,g2⟩:=j.leaf k q d i hi;have hn: ¬KF G.mb q.1:=λe=>j.ml d e;exact⟨v.cell g1 hn,by rw[v.frozen (World.block_lt_of_cell? aD _ g1) hn];exact g2⟩
    .intro k k' q q' hk aV e;have d:(if k=c then some (O.heap.size,λ_=>wholeL G.ws c)else(G.cut c (c+1) y).lv k)=some q:=hk;have T:(if k'=c then some (O.heap.size,λ_=>wholeL G.ws c)else(G.cut c (c+1) y).lv k')=some q':=aV;split at d
     .split at T
      .omega
      .cases d;exact absurd (.inr (.inr (.inr (.inr ⟨k',q',T,e⟩)))) J
     .split at T
      .cases T;exact absurd (.inr (.inr (.inr (.inr ⟨k,q,d,e.symm⟩)))) J
      .exact j.inj k k' q q' d T e
    .intro k q hk;have d:(if k=c then some (O.heap.size,λ_=>wholeL G.ws c)else(G.cut c (c+1) y).lv k)=some q:=hk;split at d
     .cases d;exact⟨λe=>J (.inl e),λe=>J (.inr (.inr (.inl e))),λe=>J (.inr (.inr (.inr (.inl e))))⟩
     .exact j.d2 k q d
   have aA: ∀k q,(G.cut c (c+1) y).lv k=some q->G.lv k=some q:=by
    intro k q hk;have d:(if c<=k/\k<c+1 then none else G.lv k)=some q:=hk
    grind
   refine hK aO G2 (O.heap.size,λ_=>wholeL G.ws c) ⟨a0,?_,?_⟩ rfl (if_pos rfl) ?_
   .have e1:Ext (Jq b G) w O:=(aJ.any).trans aL (λ_ _ f=>f) λi _ e=>by rcases e with e|e;exact .inl e;exact .inr (.inl e)
    have e2:Ext (KF O.heap.size) O aD:=(aF.any).trans' Y;have e3:=e2.trans v (U:=λk=>k=O.heap.size∨k=G.mb) (λi _ e=>.inl e) (λi _ e=>.inr e);refine e1.trans e3 (λ_ _ f=>f) λi hi e=> ?_;rcases e with e|e
    .omega
    .exact .inr (.inl e)
   .rintro k (e|e|e|e|⟨k',q,e,rfl⟩)
    .exact .inl (.inl e)
    .exact .inl (.inr (.inl e))
    .exact .inl (.inr (.inr (.inl e)))
    .exact .inr (by have:=aT k e;omega)
    .have d:(if k'=c then some (O.heap.size,λ_=>wholeL G.ws c)else(G.cut c (c+1) y).lv k')=some q:=e;split at d
     .grind
     .exact .inl (.inr (.inr (.inr (.inr ⟨k',q,aA _ _ d,rfl⟩))))
   .intro p;unfold MapG.own;show(match(if p/512=c then some (O.heap.size,λ_=>wholeL G.ws c)else if c<=p/512/\p/512<c+1 then none else G.lv (p/512))with|some q=>q.2 (p %512)|none=>wholeL (wcut G.ws c (c+1)) (p/512))=_;by_cases e:p/512=c
    .grind
    .rw[if_neg e,if_neg (by omega)];rw[Lf (by omega),if_neg (by omega)]
def MapG.put(G:MapG)(c:Int)(q:Nat×(Int->Int))(i id:Int):MapG:={G with lv:=λk=>if k=c then some (q.1,λj=>if j=i then id else q.2 j)else G.lv k}
def oI{E:Env}{w w':World}{b:Nat}{G:MapG}(h:HK E w b G){c id:Int}{i:Nat}{q:Nat×(Int->Int)}(K:G.lv c=some q)
  (v:NX ⟨q.1,i,none⟩ (.int .i64 id) w w'):Gu E b w G w' (G.put c q i id):=by
 obtain⟨d1,d2,d3⟩:=h.d2 c q K;have hn: ¬KF q.1 b:=λe=>d1 e.symm;refine⟨⟨h.set.ext v.ext hn λa T e=>d2 ⟨a,T,e.symm⟩,h.wide.ext v.ext hn λa T e=>d3 ⟨a,T,e.symm⟩,v.ext.cell h.c3 hn,?_,?_,?_,h.d1,?_⟩,?_,?_⟩
 .obtain⟨es,cl,m,hm,aB,Y⟩:=h.map;refine⟨es,cl,m,v.ext.obj hm λe=>h.ml K e.symm,aB,λk=> ?_⟩;rw[Y];show _=Option.map _ (if k=c then _ else _)
  grind
 .intro k J hk j hj;have d:(if k=c then some (q.1,λj=>if j=(i:Int)then id else q.2 j)else G.lv k)=some J:=hk;split at d
  .cases d;obtain⟨g1,g2⟩:=h.leaf c q K j hj;rw[v.frozen];refine⟨?_,g2⟩;simp only;by_cases e:j=i
   .subst e;rw[if_pos rfl];exact v.same
   .rw[if_neg (by omega),v.other _ (by grind)];exact g1
  .rename_i hkc;obtain⟨g1,g2⟩:=h.leaf k J d j hj;have aD: ¬KF q.1 J.1:=λe=>hkc (h.inj k c J q d K e);exact⟨v.ext.cell g1 aD,by rw[v.frozen];exact g2⟩
 .intro k O q1 J hk aA e;have d:(if k=c then some (q.1,λj=>if j=(i:Int)then id else q.2 j)else G.lv k)=some q1:=hk;have y:(if O=c then some (q.1,λj=>if j=(i:Int)then id else q.2 j)else G.lv O)=some J:=aA;split at d
  .split at y
   .omega
   .rename_i e1 _;cases d;rw[e1];exact h.inj c O q J K y e
  .split at y
   .rename_i e1;cases y;rw[e1];exact h.inj k c q1 q d K e
   .exact h.inj k O q1 J d y e
 .intro k J hk;have d:(if k=c then some (q.1,λj=>if j=(i:Int)then id else q.2 j)else G.lv k)=some J:=hk;split at d
  .cases d;exact⟨d1,d2,d3⟩
  .exact h.d2 k J d
 .exact v.ext.mono λk _ e=>.inr (.inr (.inr (.inr ⟨c,q,K,e⟩)))
 .rintro k (e|e|e|e|⟨O,J,e,rfl⟩)
  .exact .inl (.inl e)
  .exact .inl (.inr (.inl e))
  .exact .inl (.inr (.inr (.inl e)))
  .exact .inl (.inr (.inr (.inr (.inl e))))
  .have d:(if O=c then some (q.1,λj=>if j=(i:Int)then id else q.2 j)else G.lv O)=some J:=e;split at d
   .cases d;exact .inl (.inr (.inr (.inr (.inr ⟨c,q,K,rfl⟩))))
   .exact .inl (.inr (.inr (.inr (.inr ⟨O,J,d,rfl⟩))))
def tN{G:MapG}{c id:Int}{i:Nat}{q:Nat×(Int->Int)}(d:G.lv c=some q)(p:Int):(G.put c q i id).own p=if p/512=c/\p %512=i then id else G.own p:=by
 unfold MapG.own MapG.put
 grind
def Nt{E:Env}{w:World}{b bi bm:Nat}{G:MapG}(h:HK E w b G){x y id:Int}(hx:0<=x)(hy:y<=34359738368)
  (hi:w.cell? ⟨bi,0,none⟩=some (.int .i64 id))(hm:w.cell? ⟨bm,0,none⟩=some (.pointer (some ⟨b,0,none⟩)))(aA: ¬Jq b G bi)(aG: ¬Jq b G bm){K:World->Prop}
  (hK: ∀w' G',Gu E b w G w' G'->G'.ks=G.ks->(∀p,G'.own p=if x<=p/\p<y then id else G.own p)->K w'):
  F.EE E x y (some ⟨bi,0,none⟩) (some ⟨bm,0,none⟩) K w:=by
 unfold F.EE T0.EE;simp only[AG,add_eq,Nat.zero_add,Nat.mul_one];refine AH (λst w'=> ∃G',x<=st.1/\(st.1<=y∨st.1=x)/\Gu E b w G w' G'/\G'.ks=G.ks/\ ∀p,G'.own p=if x<=p/\p<st.1 then id else G.own p)
  (λst _=>(y-st.1).toNat) ⟨G,Int.le_refl _,.inr rfl,Gu.refl h,rfl,λp=>by omega⟩ ?_
 rintro⟨n,u⟩ _ w2 ⟨G2,aH,aI,T,J,j⟩;simp only at aH aI j⊢;refine AB (λaR=> ?_) (λaO=> ?_)
 .have hl:bi<w.heap.size:=World.block_lt_of_cell? w _ hi;have aQ:bm<w.heap.size:=World.block_lt_of_cell? w _ hm;have hd:Ext AP w2 w2.drew:=Ext.drew _ _;have v:=T.trans (Gu.nothing T.rep hd);refine⟨some ⟨b,0,none⟩,v.ext.cell hm aG,by decide,by decide,id,v.ext.cell hi aA,?_⟩;have hdiv:Int.tdiv n 512=n/512:=Int.tdiv_eq_ediv_of_nonneg (by omega);have aC:Int.tmod n 512=n %512:=Int.tmod_eq_emod_of_nonneg (by omega);rw[hdiv,aC,AK];refine jR v.rep (by omega) (by omega) λw9 G9 q Y aB d O=> ?_;have aD:=v.trans Y;simp only[AG,add_eq,Nat.zero_add];refine⟨aD.ext.cell hi aA,⟨by omega,by omega⟩,?_⟩;have hj:(n %512).toNat<512:=by omega
  have aF:(((n %512).toNat:Nat):Int)=n %512:=by omega
  obtain⟨g1,g2⟩:=Y.rep.leaf _ q d _ hj;refine Ln g1 g2 rfl λaS aK=> ?_;have aJ:=oI Y.rep d aK;rw[AK];refine⟨⟨_,by omega,by omega,aD.trans aJ,aB.trans J,λp=> ?_⟩,by omega⟩;rw[tN d,O,j,aF];omega
 .refine hK w2 G2 T J λp=> ?_
  grind
structure EnvA(E:Env):Prop extends EnvS E where
 tO: ∀x y p1 p2 (R:Value->World->Prop) w,F.EE E x y p1 p2 (λw'=>R (.tuple ⟨[]⟩) w') w->E.call E.GR #[.int .u64 x,.int .u64 y,.pointer p1,.pointer p2] w R NI
def oJ{E:Env}{w:World}{K:Option Addr->World->Prop}
  (O: ∀w' b G,HK E w' b G->Ext AP w w'->(∀k,Jq b G k->w.heap.size<=k)->G.ks=[]->(∀p,G.own p=0)->K (some ⟨b,0,none⟩) w'):F.L8 E K w:=by
 unfold F.L8;refine BS λw1 y aA J=>BS λw2 d aB v=> ?_;have hm:=v.obj y λf=>f;refine O w2 w1.heap.size ⟨⟨none,0,0⟩,[],⟨none,0,0⟩,[],w.heap.size,λ_=>none⟩ ?_ (J.trans' v) ?_ rfl (λ_=>rfl)
 .have T: ∀k,¬Ke ⟨none,0,0⟩ k:=by rintro k ⟨a,j,_⟩;cases j
  refine⟨⟨⟨by rw[AW d];rfl,by simp[World.frozen?,d],I0.nil _ _ _ _,trivial,by simp,by grind⟩,by rw[AW d];rfl,by simp[World.frozen?,d]⟩,
   ⟨by rw[AW d];rfl,by simp[World.frozen?,d],I0.nil _ _ _ _,⟨by simp,List.Pairwise.nil⟩,by grind⟩,by rw[AW d];rfl,⟨_,_,_,hm,MapI.empty _,λ_=>rfl⟩,?_,?_,λk h=>absurd h (T k),?_⟩
  .grind
  .grind
  grind
 .rintro k (e|e|⟨a,j,_⟩|⟨a,j,_⟩|⟨c,q,Y,_⟩)
  .rw[e];omega
  .rw[e];grind
  .cases j
  .cases j
  .cases Y
section
variable{E:Env}{w:World}{b:Nat}{G:MapG}
def xY(h:HK E w b G){x:Int}(h0:0<=x)(hx:x<18446744073709551616){K:Int->World->Prop}(O: ∀w',Ext AP w w'->K (G.own (x/8192)) w'):
  F.Fj E (some ⟨b,0,none⟩) x K w:=by
 unfold F.Fj T0.Fj;have v:Int.tdiv x 8192=x/8192:=Int.tdiv_eq_ediv_of_nonneg h0;have y:Int.tdiv (x/8192) 512=x/8192/512:=Int.tdiv_eq_ediv_of_nonneg (by omega);have J:Int.tmod (x/8192) 512=x/8192 %512:=Int.tmod_eq_emod_of_nonneg (by omega);rw[v,AK (n:=x/8192),y,AK (n:=x/8192/512),J];simp only[AG,add_eq,Nat.zero_add,Nat.mul_one];obtain⟨es,Y,m,hm,j,d⟩:=h.map;refine⟨by decide,some G.mb,h.c3,by decide,L0 hm j ?_⟩;rw[d];cases hlv:G.lv (x/8192/512)with
 | some q=>
  refine⟨some ⟨q.1,0,none⟩,rfl,AQ (λ_=> ?_) (λe=>by cases e)⟩;refine⟨by decide,⟨by omega,by omega⟩,q.2 (x/8192 %512),?_,?_⟩
  .have:=(h.leaf _ q hlv (x/8192 %512).toNat (by omega)).1;rw[show(((x/8192 %512).toNat:Nat):Int)=x/8192 %512 from by omega]at this;simp only[add_eq,Nat.zero_add];exact this
  .have:G.own (x/8192)=q.2 (x/8192 %512):=by unfold MapG.own;rw[hlv]
   rw[<-this];exact O w (Ext.refl _ _)
 | none=>
  refine⟨none,rfl,AQ (λe=>by cases e) (λ_=>⟨by decide,UC h.wide λw' T=> ?_⟩)⟩;have:G.own (x/8192)=wholeL G.ws (x/8192/512):=by unfold MapG.own;rw[hlv]
  grind
end
section
variable{E:Env}(hE:EnvA E){w:World}{b:Nat}{G:MapG}
include hE
def MapG.grow(G:MapG)(s:Aa)(ks:Iv):MapG:={G with s:=s,ks:=ks}
end
section
variable{E:Env}(hE:EnvA E){w:World}{b:Nat}{G:MapG}
def jS{w w':World}(h:HK E w b G){y:Aa}{q:Int×Int×Int}(hq:0<=q.1/\q.1<q.2.1/\q.2.1<=67108864)(hd: ∀p∈G.ws,p.2.1<=q.1∨q.2.1<=p.1)
  (d:Ext (Ke G.sw) w w')(Y:I0 w' 0 E.BV 3 y (flat3 (G.ws++[q])))(hb:y.base=G.sw.base∨ ∃k,y.base=some ⟨k,0,none⟩/\w.heap.size<=k)
  {w2:World}(v:NX ⟨b,2,none⟩ (.slice y.base y.len y.cap) w' w2):Gu E b w G w2 {G with sw:=y,ws:=G.ws++[q]}:=by
 have K: ∀k,Ke y k->Ke G.sw k∨w.heap.size<=k:=by
  rintro k ⟨a,O,rfl⟩;rcases hb with e|⟨k,e,hk⟩
  .rw[e]at O;exact .inl ⟨a,O,rfl⟩
  grind
 have J: ¬Ke G.sw b:=by rintro⟨a,O,e⟩;exact h.wide.apart a O e.symm
 have T: ¬Ke y b:=λe=>by
  rcases K b e with e|e
  .exact J e
  .have:=h.lt;omega
 have hu:No b (λj=>j=2) w' w2:=No.IV v rfl;have aC:Jn E w' b 0 G.s G.ks:=h.set.ext d J λa O e=>h.d1 a.block ⟨a,O,rfl⟩ e;refine⟨⟨aC.KV hu (by decide) (by decide),⟨v.same,?_,Y.ext v.ext λg hg e=>T ⟨_,hg,e.symm⟩,?_,λa O e=>T ⟨a,O,e.symm⟩⟩,?_,?_,?_,h.inj,?_,?_⟩,?_,?_⟩
 .rw[v.frozen,d.frozen (p:=⟨b,2,none⟩) h.lt J];exact h.wide.f2
 .refine UB.2 ⟨h.wide.ok,⟨by grind,List.pairwise_singleton _ _⟩,λp hp r hr=> ?_⟩
  grind
 .rw[v.other _ (by grind)];exact d.cell h.c3 J
 .obtain⟨es,cl,m,h1,h2⟩:=h.map;exact⟨es,cl,m,v.ext.obj (d.obj h1 h.mw) h.xX,h2⟩
 .intro k q hk i hi;obtain⟨g1,g2⟩:=h.leaf k q hk i hi;have hn: ¬Ke G.sw q.1:=(h.d2 k q hk).2.2;have aB: ¬KF b q.1:=(h.d2 k q hk).1;exact⟨v.ext.cell (d.cell g1 hn) aB,by rw[v.frozen,d.frozen (World.block_lt_of_cell? w _ g1) hn];exact g2⟩
 .intro k hk aA;rcases K k aA with e|e
  .exact h.d1 k hk e
  .have:=(h.set.row.own.Fz hk).2;omega
 .intro k q hk;obtain⟨g1,g2,g3⟩:=h.d2 k q hk;refine⟨g1,g2,λe=> ?_⟩;rcases K _ e with e|e
  .exact g3 e
  .have:=World.block_lt_of_cell? w _ (h.leaf k q hk 0 (by decide)).1
   grind
 .exact d.trans v.ext (λi _ e=>.inr (.inr (.inr (.inl e)))) (λi _ e=>.inl e)
 .rintro k (e|e|e|e|⟨c',q,e,e2⟩)
  .exact .inl (.inl e)
  .exact .inl (.inr (.inl e))
  .exact .inl (.inr (.inr (.inl e)))
  .rcases K k e with e|e
   .exact .inl (.inr (.inr (.inr (.inl e))))
   omega
  .exact .inl (.inr (.inr (.inr (.inr ⟨c',q,e,e2⟩))))
def oK{w w':World}(h:HK E w b G){a c:Int}{j:Aa}(J:HK E w' b (G.cut a c j))(he:Ext (λk=>k=b∨k=G.mb) w w')(hf: ∀k,Ke j k->w.heap.size<=k):
  Gu E b w G w' (G.cut a c j):=by
 refine⟨J,he.mono λi _ e=>by rcases e with e|e;exact .inl e;exact .inr (.inl e),?_⟩;rintro k (e|e|e|e|⟨v,q,e,y⟩)
 .exact .inl (.inl e)
 .exact .inl (.inr (.inl e))
 .exact .inl (.inr (.inr (.inl e)))
 .exact .inr (hf k e)
 .have d:(if a<=v/\v<c then none else G.lv v)=some q:=e;split at d
  .cases d
  .exact .inl (.inr (.inr (.inr (.inr ⟨v,q,d,y⟩))))
def tP{a c:Int}(d:a<c)(j:Aa)(p:Int):(G.cut a c j).own p=if a<=p/512/\p/512<c then 0 else G.own p:=by
 unfold MapG.own;show(match(if a<=p/512/\p/512<c then none else G.lv (p/512))with|some q=>q.2 (p %512)|none=>wholeL (wcut G.ws a c) (p/512))=_;by_cases e:a<=p/512/\p/512<c
 .rw[if_pos e,if_pos e];show wholeL (wcut G.ws a c) (p/512)=0;rw[Lf d,if_pos e]
 .rw[if_neg e,if_neg e];cases G.lv (p/512)with
  | some q=>rfl
  | none=>
   show wholeL (wcut G.ws a c) (p/512)=_;rw[Lf d,if_neg e]
include hE
theorem jT(h:HK E w b G){x n id:Int}(a4:0<=x)(hx:x<18446744073709551616)(cJ:0<=n)(hn:n<18446744073709551616){K:Int->World->Prop}
  (bZ:(n=0∨id<0)-> ∀w',Ext AP w w'->K 1 w')
  (bG: ¬(n=0∨id<0)->(34359738368<=x∨34359738368-x<n∨ ∃c,x/512<=c/\c<(x+n+511)/512/\ ¬mem G.ks c)-> ∀w',Ext AP w w'->K 10 w')
  (bH: ¬(n=0∨id<0)->x<34359738368->n<=34359738368-x->(∀c,x/512<=c->c<(x+n+511)/512->mem G.ks c)-> ∀w' G',Gu E b w G w' G'->G'.ks=G.ks->
   (∀p,G'.own p=if x<=p/\p<x+n then id else G.own p)->K 0 w'):
  F.D8 E (some ⟨b,0,none⟩) x n id K w:=by
 unfold F.D8 T0.D8;refine BS λw2 bS cA bW=>BS λw4 bT cB bE=> ?_;have aQ:Ext AP w w4:=bW.trans' bE;have a7:=bE.obj bS λf=>f;have cm: ∀w',Ext AP w4 w'->w'.cell? ⟨w.heap.size,0,none⟩=some (.pointer (some ⟨b,0,none⟩)):=λw' he=>he.cell (by rw[AW a7];rfl) λf=>f;have ci: ∀w',Ext AP w4 w'->w'.cell? ⟨w2.heap.size,0,none⟩=some (.int .i64 id):=λw' he=>he.cell (by rw[AW bT];rfl) λf=>f;refine AX (λst w'=>w'=w4/\(st.1=true↔n=0∨id<0)) ?_ ?_
 .refine AQ (λe=>⟨rfl,?_⟩) (λe=>⟨id,ci w4 (Ext.refl _ _),rfl,?_⟩)
  .grind
  grind
 rintro⟨bt,u⟩ _ w7 ⟨rfl,bA⟩;simp only at bA⊢;refine AQ (λe=>bZ (bA.1 e) _ aQ) (λe=> ?_);have aP: ¬(n=0∨id<0):=λh=>by grind
 refine AX (λst w'=>w'=w7/\(st.1=true↔34359738368<=x∨34359738368-x<n)) ?_ ?_
 .refine AB (λe=>⟨rfl,?_⟩) (λe=>⟨rfl,?_⟩)
  .grind
  .rw[AK]
   grind
 rintro⟨cD,u⟩ _ cM ⟨rfl,bB⟩;simp only at bB⊢;refine AQ (λe=>bG aP (by grind) _ aQ) (λe=> ?_);have b8: ¬(34359738368<=x∨34359738368-x<n):=λh=>by grind
 have bN:x<34359738368:=by omega
 have bL:n<=34359738368-x:=by omega
 have cK:1<=n:=by omega
 refine⟨by decide,by decide,AY λlast aY=>⟨some ⟨b,0,none⟩,cm _ (Ext.refl _ _),?_⟩⟩;have cI:last=(x+n+511)/512:=by
  rw[aY,AK (n:=x+n),AK (n:=x+n+512),AK (n:=x+n+512-1)];rw[Int.tdiv_eq_ediv_of_nonneg (by omega),AK];omega
 have bX:u64 (Int.tdiv x 512)=x/512:=by rw[Int.tdiv_eq_ediv_of_nonneg a4,AK]
 simp only[AG];rw[bX];have h4:=h.FP aQ;have bF:x/512<=last:=by omega
 refine JH hE.toEnvS h4.set.row (by omega) bF (by omega) λaD v=> ?_;have bU:=Eu h.set.row.ok bF;rw[AK];have aH:Ext AP w aD:=aQ.trans' v;refine AQ (λe=>bG aP (.inr (.inr ?_)) _ aH) (λe=> ?_)
 .grind
 have a6:=bU.1 (by grind);refine⟨by decide,by decide,AY λfr bY=>AY λto b4=> ?_⟩;have b6:fr=(x+511)/512:=by
  rw[bY,AK (n:=x+512),AK (n:=x+512-1),Int.tdiv_eq_ediv_of_nonneg (by omega),AK];omega
 have cC:to=(x+n)/512:=by
  rw[b4,AK (n:=x+n),Int.tdiv_eq_ediv_of_nonneg (by omega),AK]
 have aU:=h.FP aH;have aZ: ¬Jq b G w.heap.size:=λe=>by have:=h.OK e;omega
 have aW: ¬Jq b G w2.heap.size:=λe=>by have:=h.OK e;omega
 have aX:w.heap.size<aD.heap.size:=by have:=v.size;omega
 have bJ:w2.heap.size<aD.heap.size:=by have:=v.size;omega
 refine AX (λ_ w'=> ∃G',Gu E b aD G w' G'/\G'.ks=G.ks/\ ∀p,G'.own p=if fr<=p/512/\p/512<to then id else G.own p) ?_ ?_
 .refine AB (λY=> ?_) (λcG=>⟨G,Gu.refl aU,rfl,λp=>by omega⟩);refine⟨some ⟨b,0,none⟩,cm _ v,Vv aU (by omega) Y (by omega) λaL aK aM bC aR=> ?_⟩;have aC:=oK aU aM bC aR;have aB: ∀w',Ext AP aL w'->w'.cell? ⟨w2.heap.size,0,none⟩=some (.int .i64 id):=λw' he=>he.cell (aC.ext.cell (ci _ v) aW) λf=>f;have y: ∀w',Ext AP aL w'->w'.cell? ⟨w.heap.size,0,none⟩=some (.pointer (some ⟨b,0,none⟩)):=λw' he=>he.cell (aC.ext.cell (cm _ v) aZ) λf=>f;refine⟨id,aB _ (Ext.refl _ _),AB (λb9=> ?_) (λhz=>⟨_,aC,rfl,λp=> ?_⟩)⟩
  .have hd:Ext AP aL aL.drew:=Ext.drew _ _;have bV:=aM.FP hd;refine⟨some ⟨b,0,none⟩,y _ hd,some ⟨b,0,none⟩,y _ hd,?_⟩;simp only[AG,add_eq,Nat.zero_add];refine⟨aK,bV.wide.c2,id,aB _ hd,BS λb5 a8 b3 bD=> ?_⟩;have j:Ext AP aL b5:=hd.trans' bD;have T:=aM.FP j;refine⟨aB _ j,T.wide.c2,y _ j,y _ j,?_⟩;refine QG (q:=(fr,to,id)) (m:=wcut G.ws fr to) T.wide.own a8 (Nat.zero_le _) (by have:=Yf h.wide.ok Y;omega) λYL cN bM J a9=> ?_;have aV: ∀k,k<aD.heap.size-> ¬Ke (G.cut fr to aK).sw k:=λk hk e=>by have:=aR k e;omega
   have bK: ¬Ke (G.cut fr to aK).sw b:=by rintro⟨a,ha,e⟩;exact T.wide.apart a ha e.symm
   refine⟨J.cell (aB _ j) (aV _ bJ),J.cell (y _ j) (aV _ aX),J.cell (y _ j) (aV _ aX),?_⟩;refine Ln (J.cell T.wide.c2 bK) (by rw[J.frozen (p:=⟨b,2,none⟩) T.lt bK];exact T.wide.f2) rfl λcO b1=> ?_;have a3:=jS T (q:=(fr,to,id)) ⟨by omega,Y,by grind⟩ (λp hp=>by
    obtain⟨p',b0,g1,g2,g3,g4⟩:=Lg h.wide.ok Y hp;exact g4) J bM a9 b1
   refine⟨_,(aC.trans (Gu.nothing aM j)).trans a3,rfl,λp=> ?_⟩;unfold MapG.own;show(match(if fr<=p/512/\p/512<to then none else G.lv (p/512))with|some q=>q.2 (p %512)|none=>wholeL (wcut G.ws fr to++[(fr,to,id)]) (p/512))=_;by_cases hin:fr<=p/512/\p/512<to
   .rw[if_pos hin,if_pos hin];show wholeL (wcut G.ws fr to++[(fr,to,id)]) (p/512)=id;rw[PD,wholeL,if_pos hin];rintro⟨p1,a1,g1,g2⟩;obtain⟨p',b0,_,_,_,g4⟩:=Lg h.wide.ok Y a1;omega
   .rw[if_neg hin,if_neg hin];cases G.lv (p/512)with
    | some q=>rfl
    | none=>
     show wholeL (wcut G.ws fr to++[(fr,to,id)]) (p/512)=wholeL G.ws (p/512);rw[<-show wholeL (wcut G.ws fr to) (p/512)=wholeL G.ws (p/512)from by rw[Lf Y,if_neg hin]];by_cases hex: ∃p1∈wcut G.ws fr to,p1.1<=p/512/\p/512<p1.2.1
     .rw[Vu hex]
     .rw[PD hex,wholeL,if_neg hin,Yb λp1 a1 h2=>hex ⟨p1,a1,h2⟩];rfl
  .rw[tP Y];omega
 rintro _ _ bP ⟨G1,d,aS,aJ⟩;have aE:bP.cell? ⟨w2.heap.size,0,none⟩=some (.int .i64 id):=d.ext.cell (ci _ v) aW;have aF:bP.cell? ⟨w.heap.size,0,none⟩=some (.pointer (some ⟨b,0,none⟩)):=d.ext.cell (cm _ v) aZ;have aO: ¬Jq b G1 w.heap.size:=d.jQ aZ aX;have aN: ¬Jq b G1 w2.heap.size:=d.jQ aW bJ;have aG: ∀c,x/512<=c->c<(x+n+511)/512->mem G.ks c:=λc h1 h2=>a6 c h1 (by omega);have aT:Gu E b w G aD G:=Gu.nothing h aH;refine AB (λcH=> ?_) (λhle=> ?_)
 .refine hE.tO _ _ _ _ _ _ ?_;rw[AK];refine Nt d.rep a4 (by omega) aE aF aN aO λw' G' a2 aI aA=>⟨rfl,?_⟩;refine bH aP bN bL aG w' G' ((aT.trans d).trans a2) (aI.trans aS) λp=> ?_;rw[aA,aJ];omega
 .refine hE.tO _ _ _ _ _ _ ?_;rw[AK];refine Nt d.rep a4 (by omega) aE aF aN aO λcP G2 O bI a0=>⟨rfl,?_⟩;refine hE.tO _ _ _ _ _ _ ?_;rw[AK (n:=to*512),AK (n:=x+n)];have b7:=d.ext.size;refine Nt O.rep (by omega) (by omega) (O.ext.cell aE aN) (O.ext.cell aF aO) (O.jQ aN (by omega)) (O.jQ aO (by omega)) λw' G' a2 aI aA=>⟨rfl,?_⟩;refine bH aP bN bL aG w' G' (((aT.trans d).trans O).trans a2) (aI.trans (bI.trans aS)) λp=> ?_;rw[aA,a0,aJ];omega
end
def CK(E:Env)(b:Nat)(ks:Iv)(own:Int->Int):Pr where
 holds D w:= ∃G,HK E w b G/\G.ks=ks/\(∀p,G.own p=own p)/\ ∀k,D k↔Jq b G k
 loc h he hS:=let⟨G,h1,h2,h3,h4⟩:=h;⟨G,h1.ext he λk hk=>hS k ((h4 k).2 hk),h2,h3,h4⟩
 lt h hk:=let⟨G,h1,_,_,h4⟩:=h;h1.OK ((h4 _).1 hk)
section
variable{E:Env}{b:Nat}{ks:Iv}{own:Int->Int}{Z:List Pr}{w:World}
def Sat.Yg(H:Sat (CK E b ks own::Z) w):
  ∃G,HK E w b G/\G.ks=ks/\(∀p,G.own p=own p)/\ ∀w' G' j d,Gu E b w G w' G'->G'.ks=j->(∀p,G'.own p=d p)->Sat (CK E b j d::Z) w':=by
 obtain⟨D,⟨G,h1,h2,K,v⟩,hs⟩:=H.step;refine⟨G,h1,h2,K,λw' G' j d st y J=>hs w' (Jq b G') _ (st.ext.mono λi _ O=>(v i).2 O) ⟨G',st.rep,y,J,λ_=>Iff.rfl⟩ λk hk=> ?_⟩;rcases st.VC k hk with h|h
 .exact .inl ((v k).2 h)
 .exact .inr h
def Sat.tQ(H:Sat (CK E b ks own::Z) w):Ok ks:=by
 obtain⟨G,h1,rfl,_⟩:=H.Yg;exact h1.set.row.ok
def oL(H:Sat Z w){K:Option Addr->World->Prop}(v: ∀w' b,Sat (CK E b [] (λ_=>0)::Z) w'->K (some ⟨b,0,none⟩) w'):F.L8 E K w:=
 oJ λw' b G y he J j d=>v w' b (H.new (P:=CK E b [] λ_=>0) (D:=Jq b G) he ⟨G,y,j,d,λ_=>Iff.rfl⟩ J)
def tR(H:Sat (CK E b ks own::Z) w){x:Int}(h0:0<=x)(v:x<18446744073709551616){K:Int->World->Prop}(j: ∀w',Sat (CK E b ks own::Z) w'->K (own (x/8192)) w'):
  F.Fj E (some ⟨b,0,none⟩) x K w:=by
 obtain⟨G,h1,h2,d,_⟩:=H.Yg;refine xY h1 h0 v λw' he=> ?_;rw[d];exact j w' (H.nothing he)
def cA(H:Sat (CK E b ks own::Z) w){K:Int->World->Prop}(d:K (Gn ks) w):F.Em E (some ⟨b,0,none⟩) K w:=by
 obtain⟨G,h1,h2,j,_⟩:=H.Yg;unfold F.Em T0.Em F.Hb;simp only[AG,add_eq,Nat.zero_add];refine⟨_,h1.set.c1,?_⟩;rw[h2];exact d
def jU{w':World}{G:MapG}(d:HK E w b G){s5:Aa}{K:Iv}(y:Jn E w' b 0 s5 K)(j:No b (Xm 0) w w')(T:Tv w G.s s5):Gu E b w G w' (G.grow s5 K):=by
 have v: ∀k,Ke s5 k->Ke G.s k∨w.heap.size<=k:=by
  rintro k ⟨a,ha,rfl⟩;rcases T with e|e
  .rw[e]at ha;exact .inl ⟨a,ha,rfl⟩
  grind
 refine⟨?_,?_,?_⟩
 .have O: ¬Xm 0 2:=by unfold Xm;omega
  have Y: ¬Xm 0 3:=by unfold Xm;omega
  have aB:=d.lt;refine⟨y,⟨by rw[j.Cv 2 O];exact d.wide.c2,by rw[j.qV];exact d.wide.f2,d.wide.own.ext j.ext λg hg e=>d.wide.apart _ hg e,d.wide.ok,d.wide.apart⟩,by rw[j.Cv 3 Y];exact d.c3,?_,?_,d.inj,?_,?_⟩
  .obtain⟨es,cl,m,h1,h2⟩:=d.map;exact⟨es,cl,m,j.ext.obj h1 d.xX,h2⟩
  .intro k q hk i hi;obtain⟨g1,g2⟩:=d.leaf k q hk i hi;have O: ¬KF b q.1:=(d.d2 k q hk).1;exact⟨j.ext.cell g1 O,by rw[j.ext.frozen (World.block_lt_of_cell? w _ g1) O];exact g2⟩
  .intro k hk J;rcases v k hk with e|e
   .exact d.d1 k e J
   .have:=(d.wide.own.Fz J).2;omega
  .intro k q hk;obtain⟨g1,g2,g3⟩:=d.d2 k q hk;refine⟨g1,λe=> ?_,g3⟩;rcases v _ e with e|e
   .exact g2 e
   .have:=World.block_lt_of_cell? w _ (d.leaf k q hk 0 (by decide)).1
    grind
 .exact j.ext.mono λi _ e=>.inl e
 .rintro k (e|e|e|e|⟨c',q,e,e2⟩)
  .exact .inl (.inl e)
  .exact .inl (.inr (.inl e))
  .rcases v k e with e|e
   .exact .inl (.inr (.inr (.inl e)))
   omega
  .exact .inl (.inr (.inr (.inr (.inl e))))
  .exact .inl (.inr (.inr (.inr (.inr ⟨c',q,e,e2⟩))))
end
section
variable{E:Env}{b:Nat}{ks:Iv}{own:Int->Int}{Z:List Pr}{w:World}(hE:EnvA E)
include hE
theorem Yh(H:Sat (CK E b ks own::Z) w){x n id:Int}(J:0<=x)(hx:x<18446744073709551616)(j:0<=n)(hn:n<18446744073709551616){K:Int->World->Prop}
  (d:n≠0/\0<=id/\x+n<=34359738368/\ ∀p,x<=p->p<x+n->mem ks (p/512))(hK: ∀w',Sat (CK E b ks (λp=>if x<=p/\p<x+n then id else own p)::Z) w'->K 0 w'):
  F.D8 E (some ⟨b,0,none⟩) x n id K w:=by
 obtain⟨G,h1,h2,Y,y⟩:=H.Yg;obtain⟨g1,g2,g3,g4⟩:=d;have v: ¬(n=0∨id<0):=by omega
 refine jT hE h1 J hx j hn (λh=>absurd h v) (λ_ h=> ?_) λ_ _ _ _ w' G' st O T=>hK w' (y w' G' ks _ st (O.trans h2) λp=>by rw[T,Y]);exfalso;rcases h with h|h|⟨c,c1,c2,c3⟩
 .omega
 .omega
 .refine c3 ?_;rw[h2];have:=g4 (max x (c*512)) (by omega) (by omega)
  grind
theorem jV(H:Sat (CK E b ks own::Z) w){a c:Int}(T:0<=a)(j:a<c)(Y:c<=67108864){K:World->Prop}(O: ∀w',Sat (CK E b (Dt ks a c) own::Z) w'->K w'):
  F.FE E (some ⟨b,0,none⟩) a c K w:=by
 obtain⟨G,h1,h2,J,v⟩:=H.Yg;unfold F.FE T0.FE;simp only[AG];have y:OX=4398046511104:=rfl;refine LC hE.toEnvS h1.set T j (by omega) λw' s' d hu hf=>O w' (v w' (G.grow s' (Dt G.ks a c)) _ own (jU h1 d hu hf) (by rw[h2];rfl) λp=>J p)
end
end Go.Sh

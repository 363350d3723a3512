/- The map of arenas does what its chunks and owners say. No further condition. -/
import Derived.Test.YtcnbbdhhgcbjmaaGreatDoorS
import Derived.Test.YtcnbbdhhgcbjmaaGreatDoorM
import Derived.Test.YtcnbbdhhgcbjmaaGreatDoorA
set_option linter.all false
set_option maxRecDepth 50000
set_option maxHeartbeats 1000000
namespace Go.Sh
abbrev Wd:=List (Int×Int×Int)
def flat3:Wd->List Value
 | []=>[]
 | p::r=>.int .u64 p.1:: .int .u64 p.2.1:: .int .i64 p.2.2::flat3 r
def Nd: ∀l:Wd,(flat3 l).length=l.length*3
 | []=>rfl
 | p::r=>by simp[flat3,Nd r];omega
def Q8: ∀l m:Wd,flat3 (l++m)=flat3 l++flat3 m
 | [],_=>rfl
 | p::r,m=>by simp[flat3,Q8 r m]
def Wx: ∀(l:Wd) (i:Nat) (p:Int×Int×Int),l[i]? =some p->
  (flat3 l)[i*3]? =some (.int .u64 p.1)/\(flat3 l)[i*3+1]? =some (.int .u64 p.2.1)/\(flat3 l)[i*3+2]? =some (.int .i64 p.2.2)
 | [],i,p,h=>by simp at h
 | q::r,0,p,h=>by simp at h;subst h;simp[flat3]
 | q::r,i+1,p,h=>by
  have:=Wx r i p (by grind);rw[show(i+1)*3=i*3+1+1+1 from by omega];simpa[flat3]using this
def wholeL:Wd->Int->Int
 | [],_=>0
 | p::r,c=>if p.1<=c/\c<p.2.1 then p.2.2 else wholeL r c
def LO(p:Int×Int×Int)(a b:Int):Wd:=
 if p.2.1<=a∨b<=p.1 then [p]else(if p.1<a then [(p.1,a,p.2.2)]else [])++(if b<p.2.1 then [(b,p.2.1,p.2.2)]else [])
def wcut:Wd->Int->Int->Wd
 | [],_,_=>[]
 | p::r,a,b=>LO p a b++wcut r a b
def Wy{l m:Wd}{c:Int}(h: ∃p∈l,p.1<=c/\c<p.2.1):wholeL (l++m) c=wholeL l c:=by
 induction l with
 | nil=>grind
 | cons p r ih=>
  simp only[List.cons_append,wholeL]
  grind
def QI{l m:Wd}{c:Int}(h: ¬ ∃p∈l,p.1<=c/\c<p.2.1):wholeL (l++m) c=wholeL m c:=by
 induction l with
 | nil=>rfl
 | cons p r ih=>
  simp only[List.cons_append,wholeL]
  grind
def Zy{l:Wd}{c:Int}(h: ∀p∈l,¬(p.1<=c/\c<p.2.1)):wholeL l c=0:=by
 induction l with
 | nil=>rfl
 | cons p r ih=>rw[wholeL,if_neg (h p (by simp)),ih λq j=>h q (by simp[j])]
def Q9{p:Int×Int×Int}{a b c:Int}(j:a<b):
  (∃q∈LO p a b,q.1<=c/\c<q.2.1)↔(p.1<=c/\c<p.2.1)/\ ¬(a<=c/\c<b):=by
 unfold LO;split
 .grind
 .rename_i h;simp only[List.mem_append];constructor
  .grind
  .rintro⟨⟨h1,h2⟩,v⟩;by_cases h4:c<a
   .exact⟨(p.1,a,p.2.2),.inl (by grind),h1,h4⟩
   .exact⟨(b,p.2.1,p.2.2),.inr (by grind),by simp only;omega,h2⟩
def TY{p:Int×Int×Int}{a b c:Int}(h: ∃q∈LO p a b,q.1<=c/\c<q.2.1):wholeL (LO p a b) c=p.2.2:=by
 have T7: ∀q∈LO p a b,q.2.2=p.2.2:=by
  intro q j;unfold LO at j
  grind
 have key: ∀l:Wd,(∀q∈l,q.2.2=p.2.2)->(∃q∈l,q.1<=c/\c<q.2.1)->wholeL l c=p.2.2:=by
  intro l
  induction l with
  | nil=>grind
  | cons q r ih=>
   intro h1 h2;rw[wholeL]
   grind
 grind
def MY{l:Wd}{a b:Int}(j:a<b)(c:Int):wholeL (wcut l a b) c=if a<=c/\c<b then 0 else wholeL l c:=by
 induction l with
 | nil=>simp[wcut,wholeL]
 | cons p r ih=>
  rw[wcut];by_cases h1:(p.1<=c/\c<p.2.1)/\ ¬(a<=c/\c<b)
  .have h2:=(Q9 j).2 h1;rw[Wy h2,if_neg h1.2,wholeL,if_pos h1.1];exact TY h2
  .rw[QI λh2=>h1 ((Q9 j).1 h2),ih];split
   .rfl
   .rename_i h2;rw[wholeL,if_neg λv=>h1 ⟨v,h2⟩]
def jI(l:Wd):Prop:=(∀p∈l,0<=p.1/\p.1<p.2.1/\p.2.1<=67108864)/\l.Pairwise λp q=>p.2.1<=q.1∨q.2.1<=p.1
def RA{p q:Int×Int×Int}{a b:Int}(hp:p.1<p.2.1)(j:a<b)(h:q∈LO p a b):p.1<=q.1/\q.1<q.2.1/\q.2.1<=p.2.1/\(q.2.1<=a∨b<=q.1):=by
 unfold LO at h
 grind
def MZ{l:Wd}{q:Int×Int×Int}{a b:Int}(v:jI l)(j:a<b)(h:q∈wcut l a b): ∃p∈l,p.1<=q.1/\q.1<q.2.1/\q.2.1<=p.2.1/\(q.2.1<=a∨b<=q.1):=by
 induction l with
 | nil=>cases h
 | cons p r ih=>
  rcases List.mem_append.1 h with h|h
  .exact⟨p,by simp,RA (v.1 p (by simp)).2.1 j h⟩
  .obtain⟨O,y,K⟩:=ih ⟨λx J=>v.1 x (by simp[J]),(List.pairwise_cons.1 v.2).2⟩ h
   grind
def Zz{l:Wd}{a b:Int}(h:jI l)(j:a<b):jI (wcut l a b):=by
 refine⟨λq y=> ?_,?_⟩
 .obtain⟨p,hp,h1⟩:=MZ h j y;have:=h.1 p hp;omega
 .induction l with
  | nil=>exact List.Pairwise.nil
  | cons p r ih=>
   have K:jI r:=⟨λx O=>h.1 x (by simp[O]),(List.pairwise_cons.1 h.2).2⟩;rw[wcut,List.pairwise_append];refine⟨?_,ih K,λq y Y J=> ?_⟩
   .unfold LO;split
    .simp
    .split<;>split<;>simp;omega
   .have h1:=RA (h.1 p (by simp)).2.1 j y;obtain⟨T,v,h2⟩:=MZ K j J;have:=(List.pairwise_cons.1 h.2).1 T v;omega
def Z0: ∀(n:Nat) (l:List Int),l.Nodup->(∀x∈l,0<=x/\x<n)->l.length<=n
 | 0,[],_,_=>Nat.le_refl _
 | 0,x::r,_,h=>by have:=h x (by simp);omega
 | n+1,l,hn,h=>by
  have h1:(l.erase (n:Int)).length<=n:=Z0 n _ (hn.erase _) λx j=>by grind
  grind
def jI.len{l:Wd}(h:jI l):l.length<=67108864:=by
 have h1:=Z0 67108864 (l.map (·.1)) ?_ ?_
 .grind
 .have h2:=h.1;have y:=h.2;clear h
  induction l with
  | nil=>simp
  | cons p r ih=>
   rw[List.map_cons,List.nodup_cons];refine⟨λhm=> ?_,ih (λx v=>h2 x (by simp[v])) (List.pairwise_cons.1 y).2⟩;obtain⟨q,j,he⟩:=List.mem_map.1 hm;have J:=(List.pairwise_cons.1 y).1 q j
   grind
 .intro x v;obtain⟨q,j,rfl⟩:=List.mem_map.1 v;have:=h.1 q j;omega
def Uy{l m:Wd}:jI (l++m)↔jI l/\jI m/\ ∀p∈l,∀q∈m,p.2.1<=q.1∨q.2.1<=p.1:=by
 simp only[jI,List.pairwise_append,List.mem_append]
 grind
def Z1(l m:Wd)(a b:Int):wcut (l++m) a b=wcut l a b++wcut m a b:=by
 induction l with
 | nil=>rfl
 | cons p r ih=>simp[wcut,ih]
structure WideAt(E:Env)(w:World)(b:Nat)(s:Ac)(ws:Wd):Prop where
 c2:w.cell? ⟨b,2,none⟩=some (.slice s.base s.len s.cap)
 f2:w.frozen? ⟨b,2,none⟩=false
 own:JX w 0 E.BV 3 s (flat3 ws)
 ok:jI ws
 apart: ∀a,s.base=some a->a.block≠b
def WideAt.len{E:Env}{w:World}{b:Nat}{s:Ac}{ws:Wd}(h:WideAt E w b s ws):s.len=ws.length:=by
 have:=h.own.len;rw[Nd]at this;omega
def WideAt.lt{E:Env}{w:World}{b:Nat}{s:Ac}{ws:Wd}(h:WideAt E w b s ws):b<w.heap.size:=World.block_lt_of_cell? w _ h.c2
def WideAt.ext{E:Env}{w w':World}{b:Nat}{s:Ac}{ws:Wd}{S:Nat->Prop}(h:WideAt E w b s ws)(he:Ext S w w')(hp: ¬S b)(hs: ∀a,s.base=some a-> ¬S a.block):WideAt E w' b s ws:=
 ⟨he.cell h.c2 hp,by rw[he.frozen (p:=⟨b,2,none⟩) h.lt hp];exact h.f2,h.own.ext he λg j=>hs _ j,h.ok,h.apart⟩
def WideAt.cells{E:Env}{w:World}{b:Nat}{s:Ac}{ws:Wd}(h:WideAt E w b s ws){i:Nat}{q:Int×Int×Int}(v:ws[i]? =some q):
  ∃r,s.base=some ⟨r,0,none⟩/\w.cell? ⟨r,i*3,none⟩=some (.int .u64 q.1)/\w.cell? ⟨r,i*3+1,none⟩=some (.int .u64 q.2.1)/\w.cell? ⟨r,i*3+2,none⟩=some (.int .i64 q.2.2):=by
 have j:=h.own.rowAt;obtain⟨g1,g2,g3⟩:=Wx ws i q v;rcases h.own.row with ⟨h1,h2⟩|⟨b,cs,h1,_⟩
 .rw[h1]at j;have:flat3 ws=[]:=j
  grind
 .rw[h1]at j;refine⟨b,h1,?_,?_,?_⟩
  .have:=j.2 _ _ g1;rwa[add_eq,Nat.zero_add]at this
  .have:=j.2 _ _ g2;rwa[add_eq,Nat.zero_add]at this
  .have:=j.2 _ _ g3;rwa[add_eq,Nat.zero_add]at this
def Uz{E:Env}{w:World}{b:Nat}{s:Ac}{ws:Wd}(h:WideAt E w b s ws){c:Int}{K:Int->World->Prop}(hK: ∀w',Ext AR w w'->K (wholeL ws c) w'):
  F.Hw E (some ⟨b,0,none⟩) c K w:=by
 unfold F.Hw;simp only[AH,add_eq,Nat.zero_add];have hlen:=h.len;have hsm:=h.ok.len;refine⟨s,h.c2,AJ (λst w'=> ∃k:Nat,st.1=(k:Int)/\k<=ws.length/\wholeL ws c=wholeL (ws.drop k) c/\Ext AR w w') (λst _=>(ws.length-st.1).toNat) ⟨0,rfl,Nat.zero_le _,rfl,Ext.refl _ _⟩ ?_⟩;rintro⟨i,u⟩ _ w4 ⟨k,hk,aM,y,J⟩;simp only at hk⊢;subst hk;have h4:=h.ext J (λf=>f) λ_ _ f=>f;refine AB (λaO=> ?_) (λaL=> ?_)
 .have hl:k<ws.length:=by omega
  have hg:=List.getElem?_eq_getElem hl;obtain⟨r,hr,aD,aE,aF⟩:=h4.cells hg;rw[hr];simp only[AH,add_eq,Nat.zero_add,Int.toNat_natCast,Nat.add_zero];refine⟨⟨by omega,by omega⟩,_,aD,_,aE,_,aF,BZ λaS O aG Y=> ?_⟩;refine KL _ _ _ _ _ _ _ O (by simp) (by intro v hv;simp at hv;rcases hv with rfl|rfl|rfl<;>rfl) λaC aA aH j=> ?_;simp at j;have aB:Ext AR w aC:=(J.trans' Y).trans aA (λ_ _ f=>f) λi hi e=>by have:i=w4.heap.size:=e;have:=J.size;omega
  refine Aj (λst w'=>w'=aC/\(st.1=true↔ws[k].1<=c/\c<ws[k].2.1)) ?_ ?_
  .refine⟨ws[k].1,by rw[AW j];rfl,AB (λh1=> ?_) (λh1=> ?_)⟩
   .refine⟨ws[k].2.1,by rw[AW j];rfl,rfl,?_⟩
    grind
   .refine⟨rfl,?_⟩
    grind
  .rintro⟨bt,u⟩ _ aT ⟨rfl,T⟩;simp only at T⊢;have hd:=UU hg;refine AP (λht=> ?_) (λhf=> ?_)
   .refine⟨ws[k].2.2,by rw[AW j];rfl,?_⟩;have:wholeL ws c=ws[k].2.2:=by rw[y,hd,wholeL,if_pos (T.1 ht)]
    grind
   .have hn: ¬(ws[k].1<=c/\c<ws[k].2.1):=λh=>by grind
    refine⟨⟨k+1,by rw[AM];omega,by omega,by rw[y,hd,wholeL,if_neg hn],aB⟩,by rw[AM];omega⟩
 .have:ws.drop k=[]:=List.drop_eq_nil_of_le (by omega);rw[this]at y;have:wholeL ws c=0:=y
  grind
def RB{E:Env}{w:World}{B g:Nat}{s:Ac}{m:Wd}{q:Int×Int×Int}{K:Ac->World->Prop}(j:JX w B E.BV 3 s (flat3 m))
  (Y:w.heap[g]? =some (.cells ⟨[.int .u64 q.1,.int .u64 q.2.1,.int .i64 q.2.2]⟩ E.BV))(J:B<=w.heap.size)(hm:m.length<=67108865)
  (O: ∀s' w',JX w' B E.BV 3 s' (flat3 (m++[q]))->Ext (LZ s) w w'->(s'.base=s.base∨ ∃b,s'.base=some ⟨b,0,none⟩/\w.heap.size<=b)->K s' w'):
  APP E.BV 3 24 #[.int .u64 0,.int .u64 0,.int .i64 0] s ⟨some ⟨g,0,none⟩,1,1⟩ w K:=by
 have hl:=j.len;rw[Nd]at hl;refine Qg (news:=[.int .u64 q.1,.int .u64 q.2.1,.int .i64 q.2.2]) rfl j (Oq Y rfl) rfl (by intro v y;simp at y;rcases y with rfl|rfl|rfl<;>rfl) J (by grind) (by grind) ?_;intro s' w' ho aB he T;refine O s' w' ?_ he T;rw[Q8];exact ho
def Z3{l:Wd}{a b:Int}(h:jI l)(j:a<b):(wcut l a b).length<=67108864:=(Zz h j).len
def mA{l:Wd}(h:jI l)(k:Nat):jI (l.take k):=by
 have h1:=h;rw[<-List.take_append_drop k l,Uy]at h1;exact h1.1
structure MapG where
 s:Ac
 ks:Iv
 sw:Ac
 ws:Wd
 mb:Nat
 lv:Int->Option (Nat×(Int->Int))
structure Hi(E:Env)(w:World)(b:Nat)(G:MapG):Prop where
 set:KX E w b 0 G.s G.ks
 wide:WideAt E w b G.sw G.ws
 c3:w.cell? ⟨b,3,none⟩=some (.map (some G.mb))
 map: ∃es c m,w.heap[G.mb]? =some (.map es c)/\MapI .u64 es c m/\ ∀k,aget m k=(G.lv k).map λq=>.pointer (some ⟨q.1,0,none⟩)
 leaf: ∀k q,G.lv k=some q-> ∀i:Nat,i<512->w.cell? ⟨q.1,i,none⟩=some (.int .i64 (q.2 i))/\w.frozen? ⟨q.1,i,none⟩=false
 inj: ∀k k' q q',G.lv k=some q->G.lv k'=some q'->q.1=q'.1->k=k'
 d1: ∀k,LZ G.s k-> ¬LZ G.sw k
 d2: ∀k q,G.lv k=some q->q.1≠b/\ ¬LZ G.s q.1/\ ¬LZ G.sw q.1
section
variable{E:Env}{w w':World}{b:Nat}{G:MapG}
def Hi.lt(h:Hi E w b G):b<w.heap.size:=h.wide.lt
def Hi.mne(h:Hi E w b G):G.mb≠b:=by
 rintro e;obtain⟨es,c,m,h1,_⟩:=h.map;rw[e]at h1;exact Up h1 h.c3
def Hi.ms(h:Hi E w b G): ¬LZ G.s G.mb:=by
 obtain⟨es,c,m,h1,_⟩:=h.map;exact h.set.row.own.Xx h1
def Hi.mw(h:Hi E w b G): ¬LZ G.sw G.mb:=by
 obtain⟨es,c,m,h1,_⟩:=h.map;exact h.wide.own.Xx h1
def Hi.ml(h:Hi E w b G){k:Int}{q:Nat×(Int->Int)}(hk:G.lv k=some q):q.1≠G.mb:=by
 rintro e;obtain⟨es,c,m,h1,_⟩:=h.map;rw[<-e]at h1;exact Up h1 (h.leaf k q hk 0 (by decide)).1
def Hi.mlt(h:Hi E w b G):G.mb<w.heap.size:=by
 obtain⟨es,c,m,h1,_⟩:=h.map
 grind
def Ka(b:Nat)(G:MapG)(k:Nat):Prop:=k=b∨k=G.mb∨LZ G.s k∨LZ G.sw k∨ ∃c q,G.lv c=some q/\k=q.1
def Hi.PQ(h:Hi E w b G){k:Nat}(hk:Ka b G k):k<w.heap.size:=by
 rcases hk with rfl|rfl|hk|hk|⟨c,q,hk,rfl⟩
 .exact h.lt
 .exact h.mlt
 .exact(h.set.row.own.Gk hk).2
 .exact(h.wide.own.Gk hk).2
 .exact World.block_lt_of_cell? w _ (h.leaf c q hk 0 (by decide)).1
def Hi.ext{S:Nat->Prop}(h:Hi E w b G)(he:Ext S w w')(j: ∀k,Ka b G k-> ¬S k):Hi E w' b G:=by
 have y: ¬S b:=j b (.inl rfl);refine⟨h.set.ext he y λa v=>j _ (.inr (.inr (.inl ⟨a,v,rfl⟩))),h.wide.ext he y λa v=>j _ (.inr (.inr (.inr (.inl ⟨a,v,rfl⟩)))),he.cell h.c3 y,?_,?_,h.inj,h.d1,h.d2⟩
 .obtain⟨es,c,m,h1,h2⟩:=h.map;exact⟨es,c,m,he.obj h1 (j _ (.inr (.inl rfl))),h2⟩
 .intro k q hk i K;obtain⟨h1,h2⟩:=h.leaf k q hk i K;have J: ¬S q.1:=j _ (.inr (.inr (.inr (.inr ⟨k,q,hk,rfl⟩))));exact⟨he.cell h1 J,by rw[he.frozen (World.block_lt_of_cell? w _ h1) J];exact h2⟩
def Hi.Fs(h:Hi E w b G)(he:Ext AR w w'):Hi E w' b G:=h.ext he λ_ _ f=>f
end
def MapG.cut(G:MapG)(a c:Int)(sw:Ac):MapG:={G with sw:=sw,ws:=wcut G.ws a c,lv:=λk=>if a<=k/\k<c then none else G.lv k}
def Wz{E:Env}{w:World}{b:Nat}{G:MapG}(h:Hi E w b G){a c:Int}(ha:0<=a)(bD:a<c)(hc:c<=67108864){K:World->Prop}
  (hK: ∀w' b5,Hi E w' b (G.cut a c b5)->Ext (λk=>k=b∨k=G.mb) w w'->(∀k,LZ b5 k->w.heap.size<=k)->K w'):
  F.JR E (some ⟨b,0,none⟩) a c K w:=by
 unfold F.JR;simp only[AH,add_eq,Nat.zero_add];have hlen:=h.wide.len;have hsm:=h.wide.ok.len;have cT:=h.lt;refine⟨G.sw,h.wide.c2,AJ (λst w'=> ∃k:Nat,st.2.1=(k:Int)/\k<=G.ws.length/\JX w' w.heap.size E.BV 3 st.1 (flat3 (wcut (G.ws.take k) a c))/\Ext AR w w')
  (λst _=>(G.ws.length-st.2.1).toNat) ⟨0,rfl,Nat.zero_le _,JX.nil _ _ _ _,Ext.refl _ _⟩ ?_⟩
 rintro⟨s3,i,u⟩ _ w4 ⟨k,hk,Y,T,aV⟩;simp only at hk T⊢;subst hk;refine AB (λcE=> ?_) (λcC=> ?_)
 .have hl:k<G.ws.length:=by omega
  have hg:=List.getElem?_eq_getElem hl;have h4:=h.Fs aV;obtain⟨r,hr,bX,bY,bZ⟩:=h4.wide.cells hg;generalize hq:G.ws[k]=q at hg bX bY bZ;have cI:q∈G.ws:=List.mem_of_getElem? hg;have c0:=h.wide.ok.1 q cI;have a9:G.ws.take (k+1)=G.ws.take k++[q]:=FW hg;have aI:wcut (G.ws.take (k+1)) a c=wcut (G.ws.take k) a c++LO q a c:=by rw[a9,Z1];simp[wcut]
  have c6:(wcut (G.ws.take k) a c).length<=67108864:=Z3 (mA h.wide.ok k) bD;rw[hr];simp only[AH,add_eq,Nat.zero_add,Int.toNat_natCast,Nat.add_zero];refine⟨⟨by omega,by omega⟩,_,bX,_,bY,_,bZ,BZ λc8 bF cJ aY=> ?_⟩;refine KL _ _ _ _ _ _ _ bF (by simp) (by intro v hv;simp at hv;rcases hv with rfl|rfl|rfl<;>rfl) λbB aZ cK J=> ?_;simp at J;have aH:Ext AR w bB:=(aV.trans' aY).trans aZ (λ_ _ f=>f) λi hi e=>by have:i=w4.heap.size:=e;have:=aV.size;omega
  have O:JX bB w.heap.size E.BV 3 s3 (flat3 (wcut (G.ws.take k) a c)):=(T.ext aY λ_ _ f=>f).ext aZ λg a3 e=>by
   have:=T.lt a3;have:g=w4.heap.size:=e;grind
  have bP: ∀g,s3.base=some ⟨g,0,none⟩->g≠w4.heap.size:=λg a3 e=>by have:=T.lt a3;grind
  refine Aj (λst w'=>w'=bB/\(st.1=true↔q.2.1<=a∨c<=q.1)) ?_ ?_
  .refine⟨q.2.1,by rw[AW J];rfl,AB (λh1=> ?_) (λh1=> ?_)⟩
   .refine⟨rfl,?_⟩;simp;omega
   .refine⟨q.1,by rw[AW J];rfl,rfl,?_⟩;simp;omega
  .rintro⟨bt,u⟩ _ c9 ⟨rfl,bL⟩;simp only at bL⊢;refine AP (λht=> ?_) (λhf=> ?_)
   .have cD:=bL.1 ht;refine⟨q.1,by rw[AW J];rfl,q.2.1,by rw[AW J];rfl,q.2.2,by rw[AW J];rfl,BZ λdA bG cL aP=> ?_⟩;refine RB (O.ext aP λ_ _ f=>f) bG (by have:=aH.size;omega) (by omega) λlK dB bU bM bK=> ?_;have b1:=IB (aH.trans' aP) (O.ext aP λ_ _ f=>f) (Nat.le_refl _) bM;have h1:LO q a c=[q]:=by
     unfold LO
     grind
    refine⟨⟨k+1,by rw[AM];omega,by omega,by rw[aI,h1];exact bU,b1⟩,by rw[AM];omega⟩
   .have cY: ¬(q.2.1<=a∨c<=q.1):=λh=>by grind
    refine Aj (λst w'=>JX w' w.heap.size E.BV 3 st.1 (flat3 (wcut (G.ws.take k) a c++if q.1<a then [(q.1,a,q.2.2)]else []))/\Ext AR w w'/\
      w'.heap[w4.heap.size]? =some (.cells #[.int .u64 q.1,.int .u64 q.2.1,.int .i64 q.2.2] E.BV)/\w4.heap.size<w'.heap.size/\ ∀g,st.1.base=some ⟨g,0,none⟩->g≠w4.heap.size) ?_ ?_
    .refine⟨q.1,by rw[AW J];rfl,AB (λh1=> ?_) (λh1=> ?_)⟩
     .refine⟨q.1,by rw[AW J];rfl,q.2.2,by rw[AW J];rfl,BZ λdD bH cM aJ=> ?_⟩;refine RB (q:=(q.1,a,q.2.2)) (O.ext aJ λ_ _ f=>f) bH (by have:=aH.size;omega) (by omega) λQC dE bV aQ bK=> ?_;have b3:=IB (aH.trans' aJ) (O.ext aJ λ_ _ f=>f) (Nat.le_refl _) aQ;refine⟨by rw[if_pos h1];exact bV,b3,aQ.obj (aJ.obj J λf=>f) ?_,by have:=aQ.size;omega,?_⟩
      .rintro⟨a',aE,cA⟩;have:=O.lt aE;exact bP a'.block (by rw[aE];cases a';simp_all) cA.symm
      grind
     .refine⟨by rw[if_neg h1,List.append_nil];exact O,aH,J,by omega,bP⟩
    .rintro⟨zW,u⟩ _ dC ⟨aK,aU,aM,cF,bO⟩;simp only at aK bO⊢;refine⟨q.2.1,by rw[AW aM];rfl,AB (λh1=> ?_) (λh1=> ?_)⟩
     .refine⟨q.2.1,by rw[AW aM];rfl,q.2.2,by rw[AW aM];rfl,BZ λdF bI cN aR=> ?_⟩;refine RB (q:=(c,q.2.1,q.2.2)) (aK.ext aR λ_ _ f=>f) bI (by have:=aU.size;omega) (by grind) λdI dG bW bN bK=> ?_;have b4:=IB (aU.trans' aR) (aK.ext aR λ_ _ f=>f) (Nat.le_refl _) bN;have h2:LO q a c=(if q.1<a then [(q.1,a,q.2.2)]else [])++[(c,q.2.1,q.2.2)]:=by
       unfold LO
       grind
      refine⟨⟨k+1,by rw[AM];omega,by omega,by rw[aI,h2,<-List.append_assoc];exact bW,b4⟩,by rw[AM];omega⟩
     .have h2:LO q a c=(if q.1<a then [(q.1,a,q.2.2)]else []):=by
       unfold LO
       grind
      refine⟨⟨k+1,by rw[AM];omega,by omega,by rw[aI,h2];exact aK,aU⟩,by rw[AM];omega⟩
 .have a9:G.ws.take k=G.ws:=List.take_of_length_le (by omega);rw[a9]at T;have h4:=h.Fs aV;refine Mi h4.wide.c2 h4.wide.f2 rfl λaD aG=> ?_;have hu:Oo b (λj=>j=2) w4 aD:=Oo.I8 aG rfl;have b0:KX E aD b 0 G.s G.ks:=h4.set.LL hu (by decide) (by decide);have aN: ∀k,LZ s3 k->w.heap.size<=k:=λk hk=>(T.Gk hk).1;have bA:WideAt E aD b s3 (wcut G.ws a c):=by
   refine⟨aG.same,by rw[aG.frozen];exact h4.wide.f2,(T.ext aG.ext λg hg e=> ?_).lower (Nat.zero_le _),Zz h.wide.ok bD,λa' aE e=> ?_⟩
   .have:=T.lt hg;have:g=b:=e;grind
   .have:=(T.lt aE).1;omega
  have aO:aD.cell? ⟨b,3,none⟩=some (.map (some G.mb)):=by rw[aG.other _ (by grind)];exact h4.c3
  obtain⟨es,cl,m,bQ,bR,b9⟩:=h4.map;have aA:aD.heap[G.mb]? =some (.map es cl):=aG.ext.obj bQ h.mne;have a0:Ext (K0 b) w aD:=(aV.any).trans' aG.ext;have a6: ∀k q,G.lv k=some q-> ∀i:Nat,i<512->aD.cell? ⟨q.1,i,none⟩=some (.int .i64 (q.2 i))/\aD.frozen? ⟨q.1,i,none⟩=false:=by
   intro k q hk i hi;obtain⟨h1,h2⟩:=h4.leaf k q hk i hi;have hn: ¬K0 b q.1:=(h.d2 k q hk).1;exact⟨aG.ext.cell h1 hn,by rw[aG.ext.frozen (World.block_lt_of_cell? w4 _ h1) hn];exact h2⟩
  have fin: ∀w' aB m',Ext (λk=>k=G.mb∨w.heap.size<=k/\ ¬LZ s3 k) aD w'->w'.heap[G.mb]? =some (.map aB cl)->MapI .u64 aB cl m'->(∀k,aget m' k=if a<=k/\k<c then none else aget m k)->K w':=by
   intro w' aB m' y aL aF aC;have a8: ¬(b=G.mb∨w.heap.size<=b/\ ¬LZ s3 b):=by
    rintro(e|⟨e,_⟩)
    .exact h.mne e.symm
    .omega
   refine hK w' s3 ⟨?_,?_,y.cell aO a8,⟨aB,cl,m',aL,aF,?_⟩,?_,?_,?_,?_⟩ ?_ aN
   .refine b0.ext y a8 λa' aE=> ?_;have:=(h.set.row.own.lt aE);rintro(e|⟨e,_⟩)
    .exact h.ms ⟨a',aE,e.symm⟩
    .omega
   .refine bA.ext y a8 λa' aE=> ?_;have:=T.lt aE;rintro(e|⟨_,e⟩)
    .have:=h.mlt;omega
    .exact e ⟨a',aE,rfl⟩
   .intro k;rw[aC,b9];show _=Option.map _ (if a<=k/\k<c then none else G.lv k)
    grind
   .intro k q hk i hi;have Y:(if a<=k/\k<c then none else G.lv k)=some q:=hk;split at Y
    .cases Y
    .obtain⟨h1,h2⟩:=a6 k q Y i hi;have hq:=World.block_lt_of_cell? w _ (h.leaf k q Y i hi).1;have hn: ¬(q.1=G.mb∨w.heap.size<=q.1/\ ¬LZ s3 q.1):=by
      rintro(e|⟨e,_⟩)
      .exact h.ml Y e
      grind
     exact⟨y.cell h1 hn,by rw[y.frozen (World.block_lt_of_cell? aD _ h1) hn];exact h2⟩
   .intro k k' q q' hk a5 e;have Y:(if a<=k/\k<c then none else G.lv k)=some q:=hk;have aT:(if a<=k'/\k'<c then none else G.lv k')=some q':=a5;split at Y
    .cases Y
    .split at aT
     .cases aT
     .exact h.inj k k' q q' Y aT e
   .intro k hk a5;have:=aN k a5;have:=(h.set.row.own.Gk hk).2;omega
   .intro k q hk;have Y:(if a<=k/\k<c then none else G.lv k)=some q:=hk;split at Y
    .cases Y
    .obtain⟨g1,g2,g3⟩:=h.d2 k q Y;refine⟨g1,g2,λg=> ?_⟩;have:=aN _ g;have:=World.block_lt_of_cell? w _ (h.leaf k q Y 0 (by decide)).1
     grind
   .refine a0.trans y (λi _ e=>.inl e) λi hi e=> ?_;omega
  refine⟨some G.mb,aO,es,⟨cl,aA⟩,AP (λ_=> ?_) (λ_=> ?_)⟩
  .refine⟨some G.mb,aO,cl,⟨es,aA⟩,BZ λdH bJ cO aS=> ?_⟩;have a7:=aS.obj aA λf=>f;have cH:=Ik aA;refine range_del (K:=K) (m0:=m) (m1:=m) (es0:=es) (seen0:= #[]) (mb:=G.mb) (since:=cl) (a:=a) (b:=c) (getm:=λK' w=> ∃b6:(Option Nat),w.cell? ⟨b,3,none⟩=some (.map b6)/\K' b6 w) (λw' K' he hk=>⟨some G.mb,?_,hk⟩)
    ⟨⟨cl,bJ,.inl rfl⟩,a7,bR,λ_ _=>rfl,λ_ _ h=>h,by simp⟩ (by omega) (by omega) (by omega) ?_
   .refine he.cell (aS.cell aO λf=>f) ?_;rintro(e|e)
    .have:=a0.size;grind
    .exact h.mne e.symm
   .intro w' aB m' y c4 aL aF aC;refine fin w' aB m' ?_ aL aF aC;refine aS.any.trans y (λ_ _ f=>f) λi hi e=> ?_;omega
  .refine AJ (λst w'=> ∃aB m',a<=st.1/\st.1<=c/\Ext (K0 G.mb) aD w'/\w'.heap[G.mb]? =some (.map aB cl)/\MapI .u64 aB cl m'/\ ∀k,aget m' k=if a<=k/\k<st.1 then none else aget m k)
    (λst _=>(c-st.1).toNat) ⟨es,m,Int.le_refl _,by simp only;omega,Ext.refl _ _,aA,bR,λk=>by grind⟩ ?_
   rintro⟨x,u⟩ _ cR ⟨aB,m',cP,cQ,y,aL,aF,aC⟩;simp only at cP cQ aC⊢;refine AB (λcE=> ?_) (λcC=> ?_)
   .refine⟨some G.mb,y.cell aO (λe=>h.mne e.symm),QB aL aF λdJ b8 m2 cG bS bE _ _ _ cB _=> ?_⟩;refine⟨⟨b8,m2,?_,?_,y.trans' cB,cG,bS,λk=> ?_⟩,?_⟩
    .rw[AI];omega
    .rw[AI];omega
    .rw[AI,bE,aC]
     grind
    .rw[AI];omega
   .have:x=c:=by omega
    subst this;exact fin cR aB m' (y.mono λi _ e=>.inl e) aL aF aC
def MapG.own(G:MapG)(p:Int):Int:=match G.lv (p/512)with
 | some q=>q.2 (p %512)
 | none=>wholeL G.ws (p/512)
structure HL(E:Env)(b:Nat)(w:World)(G:MapG)(w':World)(G':MapG):Prop where
 rep:Hi E w' b G'
 ext:Ext (Ka b G) w w'
 WC: ∀k,Ka b G' k->Ka b G k∨w.heap.size<=k
section
variable{E:Env}{w w' w1:World}{b:Nat}{G G' G1:MapG}
def HL.refl(h:Hi E w b G):HL E b w G w G:=⟨h,Ext.refl _ _,λ_ h=>.inl h⟩
def HL.nothing(h:Hi E w b G)(he:Ext AR w w'):HL E b w G w' G:=⟨h.Fs he,he.any,λ_ h=>.inl h⟩
def HL.trans(h:HL E b w G w1 G1)(k:HL E b w1 G1 w' G'):HL E b w G w' G':=
 ⟨k.rep,h.ext.trans k.ext (λ_ _ s=>s) (λi j s=>by rcases h.WC i s with s|s;exact s;omega),λi j=>by
  rcases k.WC i j with s|s
  .exact h.WC i s
  .have:=h.ext.size;omega⟩
def HL.CZ(h:HL E b w G w' G'){k:Nat}(hk: ¬Ka b G k)(j:k<w.heap.size): ¬Ka b G' k:=λe=>by
 rcases h.WC k e with s|s
 .exact hk s
 .omega
end
def mB{E:Env}{w:World}{b:Nat}{G:MapG}(h:Hi E w b G){c:Int}(aV:0<=c)(hc:c<67108864){K:Option Addr->World->Prop}
  (hK: ∀w' G' q,HL E b w G w' G'->G'.ks=G.ks->G'.lv c=some q->(∀p,G'.own p=G.own p)->K (some ⟨q.1,0,none⟩) w'):
  F.Fm E (some ⟨b,0,none⟩) c K w:=by
 unfold F.Fm T0.Fm;simp only[AH,add_eq,Nat.zero_add];obtain⟨es,cl,m,hm,a0,aT⟩:=h.map;refine⟨some G.mb,h.c3,Rx hm a0 ?_⟩;rw[aT];cases hlv:G.lv c with
 | some q=>exact⟨some ⟨q.1,0,none⟩,rfl,AP (λe=>by cases e) (λ_=>hK w G q (HL.refl h) rfl hlv λ_=>rfl)⟩
 | none=>
  refine⟨none,rfl,AP (λ_=> ?_) (λe=>by cases e)⟩;refine Uz h.wide λw8 aK=> ?_;rw[AI];refine Wz (h.Fs aK) aV (by omega) (by omega) λT J h9 aM aU=> ?_;generalize hzs:Array.replicate 512 (Value.int .i64 0)=zs;have hz: ∀i:Nat,i<512->zs[i]? =some (.int .i64 0):=by grind
  clear hzs;refine BZ λa5 aF a2 aG=> ?_;have aR:=h9.Fs aG;have bK:w8.heap.size<=T.heap.size:=aM.size;have bJ:w.heap.size<=w8.heap.size:=aK.size;have O: ¬Ka b (G.cut c (c+1) J) T.heap.size:=λe=>by have:=h9.PQ e;omega
  refine AJ (λst w'=> ∃k:Nat,st.1=(k:Int)/\k<=512/\Ext (K0 T.heap.size) a5 w'/\ ∀i:Nat,i<512->w'.cell? ⟨T.heap.size,i,none⟩=some (.int .i64 (if i<k then wholeL G.ws c else 0))/\w'.frozen? ⟨T.heap.size,i,none⟩=false)
   (λst _=>(512-st.1).toNat) ⟨0,rfl,by decide,Ext.refl _ _,λi hi=>⟨by rw[AW aF,if_neg (by omega)];grind,by simp[World.frozen?,aF]⟩⟩ ?_
  rintro⟨i,u⟩ _ aE ⟨k,hk,j,aA,Ch⟩;simp only at hk⊢;subst hk;refine AB (λbI=> ?_) (λbH=> ?_)
  .refine⟨⟨by omega,by omega⟩,?_⟩;have aC:k<512:=by omega
   simp only[Int.toNat_natCast,Nat.mul_one];refine Mi (Ch k aC).1 (Ch k aC).2 rfl λbM aD=> ?_;refine⟨⟨k+1,by rw[AM];omega,by omega,aA.trans' aD.ext,λi hi=> ?_⟩,by rw[AM];omega⟩;rw[aD.frozen];refine⟨?_,(Ch i hi).2⟩;by_cases e:i=k
   .subst e;rw[aD.same,if_pos (by omega)]
   .rw[aD.other _ (by grind),(Ch i hi).1]
    grind
  .have aC:k=512:=by omega
   subst aC;have v:Hi E aE b (G.cut c (c+1) J):=aR.ext aA λk hk e=>by
    have:k=T.heap.size:=e
    grind
   obtain⟨bG,bC,m',aX,aN,a8⟩:=v.map;refine⟨some G.mb,v.c3,UW aX aN λaP aQ c2 m2 aY aO a9 _ _ _ y a3=> ?_⟩;have aZ:(G.cut c (c+1) J).mb=G.mb:=rfl;have aL:T.heap.size≠G.mb:=λe=>O (.inr (.inl (e.trans aZ.symm)))
   let G2:MapG:={G.cut c (c+1) J with lv:=λk=>if k=c then some (T.heap.size,λ_=>wholeL G.ws c)else(G.cut c (c+1) J).lv k}
   have aJ: ¬K0 G.mb b:=λe=>v.mne e.symm;have a1:Hi E aP b G2:=by
    refine⟨v.set.ext y aJ λa ha e=>v.ms ⟨a,ha,e.symm⟩,v.wide.ext y aJ λa ha e=>v.mw ⟨a,ha,e.symm⟩,y.cell v.c3 aJ,⟨aQ,c2,m2,aY,aO,λk=> ?_⟩,?_,?_,v.d1,?_⟩
    .grind
    .intro k q hk i hi;have j:(if k=c then some (T.heap.size,λ_=>wholeL G.ws c)else(G.cut c (c+1) J).lv k)=some q:=hk;split at j
     .cases j;obtain⟨g1,g2⟩:=Ch i hi;rw[if_pos hi]at g1;refine⟨y.cell g1 λe=>aL e,?_⟩;rw[y.frozen (World.block_lt_of_cell? aE _ g1) λe=>aL e];exact g2
     .obtain⟨g1,g2⟩:=v.leaf k q j i hi;have hn: ¬K0 G.mb q.1:=λe=>v.ml j e;exact⟨y.cell g1 hn,by rw[y.frozen (World.block_lt_of_cell? aE _ g1) hn];exact g2⟩
    .intro k k' q q' hk aW e;have j:(if k=c then some (T.heap.size,λ_=>wholeL G.ws c)else(G.cut c (c+1) J).lv k)=some q:=hk;have Y:(if k'=c then some (T.heap.size,λ_=>wholeL G.ws c)else(G.cut c (c+1) J).lv k')=some q':=aW;split at j
     .split at Y
      .omega
      .cases j;exact absurd (.inr (.inr (.inr (.inr ⟨k',q',Y,e⟩)))) O
     .split at Y
      .cases Y;exact absurd (.inr (.inr (.inr (.inr ⟨k,q,j,e.symm⟩)))) O
      .exact v.inj k k' q q' j Y e
    .intro k q hk;have j:(if k=c then some (T.heap.size,λ_=>wholeL G.ws c)else(G.cut c (c+1) J).lv k)=some q:=hk;split at j
     .cases j;exact⟨λe=>O (.inl e),λe=>O (.inr (.inr (.inl e))),λe=>O (.inr (.inr (.inr (.inl e))))⟩
     .exact v.d2 k q j
   have aB: ∀k q,(G.cut c (c+1) J).lv k=some q->G.lv k=some q:=by
    intro k q hk;have j:(if c<=k/\k<c+1 then none else G.lv k)=some q:=hk
    grind
   refine hK aP G2 (T.heap.size,λ_=>wholeL G.ws c) ⟨a1,?_,?_⟩ rfl (if_pos rfl) ?_
   .have e1:Ext (Ka b G) w T:=(aK.any).trans aM (λ_ _ f=>f) λi _ e=>by rcases e with e|e;exact .inl e;exact .inr (.inl e)
    have e2:Ext (K0 T.heap.size) T aE:=(aG.any).trans' aA;have e3:=e2.trans y (U:=λk=>k=T.heap.size∨k=G.mb) (λi _ e=>.inl e) (λi _ e=>.inr e);refine e1.trans e3 (λ_ _ f=>f) λi hi e=> ?_;rcases e with e|e
    .omega
    .exact .inr (.inl e)
   .rintro k (e|e|e|e|⟨k',q,e,rfl⟩)
    .exact .inl (.inl e)
    .exact .inl (.inr (.inl e))
    .exact .inl (.inr (.inr (.inl e)))
    .exact .inr (by have:=aU k e;omega)
    .have j:(if k'=c then some (T.heap.size,λ_=>wholeL G.ws c)else(G.cut c (c+1) J).lv k')=some q:=e;split at j
     .grind
     .exact .inl (.inr (.inr (.inr (.inr ⟨k',q,aB _ _ j,rfl⟩))))
   .intro p;unfold MapG.own;show(match(if p/512=c then some (T.heap.size,λ_=>wholeL G.ws c)else if c<=p/512/\p/512<c+1 then none else G.lv (p/512))with|some q=>q.2 (p %512)|none=>wholeL (wcut G.ws c (c+1)) (p/512))=_;by_cases e:p/512=c
    .grind
    .rw[if_neg e,if_neg (by omega)];rw[MY (by omega),if_neg (by omega)]
def MapG.put(G:MapG)(c:Int)(q:Nat×(Int->Int))(i id:Int):MapG:={G with lv:=λk=>if k=c then some (q.1,λj=>if j=i then id else q.2 j)else G.lv k}
def qD{E:Env}{w w':World}{b:Nat}{G:MapG}(h:Hi E w b G){c id:Int}{i:Nat}{q:Nat×(Int->Int)}(O:G.lv c=some q)
  (y:OW ⟨q.1,i,none⟩ (.int .i64 id) w w'):HL E b w G w' (G.put c q i id):=by
 obtain⟨d1,d2,d3⟩:=h.d2 c q O;have hn: ¬K0 q.1 b:=λe=>d1 e.symm;refine⟨⟨h.set.ext y.ext hn λa Y e=>d2 ⟨a,Y,e.symm⟩,h.wide.ext y.ext hn λa Y e=>d3 ⟨a,Y,e.symm⟩,y.ext.cell h.c3 hn,?_,?_,?_,h.d1,?_⟩,?_,?_⟩
 .obtain⟨es,cl,m,hm,aC,aA⟩:=h.map;refine⟨es,cl,m,y.ext.obj hm λe=>h.ml O e.symm,aC,λk=> ?_⟩;rw[aA];show _=Option.map _ (if k=c then _ else _)
  grind
 .intro k K hk j hj;have v:(if k=c then some (q.1,λj=>if j=(i:Int)then id else q.2 j)else G.lv k)=some K:=hk;split at v
  .cases v;obtain⟨g1,g2⟩:=h.leaf c q O j hj;rw[y.frozen];refine⟨?_,g2⟩;simp only;by_cases e:j=i
   .subst e;rw[if_pos rfl];exact y.same
   .rw[if_neg (by omega),y.other _ (by grind)];exact g1
  .rename_i hkc;obtain⟨g1,g2⟩:=h.leaf k K v j hj;have aE: ¬K0 q.1 K.1:=λe=>hkc (h.inj k c K q v O e);exact⟨y.ext.cell g1 aE,by rw[y.frozen];exact g2⟩
 .intro k T q1 K hk aB e;have v:(if k=c then some (q.1,λj=>if j=(i:Int)then id else q.2 j)else G.lv k)=some q1:=hk;have J:(if T=c then some (q.1,λj=>if j=(i:Int)then id else q.2 j)else G.lv T)=some K:=aB;split at v
  .split at J
   .omega
   .rename_i e1 _;cases v;rw[e1];exact h.inj c T q K O J e
  .split at J
   .rename_i e1;cases J;rw[e1];exact h.inj k c q1 q v O e
   .exact h.inj k T q1 K v J e
 .intro k K hk;have v:(if k=c then some (q.1,λj=>if j=(i:Int)then id else q.2 j)else G.lv k)=some K:=hk;split at v
  .cases v;exact⟨d1,d2,d3⟩
  .exact h.d2 k K v
 .exact y.ext.mono λk _ e=>.inr (.inr (.inr (.inr ⟨c,q,O,e⟩)))
 .rintro k (e|e|e|e|⟨T,K,e,rfl⟩)
  .exact .inl (.inl e)
  .exact .inl (.inr (.inl e))
  .exact .inl (.inr (.inr (.inl e)))
  .exact .inl (.inr (.inr (.inr (.inl e))))
  .have v:(if T=c then some (q.1,λj=>if j=(i:Int)then id else q.2 j)else G.lv T)=some K:=e;split at v
   .cases v;exact .inl (.inr (.inr (.inr (.inr ⟨c,q,O,rfl⟩))))
   .exact .inl (.inr (.inr (.inr (.inr ⟨T,K,v,rfl⟩))))
def vQ{G:MapG}{c id:Int}{i:Nat}{q:Nat×(Int->Int)}(j:G.lv c=some q)(p:Int):(G.put c q i id).own p=if p/512=c/\p %512=i then id else G.own p:=by
 unfold MapG.own MapG.put
 grind
def Ow{E:Env}{w:World}{b bi bm:Nat}{G:MapG}(h:Hi E w b G){x y id:Int}(hx:0<=x)(hy:y<=34359738368)
  (hi:w.cell? ⟨bi,0,none⟩=some (.int .i64 id))(hm:w.cell? ⟨bm,0,none⟩=some (.pointer (some ⟨b,0,none⟩)))(aB: ¬Ka b G bi)(aH: ¬Ka b G bm){K:World->Prop}
  (hK: ∀w' G',HL E b w G w' G'->G'.ks=G.ks->(∀p,G'.own p=if x<=p/\p<y then id else G.own p)->K w'):
  F.ET E x y (some ⟨bi,0,none⟩) (some ⟨bm,0,none⟩) K w:=by
 unfold F.ET T0.ET;simp only[AH,add_eq,Nat.zero_add,Nat.mul_one];refine AJ (λst w'=> ∃G',x<=st.1/\(st.1<=y∨st.1=x)/\HL E b w G w' G'/\G'.ks=G.ks/\ ∀p,G'.own p=if x<=p/\p<st.1 then id else G.own p)
  (λst _=>(y-st.1).toNat) ⟨G,Int.le_refl _,.inr rfl,HL.refl h,rfl,λp=>by omega⟩ ?_
 rintro⟨n,u⟩ _ w2 ⟨G2,aI,aJ,Y,O,v⟩;simp only at aI aJ v⊢;refine AB (λaS=> ?_) (λaP=> ?_)
 .have hl:bi<w.heap.size:=World.block_lt_of_cell? w _ hi;have aR:bm<w.heap.size:=World.block_lt_of_cell? w _ hm;have hd:Ext AR w2 w2.drew:=Ext.drew _ _;have J:=Y.trans (HL.nothing Y.rep hd);refine⟨some ⟨b,0,none⟩,J.ext.cell hm aH,by decide,by decide,id,J.ext.cell hi aB,?_⟩;have hdiv:Int.tdiv n 512=n/512:=Int.tdiv_eq_ediv_of_nonneg (by omega);have aD:Int.tmod n 512=n %512:=Int.tmod_eq_emod_of_nonneg (by omega);rw[hdiv,aD,AI];refine mB J.rep (by omega) (by omega) λw9 G9 q aA aC j T=> ?_;have aE:=J.trans aA;simp only[AH,add_eq,Nat.zero_add];refine⟨aE.ext.cell hi aB,⟨by omega,by omega⟩,?_⟩;have hj:(n %512).toNat<512:=by omega
  have aG:(((n %512).toNat:Nat):Int)=n %512:=by omega
  obtain⟨g1,g2⟩:=aA.rep.leaf _ q j _ hj;refine Mi g1 g2 rfl λaT aL=> ?_;have aK:=qD aA.rep j aL;rw[AI];refine⟨⟨_,by omega,by omega,aE.trans aK,aC.trans O,λp=> ?_⟩,by omega⟩;rw[vQ j,T,v,aG];omega
 .refine hK w2 G2 Y O λp=> ?_
  grind
structure EnvA(E:Env):Prop extends EnvS E where
 vR: ∀x y p1 p2 (R:Value->World->Prop) w,F.ET E x y p1 p2 (λw'=>R (.tuple ⟨[]⟩) w') w->E.call E.Gs #[.int .u64 x,.int .u64 y,.pointer p1,.pointer p2] w R Lp
def qE{E:Env}{w:World}{K:Option Addr->World->Prop}
  (T: ∀w' b G,Hi E w' b G->Ext AR w w'->(∀k,Ka b G k->w.heap.size<=k)->G.ks=[]->(∀p,G.own p=0)->K (some ⟨b,0,none⟩) w'):F.My E K w:=by
 unfold F.My;refine BZ λw1 J aB O=>BZ λw2 j aC y=> ?_;have hm:=y.obj J λf=>f;refine T w2 w1.heap.size ⟨⟨none,0,0⟩,[],⟨none,0,0⟩,[],w.heap.size,λ_=>none⟩ ?_ (O.trans' y) ?_ rfl (λ_=>rfl)
 .have Y: ∀k,¬LZ ⟨none,0,0⟩ k:=by rintro k ⟨a,v,_⟩;cases v
  refine⟨⟨⟨by rw[AW j];rfl,by simp[World.frozen?,j],JX.nil _ _ _ _,trivial,by simp,by grind⟩,by rw[AW j];rfl,by simp[World.frozen?,j]⟩,
   ⟨by rw[AW j];rfl,by simp[World.frozen?,j],JX.nil _ _ _ _,⟨by simp,List.Pairwise.nil⟩,by grind⟩,by rw[AW j];rfl,⟨_,_,_,hm,MapI.empty _,λ_=>rfl⟩,?_,?_,λk h=>absurd h (Y k),?_⟩
  .grind
  .grind
  grind
 .rintro k (e|e|⟨a,v,_⟩|⟨a,v,_⟩|⟨c,q,hq,_⟩)
  .rw[e];omega
  .rw[e];grind
  .cases v
  .cases v
  .cases hq
section
variable{E:Env}{w:World}{b:Nat}{G:MapG}
def at_own(h:Hi E w b G){x:Int}(h0:0<=x)(hx:x<18446744073709551616){K:Int->World->Prop}(T: ∀w',Ext AR w w'->K (G.own (x/8192)) w'):
  F.GH E (some ⟨b,0,none⟩) x K w:=by
 unfold F.GH T0.GH;have y:Int.tdiv x 8192=x/8192:=Int.tdiv_eq_ediv_of_nonneg h0;have J:Int.tdiv (x/8192) 512=x/8192/512:=Int.tdiv_eq_ediv_of_nonneg (by omega);have O:Int.tmod (x/8192) 512=x/8192 %512:=Int.tmod_eq_emod_of_nonneg (by omega);rw[y,AI (n:=x/8192),J,AI (n:=x/8192/512),O];simp only[AH,add_eq,Nat.zero_add,Nat.mul_one];obtain⟨es,cl,m,hm,v,j⟩:=h.map;refine⟨by decide,some G.mb,h.c3,by decide,Rx hm v ?_⟩;rw[j];cases hlv:G.lv (x/8192/512)with
 | some q=>
  refine⟨some ⟨q.1,0,none⟩,rfl,AP (λ_=> ?_) (λe=>by cases e)⟩;refine⟨by decide,⟨by omega,by omega⟩,q.2 (x/8192 %512),?_,?_⟩
  .have:=(h.leaf _ q hlv (x/8192 %512).toNat (by omega)).1;rw[show(((x/8192 %512).toNat:Nat):Int)=x/8192 %512 from by omega]at this;simp only[add_eq,Nat.zero_add];exact this
  .have:G.own (x/8192)=q.2 (x/8192 %512):=by unfold MapG.own;rw[hlv]
   rw[<-this];exact T w (Ext.refl _ _)
 | none=>
  refine⟨none,rfl,AP (λe=>by cases e) (λ_=>⟨by decide,Uz h.wide λw' Y=> ?_⟩)⟩;have:G.own (x/8192)=wholeL G.ws (x/8192/512):=by unfold MapG.own;rw[hlv]
  grind
end
section
variable{E:Env}(hE:EnvA E){w:World}{b:Nat}{G:MapG}
include hE
def MapG.grow(G:MapG)(s:Ac)(ks:Iv):MapG:={G with s:=s,ks:=ks}
end
section
variable{E:Env}(hE:EnvA E){w:World}{b:Nat}{G:MapG}
def mC{w w':World}(h:Hi E w b G){J:Ac}{q:Int×Int×Int}(hq:0<=q.1/\q.1<q.2.1/\q.2.1<=67108864)(hd: ∀p∈G.ws,p.2.1<=q.1∨q.2.1<=p.1)
  (v:Ext (LZ G.sw) w w')(aA:JX w' 0 E.BV 3 J (flat3 (G.ws++[q])))(hb:J.base=G.sw.base∨ ∃k,J.base=some ⟨k,0,none⟩/\w.heap.size<=k)
  {w2:World}(y:OW ⟨b,2,none⟩ (.slice J.base J.len J.cap) w' w2):HL E b w G w2 {G with sw:=J,ws:=G.ws++[q]}:=by
 have O: ∀k,LZ J k->LZ G.sw k∨w.heap.size<=k:=by
  rintro k ⟨a,T,rfl⟩;rcases hb with e|⟨k,e,hk⟩
  .rw[e]at T;exact .inl ⟨a,T,rfl⟩
  grind
 have K: ¬LZ G.sw b:=by rintro⟨a,T,e⟩;exact h.wide.apart a T e.symm
 have Y: ¬LZ J b:=λe=>by
  rcases O b e with e|e
  .exact K e
  .have:=h.lt;omega
 have hu:Oo b (λj=>j=2) w' w2:=Oo.I8 y rfl;have aD:KX E w' b 0 G.s G.ks:=h.set.ext v K λa T e=>h.d1 a.block ⟨a,T,rfl⟩ e;refine⟨⟨aD.LL hu (by decide) (by decide),⟨y.same,?_,aA.ext y.ext λg hg e=>Y ⟨_,hg,e.symm⟩,?_,λa T e=>Y ⟨a,T,e.symm⟩⟩,?_,?_,?_,h.inj,?_,?_⟩,?_,?_⟩
 .rw[y.frozen,v.frozen (p:=⟨b,2,none⟩) h.lt K];exact h.wide.f2
 .refine Uy.2 ⟨h.wide.ok,⟨by grind,List.pairwise_singleton _ _⟩,λp hp r hr=> ?_⟩
  grind
 .rw[y.other _ (by grind)];exact v.cell h.c3 K
 .obtain⟨es,cl,m,h1,h2⟩:=h.map;exact⟨es,cl,m,y.ext.obj (v.obj h1 h.mw) h.mne,h2⟩
 .intro k q hk i hi;obtain⟨g1,g2⟩:=h.leaf k q hk i hi;have hn: ¬LZ G.sw q.1:=(h.d2 k q hk).2.2;have aC: ¬K0 b q.1:=(h.d2 k q hk).1;exact⟨y.ext.cell (v.cell g1 hn) aC,by rw[y.frozen,v.frozen (World.block_lt_of_cell? w _ g1) hn];exact g2⟩
 .intro k hk aB;rcases O k aB with e|e
  .exact h.d1 k hk e
  .have:=(h.set.row.own.Gk hk).2;omega
 .intro k q hk;obtain⟨g1,g2,g3⟩:=h.d2 k q hk;refine⟨g1,g2,λe=> ?_⟩;rcases O _ e with e|e
  .exact g3 e
  .have:=World.block_lt_of_cell? w _ (h.leaf k q hk 0 (by decide)).1
   grind
 .exact v.trans y.ext (λi _ e=>.inr (.inr (.inr (.inl e)))) (λi _ e=>.inl e)
 .rintro k (e|e|e|e|⟨c',q,e,e2⟩)
  .exact .inl (.inl e)
  .exact .inl (.inr (.inl e))
  .exact .inl (.inr (.inr (.inl e)))
  .rcases O k e with e|e
   .exact .inl (.inr (.inr (.inr (.inl e))))
   omega
  .exact .inl (.inr (.inr (.inr (.inr ⟨c',q,e,e2⟩))))
def qF{w w':World}(h:Hi E w b G){a c:Int}{v:Ac}(K:Hi E w' b (G.cut a c v))(he:Ext (λk=>k=b∨k=G.mb) w w')(hf: ∀k,LZ v k->w.heap.size<=k):
  HL E b w G w' (G.cut a c v):=by
 refine⟨K,he.mono λi _ e=>by rcases e with e|e;exact .inl e;exact .inr (.inl e),?_⟩;rintro k (e|e|e|e|⟨y,q,e,J⟩)
 .exact .inl (.inl e)
 .exact .inl (.inr (.inl e))
 .exact .inl (.inr (.inr (.inl e)))
 .exact .inr (hf k e)
 .have j:(if a<=y/\y<c then none else G.lv y)=some q:=e;split at j
  .cases j
  .exact .inl (.inr (.inr (.inr (.inr ⟨y,q,j,J⟩))))
def vS{a c:Int}(j:a<c)(v:Ac)(p:Int):(G.cut a c v).own p=if a<=p/512/\p/512<c then 0 else G.own p:=by
 unfold MapG.own;show(match(if a<=p/512/\p/512<c then none else G.lv (p/512))with|some q=>q.2 (p %512)|none=>wholeL (wcut G.ws a c) (p/512))=_;by_cases e:a<=p/512/\p/512<c
 .rw[if_pos e,if_pos e];show wholeL (wcut G.ws a c) (p/512)=0;rw[MY j,if_pos e]
 .rw[if_neg e,if_neg e];cases G.lv (p/512)with
  | some q=>rfl
  | none=>
   show wholeL (wcut G.ws a c) (p/512)=_;rw[MY j,if_neg e]
include hE
theorem mD(h:Hi E w b G){x n id:Int}(a5:0<=x)(hx:x<18446744073709551616)(cK:0<=n)(hn:n<18446744073709551616){K:Int->World->Prop}
  (b0:(n=0∨id<0)-> ∀w',Ext AR w w'->K 1 w')
  (bH: ¬(n=0∨id<0)->(34359738368<=x∨34359738368-x<n∨ ∃c,x/512<=c/\c<(x+n+511)/512/\ ¬mem G.ks c)-> ∀w',Ext AR w w'->K 10 w')
  (bI: ¬(n=0∨id<0)->x<34359738368->n<=34359738368-x->(∀c,x/512<=c->c<(x+n+511)/512->mem G.ks c)-> ∀w' G',HL E b w G w' G'->G'.ks=G.ks->
   (∀p,G'.own p=if x<=p/\p<x+n then id else G.own p)->K 0 w'):
  F.EM E (some ⟨b,0,none⟩) x n id K w:=by
 unfold F.EM T0.EM;refine BZ λw2 bT cB bX=>BZ λw4 bU cC bF=> ?_;have aR:Ext AR w w4:=bX.trans' bF;have a8:=bF.obj bT λf=>f;have cm: ∀w',Ext AR w4 w'->w'.cell? ⟨w.heap.size,0,none⟩=some (.pointer (some ⟨b,0,none⟩)):=λw' he=>he.cell (by rw[AW a8];rfl) λf=>f;have ci: ∀w',Ext AR w4 w'->w'.cell? ⟨w2.heap.size,0,none⟩=some (.int .i64 id):=λw' he=>he.cell (by rw[AW bU];rfl) λf=>f;refine Aj (λst w'=>w'=w4/\(st.1=true↔n=0∨id<0)) ?_ ?_
 .refine AP (λe=>⟨rfl,?_⟩) (λe=>⟨id,ci w4 (Ext.refl _ _),rfl,?_⟩)
  .grind
  grind
 rintro⟨bt,u⟩ _ w7 ⟨rfl,bB⟩;simp only at bB⊢;refine AP (λe=>b0 (bB.1 e) _ aR) (λe=> ?_);have aQ: ¬(n=0∨id<0):=λh=>by grind
 refine Aj (λst w'=>w'=w7/\(st.1=true↔34359738368<=x∨34359738368-x<n)) ?_ ?_
 .refine AB (λe=>⟨rfl,?_⟩) (λe=>⟨rfl,?_⟩)
  .grind
  .rw[AI]
   grind
 rintro⟨cE,u⟩ _ cN ⟨rfl,bC⟩;simp only at bC⊢;refine AP (λe=>bH aQ (by grind) _ aR) (λe=> ?_);have b9: ¬(34359738368<=x∨34359738368-x<n):=λh=>by grind
 have bO:x<34359738368:=by omega
 have bM:n<=34359738368-x:=by omega
 have cL:1<=n:=by omega
 refine⟨by decide,by decide,Am λlast aZ=>⟨some ⟨b,0,none⟩,cm _ (Ext.refl _ _),?_⟩⟩;have cJ:last=(x+n+511)/512:=by
  rw[aZ,AI (n:=x+n),AI (n:=x+n+512),AI (n:=x+n+512-1)];rw[Int.tdiv_eq_ediv_of_nonneg (by omega),AI];omega
 have bY:u64 (Int.tdiv x 512)=x/512:=by rw[Int.tdiv_eq_ediv_of_nonneg a5,AI]
 simp only[AH];rw[bY];have h4:=h.Fs aR;have bG:x/512<=last:=by omega
 refine Jk hE.toEnvS h4.set.row (by omega) bG (by omega) λaE y=> ?_;have bV:=FI h.set.row.ok bG;rw[AI];have aI:Ext AR w aE:=aR.trans' y;refine AP (λe=>bH aQ (.inr (.inr ?_)) _ aI) (λe=> ?_)
 .grind
 have a7:=bV.1 (by grind);refine⟨by decide,by decide,Am λfr bZ=>Am λto b5=> ?_⟩;have b7:fr=(x+511)/512:=by
  rw[bZ,AI (n:=x+512),AI (n:=x+512-1),Int.tdiv_eq_ediv_of_nonneg (by omega),AI];omega
 have cD:to=(x+n)/512:=by
  rw[b5,AI (n:=x+n),Int.tdiv_eq_ediv_of_nonneg (by omega),AI]
 have aV:=h.Fs aI;have a0: ¬Ka b G w.heap.size:=λe=>by have:=h.PQ e;omega
 have aX: ¬Ka b G w2.heap.size:=λe=>by have:=h.PQ e;omega
 have aY:w.heap.size<aE.heap.size:=by have:=y.size;omega
 have bK:w2.heap.size<aE.heap.size:=by have:=y.size;omega
 refine Aj (λ_ w'=> ∃G',HL E b aE G w' G'/\G'.ks=G.ks/\ ∀p,G'.own p=if fr<=p/512/\p/512<to then id else G.own p) ?_ ?_
 .refine AB (λaA=> ?_) (λcH=>⟨G,HL.refl aV,rfl,λp=>by omega⟩);refine⟨some ⟨b,0,none⟩,cm _ y,Wz aV (by omega) aA (by omega) λaM aL aN bD aS=> ?_⟩;have aD:=qF aV aN bD aS;have aC: ∀w',Ext AR aM w'->w'.cell? ⟨w2.heap.size,0,none⟩=some (.int .i64 id):=λw' he=>he.cell (aD.ext.cell (ci _ y) aX) λf=>f;have J: ∀w',Ext AR aM w'->w'.cell? ⟨w.heap.size,0,none⟩=some (.pointer (some ⟨b,0,none⟩)):=λw' he=>he.cell (aD.ext.cell (cm _ y) a0) λf=>f;refine⟨id,aC _ (Ext.refl _ _),AB (λcA=> ?_) (λhz=>⟨_,aD,rfl,λp=> ?_⟩)⟩
  .have hd:Ext AR aM aM.drew:=Ext.drew _ _;have bW:=aN.Fs hd;refine⟨some ⟨b,0,none⟩,J _ hd,some ⟨b,0,none⟩,J _ hd,?_⟩;simp only[AH,add_eq,Nat.zero_add];refine⟨aL,bW.wide.c2,id,aC _ hd,BZ λb6 a9 b4 bE=> ?_⟩;have v:Ext AR aM b6:=hd.trans' bE;have Y:=aN.Fs v;refine⟨aC _ v,Y.wide.c2,J _ v,J _ v,?_⟩;refine RB (q:=(fr,to,id)) (m:=wcut G.ws fr to) Y.wide.own a9 (Nat.zero_le _) (by have:=Z3 h.wide.ok aA;omega) λZj cO bN O bA=> ?_;have aW: ∀k,k<aE.heap.size-> ¬LZ (G.cut fr to aL).sw k:=λk hk e=>by have:=aS k e;omega
   have bL: ¬LZ (G.cut fr to aL).sw b:=by rintro⟨a,ha,e⟩;exact Y.wide.apart a ha e.symm
   refine⟨O.cell (aC _ v) (aW _ bK),O.cell (J _ v) (aW _ aY),O.cell (J _ v) (aW _ aY),?_⟩;refine Mi (O.cell Y.wide.c2 bL) (by rw[O.frozen (p:=⟨b,2,none⟩) Y.lt bL];exact Y.wide.f2) rfl λcP b3=> ?_;have a4:=mC Y (q:=(fr,to,id)) ⟨by omega,aA,by grind⟩ (λp hp=>by
    obtain⟨p',b1,g1,g2,g3,g4⟩:=MZ h.wide.ok aA hp;exact g4) O bN bA b3
   refine⟨_,(aD.trans (HL.nothing aN v)).trans a4,rfl,λp=> ?_⟩;unfold MapG.own;show(match(if fr<=p/512/\p/512<to then none else G.lv (p/512))with|some q=>q.2 (p %512)|none=>wholeL (wcut G.ws fr to++[(fr,to,id)]) (p/512))=_;by_cases hin:fr<=p/512/\p/512<to
   .rw[if_pos hin,if_pos hin];show wholeL (wcut G.ws fr to++[(fr,to,id)]) (p/512)=id;rw[QI,wholeL,if_pos hin];rintro⟨p1,a2,g1,g2⟩;obtain⟨p',b1,_,_,_,g4⟩:=MZ h.wide.ok aA a2;omega
   .rw[if_neg hin,if_neg hin];cases G.lv (p/512)with
    | some q=>rfl
    | none=>
     show wholeL (wcut G.ws fr to++[(fr,to,id)]) (p/512)=wholeL G.ws (p/512);rw[<-show wholeL (wcut G.ws fr to) (p/512)=wholeL G.ws (p/512)from by rw[MY aA,if_neg hin]];by_cases hex: ∃p1∈wcut G.ws fr to,p1.1<=p/512/\p/512<p1.2.1
     .rw[Wy hex]
     .rw[QI hex,wholeL,if_neg hin,Zy λp1 a2 h2=>hex ⟨p1,a2,h2⟩];rfl
  .rw[vS aA];omega
 rintro _ _ bQ ⟨G1,j,aT,aK⟩;have aF:bQ.cell? ⟨w2.heap.size,0,none⟩=some (.int .i64 id):=j.ext.cell (ci _ y) aX;have aG:bQ.cell? ⟨w.heap.size,0,none⟩=some (.pointer (some ⟨b,0,none⟩)):=j.ext.cell (cm _ y) a0;have aP: ¬Ka b G1 w.heap.size:=j.CZ a0 aY;have aO: ¬Ka b G1 w2.heap.size:=j.CZ aX bK;have aH: ∀c,x/512<=c->c<(x+n+511)/512->mem G.ks c:=λc h1 h2=>a7 c h1 (by omega);have aU:HL E b w G aE G:=HL.nothing h aI;refine AB (λcI=> ?_) (λhle=> ?_)
 .refine hE.vR _ _ _ _ _ _ ?_;rw[AI];refine Ow j.rep a5 (by omega) aF aG aO aP λw' G' a3 aJ aB=>⟨rfl,?_⟩;refine bI aQ bO bM aH w' G' ((aU.trans j).trans a3) (aJ.trans aT) λp=> ?_;rw[aB,aK];omega
 .refine hE.vR _ _ _ _ _ _ ?_;rw[AI];refine Ow j.rep a5 (by omega) aF aG aO aP λcQ G2 T bJ a1=>⟨rfl,?_⟩;refine hE.vR _ _ _ _ _ _ ?_;rw[AI (n:=to*512),AI (n:=x+n)];have b8:=j.ext.size;refine Ow T.rep (by omega) (by omega) (T.ext.cell aF aO) (T.ext.cell aG aP) (T.CZ aO (by omega)) (T.CZ aP (by omega)) λw' G' a3 aJ aB=>⟨rfl,?_⟩;refine bI aQ bO bM aH w' G' (((aU.trans j).trans T).trans a3) (aJ.trans (bJ.trans aT)) λp=> ?_;rw[aB,a1,aK];omega
end
def C5(E:Env)(b:Nat)(ks:Iv)(own:Int->Int):Pr where
 holds D w:= ∃G,Hi E w b G/\G.ks=ks/\(∀p,G.own p=own p)/\ ∀k,D k↔Ka b G k
 loc h he hS:=let⟨G,h1,h2,h3,h4⟩:=h;⟨G,h1.ext he λk hk=>hS k ((h4 k).2 hk),h2,h3,h4⟩
 lt h hk:=let⟨G,h1,_,_,h4⟩:=h;h1.PQ ((h4 _).1 hk)
section
variable{E:Env}{b:Nat}{ks:Iv}{own:Int->Int}{Z:List Pr}{w:World}
def Sat.Z4(H:Sat (C5 E b ks own::Z) w):
  ∃G,Hi E w b G/\G.ks=ks/\(∀p,G.own p=own p)/\ ∀w' G' v j,HL E b w G w' G'->G'.ks=v->(∀p,G'.own p=j p)->Sat (C5 E b v j::Z) w':=by
 obtain⟨D,⟨G,h1,h2,O,y⟩,hs⟩:=H.step;refine⟨G,h1,h2,O,λw' G' v j st J K=>hs w' (Ka b G') _ (st.ext.mono λi _ T=>(y i).2 T) ⟨G',st.rep,J,K,λ_=>Iff.rfl⟩ λk hk=> ?_⟩;rcases st.WC k hk with h|h
 .exact .inl ((y k).2 h)
 .exact .inr h
def Sat.vT(H:Sat (C5 E b ks own::Z) w):Ok ks:=by
 obtain⟨G,h1,rfl,_⟩:=H.Z4;exact h1.set.row.ok
def qG(H:Sat Z w){K:Option Addr->World->Prop}(y: ∀w' b,Sat (C5 E b [] (λ_=>0)::Z) w'->K (some ⟨b,0,none⟩) w'):F.My E K w:=
 qE λw' b G J he O v j=>y w' b (H.new (P:=C5 E b [] λ_=>0) (D:=Ka b G) he ⟨G,J,v,j,λ_=>Iff.rfl⟩ O)
def vU(H:Sat (C5 E b ks own::Z) w){x:Int}(h0:0<=x)(y:x<18446744073709551616){K:Int->World->Prop}(v: ∀w',Sat (C5 E b ks own::Z) w'->K (own (x/8192)) w'):
  F.GH E (some ⟨b,0,none⟩) x K w:=by
 obtain⟨G,h1,h2,j,_⟩:=H.Z4;refine at_own h1 h0 y λw' he=> ?_;rw[j];exact v w' (H.nothing he)
def eZ(H:Sat (C5 E b ks own::Z) w){K:Int->World->Prop}(j:K (HE ks) w):F.FA E (some ⟨b,0,none⟩) K w:=by
 obtain⟨G,h1,h2,v,_⟩:=H.Z4;unfold F.FA T0.FA F.Hx;simp only[AH,add_eq,Nat.zero_add];refine⟨_,h1.set.c1,?_⟩;rw[h2];exact j
def mE{w':World}{G:MapG}(j:Hi E w b G){s5:Ac}{O:Iv}(J:KX E w' b 0 s5 O)(v:Oo b (Yx 0) w w')(Y:Um w G.s s5):HL E b w G w' (G.grow s5 O):=by
 have y: ∀k,LZ s5 k->LZ G.s k∨w.heap.size<=k:=by
  rintro k ⟨a,ha,rfl⟩;rcases Y with e|e
  .rw[e]at ha;exact .inl ⟨a,ha,rfl⟩
  grind
 refine⟨?_,?_,?_⟩
 .have T: ¬Yx 0 2:=by unfold Yx;omega
  have aA: ¬Yx 0 3:=by unfold Yx;omega
  have aC:=j.lt;refine⟨J,⟨by rw[v.Cr 2 T];exact j.wide.c2,by rw[v.tH];exact j.wide.f2,j.wide.own.ext v.ext λg hg e=>j.wide.apart _ hg e,j.wide.ok,j.wide.apart⟩,by rw[v.Cr 3 aA];exact j.c3,?_,?_,j.inj,?_,?_⟩
  .obtain⟨es,cl,m,h1,h2⟩:=j.map;exact⟨es,cl,m,v.ext.obj h1 j.mne,h2⟩
  .intro k q hk i hi;obtain⟨g1,g2⟩:=j.leaf k q hk i hi;have T: ¬K0 b q.1:=(j.d2 k q hk).1;exact⟨v.ext.cell g1 T,by rw[v.ext.frozen (World.block_lt_of_cell? w _ g1) T];exact g2⟩
  .intro k hk K;rcases y k hk with e|e
   .exact j.d1 k e K
   .have:=(j.wide.own.Gk K).2;omega
  .intro k q hk;obtain⟨g1,g2,g3⟩:=j.d2 k q hk;refine⟨g1,λe=> ?_,g3⟩;rcases y _ e with e|e
   .exact g2 e
   .have:=World.block_lt_of_cell? w _ (j.leaf k q hk 0 (by decide)).1
    grind
 .exact v.ext.mono λi _ e=>.inl e
 .rintro k (e|e|e|e|⟨c',q,e,e2⟩)
  .exact .inl (.inl e)
  .exact .inl (.inr (.inl e))
  .rcases y k e with e|e
   .exact .inl (.inr (.inr (.inl e)))
   omega
  .exact .inl (.inr (.inr (.inr (.inl e))))
  .exact .inl (.inr (.inr (.inr (.inr ⟨c',q,e,e2⟩))))
end
section
variable{E:Env}{b:Nat}{ks:Iv}{own:Int->Int}{Z:List Pr}{w:World}(hE:EnvA E)
include hE
theorem Z5(H:Sat (C5 E b ks own::Z) w){x n id:Int}(O:0<=x)(hx:x<18446744073709551616)(v:0<=n)(hn:n<18446744073709551616){K:Int->World->Prop}
  (j:n≠0/\0<=id/\x+n<=34359738368/\ ∀p,x<=p->p<x+n->mem ks (p/512))(hK: ∀w',Sat (C5 E b ks (λp=>if x<=p/\p<x+n then id else own p)::Z) w'->K 0 w'):
  F.EM E (some ⟨b,0,none⟩) x n id K w:=by
 obtain⟨G,h1,h2,h3,J⟩:=H.Z4;obtain⟨g1,g2,g3,g4⟩:=j;have y: ¬(n=0∨id<0):=by omega
 refine mD hE h1 O hx v hn (λh=>absurd h y) (λ_ h=> ?_) λ_ _ _ _ w' G' st T Y=>hK w' (J w' G' ks _ st (T.trans h2) λp=>by rw[Y,h3]);exfalso;rcases h with h|h|⟨c,c1,c2,c3⟩
 .omega
 .omega
 .refine c3 ?_;rw[h2];have:=g4 (max x (c*512)) (by omega) (by omega)
  grind
theorem mF(H:Sat (C5 E b ks own::Z) w){a c:Int}(Y:0<=a)(v:a<c)(hc:c<=67108864){K:World->Prop}(T: ∀w',Sat (C5 E b (D9 ks a c) own::Z) w'->K w'):
  F.Fl E (some ⟨b,0,none⟩) a c K w:=by
 obtain⟨G,h1,h2,O,y⟩:=H.Z4;unfold F.Fl T0.Fl;simp only[AH];have J:Pb=4398046511104:=rfl;refine L1 hE.toEnvS h1.set Y v (by omega) λw' s' j hu hf=>T w' (y w' (G.grow s' (D9 G.ks a c)) _ own (mE h1 j hu hf) (by rw[h2];rfl) λp=>O p)
end
end Go.Sh

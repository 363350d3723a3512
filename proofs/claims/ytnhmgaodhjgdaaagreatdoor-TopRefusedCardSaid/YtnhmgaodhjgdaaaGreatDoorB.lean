/- The map of arenas does what its chunks and owners say. No further condition. -/
import Derived.Test.YtnhmgaodhjgdaaaGreatDoorS
import Derived.Test.YtnhmgaodhjgdaaaGreatDoorM
import Derived.Test.YtnhmgaodhjgdaaaGreatDoorA
set_option linter.all false
set_option maxRecDepth 50000
set_option maxHeartbeats 1000000
namespace Go.Sh
abbrev Wd:=List (Int×Int×Int)
def flat3:Wd->List Value
 | []=>[]
 | p::r=>.int .u64 p.1:: .int .u64 p.2.1:: .int .i64 p.2.2::flat3 r
def M0: ∀l:Wd,(flat3 l).length=l.length*3
 | []=>rfl
 | p::r=>by simp[flat3,M0 r];omega
def Qx: ∀l m:Wd,flat3 (l++m)=flat3 l++flat3 m
 | [],_=>rfl
 | p::r,m=>by simp[flat3,Qx r m]
def V5: ∀(l:Wd) (i:Nat) (p:Int×Int×Int),l[i]? =some p->
  (flat3 l)[i*3]? =some (.int .u64 p.1)/\(flat3 l)[i*3+1]? =some (.int .u64 p.2.1)/\(flat3 l)[i*3+2]? =some (.int .i64 p.2.2)
 | [],i,p,h=>by simp at h
 | q::r,0,p,h=>by simp at h;subst h;simp[flat3]
 | q::r,i+1,p,h=>by
  have:=V5 r i p (by grind);rw[show(i+1)*3=i*3+1+1+1 from by omega];simpa[flat3]using this
def wholeL:Wd->Int->Int
 | [],_=>0
 | p::r,c=>if p.1<=c/\c<p.2.1 then p.2.2 else wholeL r c
def KX(p:Int×Int×Int)(a b:Int):Wd:=
 if p.2.1<=a∨b<=p.1 then [p]else(if p.1<a then [(p.1,a,p.2.2)]else [])++(if b<p.2.1 then [(b,p.2.1,p.2.2)]else [])
def wcut:Wd->Int->Int->Wd
 | [],_,_=>[]
 | p::r,a,b=>KX p a b++wcut r a b
def V6{l m:Wd}{c:Int}(h: ∃p∈l,p.1<=c/\c<p.2.1):wholeL (l++m) c=wholeL l c:=by
 induction l with
 | nil=>grind
 | cons p r ih=>
  simp only[List.cons_append,wholeL]
  grind
def Pw{l m:Wd}{c:Int}(h: ¬ ∃p∈l,p.1<=c/\c<p.2.1):wholeL (l++m) c=wholeL m c:=by
 induction l with
 | nil=>rfl
 | cons p r ih=>
  simp only[List.cons_append,wholeL]
  grind
def Yx{l:Wd}{c:Int}(h: ∀p∈l,¬(p.1<=c/\c<p.2.1)):wholeL l c=0:=by
 induction l with
 | nil=>rfl
 | cons p r ih=>rw[wholeL,if_neg (h p (by simp)),ih λq a=>h q (by simp[a])]
def Qy{p:Int×Int×Int}{a b c:Int}(e:a<b):
  (∃q∈KX p a b,q.1<=c/\c<q.2.1)↔(p.1<=c/\c<p.2.1)/\ ¬(a<=c/\c<b):=by
 unfold KX;split
 .grind
 .rename_i h;simp only[List.mem_append];constructor
  .grind
  .rintro⟨⟨h1,d⟩,m⟩;by_cases h4:c<a
   .exact⟨(p.1,a,p.2.2),.inl (by grind),h1,h4⟩
   .exact⟨(b,p.2.1,p.2.2),.inr (by grind),by simp only;omega,d⟩
def TA{p:Int×Int×Int}{a b c:Int}(h: ∃q∈KX p a b,q.1<=c/\c<q.2.1):wholeL (KX p a b) c=p.2.2:=by
 have Nd: ∀q∈KX p a b,q.2.2=p.2.2:=by
  intro q d;unfold KX at d
  grind
 have key: ∀l:Wd,(∀q∈l,q.2.2=p.2.2)->(∃q∈l,q.1<=c/\c<q.2.1)->wholeL l c=p.2.2:=by
  intro l
  induction l with
  | nil=>grind
  | cons q r ih=>
   intro h1 e;rw[wholeL]
   grind
 grind
def L7{l:Wd}{a b:Int}(e:a<b)(c:Int):wholeL (wcut l a b) c=if a<=c/\c<b then 0 else wholeL l c:=by
 induction l with
 | nil=>simp[wcut,wholeL]
 | cons p r ih=>
  rw[wcut];by_cases h1:(p.1<=c/\c<p.2.1)/\ ¬(a<=c/\c<b)
  .have d:=(Qy e).2 h1;rw[V6 d,if_neg h1.2,wholeL,if_pos h1.1];exact TA d
  .rw[Pw λd=>h1 ((Qy e).1 d),ih];split
   .rfl
   .rename_i d;rw[wholeL,if_neg λm=>h1 ⟨m,d⟩]
def gN(l:Wd):Prop:=(∀p∈l,0<=p.1/\p.1<p.2.1/\p.2.1<=67108864)/\l.Pairwise λp q=>p.2.1<=q.1∨q.2.1<=p.1
def Qz{p q:Int×Int×Int}{a b:Int}(hp:p.1<p.2.1)(d:a<b)(h:q∈KX p a b):p.1<=q.1/\q.1<q.2.1/\q.2.1<=p.2.1/\(q.2.1<=a∨b<=q.1):=by
 unfold KX at h
 grind
def L8{l:Wd}{q:Int×Int×Int}{a b:Int}(e:gN l)(d:a<b)(h:q∈wcut l a b): ∃p∈l,p.1<=q.1/\q.1<q.2.1/\q.2.1<=p.2.1/\(q.2.1<=a∨b<=q.1):=by
 induction l with
 | nil=>cases h
 | cons p r ih=>
  rcases List.mem_append.1 h with h|h
  .exact⟨p,by simp,Qz (e.1 p (by simp)).2.1 d h⟩
  .obtain⟨J,m,v⟩:=ih ⟨λx u=>e.1 x (by simp[u]),(List.pairwise_cons.1 e.2).2⟩ h
   grind
def Yy{l:Wd}{a b:Int}(h:gN l)(d:a<b):gN (wcut l a b):=by
 refine⟨λq m=> ?_,?_⟩
 .obtain⟨p,hp,h1⟩:=L8 h d m;have:=h.1 p hp;omega
 .induction l with
  | nil=>exact List.Pairwise.nil
  | cons p r ih=>
   have v:gN r:=⟨λx J=>h.1 x (by simp[J]),(List.pairwise_cons.1 h.2).2⟩;rw[wcut,List.pairwise_append];refine⟨?_,ih v,λq m T u=> ?_⟩
   .unfold KX;split
    .simp
    .split<;>split<;>simp;omega
   .have h1:=Qz (h.1 p (by simp)).2.1 d m;obtain⟨K,e,O⟩:=L8 v d u;have:=(List.pairwise_cons.1 h.2).1 K e;omega
def Yz: ∀(n:Nat) (l:List Int),l.Nodup->(∀x∈l,0<=x/\x<n)->l.length<=n
 | 0,[],_,_=>Nat.le_refl _
 | 0,x::r,_,h=>by have:=h x (by simp);omega
 | n+1,l,hn,h=>by
  have h1:(l.erase (n:Int)).length<=n:=Yz n _ (hn.erase _) λx a=>by grind
  grind
def gN.len{l:Wd}(h:gN l):l.length<=67108864:=by
 have h1:=Yz 67108864 (l.map (·.1)) ?_ ?_
 .grind
 .have m:=h.1;have e:=h.2;clear h
  induction l with
  | nil=>simp
  | cons p r ih=>
   rw[List.map_cons,List.nodup_cons];refine⟨λhm=> ?_,ih (λx d=>m x (by simp[d])) (List.pairwise_cons.1 e).2⟩;obtain⟨q,a,he⟩:=List.mem_map.1 hm;have u:=(List.pairwise_cons.1 e).1 q a
   grind
 .intro x d;obtain⟨q,a,rfl⟩:=List.mem_map.1 d;have:=h.1 q a;omega
def Ua{l m:Wd}:gN (l++m)↔gN l/\gN m/\ ∀p∈l,∀q∈m,p.2.1<=q.1∨q.2.1<=p.1:=by
 simp only[gN,List.pairwise_append,List.mem_append]
 grind
def ZA(l m:Wd)(a b:Int):wcut (l++m) a b=wcut l a b++wcut m a b:=by
 induction l with
 | nil=>rfl
 | cons p r ih=>simp[wcut,ih]
structure WideAt(E:Env)(w:World)(b:Nat)(s:AW)(ws:Wd):Prop where
 c2:w.cell? ⟨b,2,none⟩=some (.slice s.base s.len s.cap)
 f2:w.frozen? ⟨b,2,none⟩=false
 own:I8 w 0 E.BK 3 s (flat3 ws)
 ok:gN ws
 apart: ∀a,s.base=some a->a.block≠b
def WideAt.len{E:Env}{w:World}{b:Nat}{s:AW}{ws:Wd}(h:WideAt E w b s ws):s.len=ws.length:=by
 have:=h.own.len;rw[M0]at this;omega
def WideAt.lt{E:Env}{w:World}{b:Nat}{s:AW}{ws:Wd}(h:WideAt E w b s ws):b<w.heap.size:=World.block_lt_of_cell? w _ h.c2
def WideAt.ext{E:Env}{w w':World}{b:Nat}{s:AW}{ws:Wd}{S:Nat->Prop}(h:WideAt E w b s ws)(he:Ext S w w')(hp: ¬S b)(e: ∀a,s.base=some a-> ¬S a.block):WideAt E w' b s ws:=
 ⟨he.cell h.c2 hp,by rw[he.frozen (p:=⟨b,2,none⟩) h.lt hp];exact h.f2,h.own.ext he λg d=>e _ d,h.ok,h.apart⟩
def WideAt.cells{E:Env}{w:World}{b:Nat}{s:AW}{ws:Wd}(h:WideAt E w b s ws){i:Nat}{q:Int×Int×Int}(hi:ws[i]? =some q):
  ∃r,s.base=some ⟨r,0,none⟩/\w.cell? ⟨r,i*3,none⟩=some (.int .u64 q.1)/\w.cell? ⟨r,i*3+1,none⟩=some (.int .u64 q.2.1)/\w.cell? ⟨r,i*3+2,none⟩=some (.int .i64 q.2.2):=by
 have a:=h.own.rowAt;obtain⟨g1,g2,g3⟩:=V5 ws i q hi;rcases h.own.row with ⟨h1,d⟩|⟨b,cs,h1,_⟩
 .rw[h1]at a;have:flat3 ws=[]:=a
  grind
 .rw[h1]at a;refine⟨b,h1,?_,?_,?_⟩
  .have:=a.2 _ _ g1;rwa[add_eq,Nat.zero_add]at this
  .have:=a.2 _ _ g2;rwa[add_eq,Nat.zero_add]at this
  .have:=a.2 _ _ g3;rwa[add_eq,Nat.zero_add]at this
def Ub{E:Env}{w:World}{b:Nat}{s:AW}{ws:Wd}(h:WideAt E w b s ws){c:Int}{K:Int->World->Prop}(hK: ∀w',Ext AN w w'->K (wholeL ws c) w'):
  F.Hg E (some ⟨b,0,none⟩) c K w:=by
 unfold F.Hg;simp only[AK,add_eq,Nat.zero_add];have hlen:=h.len;have hsm:=h.ok.len;refine⟨s,h.c2,AM (λst w'=> ∃k:Nat,st.1=(k:Int)/\k<=ws.length/\wholeL ws c=wholeL (ws.drop k) c/\Ext AN w w') (λst _=>(ws.length-st.1).toNat) ⟨0,rfl,Nat.zero_le _,rfl,Ext.refl _ _⟩ ?_⟩;rintro⟨i,u⟩ _ w4 ⟨k,hk,aM,d,m⟩;simp only at hk⊢;subst hk;have h4:=h.ext m (λf=>f) λ_ _ f=>f;refine AG (λaO=> ?_) (λaL=> ?_)
 .have hl:k<ws.length:=by omega
  have hg:=List.getElem?_eq_getElem hl;obtain⟨r,hr,aC,aD,aE⟩:=h4.cells hg;rw[hr];simp only[AK,add_eq,Nat.zero_add,Int.toNat_natCast,Nat.add_zero];refine⟨⟨by omega,by omega⟩,_,aC,_,aD,_,aE,A8 λaS J aF T=> ?_⟩;refine IF _ _ _ _ _ _ _ J (by simp) (by intro v hv;simp at hv;rcases hv with rfl|rfl|rfl<;>rfl) λaB Y aG a=> ?_;simp at a;have aA:Ext AN w aB:=(m.trans' T).trans Y (λ_ _ f=>f) λi hi e=>by have:i=w4.heap.size:=e;have:=m.size;omega
  refine AV (λst w'=>w'=aB/\(st.1=true↔ws[k].1<=c/\c<ws[k].2.1)) ?_ ?_
  .refine⟨ws[k].1,by rw[AS a];rfl,AG (λh1=> ?_) (λh1=> ?_)⟩
   .refine⟨ws[k].2.1,by rw[AS a];rfl,rfl,?_⟩
    grind
   .refine⟨rfl,?_⟩
    grind
  .rintro⟨bt,u⟩ _ aT ⟨rfl,O⟩;simp only at O⊢;have hd:=YT hg;refine AY (λht=> ?_) (λhf=> ?_)
   .refine⟨ws[k].2.2,by rw[AS a];rfl,?_⟩;have:wholeL ws c=ws[k].2.2:=by rw[d,hd,wholeL,if_pos (O.1 ht)]
    grind
   .have hn: ¬(ws[k].1<=c/\c<ws[k].2.1):=λh=>by grind
    refine⟨⟨k+1,by rw[AI];omega,by omega,by rw[d,hd,wholeL,if_neg hn],aA⟩,by rw[AI];omega⟩
 .have:ws.drop k=[]:=List.drop_eq_nil_of_le (by omega);rw[this]at d;have:wholeL ws c=0:=d
  grind
def Q3{E:Env}{w:World}{B g:Nat}{s:AW}{m:Wd}{q:Int×Int×Int}{K:AW->World->Prop}(a:I8 w B E.BK 3 s (flat3 m))
  (O:w.heap[g]? =some (.cells ⟨[.int .u64 q.1,.int .u64 q.2.1,.int .i64 q.2.2]⟩ E.BK))(e:B<=w.heap.size)(hm:m.length<=67108865)
  (u: ∀s' w',I8 w' B E.BK 3 s' (flat3 (m++[q]))->Ext (Ki s) w w'->(s'.base=s.base∨ ∃b,s'.base=some ⟨b,0,none⟩/\w.heap.size<=b)->K s' w'):
  APP E.BK 3 24 #[.int .u64 0,.int .u64 0,.int .i64 0] s ⟨some ⟨g,0,none⟩,1,1⟩ w K:=by
 have T:=a.len;rw[M0]at T;refine QU (news:=[.int .u64 q.1,.int .u64 q.2.1,.int .i64 q.2.2]) rfl a (N8 O rfl) rfl (by intro v d;simp at d;rcases d with rfl|rfl|rfl<;>rfl) e (by grind) (by grind) ?_;intro s' w' ho Y he J;refine u s' w' ?_ he J;rw[Qx];exact ho
def ZB{l:Wd}{a b:Int}(h:gN l)(d:a<b):(wcut l a b).length<=67108864:=(Yy h d).len
def kJ{l:Wd}(h:gN l)(k:Nat):gN (l.take k):=by
 have h1:=h;rw[<-List.take_append_drop k l,Ua]at h1;exact h1.1
structure MapG where
 s:AW
 ks:Iv
 sw:AW
 ws:Wd
 mb:Nat
 lv:Int->Option (Nat×(Int->Int))
structure HQ(E:Env)(w:World)(b:Nat)(G:MapG):Prop where
 set:Jj E w b 0 G.s G.ks
 wide:WideAt E w b G.sw G.ws
 c3:w.cell? ⟨b,3,none⟩=some (.map (some G.mb))
 map: ∃es c m,w.heap[G.mb]? =some (.map es c)/\MapI .u64 es c m/\ ∀k,aget m k=(G.lv k).map λq=>.pointer (some ⟨q.1,0,none⟩)
 leaf: ∀k q,G.lv k=some q-> ∀i:Nat,i<512->w.cell? ⟨q.1,i,none⟩=some (.int .i64 (q.2 i))/\w.frozen? ⟨q.1,i,none⟩=false
 inj: ∀k k' q q',G.lv k=some q->G.lv k'=some q'->q.1=q'.1->k=k'
 d1: ∀k,Ki G.s k-> ¬Ki G.sw k
 d2: ∀k q,G.lv k=some q->q.1≠b/\ ¬Ki G.s q.1/\ ¬Ki G.sw q.1
section
variable{E:Env}{w w':World}{b:Nat}{G:MapG}
def HQ.lt(h:HQ E w b G):b<w.heap.size:=h.wide.lt
def HQ.mne(h:HQ E w b G):G.mb≠b:=by
 rintro e;obtain⟨es,c,m,h1,_⟩:=h.map;rw[e]at h1;exact UN h1 h.c3
def HQ.ms(h:HQ E w b G): ¬Ki G.s G.mb:=by
 obtain⟨es,c,m,h1,_⟩:=h.map;exact h.set.row.own.XA h1
def HQ.mw(h:HQ E w b G): ¬Ki G.sw G.mb:=by
 obtain⟨es,c,m,h1,_⟩:=h.map;exact h.wide.own.XA h1
def HQ.ml(h:HQ E w b G){k:Int}{q:Nat×(Int->Int)}(a:G.lv k=some q):q.1≠G.mb:=by
 rintro e;obtain⟨es,c,m,h1,_⟩:=h.map;rw[<-e]at h1;exact UN h1 (h.leaf k q a 0 (by decide)).1
def HQ.mlt(h:HQ E w b G):G.mb<w.heap.size:=by
 obtain⟨es,c,m,h1,_⟩:=h.map
 grind
def Jm(b:Nat)(G:MapG)(k:Nat):Prop:=k=b∨k=G.mb∨Ki G.s k∨Ki G.sw k∨ ∃c q,G.lv c=some q/\k=q.1
def HQ.O0(h:HQ E w b G){k:Nat}(a:Jm b G k):k<w.heap.size:=by
 rcases a with rfl|rfl|a|a|⟨c,q,a,rfl⟩
 .exact h.lt
 .exact h.mlt
 .exact(h.set.row.own.EU a).2
 .exact(h.wide.own.EU a).2
 .exact World.block_lt_of_cell? w _ (h.leaf c q a 0 (by decide)).1
def HQ.ext{S:Nat->Prop}(h:HQ E w b G)(he:Ext S w w')(hS: ∀k,Jm b G k-> ¬S k):HQ E w' b G:=by
 have u: ¬S b:=hS b (.inl rfl);refine⟨h.set.ext he u λa e=>hS _ (.inr (.inr (.inl ⟨a,e,rfl⟩))),h.wide.ext he u λa e=>hS _ (.inr (.inr (.inr (.inl ⟨a,e,rfl⟩)))),he.cell h.c3 u,?_,?_,h.inj,h.d1,h.d2⟩
 .obtain⟨es,c,m,h1,d⟩:=h.map;exact⟨es,c,m,he.obj h1 (hS _ (.inr (.inl rfl))),d⟩
 .intro k q v i hi;obtain⟨h1,d⟩:=h.leaf k q v i hi;have J: ¬S q.1:=hS _ (.inr (.inr (.inr (.inr ⟨k,q,v,rfl⟩))));exact⟨he.cell h1 J,by rw[he.frozen (World.block_lt_of_cell? w _ h1) J];exact d⟩
def HQ.E0(h:HQ E w b G)(he:Ext AN w w'):HQ E w' b G:=h.ext he λ_ _ f=>f
end
def MapG.cut(G:MapG)(a c:Int)(sw:AW):MapG:={G with sw:=sw,ws:=wcut G.ws a c,lv:=λk=>if a<=k/\k<c then none else G.lv k}
def V7{E:Env}{w:World}{b:Nat}{G:MapG}(h:HQ E w b G){a c:Int}(ha:0<=a)(bF:a<c)(hc:c<=67108864){K:World->Prop}
  (hK: ∀w' b8,HQ E w' b (G.cut a c b8)->Ext (λk=>k=b∨k=G.mb) w w'->(∀k,Ki b8 k->w.heap.size<=k)->K w'):
  F.I2 E (some ⟨b,0,none⟩) a c K w:=by
 unfold F.I2;simp only[AK,add_eq,Nat.zero_add];have hlen:=h.wide.len;have hsm:=h.wide.ok.len;have cW:=h.lt;refine⟨G.sw,h.wide.c2,AM (λst w'=> ∃k:Nat,st.2.1=(k:Int)/\k<=G.ws.length/\I8 w' w.heap.size E.BK 3 st.1 (flat3 (wcut (G.ws.take k) a c))/\Ext AN w w')
  (λst _=>(G.ws.length-st.2.1).toNat) ⟨0,rfl,Nat.zero_le _,I8.nil _ _ _ _,Ext.refl _ _⟩ ?_⟩
 rintro⟨s3,i,u⟩ _ w4 ⟨k,hk,Y,T,aX⟩;simp only at hk T⊢;subst hk;refine AG (λcH=> ?_) (λcF=> ?_)
 .have hl:k<G.ws.length:=by omega
  have hg:=List.getElem?_eq_getElem hl;have h4:=h.E0 aX;obtain⟨r,hr,bZ,b2,b3⟩:=h4.wide.cells hg;generalize hq:G.ws[k]=q at hg bZ b2 b3;have cL:q∈G.ws:=List.mem_of_getElem? hg;have c7:=h.wide.ok.1 q cL;have bB:G.ws.take (k+1)=G.ws.take k++[q]:=Gd hg;have aK:wcut (G.ws.take (k+1)) a c=wcut (G.ws.take k) a c++KX q a c:=by rw[bB,ZA];simp[wcut]
  have dB:(wcut (G.ws.take k) a c).length<=67108864:=ZB (kJ h.wide.ok k) bF;rw[hr];simp only[AK,add_eq,Nat.zero_add,Int.toNat_natCast,Nat.add_zero];refine⟨⟨by omega,by omega⟩,_,bZ,_,b2,_,b3,A8 λdD bH cM a0=> ?_⟩;refine IF _ _ _ _ _ _ _ bH (by simp) (by intro v hv;simp at hv;rcases hv with rfl|rfl|rfl<;>rfl) λbD a1 cN J=> ?_;simp at J;have aJ:Ext AN w bD:=(aX.trans' a0).trans a1 (λ_ _ f=>f) λi hi e=>by have:i=w4.heap.size:=e;have:=aX.size;omega
  have O:I8 bD w.heap.size E.BK 3 s3 (flat3 (wcut (G.ws.take k) a c)):=(T.ext a0 λ_ _ f=>f).ext a1 λg a6 e=>by
   have:=T.lt a6;have:g=w4.heap.size:=e;grind
  have bR: ∀g,s3.base=some ⟨g,0,none⟩->g≠w4.heap.size:=λg a6 e=>by have:=T.lt a6;grind
  refine AV (λst w'=>w'=bD/\(st.1=true↔q.2.1<=a∨c<=q.1)) ?_ ?_
  .refine⟨q.2.1,by rw[AS J];rfl,AG (λh1=> ?_) (λh1=> ?_)⟩
   .refine⟨rfl,?_⟩;simp;omega
   .refine⟨q.1,by rw[AS J];rfl,rfl,?_⟩;simp;omega
  .rintro⟨bt,u⟩ _ dE ⟨rfl,bN⟩;simp only at bN⊢;refine AY (λht=> ?_) (λhf=> ?_)
   .have cG:=bN.1 ht;refine⟨q.1,by rw[AS J];rfl,q.2.1,by rw[AS J];rfl,q.2.2,by rw[AS J];rfl,A8 λdF bI cO aR=> ?_⟩;refine Q3 (O.ext aR λ_ _ f=>f) bI (by have:=aJ.size;omega) (by omega) λVY dG bW bO bM=> ?_;have b5:=Hk (aJ.trans' aR) (O.ext aR λ_ _ f=>f) (Nat.le_refl _) bO;have h1:KX q a c=[q]:=by
     unfold KX
     grind
    refine⟨⟨k+1,by rw[AI];omega,by omega,by rw[aK,h1];exact bW,b5⟩,by rw[AI];omega⟩
   .have c5: ¬(q.2.1<=a∨c<=q.1):=λh=>by grind
    refine AV (λst w'=>I8 w' w.heap.size E.BK 3 st.1 (flat3 (wcut (G.ws.take k) a c++if q.1<a then [(q.1,a,q.2.2)]else []))/\Ext AN w w'/\
      w'.heap[w4.heap.size]? =some (.cells #[.int .u64 q.1,.int .u64 q.2.1,.int .i64 q.2.2] E.BK)/\w4.heap.size<w'.heap.size/\ ∀g,st.1.base=some ⟨g,0,none⟩->g≠w4.heap.size) ?_ ?_
    .refine⟨q.1,by rw[AS J];rfl,AG (λh1=> ?_) (λh1=> ?_)⟩
     .refine⟨q.1,by rw[AS J];rfl,q.2.2,by rw[AS J];rfl,A8 λdI bJ cP aL=> ?_⟩;refine Q3 (q:=(q.1,a,q.2.2)) (O.ext aL λ_ _ f=>f) bJ (by have:=aJ.size;omega) (by omega) λUJ dJ bX aS bM=> ?_;have b6:=Hk (aJ.trans' aL) (O.ext aL λ_ _ f=>f) (Nat.le_refl _) aS;refine⟨by rw[if_pos h1];exact bX,b6,aS.obj (aL.obj J λf=>f) ?_,by have:=aS.size;omega,?_⟩
      .rintro⟨a',aF,cD⟩;have:=O.lt aF;exact bR a'.block (by rw[aF];cases a';simp_all) cD.symm
      grind
     .refine⟨by rw[if_neg h1,List.append_nil];exact O,aJ,J,by omega,bR⟩
    .rintro⟨O8,u⟩ _ dH ⟨aM,aW,aO,cI,bQ⟩;simp only at aM bQ⊢;refine⟨q.2.1,by rw[AS aO];rfl,AG (λh1=> ?_) (λh1=> ?_)⟩
     .refine⟨q.2.1,by rw[AS aO];rfl,q.2.2,by rw[AS aO];rfl,A8 λdK bK cQ aT=> ?_⟩;refine Q3 (q:=(c,q.2.1,q.2.2)) (aM.ext aT λ_ _ f=>f) bK (by have:=aW.size;omega) (by grind) λaB dL bY bP bM=> ?_;have b7:=Hk (aW.trans' aT) (aM.ext aT λ_ _ f=>f) (Nat.le_refl _) bP;have h2:KX q a c=(if q.1<a then [(q.1,a,q.2.2)]else [])++[(c,q.2.1,q.2.2)]:=by
       unfold KX
       grind
      refine⟨⟨k+1,by rw[AI];omega,by omega,by rw[aK,h2,<-List.append_assoc];exact bY,b7⟩,by rw[AI];omega⟩
     .have h2:KX q a c=(if q.1<a then [(q.1,a,q.2.2)]else []):=by
       unfold KX
       grind
      refine⟨⟨k+1,by rw[AI];omega,by omega,by rw[aK,h2];exact aM,aW⟩,by rw[AI];omega⟩
 .have bB:G.ws.take k=G.ws:=List.take_of_length_le (by omega);rw[bB]at T;have h4:=h.E0 aX;refine LI h4.wide.c2 h4.wide.f2 rfl λaE aH=> ?_;have hu:N7 b (λj=>j=2) w4 aE:=N7.Ie aH rfl;have b4:Jj E aE b 0 G.s G.ks:=h4.set.JT hu (by decide) (by decide);have aP: ∀k,Ki s3 k->w.heap.size<=k:=λk hk=>(T.EU hk).1;have bC:WideAt E aE b s3 (wcut G.ws a c):=by
   refine⟨aH.same,by rw[aH.frozen];exact h4.wide.f2,(T.ext aH.ext λg hg e=> ?_).lower (Nat.zero_le _),Yy h.wide.ok bF,λa' aF e=> ?_⟩
   .have:=T.lt hg;have:g=b:=e;grind
   .have:=(T.lt aF).1;omega
  have aQ:aE.cell? ⟨b,3,none⟩=some (.map (some G.mb)):=by rw[aH.other _ (by grind)];exact h4.c3
  obtain⟨es,cl,m,bS,bT,cC⟩:=h4.map;have aA:aE.heap[G.mb]? =some (.map es cl):=aH.ext.obj bS h.mne;have a2:Ext (KD b) w aE:=(aX.any).trans' aH.ext;have a8: ∀k q,G.lv k=some q-> ∀i:Nat,i<512->aE.cell? ⟨q.1,i,none⟩=some (.int .i64 (q.2 i))/\aE.frozen? ⟨q.1,i,none⟩=false:=by
   intro k q hk i hi;obtain⟨h1,h2⟩:=h4.leaf k q hk i hi;have hn: ¬KD b q.1:=(h.d2 k q hk).1;exact⟨aH.ext.cell h1 hn,by rw[aH.ext.frozen (World.block_lt_of_cell? w4 _ h1) hn];exact h2⟩
  have fin: ∀w' aC m',Ext (λk=>k=G.mb∨w.heap.size<=k/\ ¬Ki s3 k) aE w'->w'.heap[G.mb]? =some (.map aC cl)->MapI .u64 aC cl m'->(∀k,aget m' k=if a<=k/\k<c then none else aget m k)->K w':=by
   intro w' aC m' d aN aG aD;have bA: ¬(b=G.mb∨w.heap.size<=b/\ ¬Ki s3 b):=by
    rintro(e|⟨e,_⟩)
    .exact h.mne e.symm
    .omega
   refine hK w' s3 ⟨?_,?_,d.cell aQ bA,⟨aC,cl,m',aN,aG,?_⟩,?_,?_,?_,?_⟩ ?_ aP
   .refine b4.ext d bA λa' aF=> ?_;have:=(h.set.row.own.lt aF);rintro(e|⟨e,_⟩)
    .exact h.ms ⟨a',aF,e.symm⟩
    .omega
   .refine bC.ext d bA λa' aF=> ?_;have:=T.lt aF;rintro(e|⟨_,e⟩)
    .have:=h.mlt;omega
    .exact e ⟨a',aF,rfl⟩
   .intro k;rw[aD,cC];show _=Option.map _ (if a<=k/\k<c then none else G.lv k)
    grind
   .intro k q hk i hi;have Y:(if a<=k/\k<c then none else G.lv k)=some q:=hk;split at Y
    .cases Y
    .obtain⟨h1,h2⟩:=a8 k q Y i hi;have hq:=World.block_lt_of_cell? w _ (h.leaf k q Y i hi).1;have hn: ¬(q.1=G.mb∨w.heap.size<=q.1/\ ¬Ki s3 q.1):=by
      rintro(e|⟨e,_⟩)
      .exact h.ml Y e
      grind
     exact⟨d.cell h1 hn,by rw[d.frozen (World.block_lt_of_cell? aE _ h1) hn];exact h2⟩
   .intro k k' q q' hk a7 e;have Y:(if a<=k/\k<c then none else G.lv k)=some q:=hk;have aV:(if a<=k'/\k'<c then none else G.lv k')=some q':=a7;split at Y
    .cases Y
    .split at aV
     .cases aV
     .exact h.inj k k' q q' Y aV e
   .intro k hk a7;have:=aP k a7;have:=(h.set.row.own.EU hk).2;omega
   .intro k q hk;have Y:(if a<=k/\k<c then none else G.lv k)=some q:=hk;split at Y
    .cases Y
    .obtain⟨g1,g2,g3⟩:=h.d2 k q Y;refine⟨g1,g2,λg=> ?_⟩;have:=aP _ g;have:=World.block_lt_of_cell? w _ (h.leaf k q Y 0 (by decide)).1
     grind
   .refine a2.trans d (λi _ e=>.inl e) λi hi e=> ?_;omega
  refine⟨some G.mb,aQ,es,⟨cl,aA⟩,AY (λ_=> ?_) (λ_=> ?_)⟩
  .refine⟨some G.mb,aQ,cl,⟨es,aA⟩,A8 λdM bL cR aU=> ?_⟩;have a9:=aU.obj aA λf=>f;have cK:=Fp aA;refine range_del (K:=K) (m0:=m) (m1:=m) (es0:=es) (seen0:= #[]) (mb:=G.mb) (since:=cl) (a:=a) (b:=c) (getm:=λK' w=> ∃b9:(Option Nat),w.cell? ⟨b,3,none⟩=some (.map b9)/\K' b9 w) (λw' K' he hk=>⟨some G.mb,?_,hk⟩)
    ⟨⟨cl,bL,.inl rfl⟩,a9,bT,λ_ _=>rfl,λ_ _ h=>h,by simp⟩ (by omega) (by omega) (by omega) ?_
   .refine he.cell (aU.cell aQ λf=>f) ?_;rintro(e|e)
    .have:=a2.size;grind
    .exact h.mne e.symm
   .intro w' aC m' d c9 aN aG aD;refine fin w' aC m' ?_ aN aG aD;refine aU.any.trans d (λ_ _ f=>f) λi hi e=> ?_;omega
  .refine AM (λst w'=> ∃aC m',a<=st.1/\st.1<=c/\Ext (KD G.mb) aE w'/\w'.heap[G.mb]? =some (.map aC cl)/\MapI .u64 aC cl m'/\ ∀k,aget m' k=if a<=k/\k<st.1 then none else aget m k)
    (λst _=>(c-st.1).toNat) ⟨es,m,Int.le_refl _,by simp only;omega,Ext.refl _ _,aA,bT,λk=>by grind⟩ ?_
   rintro⟨x,u⟩ _ cU ⟨aC,m',cS,cT,d,aN,aG,aD⟩;simp only at cS cT aD⊢;refine AG (λcH=> ?_) (λcF=> ?_)
   .refine⟨some G.mb,d.cell aQ (λe=>h.mne e.symm),Pk aN aG λdN cB m2 cJ bU bG _ _ _ cE _=> ?_⟩;refine⟨⟨cB,m2,?_,?_,d.trans' cE,cJ,bU,λk=> ?_⟩,?_⟩
    .rw[AR];omega
    .rw[AR];omega
    .rw[AR,bG,aD]
     grind
    .rw[AR];omega
   .have:x=c:=by omega
    subst this;exact fin cU aC m' (d.mono λi _ e=>.inl e) aN aG aD
def MapG.own(G:MapG)(p:Int):Int:=match G.lv (p/512)with
 | some q=>q.2 (p %512)
 | none=>wholeL G.ws (p/512)
structure G4(E:Env)(b:Nat)(w:World)(G:MapG)(w':World)(G':MapG):Prop where
 rep:HQ E w' b G'
 ext:Ext (Jm b G) w w'
 VZ: ∀k,Jm b G' k->Jm b G k∨w.heap.size<=k
section
variable{E:Env}{w w' w1:World}{b:Nat}{G G' G1:MapG}
def G4.refl(h:HQ E w b G):G4 E b w G w G:=⟨h,Ext.refl _ _,λ_ h=>.inl h⟩
def G4.nothing(h:HQ E w b G)(he:Ext AN w w'):G4 E b w G w' G:=⟨h.E0 he,he.any,λ_ h=>.inl h⟩
def G4.trans(h:G4 E b w G w1 G1)(k:G4 E b w1 G1 w' G'):G4 E b w G w' G':=
 ⟨k.rep,h.ext.trans k.ext (λ_ _ s=>s) (λi hi s=>by rcases h.VZ i s with s|s;exact s;omega),λi hi=>by
  rcases k.VZ i hi with s|s
  .exact h.VZ i s
  .have:=h.ext.size;omega⟩
def G4.Vb(h:G4 E b w G w' G'){k:Nat}(a: ¬Jm b G k)(d:k<w.heap.size): ¬Jm b G' k:=λe=>by
 rcases h.VZ k e with s|s
 .exact a s
 .omega
end
def kK{E:Env}{w:World}{b:Nat}{G:MapG}(h:HQ E w b G){c:Int}(aW:0<=c)(hc:c<67108864){K:Option Addr->World->Prop}
  (hK: ∀w' G' q,G4 E b w G w' G'->G'.ks=G.ks->G'.lv c=some q->(∀p,G'.own p=G.own p)->K (some ⟨q.1,0,none⟩) w'):
  F.Ey E (some ⟨b,0,none⟩) c K w:=by
 unfold F.Ey T0.Ey;simp only[AK,add_eq,Nat.zero_add];obtain⟨es,cl,m,hm,a1,aU⟩:=h.map;refine⟨some G.mb,h.c3,MS hm a1 ?_⟩;rw[aU];cases hlv:G.lv c with
 | some q=>exact⟨some ⟨q.1,0,none⟩,rfl,AY (λe=>by cases e) (λ_=>hK w G q (G4.refl h) rfl hlv λ_=>rfl)⟩
 | none=>
  refine⟨none,rfl,AY (λ_=> ?_) (λe=>by cases e)⟩;refine Ub h.wide λw8 aL=> ?_;rw[AR];refine V7 (h.E0 aL) aW (by omega) (by omega) λY O h9 aN aV=> ?_;generalize hzs:Array.replicate 512 (Value.int .i64 0)=zs;have hz: ∀i:Nat,i<512->zs[i]? =some (.int .i64 0):=by grind
  clear hzs;refine A8 λa6 aH a3 aI=> ?_;have aS:=h9.E0 aI;have bL:w8.heap.size<=Y.heap.size:=aN.size;have bK:w.heap.size<=w8.heap.size:=aL.size;have T: ¬Jm b (G.cut c (c+1) O) Y.heap.size:=λe=>by have:=h9.O0 e;omega
  refine AM (λst w'=> ∃k:Nat,st.1=(k:Int)/\k<=512/\Ext (KD Y.heap.size) a6 w'/\ ∀i:Nat,i<512->w'.cell? ⟨Y.heap.size,i,none⟩=some (.int .i64 (if i<k then wholeL G.ws c else 0))/\w'.frozen? ⟨Y.heap.size,i,none⟩=false)
   (λst _=>(512-st.1).toNat) ⟨0,rfl,by decide,Ext.refl _ _,λi hi=>⟨by rw[AS aH,if_neg (by omega)];grind,by simp[World.frozen?,aH]⟩⟩ ?_
  rintro⟨i,u⟩ _ aG ⟨k,hk,d,aB,Cq⟩;simp only at hk⊢;subst hk;refine AG (λbJ=> ?_) (λbI=> ?_)
  .refine⟨⟨by omega,by omega⟩,?_⟩;have aE:k<512:=by omega
   simp only[Int.toNat_natCast,Nat.mul_one];refine LI (Cq k aE).1 (Cq k aE).2 rfl λbN aF=> ?_;refine⟨⟨k+1,by rw[AI];omega,by omega,aB.trans' aF.ext,λi hi=> ?_⟩,by rw[AI];omega⟩;rw[aF.frozen];refine⟨?_,(Cq i hi).2⟩;by_cases e:i=k
   .subst e;rw[aF.same,if_pos (by omega)]
   .rw[aF.other _ (by grind),(Cq i hi).1]
    grind
  .have aE:k=512:=by omega
   subst aE;have v:HQ E aG b (G.cut c (c+1) O):=aS.ext aB λk hk e=>by
    have:k=Y.heap.size:=e
    grind
   obtain⟨bH,bD,m',aY,aO,a9⟩:=v.map;refine⟨some G.mb,v.c3,T4 aY aO λaQ aR c2 m2 aZ aP bA _ _ _ J a4=> ?_⟩;have a0:(G.cut c (c+1) O).mb=G.mb:=rfl;have aM:Y.heap.size≠G.mb:=λe=>T (.inr (.inl (e.trans a0.symm)))
   let G2:MapG:={G.cut c (c+1) O with lv:=λk=>if k=c then some (Y.heap.size,λ_=>wholeL G.ws c)else(G.cut c (c+1) O).lv k}
   have aK: ¬KD G.mb b:=λe=>v.mne e.symm;have a2:HQ E aQ b G2:=by
    refine⟨v.set.ext J aK λa ha e=>v.ms ⟨a,ha,e.symm⟩,v.wide.ext J aK λa ha e=>v.mw ⟨a,ha,e.symm⟩,J.cell v.c3 aK,⟨aR,c2,m2,aZ,aP,λk=> ?_⟩,?_,?_,v.d1,?_⟩
    .grind
    .intro k q hk i hi;have d:(if k=c then some (Y.heap.size,λ_=>wholeL G.ws c)else(G.cut c (c+1) O).lv k)=some q:=hk;split at d
     .cases d;obtain⟨g1,g2⟩:=Cq i hi;rw[if_pos hi]at g1;refine⟨J.cell g1 λe=>aM e,?_⟩;rw[J.frozen (World.block_lt_of_cell? aG _ g1) λe=>aM e];exact g2
     .obtain⟨g1,g2⟩:=v.leaf k q d i hi;have hn: ¬KD G.mb q.1:=λe=>v.ml d e;exact⟨J.cell g1 hn,by rw[J.frozen (World.block_lt_of_cell? aG _ g1) hn];exact g2⟩
    .intro k k' q q' hk aX e;have d:(if k=c then some (Y.heap.size,λ_=>wholeL G.ws c)else(G.cut c (c+1) O).lv k)=some q:=hk;have aA:(if k'=c then some (Y.heap.size,λ_=>wholeL G.ws c)else(G.cut c (c+1) O).lv k')=some q':=aX;split at d
     .split at aA
      .omega
      .cases d;exact absurd (.inr (.inr (.inr (.inr ⟨k',q',aA,e⟩)))) T
     .split at aA
      .cases aA;exact absurd (.inr (.inr (.inr (.inr ⟨k,q,d,e.symm⟩)))) T
      .exact v.inj k k' q q' d aA e
    .intro k q hk;have d:(if k=c then some (Y.heap.size,λ_=>wholeL G.ws c)else(G.cut c (c+1) O).lv k)=some q:=hk;split at d
     .cases d;exact⟨λe=>T (.inl e),λe=>T (.inr (.inr (.inl e))),λe=>T (.inr (.inr (.inr (.inl e))))⟩
     .exact v.d2 k q d
   have aD: ∀k q,(G.cut c (c+1) O).lv k=some q->G.lv k=some q:=by
    intro k q hk;have d:(if c<=k/\k<c+1 then none else G.lv k)=some q:=hk
    grind
   refine hK aQ G2 (Y.heap.size,λ_=>wholeL G.ws c) ⟨a2,?_,?_⟩ rfl (if_pos rfl) ?_
   .have e1:Ext (Jm b G) w Y:=(aL.any).trans aN (λ_ _ f=>f) λi _ e=>by rcases e with e|e;exact .inl e;exact .inr (.inl e)
    have e2:Ext (KD Y.heap.size) Y aG:=(aI.any).trans' aB;have e3:=e2.trans J (U:=λk=>k=Y.heap.size∨k=G.mb) (λi _ e=>.inl e) (λi _ e=>.inr e);refine e1.trans e3 (λ_ _ f=>f) λi hi e=> ?_;rcases e with e|e
    .omega
    .exact .inr (.inl e)
   .rintro k (e|e|e|e|⟨k',q,e,rfl⟩)
    .exact .inl (.inl e)
    .exact .inl (.inr (.inl e))
    .exact .inl (.inr (.inr (.inl e)))
    .exact .inr (by have:=aV k e;omega)
    .have d:(if k'=c then some (Y.heap.size,λ_=>wholeL G.ws c)else(G.cut c (c+1) O).lv k')=some q:=e;split at d
     .grind
     .exact .inl (.inr (.inr (.inr (.inr ⟨k',q,aD _ _ d,rfl⟩))))
   .intro p;unfold MapG.own;show(match(if p/512=c then some (Y.heap.size,λ_=>wholeL G.ws c)else if c<=p/512/\p/512<c+1 then none else G.lv (p/512))with|some q=>q.2 (p %512)|none=>wholeL (wcut G.ws c (c+1)) (p/512))=_;by_cases e:p/512=c
    .grind
    .rw[if_neg e,if_neg (by omega)];rw[L7 (by omega),if_neg (by omega)]
def MapG.put(G:MapG)(c:Int)(q:Nat×(Int->Int))(i id:Int):MapG:={G with lv:=λk=>if k=c then some (q.1,λj=>if j=i then id else q.2 j)else G.lv k}
def pA{E:Env}{w w':World}{b:Nat}{G:MapG}(h:HQ E w b G){c id:Int}{i:Nat}{q:Nat×(Int->Int)}(K:G.lv c=some q)
  (u:Nm ⟨q.1,i,none⟩ (.int .i64 id) w w'):G4 E b w G w' (G.put c q i id):=by
 obtain⟨d1,d2,d3⟩:=h.d2 c q K;have hn: ¬KD q.1 b:=λe=>d1 e.symm;refine⟨⟨h.set.ext u.ext hn λa Y e=>d2 ⟨a,Y,e.symm⟩,h.wide.ext u.ext hn λa Y e=>d3 ⟨a,Y,e.symm⟩,u.ext.cell h.c3 hn,?_,?_,?_,h.d1,?_⟩,?_,?_⟩
 .obtain⟨es,cl,m,hm,aC,aA⟩:=h.map;refine⟨es,cl,m,u.ext.obj hm λe=>h.ml K e.symm,aC,λk=> ?_⟩;rw[aA];show _=Option.map _ (if k=c then _ else _)
  grind
 .intro k J T j hj;have d:(if k=c then some (q.1,λj=>if j=(i:Int)then id else q.2 j)else G.lv k)=some J:=T;split at d
  .cases d;obtain⟨g1,g2⟩:=h.leaf c q K j hj;rw[u.frozen];refine⟨?_,g2⟩;simp only;by_cases e:j=i
   .subst e;rw[if_pos rfl];exact u.same
   .rw[if_neg (by omega),u.other _ (by grind)];exact g1
  .rename_i hkc;obtain⟨g1,g2⟩:=h.leaf k J d j hj;have aE: ¬KD q.1 J.1:=λe=>hkc (h.inj k c J q d K e);exact⟨u.ext.cell g1 aE,by rw[u.frozen];exact g2⟩
 .intro k O q1 J T aB e;have d:(if k=c then some (q.1,λj=>if j=(i:Int)then id else q.2 j)else G.lv k)=some q1:=T;have v:(if O=c then some (q.1,λj=>if j=(i:Int)then id else q.2 j)else G.lv O)=some J:=aB;split at d
  .split at v
   .omega
   .rename_i e1 _;cases d;rw[e1];exact h.inj c O q J K v e
  .split at v
   .rename_i e1;cases v;rw[e1];exact h.inj k c q1 q d K e
   .exact h.inj k O q1 J d v e
 .intro k J T;have d:(if k=c then some (q.1,λj=>if j=(i:Int)then id else q.2 j)else G.lv k)=some J:=T;split at d
  .cases d;exact⟨d1,d2,d3⟩
  .exact h.d2 k J d
 .exact u.ext.mono λk _ e=>.inr (.inr (.inr (.inr ⟨c,q,K,e⟩)))
 .rintro k (e|e|e|e|⟨O,J,e,rfl⟩)
  .exact .inl (.inl e)
  .exact .inl (.inr (.inl e))
  .exact .inl (.inr (.inr (.inl e)))
  .exact .inl (.inr (.inr (.inr (.inl e))))
  .have d:(if O=c then some (q.1,λj=>if j=(i:Int)then id else q.2 j)else G.lv O)=some J:=e;split at d
   .cases d;exact .inl (.inr (.inr (.inr (.inr ⟨c,q,K,rfl⟩))))
   .exact .inl (.inr (.inr (.inr (.inr ⟨O,J,d,rfl⟩))))
def vD{G:MapG}{c id:Int}{i:Nat}{q:Nat×(Int->Int)}(a:G.lv c=some q)(p:Int):(G.put c q i id).own p=if p/512=c/\p %512=i then id else G.own p:=by
 unfold MapG.own MapG.put
 grind
def OI{E:Env}{w:World}{b bi bm:Nat}{G:MapG}(h:HQ E w b G){x y id:Int}(hx:0<=x)(hy:y<=34359738368)
  (hi:w.cell? ⟨bi,0,none⟩=some (.int .i64 id))(hm:w.cell? ⟨bm,0,none⟩=some (.pointer (some ⟨b,0,none⟩)))(T: ¬Jm b G bi)(aD: ¬Jm b G bm){K:World->Prop}
  (hK: ∀w' G',G4 E b w G w' G'->G'.ks=G.ks->(∀p,G'.own p=if x<=p/\p<y then id else G.own p)->K w'):
  F.Dj E x y (some ⟨bi,0,none⟩) (some ⟨bm,0,none⟩) K w:=by
 unfold F.Dj T0.Dj;simp only[AK,add_eq,Nat.zero_add,Nat.mul_one];refine AM (λst w'=> ∃G',x<=st.1/\(st.1<=y∨st.1=x)/\G4 E b w G w' G'/\G'.ks=G.ks/\ ∀p,G'.own p=if x<=p/\p<st.1 then id else G.own p)
  (λst _=>(y-st.1).toNat) ⟨G,Int.le_refl _,.inr rfl,G4.refl h,rfl,λp=>by omega⟩ ?_
 rintro⟨n,u⟩ _ w2 ⟨G2,aE,aF,J,m,d⟩;simp only at aE aF d⊢;refine AG (λaO=> ?_) (λaL=> ?_)
 .have hl:bi<w.heap.size:=World.block_lt_of_cell? w _ hi;have aN:bm<w.heap.size:=World.block_lt_of_cell? w _ hm;have hd:Ext AN w2 w2.drew:=Ext.drew _ _;have e:=J.trans (G4.nothing J.rep hd);refine⟨some ⟨b,0,none⟩,e.ext.cell hm aD,by decide,by decide,id,e.ext.cell hi T,?_⟩;have hdiv:Int.tdiv n 512=n/512:=Int.tdiv_eq_ediv_of_nonneg (by omega);have aA:Int.tmod n 512=n %512:=Int.tmod_eq_emod_of_nonneg (by omega);rw[hdiv,aA,AR];refine kK e.rep (by omega) (by omega) λw9 G9 q O Y a v=> ?_;have aB:=e.trans O;simp only[AK,add_eq,Nat.zero_add];refine⟨aB.ext.cell hi T,⟨by omega,by omega⟩,?_⟩;have hj:(n %512).toNat<512:=by omega
  have aC:(((n %512).toNat:Nat):Int)=n %512:=by omega
  obtain⟨g1,g2⟩:=O.rep.leaf _ q a _ hj;refine LI g1 g2 rfl λaP aH=> ?_;have aG:=pA O.rep a aH;rw[AR];refine⟨⟨_,by omega,by omega,aB.trans aG,Y.trans m,λp=> ?_⟩,by omega⟩;rw[vD a,v,d,aC];omega
 .refine hK w2 G2 J m λp=> ?_
  grind
structure EnvA(E:Env):Prop extends EnvS E where
 vE: ∀x y p1 p2 (R:Value->World->Prop) w,F.Dj E x y p1 p2 (λw'=>R (.tuple ⟨[]⟩) w') w->E.call E.GM #[.int .u64 x,.int .u64 y,.pointer p1,.pointer p2] w R EW
def pB{E:Env}{w:World}{K:Option Addr->World->Prop}
  (O: ∀w' b G,HQ E w' b G->Ext AN w w'->(∀k,Jm b G k->w.heap.size<=k)->G.ks=[]->(∀p,G.own p=0)->K (some ⟨b,0,none⟩) w'):F.Ma E K w:=by
 unfold F.Ma;refine A8 λw1 v aA J=>A8 λw2 d aB u=> ?_;have hm:=u.obj v λf=>f;refine O w2 w1.heap.size ⟨⟨none,0,0⟩,[],⟨none,0,0⟩,[],w.heap.size,λ_=>none⟩ ?_ (J.trans' u) ?_ rfl (λ_=>rfl)
 .have T: ∀k,¬Ki ⟨none,0,0⟩ k:=by rintro k ⟨a,m,_⟩;cases m
  refine⟨⟨⟨by rw[AS d];rfl,by simp[World.frozen?,d],I8.nil _ _ _ _,trivial,by simp,by grind⟩,by rw[AS d];rfl,by simp[World.frozen?,d]⟩,
   ⟨by rw[AS d];rfl,by simp[World.frozen?,d],I8.nil _ _ _ _,⟨by simp,List.Pairwise.nil⟩,by grind⟩,by rw[AS d];rfl,⟨_,_,_,hm,MapI.empty _,λ_=>rfl⟩,?_,?_,λk h=>absurd h (T k),?_⟩
  .grind
  .grind
  grind
 .rintro k (e|e|⟨a,m,_⟩|⟨a,m,_⟩|⟨c,q,Y,_⟩)
  .rw[e];omega
  .rw[e];grind
  .cases m
  .cases m
  .cases Y
section
variable{E:Env}{w:World}{b:Nat}{G:MapG}
def at_own(h:HQ E w b G){x:Int}(h0:0<=x)(Y:x<18446744073709551616){K:Int->World->Prop}(O: ∀w',Ext AN w w'->K (G.own (x/8192)) w'):
  F.FR E (some ⟨b,0,none⟩) x K w:=by
 unfold F.FR T0.FR;have u:Int.tdiv x 8192=x/8192:=Int.tdiv_eq_ediv_of_nonneg h0;have v:Int.tdiv (x/8192) 512=x/8192/512:=Int.tdiv_eq_ediv_of_nonneg (by omega);have J:Int.tmod (x/8192) 512=x/8192 %512:=Int.tmod_eq_emod_of_nonneg (by omega);rw[u,AR (n:=x/8192),v,AR (n:=x/8192/512),J];simp only[AK,add_eq,Nat.zero_add,Nat.mul_one];obtain⟨es,cl,m,hm,d,a⟩:=h.map;refine⟨by decide,some G.mb,h.c3,by decide,MS hm d ?_⟩;rw[a];cases hlv:G.lv (x/8192/512)with
 | some q=>
  refine⟨some ⟨q.1,0,none⟩,rfl,AY (λ_=> ?_) (λe=>by cases e)⟩;refine⟨by decide,⟨by omega,by omega⟩,q.2 (x/8192 %512),?_,?_⟩
  .have:=(h.leaf _ q hlv (x/8192 %512).toNat (by omega)).1;rw[show(((x/8192 %512).toNat:Nat):Int)=x/8192 %512 from by omega]at this;simp only[add_eq,Nat.zero_add];exact this
  .have:G.own (x/8192)=q.2 (x/8192 %512):=by unfold MapG.own;rw[hlv]
   rw[<-this];exact O w (Ext.refl _ _)
 | none=>
  refine⟨none,rfl,AY (λe=>by cases e) (λ_=>⟨by decide,Ub h.wide λw' T=> ?_⟩)⟩;have:G.own (x/8192)=wholeL G.ws (x/8192/512):=by unfold MapG.own;rw[hlv]
  grind
end
section
variable{E:Env}(hE:EnvA E){w:World}{b:Nat}{G:MapG}
include hE
def MapG.grow(G:MapG)(s:AW)(ks:Iv):MapG:={G with s:=s,ks:=ks}
end
section
variable{E:Env}(hE:EnvA E){w:World}{b:Nat}{G:MapG}
def kL{w w':World}(h:HQ E w b G){v:AW}{q:Int×Int×Int}(hq:0<=q.1/\q.1<q.2.1/\q.2.1<=67108864)(hd: ∀p∈G.ws,p.2.1<=q.1∨q.2.1<=p.1)
  (d:Ext (Ki G.sw) w w')(aA:I8 w' 0 E.BK 3 v (flat3 (G.ws++[q])))(hb:v.base=G.sw.base∨ ∃k,v.base=some ⟨k,0,none⟩/\w.heap.size<=k)
  {w2:World}(u:Nm ⟨b,2,none⟩ (.slice v.base v.len v.cap) w' w2):G4 E b w G w2 {G with sw:=v,ws:=G.ws++[q]}:=by
 have O: ∀k,Ki v k->Ki G.sw k∨w.heap.size<=k:=by
  rintro k ⟨a,T,rfl⟩;rcases hb with e|⟨k,e,J⟩
  .rw[e]at T;exact .inl ⟨a,T,rfl⟩
  grind
 have K: ¬Ki G.sw b:=by rintro⟨a,T,e⟩;exact h.wide.apart a T e.symm
 have Y: ¬Ki v b:=λe=>by
  rcases O b e with e|e
  .exact K e
  .have:=h.lt;omega
 have hu:N7 b (λj=>j=2) w' w2:=N7.Ie u rfl;have aD:Jj E w' b 0 G.s G.ks:=h.set.ext d K λa T e=>h.d1 a.block ⟨a,T,rfl⟩ e;refine⟨⟨aD.JT hu (by decide) (by decide),⟨u.same,?_,aA.ext u.ext λg hg e=>Y ⟨_,hg,e.symm⟩,?_,λa T e=>Y ⟨a,T,e.symm⟩⟩,?_,?_,?_,h.inj,?_,?_⟩,?_,?_⟩
 .rw[u.frozen,d.frozen (p:=⟨b,2,none⟩) h.lt K];exact h.wide.f2
 .refine Ua.2 ⟨h.wide.ok,⟨by grind,List.pairwise_singleton _ _⟩,λp hp r hr=> ?_⟩
  grind
 .rw[u.other _ (by grind)];exact d.cell h.c3 K
 .obtain⟨es,cl,m,h1,h2⟩:=h.map;exact⟨es,cl,m,u.ext.obj (d.obj h1 h.mw) h.mne,h2⟩
 .intro k q J i hi;obtain⟨g1,g2⟩:=h.leaf k q J i hi;have hn: ¬Ki G.sw q.1:=(h.d2 k q J).2.2;have aC: ¬KD b q.1:=(h.d2 k q J).1;exact⟨u.ext.cell (d.cell g1 hn) aC,by rw[u.frozen,d.frozen (World.block_lt_of_cell? w _ g1) hn];exact g2⟩
 .intro k J aB;rcases O k aB with e|e
  .exact h.d1 k J e
  .have:=(h.set.row.own.EU J).2;omega
 .intro k q J;obtain⟨g1,g2,g3⟩:=h.d2 k q J;refine⟨g1,g2,λe=> ?_⟩;rcases O _ e with e|e
  .exact g3 e
  .have:=World.block_lt_of_cell? w _ (h.leaf k q J 0 (by decide)).1
   grind
 .exact d.trans u.ext (λi _ e=>.inr (.inr (.inr (.inl e)))) (λi _ e=>.inl e)
 .rintro k (e|e|e|e|⟨c',q,e,e2⟩)
  .exact .inl (.inl e)
  .exact .inl (.inr (.inl e))
  .exact .inl (.inr (.inr (.inl e)))
  .rcases O k e with e|e
   .exact .inl (.inr (.inr (.inr (.inl e))))
   omega
  .exact .inl (.inr (.inr (.inr (.inr ⟨c',q,e,e2⟩))))
def pC{w w':World}(h:HQ E w b G){a c:Int}{m:AW}(J:HQ E w' b (G.cut a c m))(he:Ext (λk=>k=b∨k=G.mb) w w')(K: ∀k,Ki m k->w.heap.size<=k):
  G4 E b w G w' (G.cut a c m):=by
 refine⟨J,he.mono λi _ e=>by rcases e with e|e;exact .inl e;exact .inr (.inl e),?_⟩;rintro k (e|e|e|e|⟨u,q,e,v⟩)
 .exact .inl (.inl e)
 .exact .inl (.inr (.inl e))
 .exact .inl (.inr (.inr (.inl e)))
 .exact .inr (K k e)
 .have d:(if a<=u/\u<c then none else G.lv u)=some q:=e;split at d
  .cases d
  .exact .inl (.inr (.inr (.inr (.inr ⟨u,q,d,v⟩))))
def vF{a c:Int}(d:a<c)(m:AW)(p:Int):(G.cut a c m).own p=if a<=p/512/\p/512<c then 0 else G.own p:=by
 unfold MapG.own;show(match(if a<=p/512/\p/512<c then none else G.lv (p/512))with|some q=>q.2 (p %512)|none=>wholeL (wcut G.ws a c) (p/512))=_;by_cases e:a<=p/512/\p/512<c
 .rw[if_pos e,if_pos e];show wholeL (wcut G.ws a c) (p/512)=0;rw[L7 d,if_pos e]
 .rw[if_neg e,if_neg e];cases G.lv (p/512)with
  | some q=>rfl
  | none=>
   show wholeL (wcut G.ws a c) (p/512)=_;rw[L7 d,if_neg e]
include hE
theorem kM(h:HQ E w b G){x n id:Int}(a5:0<=x)(hx:x<18446744073709551616)(cL:0<=n)(hn:n<18446744073709551616){K:Int->World->Prop}
  (bZ:(n=0∨id<0)-> ∀w',Ext AN w w'->K 1 w')
  (bH: ¬(n=0∨id<0)->(34359738368<=x∨34359738368-x<n∨ ∃c,x/512<=c/\c<(x+n+511)/512/\ ¬mem G.ks c)-> ∀w',Ext AN w w'->K 10 w')
  (bI: ¬(n=0∨id<0)->x<34359738368->n<=34359738368-x->(∀c,x/512<=c->c<(x+n+511)/512->mem G.ks c)-> ∀w' G',G4 E b w G w' G'->G'.ks=G.ks->
   (∀p,G'.own p=if x<=p/\p<x+n then id else G.own p)->K 0 w'):
  F.DZ E (some ⟨b,0,none⟩) x n id K w:=by
 unfold F.DZ T0.DZ;refine A8 λw2 bS cC bW=>A8 λw4 bT cD bF=> ?_;have aS:Ext AN w w4:=bW.trans' bF;have a8:=bF.obj bS λf=>f;have cm: ∀w',Ext AN w4 w'->w'.cell? ⟨w.heap.size,0,none⟩=some (.pointer (some ⟨b,0,none⟩)):=λw' he=>he.cell (by rw[AS a8];rfl) λf=>f;have ci: ∀w',Ext AN w4 w'->w'.cell? ⟨w2.heap.size,0,none⟩=some (.int .i64 id):=λw' he=>he.cell (by rw[AS bT];rfl) λf=>f;refine AV (λst w'=>w'=w4/\(st.1=true↔n=0∨id<0)) ?_ ?_
 .refine AY (λe=>⟨rfl,?_⟩) (λe=>⟨id,ci w4 (Ext.refl _ _),rfl,?_⟩)
  .grind
  grind
 rintro⟨bt,u⟩ _ w7 ⟨rfl,bB⟩;simp only at bB⊢;refine AY (λe=>bZ (bB.1 e) _ aS) (λe=> ?_);have aR: ¬(n=0∨id<0):=λh=>by grind
 refine AV (λst w'=>w'=w7/\(st.1=true↔34359738368<=x∨34359738368-x<n)) ?_ ?_
 .refine AG (λe=>⟨rfl,?_⟩) (λe=>⟨rfl,?_⟩)
  .grind
  .rw[AR]
   grind
 rintro⟨cF,u⟩ _ cO ⟨rfl,bC⟩;simp only at bC⊢;refine AY (λe=>bH aR (by grind) _ aS) (λe=> ?_);have cA: ¬(34359738368<=x∨34359738368-x<n):=λh=>by grind
 have bO:x<34359738368:=by omega
 have bM:n<=34359738368-x:=by omega
 have cM:1<=n:=by omega
 refine⟨by decide,by decide,Ac λlast aZ=>⟨some ⟨b,0,none⟩,cm _ (Ext.refl _ _),?_⟩⟩;have cK:last=(x+n+511)/512:=by
  rw[aZ,AR (n:=x+n),AR (n:=x+n+512),AR (n:=x+n+512-1)];rw[Int.tdiv_eq_ediv_of_nonneg (by omega),AR];omega
 have bX:u64 (Int.tdiv x 512)=x/512:=by rw[Int.tdiv_eq_ediv_of_nonneg a5,AR]
 simp only[AK];rw[bX];have h4:=h.E0 aS;have bG:x/512<=last:=by omega
 refine JI hE.toEnvS h4.set.row (by omega) bG (by omega) λaF J=> ?_;have bU:=Ja h.set.row.ok bG;rw[AR];have aJ:Ext AN w aF:=aS.trans' J;refine AY (λe=>bH aR (.inr (.inr ?_)) _ aJ) (λe=> ?_)
 .grind
 have a7:=bU.1 (by grind);refine⟨by decide,by decide,Ac λfr bY=>Ac λto b5=> ?_⟩;have b8:fr=(x+511)/512:=by
  rw[bY,AR (n:=x+512),AR (n:=x+512-1),Int.tdiv_eq_ediv_of_nonneg (by omega),AR];omega
 have cE:to=(x+n)/512:=by
  rw[b5,AR (n:=x+n),Int.tdiv_eq_ediv_of_nonneg (by omega),AR]
 have VL:=h.E0 aJ;have a0: ¬Jm b G w.heap.size:=λe=>by have:=h.O0 e;omega
 have aX: ¬Jm b G w2.heap.size:=λe=>by have:=h.O0 e;omega
 have aY:w.heap.size<aF.heap.size:=by have:=J.size;omega
 have bK:w2.heap.size<aF.heap.size:=by have:=J.size;omega
 refine AV (λ_ w'=> ∃G',G4 E b aF G w' G'/\G'.ks=G.ks/\ ∀p,G'.own p=if fr<=p/512/\p/512<to then id else G.own p) ?_ ?_
 .refine AG (λaB=> ?_) (λcI=>⟨G,G4.refl VL,rfl,λp=>by omega⟩);refine⟨some ⟨b,0,none⟩,cm _ J,V7 VL (by omega) aB (by omega) λaN aM aO bD aT=> ?_⟩;have aE:=pC VL aO bD aT;have aD: ∀w',Ext AN aN w'->w'.cell? ⟨w2.heap.size,0,none⟩=some (.int .i64 id):=λw' he=>he.cell (aE.ext.cell (ci _ J) aX) λf=>f;have O: ∀w',Ext AN aN w'->w'.cell? ⟨w.heap.size,0,none⟩=some (.pointer (some ⟨b,0,none⟩)):=λw' he=>he.cell (aE.ext.cell (cm _ J) a0) λf=>f;refine⟨id,aD _ (Ext.refl _ _),AG (λcB=> ?_) (λhz=>⟨_,aE,rfl,λp=> ?_⟩)⟩
  .have hd:Ext AN aN aN.drew:=Ext.drew _ _;have bV:=aO.E0 hd;refine⟨some ⟨b,0,none⟩,O _ hd,some ⟨b,0,none⟩,O _ hd,?_⟩;simp only[AK,add_eq,Nat.zero_add];refine⟨aM,bV.wide.c2,id,aD _ hd,A8 λb6 a9 b4 bE=> ?_⟩;have v:Ext AN aN b6:=hd.trans' bE;have aA:=aO.E0 v;refine⟨aD _ v,aA.wide.c2,O _ v,O _ v,?_⟩;refine Q3 (q:=(fr,to,id)) (m:=wcut G.ws fr to) aA.wide.own a9 (Nat.zero_le _) (by have:=ZB h.wide.ok aB;omega) λW8 cP bN T bA=> ?_;have aW: ∀k,k<aF.heap.size-> ¬Ki (G.cut fr to aM).sw k:=λk hk e=>by have:=aT k e;omega
   have bL: ¬Ki (G.cut fr to aM).sw b:=by rintro⟨a,ha,e⟩;exact aA.wide.apart a ha e.symm
   refine⟨T.cell (aD _ v) (aW _ bK),T.cell (O _ v) (aW _ aY),T.cell (O _ v) (aW _ aY),?_⟩;refine LI (T.cell aA.wide.c2 bL) (by rw[T.frozen (p:=⟨b,2,none⟩) aA.lt bL];exact aA.wide.f2) rfl λcQ b3=> ?_;have a4:=kL aA (q:=(fr,to,id)) ⟨by omega,aB,by grind⟩ (λp hp=>by
    obtain⟨p',b2,g1,g2,g3,g4⟩:=L8 h.wide.ok aB hp;exact g4) T bN bA b3
   refine⟨_,(aE.trans (G4.nothing aO v)).trans a4,rfl,λp=> ?_⟩;unfold MapG.own;show(match(if fr<=p/512/\p/512<to then none else G.lv (p/512))with|some q=>q.2 (p %512)|none=>wholeL (wcut G.ws fr to++[(fr,to,id)]) (p/512))=_;by_cases hin:fr<=p/512/\p/512<to
   .rw[if_pos hin,if_pos hin];show wholeL (wcut G.ws fr to++[(fr,to,id)]) (p/512)=id;rw[Pw,wholeL,if_pos hin];rintro⟨p1,a2,g1,g2⟩;obtain⟨p',b2,_,_,_,g4⟩:=L8 h.wide.ok aB a2;omega
   .rw[if_neg hin,if_neg hin];cases G.lv (p/512)with
    | some q=>rfl
    | none=>
     show wholeL (wcut G.ws fr to++[(fr,to,id)]) (p/512)=wholeL G.ws (p/512);rw[<-show wholeL (wcut G.ws fr to) (p/512)=wholeL G.ws (p/512)from by rw[L7 aB,if_neg hin]];by_cases hex: ∃p1∈wcut G.ws fr to,p1.1<=p/512/\p/512<p1.2.1
     .rw[V6 hex]
     .rw[Pw hex,wholeL,if_neg hin,Yx λp1 a2 h2=>hex ⟨p1,a2,h2⟩];rfl
  .rw[vF aB];omega
 rintro _ _ bP ⟨G1,d,aU,aL⟩;have aG:bP.cell? ⟨w2.heap.size,0,none⟩=some (.int .i64 id):=d.ext.cell (ci _ J) aX;have aH:bP.cell? ⟨w.heap.size,0,none⟩=some (.pointer (some ⟨b,0,none⟩)):=d.ext.cell (cm _ J) a0;have aQ: ¬Jm b G1 w.heap.size:=d.Vb a0 aY;have aP: ¬Jm b G1 w2.heap.size:=d.Vb aX bK;have aI: ∀c,x/512<=c->c<(x+n+511)/512->mem G.ks c:=λc h1 h2=>a7 c h1 (by omega);have aV:G4 E b w G aF G:=G4.nothing h aJ;refine AG (λcJ=> ?_) (λhle=> ?_)
 .refine hE.vE _ _ _ _ _ _ ?_;rw[AR];refine OI d.rep a5 (by omega) aG aH aP aQ λw' G' a3 aK aC=>⟨rfl,?_⟩;refine bI aR bO bM aI w' G' ((aV.trans d).trans a3) (aK.trans aU) λp=> ?_;rw[aC,aL];omega
 .refine hE.vE _ _ _ _ _ _ ?_;rw[AR];refine OI d.rep a5 (by omega) aG aH aP aQ λcR G2 Y bJ a1=>⟨rfl,?_⟩;refine hE.vE _ _ _ _ _ _ ?_;rw[AR (n:=to*512),AR (n:=x+n)];have b9:=d.ext.size;refine OI Y.rep (by omega) (by omega) (Y.ext.cell aG aP) (Y.ext.cell aH aQ) (Y.Vb aP (by omega)) (Y.Vb aQ (by omega)) λw' G' a3 aK aC=>⟨rfl,?_⟩;refine bI aR bO bM aI w' G' (((aV.trans d).trans Y).trans a3) (aK.trans (bJ.trans aU)) λp=> ?_;rw[aC,a1,aL];omega
end
def Bq(E:Env)(b:Nat)(ks:Iv)(own:Int->Int):Pr where
 holds D w:= ∃G,HQ E w b G/\G.ks=ks/\(∀p,G.own p=own p)/\ ∀k,D k↔Jm b G k
 loc h he hS:=let⟨G,h1,h2,h3,h4⟩:=h;⟨G,h1.ext he λk a=>hS k ((h4 k).2 a),h2,h3,h4⟩
 lt h a:=let⟨G,h1,_,_,h4⟩:=h;h1.O0 ((h4 _).1 a)
section
variable{E:Env}{b:Nat}{ks:Iv}{own:Int->Int}{Z:List Pr}{w:World}
def Sat.gO(H:Sat (Bq E b ks own::Z) w):
  ∃G,HQ E w b G/\G.ks=ks/\(∀p,G.own p=own p)/\ ∀w' G' d a,G4 E b w G w' G'->G'.ks=d->(∀p,G'.own p=a p)->Sat (Bq E b d a::Z) w':=by
 obtain⟨D,⟨G,h1,v,J,e⟩,O⟩:=H.step;refine⟨G,h1,v,J,λw' G' d a st m u=>O w' (Jm b G') _ (st.ext.mono λi _ hi=>(e i).2 hi) ⟨G',st.rep,m,u,λ_=>Iff.rfl⟩ λk K=> ?_⟩;rcases st.VZ k K with h|h
 .exact .inl ((e k).2 h)
 .exact .inr h
def Sat.vG(H:Sat (Bq E b ks own::Z) w):Ok ks:=by
 obtain⟨G,h1,rfl,_⟩:=H.gO;exact h1.set.row.ok
def pD(H:Sat Z w){K:Option Addr->World->Prop}(e: ∀w' b,Sat (Bq E b [] (λ_=>0)::Z) w'->K (some ⟨b,0,none⟩) w'):F.Ma E K w:=
 pB λw' b G m he u d a=>e w' b (H.new (P:=Bq E b [] λ_=>0) (D:=Jm b G) he ⟨G,m,d,a,λ_=>Iff.rfl⟩ u)
def vH(H:Sat (Bq E b ks own::Z) w){x:Int}(h0:0<=x)(e:x<18446744073709551616){K:Int->World->Prop}(d: ∀w',Sat (Bq E b ks own::Z) w'->K (own (x/8192)) w'):
  F.FR E (some ⟨b,0,none⟩) x K w:=by
 obtain⟨G,h1,m,a,_⟩:=H.gO;refine at_own h1 h0 e λw' he=> ?_;rw[a];exact d w' (H.nothing he)
def kN{w':World}{G:MapG}(d:HQ E w b G){s5:AW}{T:Iv}(K:Jj E w' b 0 s5 T)(u:N7 b (X5 0) w w')(aA:UK w G.s s5):G4 E b w G w' (G.grow s5 T):=by
 have J: ∀k,Ki s5 k->Ki G.s k∨w.heap.size<=k:=by
  rintro k ⟨a,ha,rfl⟩;rcases aA with e|e
  .rw[e]at ha;exact .inl ⟨a,ha,rfl⟩
  grind
 refine⟨?_,?_,?_⟩
 .have Y: ¬X5 0 2:=by unfold X5;omega
  have aB: ¬X5 0 3:=by unfold X5;omega
  have aD:=d.lt;refine⟨K,⟨by rw[u.GW 2 Y];exact d.wide.c2,by rw[u.sL];exact d.wide.f2,d.wide.own.ext u.ext λg hg e=>d.wide.apart _ hg e,d.wide.ok,d.wide.apart⟩,by rw[u.GW 3 aB];exact d.c3,?_,?_,d.inj,?_,?_⟩
  .obtain⟨es,cl,m,h1,h2⟩:=d.map;exact⟨es,cl,m,u.ext.obj h1 d.mne,h2⟩
  .intro k q v i hi;obtain⟨g1,g2⟩:=d.leaf k q v i hi;have Y: ¬KD b q.1:=(d.d2 k q v).1;exact⟨u.ext.cell g1 Y,by rw[u.ext.frozen (World.block_lt_of_cell? w _ g1) Y];exact g2⟩
  .intro k v O;rcases J k v with e|e
   .exact d.d1 k e O
   .have:=(d.wide.own.EU O).2;omega
  .intro k q v;obtain⟨g1,g2,g3⟩:=d.d2 k q v;refine⟨g1,λe=> ?_,g3⟩;rcases J _ e with e|e
   .exact g2 e
   .have:=World.block_lt_of_cell? w _ (d.leaf k q v 0 (by decide)).1
    grind
 .exact u.ext.mono λi _ e=>.inl e
 .rintro k (e|e|e|e|⟨c',q,e,e2⟩)
  .exact .inl (.inl e)
  .exact .inl (.inr (.inl e))
  .rcases J k e with e|e
   .exact .inl (.inr (.inr (.inl e)))
   omega
  .exact .inl (.inr (.inr (.inr (.inl e))))
  .exact .inl (.inr (.inr (.inr (.inr ⟨c',q,e,e2⟩))))
end
section
variable{E:Env}{b:Nat}{ks:Iv}{own:Int->Int}{Z:List Pr}{w:World}(hE:EnvA E)
include hE
theorem ZC(H:Sat (Bq E b ks own::Z) w){x n id:Int}(u:0<=x)(hx:x<18446744073709551616)(d:0<=n)(hn:n<18446744073709551616){K:Int->World->Prop}
  (a:n≠0/\0<=id/\x+n<=34359738368/\ ∀p,x<=p->p<x+n->mem ks (p/512))(Y: ∀w',Sat (Bq E b ks (λp=>if x<=p/\p<x+n then id else own p)::Z) w'->K 0 w'):
  F.DZ E (some ⟨b,0,none⟩) x n id K w:=by
 obtain⟨G,h1,v,T,m⟩:=H.gO;obtain⟨g1,g2,g3,g4⟩:=a;have e: ¬(n=0∨id<0):=by omega
 refine kM hE h1 u hx d hn (λh=>absurd h e) (λ_ h=> ?_) λ_ _ _ _ w' G' st J O=>Y w' (m w' G' ks _ st (J.trans v) λp=>by rw[O,T]);exfalso;rcases h with h|h|⟨c,c1,c2,c3⟩
 .omega
 .omega
 .refine c3 ?_;rw[v];have:=g4 (max x (c*512)) (by omega) (by omega)
  grind
theorem kO(H:Sat (Bq E b ks own::Z) w){a c:Int}(T:0<=a)(e:a<c)(hc:c<=67108864){K:World->Prop}(O: ∀w',Sat (Bq E b (ES ks a c) own::Z) w'->K w'):
  F.Ev E (some ⟨b,0,none⟩) a c K w:=by
 obtain⟨G,h1,v,J,m⟩:=H.gO;unfold F.Ev T0.Ev;simp only[AK];have u:O9=4398046511104:=rfl;refine LX hE.toEnvS h1.set T e (by omega) λw' s' d hu Y=>O w' (m w' (G.grow s' (ES G.ks a c)) _ own (kN h1 d hu Y) (by rw[v];rfl) λp=>J p)
end
end Go.Sh

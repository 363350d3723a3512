/- The map of arenas does what its chunks and owners say. No further condition. -/
import Derived.Test.YtjibkpcalinfhaaGreatDoorS
import Derived.Test.YtjibkpcalinfhaaGreatDoorM
import Derived.Test.YtjibkpcalinfhaaGreatDoorA
set_option linter.all false
set_option maxRecDepth 50000
set_option maxHeartbeats 1000000
namespace Go.Sh
abbrev Wd:=List (Int×Int×Int)
def flat3:Wd->List Value
 | []=>[]
 | p::r=>.int .u64 p.1:: .int .u64 p.2.1:: .int .i64 p.2.2::flat3 r
def MO: ∀l:Wd,(flat3 l).length=l.length*3
 | []=>rfl
 | p::r=>by simp[flat3,MO r];omega
def Pk: ∀l m:Wd,flat3 (l++m)=flat3 l++flat3 m
 | [],_=>rfl
 | p::r,m=>by simp[flat3,Pk r m]
def U8: ∀(l:Wd) (i:Nat) (p:Int×Int×Int),l[i]? =some p->
  (flat3 l)[i*3]? =some (.int .u64 p.1)/\(flat3 l)[i*3+1]? =some (.int .u64 p.2.1)/\(flat3 l)[i*3+2]? =some (.int .i64 p.2.2)
 | [],i,p,h=>by simp at h
 | q::r,0,p,h=>by simp at h;subst h;simp[flat3]
 | q::r,i+1,p,h=>by
  have:=U8 r i p (by grind);rw[show(i+1)*3=i*3+1+1+1 from by omega];simpa[flat3]using this
def wholeL:Wd->Int->Int
 | [],_=>0
 | p::r,c=>if p.1<=c/\c<p.2.1 then p.2.2 else wholeL r c
def KG(p:Int×Int×Int)(a b:Int):Wd:=
 if p.2.1<=a∨b<=p.1 then [p]else(if p.1<a then [(p.1,a,p.2.2)]else [])++(if b<p.2.1 then [(b,p.2.1,p.2.2)]else [])
def wcut:Wd->Int->Int->Wd
 | [],_,_=>[]
 | p::r,a,b=>KG p a b++wcut r a b
def U9{l m:Wd}{c:Int}(h: ∃p∈l,p.1<=c/\c<p.2.1):wholeL (l++m) c=wholeL l c:=by
 induction l with
 | nil=>grind
 | cons p r ih=>
  simp only[List.cons_append,wholeL]
  grind
def Om{l m:Wd}{c:Int}(h: ¬ ∃p∈l,p.1<=c/\c<p.2.1):wholeL (l++m) c=wholeL m c:=by
 induction l with
 | nil=>rfl
 | cons p r ih=>
  simp only[List.cons_append,wholeL]
  grind
def Xk{l:Wd}{c:Int}(h: ∀p∈l,¬(p.1<=c/\c<p.2.1)):wholeL l c=0:=by
 induction l with
 | nil=>rfl
 | cons p r ih=>rw[wholeL,if_neg (h p (by simp)),ih λq d=>h q (by simp[d])]
def Pl{p:Int×Int×Int}{a b c:Int}(d:a<b):
  (∃q∈KG p a b,q.1<=c/\c<q.2.1)↔(p.1<=c/\c<p.2.1)/\ ¬(a<=c/\c<b):=by
 unfold KG;split
 .grind
 .rename_i h;simp only[List.mem_append];constructor
  .grind
  .rintro⟨⟨h1,h2⟩,j⟩;by_cases h4:c<a
   .exact⟨(p.1,a,p.2.2),.inl (by grind),h1,h4⟩
   .exact⟨(b,p.2.1,p.2.2),.inr (by grind),by simp only;omega,h2⟩
def Rv{p:Int×Int×Int}{a b c:Int}(h: ∃q∈KG p a b,q.1<=c/\c<q.2.1):wholeL (KG p a b) c=p.2.2:=by
 have Mf: ∀q∈KG p a b,q.2.2=p.2.2:=by
  intro q d;unfold KG at d
  grind
 have key: ∀l:Wd,(∀q∈l,q.2.2=p.2.2)->(∃q∈l,q.1<=c/\c<q.2.1)->wholeL l c=p.2.2:=by
  intro l
  induction l with
  | nil=>grind
  | cons q r ih=>
   intro h1 h2;rw[wholeL]
   grind
 grind
def LN{l:Wd}{a b:Int}(d:a<b)(c:Int):wholeL (wcut l a b) c=if a<=c/\c<b then 0 else wholeL l c:=by
 induction l with
 | nil=>simp[wcut,wholeL]
 | cons p r ih=>
  rw[wcut];by_cases h1:(p.1<=c/\c<p.2.1)/\ ¬(a<=c/\c<b)
  .have h2:=(Pl d).2 h1;rw[U9 h2,if_neg h1.2,wholeL,if_pos h1.1];exact Rv h2
  .rw[Om λh2=>h1 ((Pl d).1 h2),ih];split
   .rfl
   .rename_i h2;rw[wholeL,if_neg λj=>h1 ⟨j,h2⟩]
def dB(l:Wd):Prop:=(∀p∈l,0<=p.1/\p.1<p.2.1/\p.2.1<=67108864)/\l.Pairwise λp q=>p.2.1<=q.1∨q.2.1<=p.1
def Pm{p q:Int×Int×Int}{a b:Int}(hp:p.1<p.2.1)(d:a<b)(h:q∈KG p a b):p.1<=q.1/\q.1<q.2.1/\q.2.1<=p.2.1/\(q.2.1<=a∨b<=q.1):=by
 unfold KG at h
 grind
def LO{l:Wd}{q:Int×Int×Int}{a b:Int}(j:dB l)(d:a<b)(h:q∈wcut l a b): ∃p∈l,p.1<=q.1/\q.1<q.2.1/\q.2.1<=p.2.1/\(q.2.1<=a∨b<=q.1):=by
 induction l with
 | nil=>cases h
 | cons p r ih=>
  rcases List.mem_append.1 h with h|h
  .exact⟨p,by simp,Pm (j.1 p (by simp)).2.1 d h⟩
  .obtain⟨J,v,C⟩:=ih ⟨λx y=>j.1 x (by simp[y]),(List.pairwise_cons.1 j.2).2⟩ h
   grind
def Xl{l:Wd}{a b:Int}(h:dB l)(d:a<b):dB (wcut l a b):=by
 refine⟨λq v=> ?_,?_⟩
 .obtain⟨p,hp,h1⟩:=LO h d v;have:=h.1 p hp;omega
 .induction l with
  | nil=>exact List.Pairwise.nil
  | cons p r ih=>
   have C:dB r:=⟨λx J=>h.1 x (by simp[J]),(List.pairwise_cons.1 h.2).2⟩;rw[wcut,List.pairwise_append];refine⟨?_,ih C,λq v O y=> ?_⟩
   .unfold KG;split
    .simp
    .split<;>split<;>simp;omega
   .have h1:=Pm (h.1 p (by simp)).2.1 d v;obtain⟨K,j,h2⟩:=LO C d y;have:=(List.pairwise_cons.1 h.2).1 K j;omega
def Xm: ∀(n:Nat) (l:List Int),l.Nodup->(∀x∈l,0<=x/\x<n)->l.length<=n
 | 0,[],_,_=>Nat.le_refl _
 | 0,x::r,_,h=>by have:=h x (by simp);omega
 | n+1,l,hn,h=>by
  have h1:(l.erase (n:Int)).length<=n:=Xm n _ (hn.erase _) λx d=>by grind
  grind
def dB.len{l:Wd}(h:dB l):l.length<=67108864:=by
 have h1:=Xm 67108864 (l.map (·.1)) ?_ ?_
 .grind
 .have h2:=h.1;have v:=h.2;clear h
  induction l with
  | nil=>simp
  | cons p r ih=>
   rw[List.map_cons,List.nodup_cons];refine⟨λhm=> ?_,ih (λx j=>h2 x (by simp[j])) (List.pairwise_cons.1 v).2⟩;obtain⟨q,d,he⟩:=List.mem_map.1 hm;have y:=(List.pairwise_cons.1 v).1 q d
   grind
 .intro x j;obtain⟨q,d,rfl⟩:=List.mem_map.1 j;have:=h.1 q d;omega
def TY{l m:Wd}:dB (l++m)↔dB l/\dB m/\ ∀p∈l,∀q∈m,p.2.1<=q.1∨q.2.1<=p.1:=by
 simp only[dB,List.pairwise_append,List.mem_append]
 grind
def Xn(l m:Wd)(a b:Int):wcut (l++m) a b=wcut l a b++wcut m a b:=by
 induction l with
 | nil=>rfl
 | cons p r ih=>simp[wcut,ih]
structure WideAt(E:Env)(w:World)(b:Nat)(s:AX)(ws:Wd):Prop where
 c2:w.cell? ⟨b,2,none⟩=some (.slice s.base s.len s.cap)
 f2:w.frozen? ⟨b,2,none⟩=false
 own:Ie w 0 E.BY 3 s (flat3 ws)
 ok:dB ws
 apart: ∀a,s.base=some a->a.block≠b
def WideAt.len{E:Env}{w:World}{b:Nat}{s:AX}{ws:Wd}(h:WideAt E w b s ws):s.len=ws.length:=by
 have:=h.own.len;rw[MO]at this;omega
def WideAt.lt{E:Env}{w:World}{b:Nat}{s:AX}{ws:Wd}(h:WideAt E w b s ws):b<w.heap.size:=World.block_lt_of_cell? w _ h.c2
def WideAt.ext{E:Env}{w w':World}{b:Nat}{s:AX}{ws:Wd}{S:Nat->Prop}(h:WideAt E w b s ws)(he:Ext S w w')(hp: ¬S b)(hs: ∀a,s.base=some a-> ¬S a.block):WideAt E w' b s ws:=
 ⟨he.cell h.c2 hp,by rw[he.frozen (p:=⟨b,2,none⟩) h.lt hp];exact h.f2,h.own.ext he λg d=>hs _ d,h.ok,h.apart⟩
def WideAt.cells{E:Env}{w:World}{b:Nat}{s:AX}{ws:Wd}(h:WideAt E w b s ws){i:Nat}{q:Int×Int×Int}(j:ws[i]? =some q):
  ∃r,s.base=some ⟨r,0,none⟩/\w.cell? ⟨r,i*3,none⟩=some (.int .u64 q.1)/\w.cell? ⟨r,i*3+1,none⟩=some (.int .u64 q.2.1)/\w.cell? ⟨r,i*3+2,none⟩=some (.int .i64 q.2.2):=by
 have d:=h.own.rowAt;obtain⟨g1,g2,g3⟩:=U8 ws i q j;rcases h.own.row with ⟨h1,h2⟩|⟨b,cs,h1,_⟩
 .rw[h1]at d;have:flat3 ws=[]:=d
  grind
 .rw[h1]at d;refine⟨b,h1,?_,?_,?_⟩
  .have:=d.2 _ _ g1;rwa[add_eq,Nat.zero_add]at this
  .have:=d.2 _ _ g2;rwa[add_eq,Nat.zero_add]at this
  .have:=d.2 _ _ g3;rwa[add_eq,Nat.zero_add]at this
def TZ{E:Env}{w:World}{b:Nat}{s:AX}{ws:Wd}(h:WideAt E w b s ws){c:Int}{K:Int->World->Prop}(hK: ∀w',Ext AQ w w'->K (wholeL ws c) w'):
  F.G7 E (some ⟨b,0,none⟩) c K w:=by
 unfold F.G7;simp only[AG,add_eq,Nat.zero_add];have hlen:=h.len;have hsm:=h.ok.len;refine⟨s,h.c2,AI (λst w'=> ∃k:Nat,st.1=(k:Int)/\k<=ws.length/\wholeL ws c=wholeL (ws.drop k) c/\Ext AQ w w') (λst _=>(ws.length-st.1).toNat) ⟨0,rfl,Nat.zero_le _,rfl,Ext.refl _ _⟩ ?_⟩;rintro⟨i,u⟩ _ w4 ⟨k,hk,aK,j,y⟩;simp only at hk⊢;subst hk;have h4:=h.ext y (λf=>f) λ_ _ f=>f;refine AB (λaM=> ?_) (λaJ=> ?_)
 .have hl:k<ws.length:=by omega
  have hg:=List.getElem?_eq_getElem hl;obtain⟨r,hr,aB,aC,aD⟩:=h4.cells hg;rw[hr];simp only[AG,add_eq,Nat.zero_add,Int.toNat_natCast,Nat.add_zero];refine⟨⟨by omega,by omega⟩,_,aB,_,aC,_,aD,BV λaQ C aE O=> ?_⟩;refine JH _ _ _ _ _ _ _ C (by simp) (by intro v hv;simp at hv;rcases hv with rfl|rfl|rfl<;>rfl) λaA T aF d=> ?_;simp at d;have Y:Ext AQ w aA:=(y.trans' O).trans T (λ_ _ f=>f) λi hi e=>by have:i=w4.heap.size:=e;have:=y.size;omega
  refine AV (λst w'=>w'=aA/\(st.1=true↔ws[k].1<=c/\c<ws[k].2.1)) ?_ ?_
  .refine⟨ws[k].1,by rw[AW d];rfl,AB (λh1=> ?_) (λh1=> ?_)⟩
   .refine⟨ws[k].2.1,by rw[AW d];rfl,rfl,?_⟩
    grind
   .refine⟨rfl,?_⟩
    grind
  .rintro⟨bt,u⟩ _ aR ⟨rfl,J⟩;simp only at J⊢;have hd:=Sx hg;refine AS (λht=> ?_) (λhf=> ?_)
   .refine⟨ws[k].2.2,by rw[AW d];rfl,?_⟩;have:wholeL ws c=ws[k].2.2:=by rw[j,hd,wholeL,if_pos (J.1 ht)]
    grind
   .have hn: ¬(ws[k].1<=c/\c<ws[k].2.1):=λh=>by grind
    refine⟨⟨k+1,by rw[AF];omega,by omega,by rw[j,hd,wholeL,if_neg hn],Y⟩,by rw[AF];omega⟩
 .have:ws.drop k=[]:=List.drop_eq_nil_of_le (by omega);rw[this]at j;have:wholeL ws c=0:=j
  grind
def Pn{E:Env}{w:World}{B g:Nat}{s:AX}{m:Wd}{q:Int×Int×Int}{K:AX->World->Prop}(d:Ie w B E.BY 3 s (flat3 m))
  (O:w.heap[g]? =some (.cells ⟨[.int .u64 q.1,.int .u64 q.2.1,.int .i64 q.2.2]⟩ E.BY))(y:B<=w.heap.size)(hm:m.length<=67108865)
  (C: ∀s' w',Ie w' B E.BY 3 s' (flat3 (m++[q]))->Ext (KP s) w w'->(s'.base=s.base∨ ∃b,s'.base=some ⟨b,0,none⟩/\w.heap.size<=b)->K s' w'):
  APP E.BY 3 24 #[.int .u64 0,.int .u64 0,.int .i64 0] s ⟨some ⟨g,0,none⟩,1,1⟩ w K:=by
 have T:=d.len;rw[MO]at T;refine PI (news:=[.int .u64 q.1,.int .u64 q.2.1,.int .i64 q.2.2]) rfl d (NQ O rfl) rfl (by intro v j;simp at j;rcases j with rfl|rfl|rfl<;>rfl) y (by grind) (by grind) ?_;intro s' w' ho Y he J;refine C s' w' ?_ he J;rw[Pk];exact ho
def Xo{l:Wd}{a b:Int}(h:dB l)(d:a<b):(wcut l a b).length<=67108864:=(Xl h d).len
def fS{l:Wd}(h:dB l)(k:Nat):dB (l.take k):=by
 have h1:=h;rw[<-List.take_append_drop k l,TY]at h1;exact h1.1
structure MapG where
 s:AX
 ks:Iv
 sw:AX
 ws:Wd
 mb:Nat
 lv:Int->Option (Nat×(Int->Int))
structure Gu(E:Env)(w:World)(b:Nat)(G:MapG):Prop where
 set:JW E w b 0 G.s G.ks
 wide:WideAt E w b G.sw G.ws
 c3:w.cell? ⟨b,3,none⟩=some (.map (some G.mb))
 map: ∃es c m,w.heap[G.mb]? =some (.map es c)/\MapI .u64 es c m/\ ∀k,aget m k=(G.lv k).map λq=>.pointer (some ⟨q.1,0,none⟩)
 leaf: ∀k q,G.lv k=some q-> ∀i:Nat,i<512->w.cell? ⟨q.1,i,none⟩=some (.int .i64 (q.2 i))/\w.frozen? ⟨q.1,i,none⟩=false
 inj: ∀k k' q q',G.lv k=some q->G.lv k'=some q'->q.1=q'.1->k=k'
 d1: ∀k,KP G.s k-> ¬KP G.sw k
 d2: ∀k q,G.lv k=some q->q.1≠b/\ ¬KP G.s q.1/\ ¬KP G.sw q.1
section
variable{E:Env}{w w':World}{b:Nat}{G:MapG}
def Gu.lt(h:Gu E w b G):b<w.heap.size:=h.wide.lt
def Gu.u7(h:Gu E w b G):G.mb≠b:=by
 rintro e;obtain⟨es,c,m,h1,_⟩:=h.map;rw[e]at h1;exact TN h1 h.c3
def Gu.ms(h:Gu E w b G): ¬KP G.s G.mb:=by
 obtain⟨es,c,m,h1,_⟩:=h.map;exact h.set.row.own.V3 h1
def Gu.mw(h:Gu E w b G): ¬KP G.sw G.mb:=by
 obtain⟨es,c,m,h1,_⟩:=h.map;exact h.wide.own.V3 h1
def Gu.ml(h:Gu E w b G){k:Int}{q:Nat×(Int->Int)}(hk:G.lv k=some q):q.1≠G.mb:=by
 rintro e;obtain⟨es,c,m,h1,_⟩:=h.map;rw[<-e]at h1;exact TN h1 (h.leaf k q hk 0 (by decide)).1
def Gu.mlt(h:Gu E w b G):G.mb<w.heap.size:=by
 obtain⟨es,c,m,h1,_⟩:=h.map
 grind
def Ja(b:Nat)(G:MapG)(k:Nat):Prop:=k=b∨k=G.mb∨KP G.s k∨KP G.sw k∨ ∃c q,G.lv c=some q/\k=q.1
def Gu.Nw(h:Gu E w b G){k:Nat}(hk:Ja b G k):k<w.heap.size:=by
 rcases hk with rfl|rfl|hk|hk|⟨c,q,hk,rfl⟩
 .exact h.lt
 .exact h.mlt
 .exact(h.set.row.own.GR hk).2
 .exact(h.wide.own.GR hk).2
 .exact World.block_lt_of_cell? w _ (h.leaf c q hk 0 (by decide)).1
def Gu.ext{S:Nat->Prop}(h:Gu E w b G)(he:Ext S w w')(d: ∀k,Ja b G k-> ¬S k):Gu E w' b G:=by
 have v: ¬S b:=d b (.inl rfl);refine⟨h.set.ext he v λa j=>d _ (.inr (.inr (.inl ⟨a,j,rfl⟩))),h.wide.ext he v λa j=>d _ (.inr (.inr (.inr (.inl ⟨a,j,rfl⟩)))),he.cell h.c3 v,?_,?_,h.inj,h.d1,h.d2⟩
 .obtain⟨es,c,m,h1,h2⟩:=h.map;exact⟨es,c,m,he.obj h1 (d _ (.inr (.inl rfl))),h2⟩
 .intro k q hk i C;obtain⟨h1,h2⟩:=h.leaf k q hk i C;have y: ¬S q.1:=d _ (.inr (.inr (.inr (.inr ⟨k,q,hk,rfl⟩))));exact⟨he.cell h1 y,by rw[he.frozen (World.block_lt_of_cell? w _ h1) y];exact h2⟩
def Gu.FE(h:Gu E w b G)(he:Ext AQ w w'):Gu E w' b G:=h.ext he λ_ _ f=>f
end
def MapG.cut(G:MapG)(a c:Int)(sw:AX):MapG:={G with sw:=sw,ws:=wcut G.ws a c,lv:=λk=>if a<=k/\k<c then none else G.lv k}
def VA{E:Env}{w:World}{b:Nat}{G:MapG}(h:Gu E w b G){a c:Int}(ha:0<=a)(bB:a<c)(hc:c<=67108864){K:World->Prop}
  (hK: ∀w' b3,Gu E w' b (G.cut a c b3)->Ext (λk=>k=b∨k=G.mb) w w'->(∀k,KP b3 k->w.heap.size<=k)->K w'):
  F.IT E (some ⟨b,0,none⟩) a c K w:=by
 unfold F.IT;simp only[AG,add_eq,Nat.zero_add];have hlen:=h.wide.len;have hsm:=h.wide.ok.len;have cR:=h.lt;refine⟨G.sw,h.wide.c2,AI (λst w'=> ∃k:Nat,st.2.1=(k:Int)/\k<=G.ws.length/\Ie w' w.heap.size E.BY 3 st.1 (flat3 (wcut (G.ws.take k) a c))/\Ext AQ w w')
  (λst _=>(G.ws.length-st.2.1).toNat) ⟨0,rfl,Nat.zero_le _,Ie.nil _ _ _ _,Ext.refl _ _⟩ ?_⟩
 rintro⟨s3,i,u⟩ _ w4 ⟨k,hk,O,J,aT⟩;simp only at hk J⊢;subst hk;refine AB (λcC=> ?_) (λcA=> ?_)
 .have hl:k<G.ws.length:=by omega
  have hg:=List.getElem?_eq_getElem hl;have h4:=h.FE aT;obtain⟨r,hr,bV,bW,bX⟩:=h4.wide.cells hg;generalize hq:G.ws[k]=q at hg bV bW bX;have cG:q∈G.ws:=List.mem_of_getElem? hg;have cY:=h.wide.ok.1 q cG;have a7:G.ws.take (k+1)=G.ws.take k++[q]:=Et hg;have aG:wcut (G.ws.take (k+1)) a c=wcut (G.ws.take k) a c++KG q a c:=by rw[a7,Xn];simp[wcut]
  have c4:(wcut (G.ws.take k) a c).length<=67108864:=Xo (fS h.wide.ok k) bB;rw[hr];simp only[AG,add_eq,Nat.zero_add,Int.toNat_natCast,Nat.add_zero];refine⟨⟨by omega,by omega⟩,_,bV,_,bW,_,bX,BV λc6 bD cH aW=> ?_⟩;refine JH _ _ _ _ _ _ _ bD (by simp) (by intro v hv;simp at hv;rcases hv with rfl|rfl|rfl<;>rfl) λa9 aX cI y=> ?_;simp at y;have aF:Ext AQ w a9:=(aT.trans' aW).trans aX (λ_ _ f=>f) λi hi e=>by have:i=w4.heap.size:=e;have:=aT.size;omega
  have C:Ie a9 w.heap.size E.BY 3 s3 (flat3 (wcut (G.ws.take k) a c)):=(J.ext aW λ_ _ f=>f).ext aX λg a1 e=>by
   have:=J.lt a1;have:g=w4.heap.size:=e;grind
  have bN: ∀g,s3.base=some ⟨g,0,none⟩->g≠w4.heap.size:=λg a1 e=>by have:=J.lt a1;grind
  refine AV (λst w'=>w'=a9/\(st.1=true↔q.2.1<=a∨c<=q.1)) ?_ ?_
  .refine⟨q.2.1,by rw[AW y];rfl,AB (λh1=> ?_) (λh1=> ?_)⟩
   .refine⟨rfl,?_⟩;simp;omega
   .refine⟨q.1,by rw[AW y];rfl,rfl,?_⟩;simp;omega
  .rintro⟨bt,u⟩ _ c7 ⟨rfl,bJ⟩;simp only at bJ⊢;refine AS (λht=> ?_) (λhf=> ?_)
   .have cB:=bJ.1 ht;refine⟨q.1,by rw[AW y];rfl,q.2.1,by rw[AW y];rfl,q.2.2,by rw[AW y];rfl,BV λc8 bE cJ aN=> ?_⟩;refine Pn (C.ext aN λ_ _ f=>f) bE (by have:=aF.size;omega) (by omega) λUx c9 bS bK bI=> ?_;have bZ:=HB (aF.trans' aN) (C.ext aN λ_ _ f=>f) (Nat.le_refl _) bK;have h1:KG q a c=[q]:=by
     unfold KG
     grind
    refine⟨⟨k+1,by rw[AF];omega,by omega,by rw[aG,h1];exact bS,bZ⟩,by rw[AF];omega⟩
   .have cW: ¬(q.2.1<=a∨c<=q.1):=λh=>by grind
    refine AV (λst w'=>Ie w' w.heap.size E.BY 3 st.1 (flat3 (wcut (G.ws.take k) a c++if q.1<a then [(q.1,a,q.2.2)]else []))/\Ext AQ w w'/\
      w'.heap[w4.heap.size]? =some (.cells #[.int .u64 q.1,.int .u64 q.2.1,.int .i64 q.2.2] E.BY)/\w4.heap.size<w'.heap.size/\ ∀g,st.1.base=some ⟨g,0,none⟩->g≠w4.heap.size) ?_ ?_
    .refine⟨q.1,by rw[AW y];rfl,AB (λh1=> ?_) (λh1=> ?_)⟩
     .refine⟨q.1,by rw[AW y];rfl,q.2.2,by rw[AW y];rfl,BV λdB bF cK aH=> ?_⟩;refine Pn (q:=(q.1,a,q.2.2)) (C.ext aH λ_ _ f=>f) bF (by have:=aF.size;omega) (by omega) λPa dC bT aO bI=> ?_;have b0:=HB (aF.trans' aH) (C.ext aH λ_ _ f=>f) (Nat.le_refl _) aO;refine⟨by rw[if_pos h1];exact bT,b0,aO.obj (aH.obj y λf=>f) ?_,by have:=aO.size;omega,?_⟩
      .rintro⟨a',aC,b8⟩;have:=C.lt aC;exact bN a'.block (by rw[aC];cases a';simp_all) b8.symm
      grind
     .refine⟨by rw[if_neg h1,List.append_nil];exact C,aF,y,by omega,bN⟩
    .rintro⟨V2,u⟩ _ dA ⟨aI,aS,aK,cD,bM⟩;simp only at aI bM⊢;refine⟨q.2.1,by rw[AW aK];rfl,AB (λh1=> ?_) (λh1=> ?_)⟩
     .refine⟨q.2.1,by rw[AW aK];rfl,q.2.2,by rw[AW aK];rfl,BV λdD bG cL aP=> ?_⟩;refine Pn (q:=(c,q.2.1,q.2.2)) (aI.ext aP λ_ _ f=>f) bG (by have:=aS.size;omega) (by grind) λZJ dE bU bL bI=> ?_;have b1:=HB (aS.trans' aP) (aI.ext aP λ_ _ f=>f) (Nat.le_refl _) bL;have h2:KG q a c=(if q.1<a then [(q.1,a,q.2.2)]else [])++[(c,q.2.1,q.2.2)]:=by
       unfold KG
       grind
      refine⟨⟨k+1,by rw[AF];omega,by omega,by rw[aG,h2,<-List.append_assoc];exact bU,b1⟩,by rw[AF];omega⟩
     .have h2:KG q a c=(if q.1<a then [(q.1,a,q.2.2)]else []):=by
       unfold KG
       grind
      refine⟨⟨k+1,by rw[AF];omega,by omega,by rw[aG,h2];exact aI,aS⟩,by rw[AF];omega⟩
 .have a7:G.ws.take k=G.ws:=List.take_of_length_le (by omega);rw[a7]at J;have h4:=h.FE aT;refine Lb h4.wide.c2 h4.wide.f2 rfl λaB aE=> ?_;have hu:NP b (λj=>j=2) w4 aB:=NP.Hw aE rfl;have bY:JW E aB b 0 G.s G.ks:=h4.set.KF hu (by decide) (by decide);have aL: ∀k,KP s3 k->w.heap.size<=k:=λk hk=>(J.GR hk).1;have a8:WideAt E aB b s3 (wcut G.ws a c):=by
   refine⟨aE.same,by rw[aE.frozen];exact h4.wide.f2,(J.ext aE.ext λg hg e=> ?_).lower (Nat.zero_le _),Xl h.wide.ok bB,λa' aC e=> ?_⟩
   .have:=J.lt hg;have:g=b:=e;grind
   .have:=(J.lt aC).1;omega
  have aM:aB.cell? ⟨b,3,none⟩=some (.map (some G.mb)):=by rw[aE.other _ (by grind)];exact h4.c3
  obtain⟨es,cl,m,bO,bP,b7⟩:=h4.map;have T:aB.heap[G.mb]? =some (.map es cl):=aE.ext.obj bO h.u7;have aY:Ext (Jq b) w aB:=(aT.any).trans' aE.ext;have a4: ∀k q,G.lv k=some q-> ∀i:Nat,i<512->aB.cell? ⟨q.1,i,none⟩=some (.int .i64 (q.2 i))/\aB.frozen? ⟨q.1,i,none⟩=false:=by
   intro k q hk i hi;obtain⟨h1,h2⟩:=h4.leaf k q hk i hi;have hn: ¬Jq b q.1:=(h.d2 k q hk).1;exact⟨aE.ext.cell h1 hn,by rw[aE.ext.frozen (World.block_lt_of_cell? w4 _ h1) hn];exact h2⟩
  have fin: ∀w' Y m',Ext (λk=>k=G.mb∨w.heap.size<=k/\ ¬KP s3 k) aB w'->w'.heap[G.mb]? =some (.map Y cl)->MapI .u64 Y cl m'->(∀k,aget m' k=if a<=k/\k<c then none else aget m k)->K w':=by
   intro w' Y m' d aJ aD aA;have a6: ¬(b=G.mb∨w.heap.size<=b/\ ¬KP s3 b):=by
    rintro(e|⟨e,_⟩)
    .exact h.u7 e.symm
    .omega
   refine hK w' s3 ⟨?_,?_,d.cell aM a6,⟨Y,cl,m',aJ,aD,?_⟩,?_,?_,?_,?_⟩ ?_ aL
   .refine bY.ext d a6 λa' aC=> ?_;have:=(h.set.row.own.lt aC);rintro(e|⟨e,_⟩)
    .exact h.ms ⟨a',aC,e.symm⟩
    .omega
   .refine a8.ext d a6 λa' aC=> ?_;have:=J.lt aC;rintro(e|⟨_,e⟩)
    .have:=h.mlt;omega
    .exact e ⟨a',aC,rfl⟩
   .intro k;rw[aA,b7];show _=Option.map _ (if a<=k/\k<c then none else G.lv k)
    grind
   .intro k q hk i hi;have O:(if a<=k/\k<c then none else G.lv k)=some q:=hk;split at O
    .cases O
    .obtain⟨h1,h2⟩:=a4 k q O i hi;have hq:=World.block_lt_of_cell? w _ (h.leaf k q O i hi).1;have hn: ¬(q.1=G.mb∨w.heap.size<=q.1/\ ¬KP s3 q.1):=by
      rintro(e|⟨e,_⟩)
      .exact h.ml O e
      grind
     exact⟨d.cell h1 hn,by rw[d.frozen (World.block_lt_of_cell? aB _ h1) hn];exact h2⟩
   .intro k k' q q' hk a3 e;have O:(if a<=k/\k<c then none else G.lv k)=some q:=hk;have aR:(if a<=k'/\k'<c then none else G.lv k')=some q':=a3;split at O
    .cases O
    .split at aR
     .cases aR
     .exact h.inj k k' q q' O aR e
   .intro k hk a3;have:=aL k a3;have:=(h.set.row.own.GR hk).2;omega
   .intro k q hk;have O:(if a<=k/\k<c then none else G.lv k)=some q:=hk;split at O
    .cases O
    .obtain⟨g1,g2,g3⟩:=h.d2 k q O;refine⟨g1,g2,λg=> ?_⟩;have:=aL _ g;have:=World.block_lt_of_cell? w _ (h.leaf k q O 0 (by decide)).1
     grind
   .refine aY.trans d (λi _ e=>.inl e) λi hi e=> ?_;omega
  refine⟨some G.mb,aM,es,⟨cl,T⟩,AS (λ_=> ?_) (λ_=> ?_)⟩
  .refine⟨some G.mb,aM,cl,⟨es,T⟩,BV λdF bH cM aQ=> ?_⟩;have a5:=aQ.obj T λf=>f;have cF:=Fo T;refine range_del (K:=K) (m0:=m) (m1:=m) (es0:=es) (seen0:= #[]) (mb:=G.mb) (since:=cl) (a:=a) (b:=c) (getm:=λK' w=> ∃b4:(Option Nat),w.cell? ⟨b,3,none⟩=some (.map b4)/\K' b4 w) (λw' K' he hk=>⟨some G.mb,?_,hk⟩)
    ⟨⟨cl,bH,.inl rfl⟩,a5,bP,λ_ _=>rfl,λ_ _ h=>h,by simp⟩ (by omega) (by omega) (by omega) ?_
   .refine he.cell (aQ.cell aM λf=>f) ?_;rintro(e|e)
    .have:=aY.size;grind
    .exact h.u7 e.symm
   .intro w' Y m' d c0 aJ aD aA;refine fin w' Y m' ?_ aJ aD aA;refine aQ.any.trans d (λ_ _ f=>f) λi hi e=> ?_;omega
  .refine AI (λst w'=> ∃Y m',a<=st.1/\st.1<=c/\Ext (Jq G.mb) aB w'/\w'.heap[G.mb]? =some (.map Y cl)/\MapI .u64 Y cl m'/\ ∀k,aget m' k=if a<=k/\k<st.1 then none else aget m k)
    (λst _=>(c-st.1).toNat) ⟨es,m,Int.le_refl _,by simp only;omega,Ext.refl _ _,T,bP,λk=>by grind⟩ ?_
   rintro⟨x,u⟩ _ cP ⟨Y,m',cN,cO,d,aJ,aD,aA⟩;simp only at cN cO aA⊢;refine AB (λcC=> ?_) (λcA=> ?_)
   .refine⟨some G.mb,d.cell aM (λe=>h.u7 e.symm),Od aJ aD λdG b6 m2 cE bQ bC _ _ _ b9 _=> ?_⟩;refine⟨⟨b6,m2,?_,?_,d.trans' b9,cE,bQ,λk=> ?_⟩,?_⟩
    .rw[AM];omega
    .rw[AM];omega
    .rw[AM,bC,aA]
     grind
    .rw[AM];omega
   .have:x=c:=by omega
    subst this;exact fin cP Y m' (d.mono λi _ e=>.inl e) aJ aD aA
def MapG.own(G:MapG)(p:Int):Int:=match G.lv (p/512)with
 | some q=>q.2 (p %512)
 | none=>wholeL G.ws (p/512)
structure Gd(E:Env)(b:Nat)(w:World)(G:MapG)(w':World)(G':MapG):Prop where
 rep:Gu E w' b G'
 ext:Ext (Ja b G) w w'
 UX: ∀k,Ja b G' k->Ja b G k∨w.heap.size<=k
section
variable{E:Env}{w w' w1:World}{b:Nat}{G G' G1:MapG}
def Gd.refl(h:Gu E w b G):Gd E b w G w G:=⟨h,Ext.refl _ _,λ_ h=>.inl h⟩
def Gd.nothing(h:Gu E w b G)(he:Ext AQ w w'):Gd E b w G w' G:=⟨h.FE he,he.any,λ_ h=>.inl h⟩
def Gd.trans(h:Gd E b w G w1 G1)(k:Gd E b w1 G1 w' G'):Gd E b w G w' G':=
 ⟨k.rep,h.ext.trans k.ext (λ_ _ s=>s) (λi d s=>by rcases h.UX i s with s|s;exact s;omega),λi d=>by
  rcases k.UX i d with s|s
  .exact h.UX i s
  .have:=h.ext.size;omega⟩
def Gd.pQ(h:Gd E b w G w' G'){k:Nat}(hk: ¬Ja b G k)(d:k<w.heap.size): ¬Ja b G' k:=λe=>by
 rcases h.UX k e with s|s
 .exact hk s
 .omega
end
def fT{E:Env}{w:World}{b:Nat}{G:MapG}(h:Gu E w b G){c:Int}(aT:0<=c)(hc:c<67108864){K:Option Addr->World->Prop}
  (hK: ∀w' G' q,Gd E b w G w' G'->G'.ks=G.ks->G'.lv c=some q->(∀p,G'.own p=G.own p)->K (some ⟨q.1,0,none⟩) w'):
  F.E9 E (some ⟨b,0,none⟩) c K w:=by
 unfold F.E9 T0.E9;simp only[AG,add_eq,Nat.zero_add];obtain⟨es,cl,m,hm,aY,aR⟩:=h.map;refine⟨some G.mb,h.c3,Lm hm aY ?_⟩;rw[aR];cases hlv:G.lv c with
 | some q=>exact⟨some ⟨q.1,0,none⟩,rfl,AS (λe=>by cases e) (λ_=>hK w G q (Gd.refl h) rfl hlv λ_=>rfl)⟩
 | none=>
  refine⟨none,rfl,AS (λ_=> ?_) (λe=>by cases e)⟩;refine TZ h.wide λw8 aI=> ?_;rw[AM];refine VA (h.FE aI) aT (by omega) (by omega) λJ y h9 aK aS=> ?_;generalize hzs:Array.replicate 512 (Value.int .i64 0)=zs;have hz: ∀i:Nat,i<512->zs[i]? =some (.int .i64 0):=by grind
  clear hzs;refine BV λa3 aD a0 aE=> ?_;have aP:=h9.FE aE;have bI:w8.heap.size<=J.heap.size:=aK.size;have bH:w.heap.size<=w8.heap.size:=aI.size;have C: ¬Ja b (G.cut c (c+1) y) J.heap.size:=λe=>by have:=h9.Nw e;omega
  refine AI (λst w'=> ∃k:Nat,st.1=(k:Int)/\k<=512/\Ext (Jq J.heap.size) a3 w'/\ ∀i:Nat,i<512->w'.cell? ⟨J.heap.size,i,none⟩=some (.int .i64 (if i<k then wholeL G.ws c else 0))/\w'.frozen? ⟨J.heap.size,i,none⟩=false)
   (λst _=>(512-st.1).toNat) ⟨0,rfl,by decide,Ext.refl _ _,λi hi=>⟨by rw[AW aD,if_neg (by omega)];grind,by simp[World.frozen?,aD]⟩⟩ ?_
  rintro⟨i,u⟩ _ aC ⟨k,hk,d,T,Cr⟩;simp only at hk⊢;subst hk;refine AB (λbG=> ?_) (λbF=> ?_)
  .refine⟨⟨by omega,by omega⟩,?_⟩;have aA:k<512:=by omega
   simp only[Int.toNat_natCast,Nat.mul_one];refine Lb (Cr k aA).1 (Cr k aA).2 rfl λbK aB=> ?_;refine⟨⟨k+1,by rw[AF];omega,by omega,T.trans' aB.ext,λi hi=> ?_⟩,by rw[AF];omega⟩;rw[aB.frozen];refine⟨?_,(Cr i hi).2⟩;by_cases e:i=k
   .subst e;rw[aB.same,if_pos (by omega)]
   .rw[aB.other _ (by grind),(Cr i hi).1]
    grind
  .have aA:k=512:=by omega
   subst aA;have j:Gu E aC b (G.cut c (c+1) y):=aP.ext T λk hk e=>by
    have:k=J.heap.size:=e
    grind
   obtain⟨bE,bA,m',aV,aL,a6⟩:=j.map;refine⟨some G.mb,j.c3,Sy aV aL λaN aO c2 m2 aW aM a7 _ _ _ v a1=> ?_⟩;have aX:(G.cut c (c+1) y).mb=G.mb:=rfl;have aJ:J.heap.size≠G.mb:=λe=>C (.inr (.inl (e.trans aX.symm)))
   let G2:MapG:={G.cut c (c+1) y with lv:=λk=>if k=c then some (J.heap.size,λ_=>wholeL G.ws c)else(G.cut c (c+1) y).lv k}
   have aH: ¬Jq G.mb b:=λe=>j.u7 e.symm;have aZ:Gu E aN b G2:=by
    refine⟨j.set.ext v aH λa ha e=>j.ms ⟨a,ha,e.symm⟩,j.wide.ext v aH λa ha e=>j.mw ⟨a,ha,e.symm⟩,v.cell j.c3 aH,⟨aO,c2,m2,aW,aM,λk=> ?_⟩,?_,?_,j.d1,?_⟩
    .grind
    .intro k q hk i hi;have d:(if k=c then some (J.heap.size,λ_=>wholeL G.ws c)else(G.cut c (c+1) y).lv k)=some q:=hk;split at d
     .cases d;obtain⟨g1,g2⟩:=Cr i hi;rw[if_pos hi]at g1;refine⟨v.cell g1 λe=>aJ e,?_⟩;rw[v.frozen (World.block_lt_of_cell? aC _ g1) λe=>aJ e];exact g2
     .obtain⟨g1,g2⟩:=j.leaf k q d i hi;have hn: ¬Jq G.mb q.1:=λe=>j.ml d e;exact⟨v.cell g1 hn,by rw[v.frozen (World.block_lt_of_cell? aC _ g1) hn];exact g2⟩
    .intro k k' q q' hk aU e;have d:(if k=c then some (J.heap.size,λ_=>wholeL G.ws c)else(G.cut c (c+1) y).lv k)=some q:=hk;have O:(if k'=c then some (J.heap.size,λ_=>wholeL G.ws c)else(G.cut c (c+1) y).lv k')=some q':=aU;split at d
     .split at O
      .omega
      .cases d;exact absurd (.inr (.inr (.inr (.inr ⟨k',q',O,e⟩)))) C
     .split at O
      .cases O;exact absurd (.inr (.inr (.inr (.inr ⟨k,q,d,e.symm⟩)))) C
      .exact j.inj k k' q q' d O e
    .intro k q hk;have d:(if k=c then some (J.heap.size,λ_=>wholeL G.ws c)else(G.cut c (c+1) y).lv k)=some q:=hk;split at d
     .cases d;exact⟨λe=>C (.inl e),λe=>C (.inr (.inr (.inl e))),λe=>C (.inr (.inr (.inr (.inl e))))⟩
     .exact j.d2 k q d
   have Y: ∀k q,(G.cut c (c+1) y).lv k=some q->G.lv k=some q:=by
    intro k q hk;have d:(if c<=k/\k<c+1 then none else G.lv k)=some q:=hk
    grind
   refine hK aN G2 (J.heap.size,λ_=>wholeL G.ws c) ⟨aZ,?_,?_⟩ rfl (if_pos rfl) ?_
   .have e1:Ext (Ja b G) w J:=(aI.any).trans aK (λ_ _ f=>f) λi _ e=>by rcases e with e|e;exact .inl e;exact .inr (.inl e)
    have e2:Ext (Jq J.heap.size) J aC:=(aE.any).trans' T;have e3:=e2.trans v (U:=λk=>k=J.heap.size∨k=G.mb) (λi _ e=>.inl e) (λi _ e=>.inr e);refine e1.trans e3 (λ_ _ f=>f) λi hi e=> ?_;rcases e with e|e
    .omega
    .exact .inr (.inl e)
   .rintro k (e|e|e|e|⟨k',q,e,rfl⟩)
    .exact .inl (.inl e)
    .exact .inl (.inr (.inl e))
    .exact .inl (.inr (.inr (.inl e)))
    .exact .inr (by have:=aS k e;omega)
    .have d:(if k'=c then some (J.heap.size,λ_=>wholeL G.ws c)else(G.cut c (c+1) y).lv k')=some q:=e;split at d
     .grind
     .exact .inl (.inr (.inr (.inr (.inr ⟨k',q,Y _ _ d,rfl⟩))))
   .intro p;unfold MapG.own;show(match(if p/512=c then some (J.heap.size,λ_=>wholeL G.ws c)else if c<=p/512/\p/512<c+1 then none else G.lv (p/512))with|some q=>q.2 (p %512)|none=>wholeL (wcut G.ws c (c+1)) (p/512))=_;by_cases e:p/512=c
    .grind
    .rw[if_neg e,if_neg (by omega)];rw[LN (by omega),if_neg (by omega)]
def MapG.put(G:MapG)(c:Int)(q:Nat×(Int->Int))(i id:Int):MapG:={G with lv:=λk=>if k=c then some (q.1,λj=>if j=i then id else q.2 j)else G.lv k}
def k8{E:Env}{w w':World}{b:Nat}{G:MapG}(h:Gu E w b G){c id:Int}{i:Nat}{q:Nat×(Int->Int)}(J:G.lv c=some q)
  (v:M8 ⟨q.1,i,none⟩ (.int .i64 id) w w'):Gd E b w G w' (G.put c q i id):=by
 obtain⟨d1,d2,d3⟩:=h.d2 c q J;have hn: ¬Jq q.1 b:=λe=>d1 e.symm;refine⟨⟨h.set.ext v.ext hn λa O e=>d2 ⟨a,O,e.symm⟩,h.wide.ext v.ext hn λa O e=>d3 ⟨a,O,e.symm⟩,v.ext.cell h.c3 hn,?_,?_,?_,h.d1,?_⟩,?_,?_⟩
 .obtain⟨es,cl,m,hm,aA,T⟩:=h.map;refine⟨es,cl,m,v.ext.obj hm λe=>h.ml J e.symm,aA,λk=> ?_⟩;rw[T];show _=Option.map _ (if k=c then _ else _)
  grind
 .intro k C hk j hj;have d:(if k=c then some (q.1,λj=>if j=(i:Int)then id else q.2 j)else G.lv k)=some C:=hk;split at d
  .cases d;obtain⟨g1,g2⟩:=h.leaf c q J j hj;rw[v.frozen];refine⟨?_,g2⟩;simp only;by_cases e:j=i
   .subst e;rw[if_pos rfl];exact v.same
   .rw[if_neg (by omega),v.other _ (by grind)];exact g1
  .rename_i hkc;obtain⟨g1,g2⟩:=h.leaf k C d j hj;have aC: ¬Jq q.1 C.1:=λe=>hkc (h.inj k c C q d J e);exact⟨v.ext.cell g1 aC,by rw[v.frozen];exact g2⟩
 .intro k K q1 C hk Y e;have d:(if k=c then some (q.1,λj=>if j=(i:Int)then id else q.2 j)else G.lv k)=some q1:=hk;have y:(if K=c then some (q.1,λj=>if j=(i:Int)then id else q.2 j)else G.lv K)=some C:=Y;split at d
  .split at y
   .omega
   .rename_i e1 _;cases d;rw[e1];exact h.inj c K q C J y e
  .split at y
   .rename_i e1;cases y;rw[e1];exact h.inj k c q1 q d J e
   .exact h.inj k K q1 C d y e
 .intro k C hk;have d:(if k=c then some (q.1,λj=>if j=(i:Int)then id else q.2 j)else G.lv k)=some C:=hk;split at d
  .cases d;exact⟨d1,d2,d3⟩
  .exact h.d2 k C d
 .exact v.ext.mono λk _ e=>.inr (.inr (.inr (.inr ⟨c,q,J,e⟩)))
 .rintro k (e|e|e|e|⟨K,C,e,rfl⟩)
  .exact .inl (.inl e)
  .exact .inl (.inr (.inl e))
  .exact .inl (.inr (.inr (.inl e)))
  .exact .inl (.inr (.inr (.inr (.inl e))))
  .have d:(if K=c then some (q.1,λj=>if j=(i:Int)then id else q.2 j)else G.lv K)=some C:=e;split at d
   .cases d;exact .inl (.inr (.inr (.inr (.inr ⟨c,q,J,rfl⟩))))
   .exact .inl (.inr (.inr (.inr (.inr ⟨K,C,d,rfl⟩))))
def pR{G:MapG}{c id:Int}{i:Nat}{q:Nat×(Int->Int)}(d:G.lv c=some q)(p:Int):(G.put c q i id).own p=if p/512=c/\p %512=i then id else G.own p:=by
 unfold MapG.own MapG.put
 grind
def NV{E:Env}{w:World}{b bi bm:Nat}{G:MapG}(h:Gu E w b G){x y id:Int}(hx:0<=x)(hy:y<=34359738368)
  (hi:w.cell? ⟨bi,0,none⟩=some (.int .i64 id))(hm:w.cell? ⟨bm,0,none⟩=some (.pointer (some ⟨b,0,none⟩)))(Y: ¬Ja b G bi)(aF: ¬Ja b G bm){K:World->Prop}
  (hK: ∀w' G',Gd E b w G w' G'->G'.ks=G.ks->(∀p,G'.own p=if x<=p/\p<y then id else G.own p)->K w'):
  F.Dz E x y (some ⟨bi,0,none⟩) (some ⟨bm,0,none⟩) K w:=by
 unfold F.Dz T0.Dz;simp only[AG,add_eq,Nat.zero_add,Nat.mul_one];refine AI (λst w'=> ∃G',x<=st.1/\(st.1<=y∨st.1=x)/\Gd E b w G w' G'/\G'.ks=G.ks/\ ∀p,G'.own p=if x<=p/\p<st.1 then id else G.own p)
  (λst _=>(y-st.1).toNat) ⟨G,Int.le_refl _,.inr rfl,Gd.refl h,rfl,λp=>by omega⟩ ?_
 rintro⟨n,u⟩ _ w2 ⟨G2,aG,aH,O,C,j⟩;simp only at aG aH j⊢;refine AB (λaQ=> ?_) (λaN=> ?_)
 .have hl:bi<w.heap.size:=World.block_lt_of_cell? w _ hi;have aP:bm<w.heap.size:=World.block_lt_of_cell? w _ hm;have hd:Ext AQ w2 w2.drew:=Ext.drew _ _;have v:=O.trans (Gd.nothing O.rep hd);refine⟨some ⟨b,0,none⟩,v.ext.cell hm aF,by decide,by decide,id,v.ext.cell hi Y,?_⟩;have hdiv:Int.tdiv n 512=n/512:=Int.tdiv_eq_ediv_of_nonneg (by omega);have aB:Int.tmod n 512=n %512:=Int.tmod_eq_emod_of_nonneg (by omega);rw[hdiv,aB,AM];refine fT v.rep (by omega) (by omega) λw9 G9 q T aA d J=> ?_;have aC:=v.trans T;simp only[AG,add_eq,Nat.zero_add];refine⟨aC.ext.cell hi Y,⟨by omega,by omega⟩,?_⟩;have hj:(n %512).toNat<512:=by omega
  have aE:(((n %512).toNat:Nat):Int)=n %512:=by omega
  obtain⟨g1,g2⟩:=T.rep.leaf _ q d _ hj;refine Lb g1 g2 rfl λaR aJ=> ?_;have aI:=k8 T.rep d aJ;rw[AM];refine⟨⟨_,by omega,by omega,aC.trans aI,aA.trans C,λp=> ?_⟩,by omega⟩;rw[pR d,J,j,aE];omega
 .refine hK w2 G2 O C λp=> ?_
  grind
structure EnvA(E:Env):Prop extends EnvS E where
 pS: ∀x y p1 p2 (R:Value->World->Prop) w,F.Dz E x y p1 p2 (λw'=>R (.tuple ⟨[]⟩) w') w->E.call E.GF #[.int .u64 x,.int .u64 y,.pointer p1,.pointer p2] w R Kk
def k9{E:Env}{w:World}{K:Option Addr->World->Prop}
  (J: ∀w' b G,Gu E w' b G->Ext AQ w w'->(∀k,Ja b G k->w.heap.size<=k)->G.ks=[]->(∀p,G.own p=0)->K (some ⟨b,0,none⟩) w'):F.Lt E K w:=by
 unfold F.Lt;refine BV λw1 y Y C=>BV λw2 d aA v=> ?_;have hm:=v.obj y λf=>f;refine J w2 w1.heap.size ⟨⟨none,0,0⟩,[],⟨none,0,0⟩,[],w.heap.size,λ_=>none⟩ ?_ (C.trans' v) ?_ rfl (λ_=>rfl)
 .have O: ∀k,¬KP ⟨none,0,0⟩ k:=by rintro k ⟨a,j,_⟩;cases j
  refine⟨⟨⟨by rw[AW d];rfl,by simp[World.frozen?,d],Ie.nil _ _ _ _,trivial,by simp,by grind⟩,by rw[AW d];rfl,by simp[World.frozen?,d]⟩,
   ⟨by rw[AW d];rfl,by simp[World.frozen?,d],Ie.nil _ _ _ _,⟨by simp,List.Pairwise.nil⟩,by grind⟩,by rw[AW d];rfl,⟨_,_,_,hm,MapI.empty _,λ_=>rfl⟩,?_,?_,λk h=>absurd h (O k),?_⟩
  .grind
  .grind
  grind
 .rintro k (e|e|⟨a,j,_⟩|⟨a,j,_⟩|⟨c,q,T,_⟩)
  .rw[e];omega
  .rw[e];grind
  .cases j
  .cases j
  .cases T
section
variable{E:Env}{w:World}{b:Nat}{G:MapG}
def u9(h:Gu E w b G){x:Int}(h0:0<=x)(Y:x<18446744073709551616){K:Int->World->Prop}(J: ∀w',Ext AQ w w'->K (G.own (x/8192)) w'):
  F.FV E (some ⟨b,0,none⟩) x K w:=by
 unfold F.FV T0.FV;have v:Int.tdiv x 8192=x/8192:=Int.tdiv_eq_ediv_of_nonneg h0;have y:Int.tdiv (x/8192) 512=x/8192/512:=Int.tdiv_eq_ediv_of_nonneg (by omega);have C:Int.tmod (x/8192) 512=x/8192 %512:=Int.tmod_eq_emod_of_nonneg (by omega);rw[v,AM (n:=x/8192),y,AM (n:=x/8192/512),C];simp only[AG,add_eq,Nat.zero_add,Nat.mul_one];obtain⟨es,T,m,hm,j,d⟩:=h.map;refine⟨by decide,some G.mb,h.c3,by decide,Lm hm j ?_⟩;rw[d];cases hlv:G.lv (x/8192/512)with
 | some q=>
  refine⟨some ⟨q.1,0,none⟩,rfl,AS (λ_=> ?_) (λe=>by cases e)⟩;refine⟨by decide,⟨by omega,by omega⟩,q.2 (x/8192 %512),?_,?_⟩
  .have:=(h.leaf _ q hlv (x/8192 %512).toNat (by omega)).1;rw[show(((x/8192 %512).toNat:Nat):Int)=x/8192 %512 from by omega]at this;simp only[add_eq,Nat.zero_add];exact this
  .have:G.own (x/8192)=q.2 (x/8192 %512):=by unfold MapG.own;rw[hlv]
   rw[<-this];exact J w (Ext.refl _ _)
 | none=>
  refine⟨none,rfl,AS (λe=>by cases e) (λ_=>⟨by decide,TZ h.wide λw' O=> ?_⟩)⟩;have:G.own (x/8192)=wholeL G.ws (x/8192/512):=by unfold MapG.own;rw[hlv]
  grind
end
section
variable{E:Env}(hE:EnvA E){w:World}{b:Nat}{G:MapG}
include hE
def MapG.grow(G:MapG)(s:AX)(ks:Iv):MapG:={G with s:=s,ks:=ks}
end
section
variable{E:Env}(hE:EnvA E){w:World}{b:Nat}{G:MapG}
def fU{w w':World}(h:Gu E w b G){y:AX}{q:Int×Int×Int}(hq:0<=q.1/\q.1<q.2.1/\q.2.1<=67108864)(hd: ∀p∈G.ws,p.2.1<=q.1∨q.2.1<=p.1)
  (d:Ext (KP G.sw) w w')(T:Ie w' 0 E.BY 3 y (flat3 (G.ws++[q])))(hb:y.base=G.sw.base∨ ∃k,y.base=some ⟨k,0,none⟩/\w.heap.size<=k)
  {w2:World}(v:M8 ⟨b,2,none⟩ (.slice y.base y.len y.cap) w' w2):Gd E b w G w2 {G with sw:=y,ws:=G.ws++[q]}:=by
 have J: ∀k,KP y k->KP G.sw k∨w.heap.size<=k:=by
  rintro k ⟨a,K,rfl⟩;rcases hb with e|⟨k,e,hk⟩
  .rw[e]at K;exact .inl ⟨a,K,rfl⟩
  grind
 have C: ¬KP G.sw b:=by rintro⟨a,K,e⟩;exact h.wide.apart a K e.symm
 have O: ¬KP y b:=λe=>by
  rcases J b e with e|e
  .exact C e
  .have:=h.lt;omega
 have hu:NP b (λj=>j=2) w' w2:=NP.Hw v rfl;have aB:JW E w' b 0 G.s G.ks:=h.set.ext d C λa K e=>h.d1 a.block ⟨a,K,rfl⟩ e;refine⟨⟨aB.KF hu (by decide) (by decide),⟨v.same,?_,T.ext v.ext λg hg e=>O ⟨_,hg,e.symm⟩,?_,λa K e=>O ⟨a,K,e.symm⟩⟩,?_,?_,?_,h.inj,?_,?_⟩,?_,?_⟩
 .rw[v.frozen,d.frozen (p:=⟨b,2,none⟩) h.lt C];exact h.wide.f2
 .refine TY.2 ⟨h.wide.ok,⟨by grind,List.pairwise_singleton _ _⟩,λp hp r hr=> ?_⟩
  grind
 .rw[v.other _ (by grind)];exact d.cell h.c3 C
 .obtain⟨es,cl,m,h1,h2⟩:=h.map;exact⟨es,cl,m,v.ext.obj (d.obj h1 h.mw) h.u7,h2⟩
 .intro k q hk i hi;obtain⟨g1,g2⟩:=h.leaf k q hk i hi;have hn: ¬KP G.sw q.1:=(h.d2 k q hk).2.2;have aA: ¬Jq b q.1:=(h.d2 k q hk).1;exact⟨v.ext.cell (d.cell g1 hn) aA,by rw[v.frozen,d.frozen (World.block_lt_of_cell? w _ g1) hn];exact g2⟩
 .intro k hk Y;rcases J k Y with e|e
  .exact h.d1 k hk e
  .have:=(h.set.row.own.GR hk).2;omega
 .intro k q hk;obtain⟨g1,g2,g3⟩:=h.d2 k q hk;refine⟨g1,g2,λe=> ?_⟩;rcases J _ e with e|e
  .exact g3 e
  .have:=World.block_lt_of_cell? w _ (h.leaf k q hk 0 (by decide)).1
   grind
 .exact d.trans v.ext (λi _ e=>.inr (.inr (.inr (.inl e)))) (λi _ e=>.inl e)
 .rintro k (e|e|e|e|⟨c',q,e,e2⟩)
  .exact .inl (.inl e)
  .exact .inl (.inr (.inl e))
  .exact .inl (.inr (.inr (.inl e)))
  .rcases J k e with e|e
   .exact .inl (.inr (.inr (.inr (.inl e))))
   omega
  .exact .inl (.inr (.inr (.inr (.inr ⟨c',q,e,e2⟩))))
def lA{w w':World}(h:Gu E w b G){a c:Int}{j:AX}(C:Gu E w' b (G.cut a c j))(he:Ext (λk=>k=b∨k=G.mb) w w')(hf: ∀k,KP j k->w.heap.size<=k):
  Gd E b w G w' (G.cut a c j):=by
 refine⟨C,he.mono λi _ e=>by rcases e with e|e;exact .inl e;exact .inr (.inl e),?_⟩;rintro k (e|e|e|e|⟨v,q,e,y⟩)
 .exact .inl (.inl e)
 .exact .inl (.inr (.inl e))
 .exact .inl (.inr (.inr (.inl e)))
 .exact .inr (hf k e)
 .have d:(if a<=v/\v<c then none else G.lv v)=some q:=e;split at d
  .cases d
  .exact .inl (.inr (.inr (.inr (.inr ⟨v,q,d,y⟩))))
def pT{a c:Int}(d:a<c)(j:AX)(p:Int):(G.cut a c j).own p=if a<=p/512/\p/512<c then 0 else G.own p:=by
 unfold MapG.own;show(match(if a<=p/512/\p/512<c then none else G.lv (p/512))with|some q=>q.2 (p %512)|none=>wholeL (wcut G.ws a c) (p/512))=_;by_cases e:a<=p/512/\p/512<c
 .rw[if_pos e,if_pos e];show wholeL (wcut G.ws a c) (p/512)=0;rw[LN d,if_pos e]
 .rw[if_neg e,if_neg e];cases G.lv (p/512)with
  | some q=>rfl
  | none=>
   show wholeL (wcut G.ws a c) (p/512)=_;rw[LN d,if_neg e]
include hE
theorem fV(h:Gu E w b G){x n id:Int}(a3:0<=x)(hx:x<18446744073709551616)(cI:0<=n)(hn:n<18446744073709551616){K:Int->World->Prop}
  (bY:(n=0∨id<0)-> ∀w',Ext AQ w w'->K 1 w')
  (bF: ¬(n=0∨id<0)->(34359738368<=x∨34359738368-x<n∨ ∃c,x/512<=c/\c<(x+n+511)/512/\ ¬mem G.ks c)-> ∀w',Ext AQ w w'->K 10 w')
  (bG: ¬(n=0∨id<0)->x<34359738368->n<=34359738368-x->(∀c,x/512<=c->c<(x+n+511)/512->mem G.ks c)-> ∀w' G',Gd E b w G w' G'->G'.ks=G.ks->
   (∀p,G'.own p=if x<=p/\p<x+n then id else G.own p)->K 0 w'):
  F.Dr E (some ⟨b,0,none⟩) x n id K w:=by
 unfold F.Dr T0.Dr;refine BV λw2 bR b9 bV=>BV λw4 bS cA bD=> ?_;have aP:Ext AQ w w4:=bV.trans' bD;have a6:=bD.obj bR λf=>f;have cm: ∀w',Ext AQ w4 w'->w'.cell? ⟨w.heap.size,0,none⟩=some (.pointer (some ⟨b,0,none⟩)):=λw' he=>he.cell (by rw[AW a6];rfl) λf=>f;have ci: ∀w',Ext AQ w4 w'->w'.cell? ⟨w2.heap.size,0,none⟩=some (.int .i64 id):=λw' he=>he.cell (by rw[AW bS];rfl) λf=>f;refine AV (λst w'=>w'=w4/\(st.1=true↔n=0∨id<0)) ?_ ?_
 .refine AS (λe=>⟨rfl,?_⟩) (λe=>⟨id,ci w4 (Ext.refl _ _),rfl,?_⟩)
  .grind
  grind
 rintro⟨bt,u⟩ _ w7 ⟨rfl,a9⟩;simp only at a9⊢;refine AS (λe=>bY (a9.1 e) _ aP) (λe=> ?_);have aO: ¬(n=0∨id<0):=λh=>by grind
 refine AV (λst w'=>w'=w7/\(st.1=true↔34359738368<=x∨34359738368-x<n)) ?_ ?_
 .refine AB (λe=>⟨rfl,?_⟩) (λe=>⟨rfl,?_⟩)
  .grind
  .rw[AM]
   grind
 rintro⟨cC,u⟩ _ cL ⟨rfl,bA⟩;simp only at bA⊢;refine AS (λe=>bF aO (by grind) _ aP) (λe=> ?_);have b7: ¬(34359738368<=x∨34359738368-x<n):=λh=>by grind
 have bM:x<34359738368:=by omega
 have bK:n<=34359738368-x:=by omega
 have cJ:1<=n:=by omega
 refine⟨by decide,by decide,AY λlast aX=>⟨some ⟨b,0,none⟩,cm _ (Ext.refl _ _),?_⟩⟩;have cH:last=(x+n+511)/512:=by
  rw[aX,AM (n:=x+n),AM (n:=x+n+512),AM (n:=x+n+512-1)];rw[Int.tdiv_eq_ediv_of_nonneg (by omega),AM];omega
 have bW:u64 (Int.tdiv x 512)=x/512:=by rw[Int.tdiv_eq_ediv_of_nonneg a3,AM]
 simp only[AG];rw[bW];have h4:=h.FE aP;have bE:x/512<=last:=by omega
 refine It hE.toEnvS h4.set.row (by omega) bE (by omega) λaC v=> ?_;have bT:=El h.set.row.ok bE;rw[AM];have aG:Ext AQ w aC:=aP.trans' v;refine AS (λe=>bF aO (.inr (.inr ?_)) _ aG) (λe=> ?_)
 .grind
 have a5:=bT.1 (by grind);refine⟨by decide,by decide,AY λfr bX=>AY λto b3=> ?_⟩;have b5:fr=(x+511)/512:=by
  rw[bX,AM (n:=x+512),AM (n:=x+512-1),Int.tdiv_eq_ediv_of_nonneg (by omega),AM];omega
 have cB:to=(x+n)/512:=by
  rw[b3,AM (n:=x+n),Int.tdiv_eq_ediv_of_nonneg (by omega),AM]
 have aT:=h.FE aG;have aY: ¬Ja b G w.heap.size:=λe=>by have:=h.Nw e;omega
 have aV: ¬Ja b G w2.heap.size:=λe=>by have:=h.Nw e;omega
 have aW:w.heap.size<aC.heap.size:=by have:=v.size;omega
 have bI:w2.heap.size<aC.heap.size:=by have:=v.size;omega
 refine AV (λ_ w'=> ∃G',Gd E b aC G w' G'/\G'.ks=G.ks/\ ∀p,G'.own p=if fr<=p/512/\p/512<to then id else G.own p) ?_ ?_
 .refine AB (λT=> ?_) (λcF=>⟨G,Gd.refl aT,rfl,λp=>by omega⟩);refine⟨some ⟨b,0,none⟩,cm _ v,VA aT (by omega) T (by omega) λaK aJ aL bB aQ=> ?_⟩;have aB:=lA aT aL bB aQ;have aA: ∀w',Ext AQ aK w'->w'.cell? ⟨w2.heap.size,0,none⟩=some (.int .i64 id):=λw' he=>he.cell (aB.ext.cell (ci _ v) aV) λf=>f;have y: ∀w',Ext AQ aK w'->w'.cell? ⟨w.heap.size,0,none⟩=some (.pointer (some ⟨b,0,none⟩)):=λw' he=>he.cell (aB.ext.cell (cm _ v) aY) λf=>f;refine⟨id,aA _ (Ext.refl _ _),AB (λb8=> ?_) (λhz=>⟨_,aB,rfl,λp=> ?_⟩)⟩
  .have hd:Ext AQ aK aK.drew:=Ext.drew _ _;have bU:=aL.FE hd;refine⟨some ⟨b,0,none⟩,y _ hd,some ⟨b,0,none⟩,y _ hd,?_⟩;simp only[AG,add_eq,Nat.zero_add];refine⟨aJ,bU.wide.c2,id,aA _ hd,BV λb4 a7 b1 bC=> ?_⟩;have j:Ext AQ aK b4:=hd.trans' bC;have O:=aL.FE j;refine⟨aA _ j,O.wide.c2,y _ j,y _ j,?_⟩;refine Pn (q:=(fr,to,id)) (m:=wcut G.ws fr to) O.wide.own a7 (Nat.zero_le _) (by have:=Xo h.wide.ok T;omega) λV0 cM bL C a8=> ?_;have aU: ∀k,k<aC.heap.size-> ¬KP (G.cut fr to aJ).sw k:=λk hk e=>by have:=aQ k e;omega
   have bJ: ¬KP (G.cut fr to aJ).sw b:=by rintro⟨a,ha,e⟩;exact O.wide.apart a ha e.symm
   refine⟨C.cell (aA _ j) (aU _ bI),C.cell (y _ j) (aU _ aW),C.cell (y _ j) (aU _ aW),?_⟩;refine Lb (C.cell O.wide.c2 bJ) (by rw[C.frozen (p:=⟨b,2,none⟩) O.lt bJ];exact O.wide.f2) rfl λcN b0=> ?_;have a2:=fU O (q:=(fr,to,id)) ⟨by omega,T,by grind⟩ (λp hp=>by
    obtain⟨p',bZ,g1,g2,g3,g4⟩:=LO h.wide.ok T hp;exact g4) C bL a8 b0
   refine⟨_,(aB.trans (Gd.nothing aL j)).trans a2,rfl,λp=> ?_⟩;unfold MapG.own;show(match(if fr<=p/512/\p/512<to then none else G.lv (p/512))with|some q=>q.2 (p %512)|none=>wholeL (wcut G.ws fr to++[(fr,to,id)]) (p/512))=_;by_cases hin:fr<=p/512/\p/512<to
   .rw[if_pos hin,if_pos hin];show wholeL (wcut G.ws fr to++[(fr,to,id)]) (p/512)=id;rw[Om,wholeL,if_pos hin];rintro⟨p1,a0,g1,g2⟩;obtain⟨p',bZ,_,_,_,g4⟩:=LO h.wide.ok T a0;omega
   .rw[if_neg hin,if_neg hin];cases G.lv (p/512)with
    | some q=>rfl
    | none=>
     show wholeL (wcut G.ws fr to++[(fr,to,id)]) (p/512)=wholeL G.ws (p/512);rw[<-show wholeL (wcut G.ws fr to) (p/512)=wholeL G.ws (p/512)from by rw[LN T,if_neg hin]];by_cases hex: ∃p1∈wcut G.ws fr to,p1.1<=p/512/\p/512<p1.2.1
     .rw[U9 hex]
     .rw[Om hex,wholeL,if_neg hin,Xk λp1 a0 h2=>hex ⟨p1,a0,h2⟩];rfl
  .rw[pT T];omega
 rintro _ _ bO ⟨G1,d,aR,aI⟩;have aD:bO.cell? ⟨w2.heap.size,0,none⟩=some (.int .i64 id):=d.ext.cell (ci _ v) aV;have aE:bO.cell? ⟨w.heap.size,0,none⟩=some (.pointer (some ⟨b,0,none⟩)):=d.ext.cell (cm _ v) aY;have aN: ¬Ja b G1 w.heap.size:=d.pQ aY aW;have aM: ¬Ja b G1 w2.heap.size:=d.pQ aV bI;have aF: ∀c,x/512<=c->c<(x+n+511)/512->mem G.ks c:=λc h1 h2=>a5 c h1 (by omega);have aS:Gd E b w G aC G:=Gd.nothing h aG;refine AB (λcG=> ?_) (λhle=> ?_)
 .refine hE.pS _ _ _ _ _ _ ?_;rw[AM];refine NV d.rep a3 (by omega) aD aE aM aN λw' G' a1 aH Y=>⟨rfl,?_⟩;refine bG aO bM bK aF w' G' ((aS.trans d).trans a1) (aH.trans aR) λp=> ?_;rw[Y,aI];omega
 .refine hE.pS _ _ _ _ _ _ ?_;rw[AM];refine NV d.rep a3 (by omega) aD aE aM aN λcO G2 J bH aZ=>⟨rfl,?_⟩;refine hE.pS _ _ _ _ _ _ ?_;rw[AM (n:=to*512),AM (n:=x+n)];have b6:=d.ext.size;refine NV J.rep (by omega) (by omega) (J.ext.cell aD aM) (J.ext.cell aE aN) (J.pQ aM (by omega)) (J.pQ aN (by omega)) λw' G' a1 aH Y=>⟨rfl,?_⟩;refine bG aO bM bK aF w' G' (((aS.trans d).trans J).trans a1) (aH.trans (bH.trans aR)) λp=> ?_;rw[Y,aZ,aI];omega
end
def CY(E:Env)(b:Nat)(ks:Iv)(own:Int->Int):Pr where
 holds D w:= ∃G,Gu E w b G/\G.ks=ks/\(∀p,G.own p=own p)/\ ∀k,D k↔Ja b G k
 loc h he hS:=let⟨G,h1,h2,h3,h4⟩:=h;⟨G,h1.ext he λk hk=>hS k ((h4 k).2 hk),h2,h3,h4⟩
 lt h hk:=let⟨G,h1,_,_,h4⟩:=h;h1.Nw ((h4 _).1 hk)
section
variable{E:Env}{b:Nat}{ks:Iv}{own:Int->Int}{Z:List Pr}{w:World}
def Sat.dC(H:Sat (CY E b ks own::Z) w):
  ∃G,Gu E w b G/\G.ks=ks/\(∀p,G.own p=own p)/\ ∀w' G' j d,Gd E b w G w' G'->G'.ks=j->(∀p,G'.own p=d p)->Sat (CY E b j d::Z) w':=by
 obtain⟨D,⟨G,h1,h2,J,v⟩,hs⟩:=H.step;refine⟨G,h1,h2,J,λw' G' j d st y C=>hs w' (Ja b G') _ (st.ext.mono λi _ K=>(v i).2 K) ⟨G',st.rep,y,C,λ_=>Iff.rfl⟩ λk hk=> ?_⟩;rcases st.UX k hk with h|h
 .exact .inl ((v k).2 h)
 .exact .inr h
def Sat.pU(H:Sat (CY E b ks own::Z) w):Ok ks:=by
 obtain⟨G,h1,rfl,_⟩:=H.dC;exact h1.set.row.ok
def lB(H:Sat Z w){K:Option Addr->World->Prop}(v: ∀w' b,Sat (CY E b [] (λ_=>0)::Z) w'->K (some ⟨b,0,none⟩) w'):F.Lt E K w:=
 k9 λw' b G y he C j d=>v w' b (H.new (P:=CY E b [] λ_=>0) (D:=Ja b G) he ⟨G,y,j,d,λ_=>Iff.rfl⟩ C)
def pV(H:Sat (CY E b ks own::Z) w){x:Int}(h0:0<=x)(v:x<18446744073709551616){K:Int->World->Prop}(j: ∀w',Sat (CY E b ks own::Z) w'->K (own (x/8192)) w'):
  F.FV E (some ⟨b,0,none⟩) x K w:=by
 obtain⟨G,h1,h2,d,_⟩:=H.dC;refine u9 h1 h0 v λw' he=> ?_;rw[d];exact j w' (H.nothing he)
def fW{w':World}{G:MapG}(d:Gu E w b G){s5:AX}{J:Iv}(y:JW E w' b 0 s5 J)(j:NP b (Wv 0) w w')(O:TK w G.s s5):Gd E b w G w' (G.grow s5 J):=by
 have v: ∀k,KP s5 k->KP G.s k∨w.heap.size<=k:=by
  rintro k ⟨a,Y,rfl⟩;rcases O with e|e
  .rw[e]at Y;exact .inl ⟨a,Y,rfl⟩
  grind
 refine⟨?_,?_,?_⟩
 .have K: ¬Wv 0 2:=by unfold Wv;omega
  have T: ¬Wv 0 3:=by unfold Wv;omega
  have aA:=d.lt;refine⟨y,⟨by rw[j.C5 2 K];exact d.wide.c2,by rw[j.nP];exact d.wide.f2,d.wide.own.ext j.ext λg hg e=>d.wide.apart _ hg e,d.wide.ok,d.wide.apart⟩,by rw[j.C5 3 T];exact d.c3,?_,?_,d.inj,?_,?_⟩
  .obtain⟨es,cl,m,h1,h2⟩:=d.map;exact⟨es,cl,m,j.ext.obj h1 d.u7,h2⟩
  .intro k q hk i hi;obtain⟨g1,g2⟩:=d.leaf k q hk i hi;have K: ¬Jq b q.1:=(d.d2 k q hk).1;exact⟨j.ext.cell g1 K,by rw[j.ext.frozen (World.block_lt_of_cell? w _ g1) K];exact g2⟩
  .intro k hk C;rcases v k hk with e|e
   .exact d.d1 k e C
   .have:=(d.wide.own.GR C).2;omega
  .intro k q hk;obtain⟨g1,g2,g3⟩:=d.d2 k q hk;refine⟨g1,λe=> ?_,g3⟩;rcases v _ e with e|e
   .exact g2 e
   .have:=World.block_lt_of_cell? w _ (d.leaf k q hk 0 (by decide)).1
    grind
 .exact j.ext.mono λi _ e=>.inl e
 .rintro k (e|e|e|e|⟨c',q,e,e2⟩)
  .exact .inl (.inl e)
  .exact .inl (.inr (.inl e))
  .rcases v k e with e|e
   .exact .inl (.inr (.inr (.inl e)))
   omega
  .exact .inl (.inr (.inr (.inr (.inl e))))
  .exact .inl (.inr (.inr (.inr (.inr ⟨c',q,e,e2⟩))))
end
section
variable{E:Env}{b:Nat}{ks:Iv}{own:Int->Int}{Z:List Pr}{w:World}(hE:EnvA E)
include hE
theorem Xp(H:Sat (CY E b ks own::Z) w){x n id:Int}(C:0<=x)(hx:x<18446744073709551616)(j:0<=n)(hn:n<18446744073709551616){K:Int->World->Prop}
  (d:n≠0/\0<=id/\x+n<=34359738368/\ ∀p,x<=p->p<x+n->mem ks (p/512))(Y: ∀w',Sat (CY E b ks (λp=>if x<=p/\p<x+n then id else own p)::Z) w'->K 0 w'):
  F.Dr E (some ⟨b,0,none⟩) x n id K w:=by
 obtain⟨G,h1,h2,T,y⟩:=H.dC;obtain⟨g1,g2,g3,g4⟩:=d;have v: ¬(n=0∨id<0):=by omega
 refine fV hE h1 C hx j hn (λh=>absurd h v) (λ_ h=> ?_) λ_ _ _ _ w' G' st J O=>Y w' (y w' G' ks _ st (J.trans h2) λp=>by rw[O,T]);exfalso;rcases h with h|h|⟨c,c1,c2,c3⟩
 .omega
 .omega
 .refine c3 ?_;rw[h2];have:=g4 (max x (c*512)) (by omega) (by omega)
  grind
theorem fX(H:Sat (CY E b ks own::Z) w){a c:Int}(O:0<=a)(j:a<c)(T:c<=67108864){K:World->Prop}(J: ∀w',Sat (CY E b (Dl ks a c) own::Z) w'->K w'):
  F.E8 E (some ⟨b,0,none⟩) a c K w:=by
 obtain⟨G,h1,h2,C,v⟩:=H.dC;unfold F.E8 T0.E8;simp only[AG];have y:OB=4398046511104:=rfl;refine Kv hE.toEnvS h1.set O j (by omega) λw' s' d hu hf=>J w' (v w' (G.grow s' (Dl G.ks a c)) _ own (fW h1 d hu hf) (by rw[h2];rfl) λp=>C p)
end
end Go.Sh

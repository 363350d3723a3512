/- The map of arenas does what its chunks and owners say. No further condition. -/
import Derived.Test.YtcjamkpfbpfeoaaGreatDoorS
import Derived.Test.YtcjamkpfbpfeoaaGreatDoorM
import Derived.Test.YtcjamkpfbpfeoaaGreatDoorA
set_option linter.all false
namespace Go.Sh
abbrev Wd:=List (Int×Int×Int)
def flat3:Wd->List Value
 | []=>[]
 | p::r=>.int .u64 p.1:: .int .u64 p.2.1:: .int .i64 p.2.2::flat3 r
theorem K6: ∀l:Wd,(flat3 l).length=l.length*3
 | []=>rfl
 | p::r=>by simp[flat3,K6 r];omega
theorem Nw: ∀l m:Wd,flat3 (l++m)=flat3 l++flat3 m
 | [],_=>rfl
 | p::r,m=>by simp[flat3,Nw r m]
theorem Sn: ∀(l:Wd) (i:Nat) (p:Int×Int×Int),l[i]? =some p->
  (flat3 l)[i*3]? =some (.int .u64 p.1)/\(flat3 l)[i*3+1]? =some (.int .u64 p.2.1)/\(flat3 l)[i*3+2]? =some (.int .i64 p.2.2)
 | [],i,p,h=>by simp at h
 | q::r,0,p,h=>by simp at h;subst h;simp[flat3]
 | q::r,i+1,p,h=>by
  have:=Sn r i p (by simpa using h);rw[show(i+1)*3=i*3+1+1+1 from by omega];simpa[flat3]using this
def wholeL:Wd->Int->Int
 | [],_=>0
 | p::r,c=>if p.1<=c/\c<p.2.1 then p.2.2 else wholeL r c
def I6(p:Int×Int×Int)(a b:Int):Wd:=
 if p.2.1<=a∨b<=p.1 then [p]else(if p.1<a then [(p.1,a,p.2.2)]else [])++(if b<p.2.1 then [(b,p.2.1,p.2.2)]else [])
def wcut:Wd->Int->Int->Wd
 | [],_,_=>[]
 | p::r,a,b=>I6 p a b++wcut r a b
theorem So{l m:Wd}{c:Int}(h: ∃p∈l,p.1<=c/\c<p.2.1):wholeL (l++m) c=wholeL l c:=by
 induction l with
 | nil=>obtain⟨p,hp,_⟩:=h;cases hp
 | cons p r ih=>
  simp only[List.cons_append,wholeL];by_cases h1:p.1<=c/\c<p.2.1
  ·rw[if_pos h1,if_pos h1]
  ·rw[if_neg h1,if_neg h1];obtain⟨q,d,j⟩:=h;rcases List.mem_cons.1 d with rfl|d
   ·exact absurd j h1
   ·exact ih ⟨q,d,j⟩
theorem M9{l m:Wd}{c:Int}(h: ¬ ∃p∈l,p.1<=c/\c<p.2.1):wholeL (l++m) c=wholeL m c:=by
 induction l with
 | nil=>rfl
 | cons p r ih=>
  simp only[List.cons_append,wholeL];rw[if_neg fun h1=>h ⟨p,List.mem_cons_self,h1⟩];exact ih fun⟨q,hq,h2⟩=>h ⟨q,List.mem_cons_of_mem _ hq,h2⟩
theorem VX{l:Wd}{c:Int}(h: ∀p∈l,¬(p.1<=c/\c<p.2.1)):wholeL l c=0:=by
 induction l with
 | nil=>rfl
 | cons p r ih=>rw[wholeL,if_neg (h p (by simp)),ih fun q d=>h q (by simp[d])]
theorem Nx{p:Int×Int×Int}{a b c:Int}(v:a<b):
  (∃q∈I6 p a b,q.1<=c/\c<q.2.1)↔(p.1<=c/\c<p.2.1)/\ ¬(a<=c/\c<b):=by
 unfold I6;split
 ·rename_i h;simp only[List.mem_singleton,exists_eq_left];omega
 ·rename_i h;simp only[List.mem_append];constructor
  ·rintro⟨q,d|d,h1,j⟩
   ·split at d
    ·simp at d;subst d;simp only at h1 j;omega
    ·cases d
   ·split at d
    ·simp at d;subst d;simp only at h1 j;omega
    ·cases d
  ·rintro⟨⟨h1,j⟩,y⟩;by_cases h4:c<a
   ·exact⟨(p.1,a,p.2.2),.inl (by rw[if_pos (by omega)];simp),h1,h4⟩
   ·exact⟨(b,p.2.1,p.2.2),.inr (by rw[if_pos (by omega)];simp),by simp only;omega,j⟩
theorem Pm{p:Int×Int×Int}{a b c:Int}(h: ∃q∈I6 p a b,q.1<=c/\c<q.2.1):wholeL (I6 p a b) c=p.2.2:=by
 have We: ∀q∈I6 p a b,q.2.2=p.2.2:=by
  intro q d;unfold I6 at d;split at d
  ·simp at d;subst d;rfl
  ·rcases List.mem_append.1 d with d|d<;>split at d<;>simp at d<;>subst d<;>rfl
 have key: ∀l:Wd,(∀q∈l,q.2.2=p.2.2)->(∃q∈l,q.1<=c/\c<q.2.1)->wholeL l c=p.2.2:=by
  intro l
  induction l with
  | nil=>rintro _ ⟨q,d,_⟩;cases d
  | cons q r ih=>
   intro h1 y;rw[wholeL];split
   ·exact h1 q (by simp)
   ·rename_i hn;obtain⟨C,j,v⟩:=y;rcases List.mem_cons.1 j with rfl|j
    ·exact absurd v hn
    ·exact ih (fun x J=>h1 x (by simp[J])) ⟨C,j,v⟩
 exact key _ We h
theorem KB{l:Wd}{a b:Int}(j:a<b)(c:Int):wholeL (wcut l a b) c=if a<=c/\c<b then 0 else wholeL l c:=by
 induction l with
 | nil=>simp[wcut,wholeL]
 | cons p r ih=>
  rw[wcut];by_cases h1:(p.1<=c/\c<p.2.1)/\ ¬(a<=c/\c<b)
  ·have d:=(Nx j).2 h1;rw[So d,if_neg h1.2,wholeL,if_pos h1.1];exact Pm d
  ·rw[M9 fun d=>h1 ((Nx j).1 d),ih];split
   ·rfl
   ·rename_i d;rw[wholeL,if_neg fun v=>h1 ⟨v,d⟩]
def Yr(l:Wd):Prop:=(∀p∈l,0<=p.1/\p.1<p.2.1/\p.2.1<=67108864)/\l.Pairwise fun p q=>p.2.1<=q.1∨q.2.1<=p.1
theorem Ny{p q:Int×Int×Int}{a b:Int}(hp:p.1<p.2.1)(d:a<b)(h:q∈I6 p a b):p.1<=q.1/\q.1<q.2.1/\q.2.1<=p.2.1/\(q.2.1<=a∨b<=q.1):=by
 unfold I6 at h;split at h
 ·simp at h;subst h;omega
 ·rcases List.mem_append.1 h with h|h<;>split at h<;>simp at h<;>subst h<;>simp only<;>omega
theorem KC{l:Wd}{q:Int×Int×Int}{a b:Int}(d:Yr l)(v:a<b)(h:q∈wcut l a b): ∃p∈l,p.1<=q.1/\q.1<q.2.1/\q.2.1<=p.2.1/\(q.2.1<=a∨b<=q.1):=by
 induction l with
 | nil=>cases h
 | cons p r ih=>
  rcases List.mem_append.1 h with h|h
  ·exact⟨p,by simp,Ny (d.1 p (by simp)).2.1 v h⟩
  ·obtain⟨C,j,J⟩:=ih ⟨fun x y=>d.1 x (by simp[y]),(List.pairwise_cons.1 d.2).2⟩ h;exact⟨C,by simp[j],J⟩
theorem VY{l:Wd}{a b:Int}(h:Yr l)(d:a<b):Yr (wcut l a b):=by
 refine⟨fun q j=> ?_,?_⟩
 ·obtain⟨p,hp,h1⟩:=KC h d j;have:=h.1 p hp;omega
 ·induction l with
  | nil=>exact List.Pairwise.nil
  | cons p r ih=>
   have C:Yr r:=⟨fun x K=>h.1 x (by simp[K]),(List.pairwise_cons.1 h.2).2⟩;rw[wcut,List.pairwise_append];refine⟨?_,ih C,fun q j T y=> ?_⟩
   ·unfold I6;split
    ·simp
    ·split<;>split<;>simp;omega
   ·have h1:=Ny (h.1 p (by simp)).2.1 d j;obtain⟨J,v,O⟩:=KC C d y;have:=(List.pairwise_cons.1 h.2).1 J v;omega
theorem VZ: ∀(n:Nat) (l:List Int),l.Nodup->(∀x∈l,0<=x/\x<n)->l.length<=n
 | 0,[],_,_=>Nat.le_refl _
 | 0,x::r,_,h=>by have:=h x (by simp);omega
 | n+1,l,hn,h=>by
  have h1:(l.erase (n:Int)).length<=n:=VZ n _ (hn.erase _) fun x j=>by
   have d:=(List.Nodup.mem_erase_iff hn).1 j;have:=h x d.2;have:=d.1;omega
  have:=List.length_erase_of_mem (a:=(n:Int)) (l:=l);by_cases hm:(n:Int)∈l
  ·have:=this hm;omega
  ·rw[List.erase_of_not_mem hm]at h1;omega
theorem Yr.len{l:Wd}(h:Yr l):l.length<=67108864:=by
 have h1:=VZ 67108864 (l.map (·.1)) ?_ ?_
 ·simpa using h1
 ·have v:=h.1;have y:=h.2;clear h
  induction l with
  | nil=>simp
  | cons p r ih=>
   rw[List.map_cons,List.nodup_cons];refine⟨fun hm=> ?_,ih (fun x j=>v x (by simp[j])) (List.pairwise_cons.1 y).2⟩;obtain⟨q,d,he⟩:=List.mem_map.1 hm;have C:=(List.pairwise_cons.1 y).1 q d;have J:=v p (by simp);have K:=v q (by simp[d]);omega
 ·intro x j;obtain⟨q,d,rfl⟩:=List.mem_map.1 j;have:=h.1 q d;omega
theorem Q3{l m:Wd}:Yr (l++m)↔Yr l/\Yr m/\ ∀p∈l,∀q∈m,p.2.1<=q.1∨q.2.1<=p.1:=by
 simp only[Yr,List.pairwise_append,List.mem_append];constructor
 ·rintro⟨h1,v,j,d⟩;exact⟨⟨fun p hp=>h1 p (.inl hp),v⟩,⟨fun p hp=>h1 p (.inr hp),j⟩,d⟩
 ·rintro⟨⟨h1,v⟩,⟨j,d⟩,y⟩;exact⟨fun p hp=>hp.elim (h1 p) (j p),v,d,y⟩
theorem Va(l m:Wd)(a b:Int):wcut (l++m) a b=wcut l a b++wcut m a b:=by
 induction l with
 | nil=>rfl
 | cons p r ih=>simp[wcut,ih]
structure WideAt(E:Env)(w:World)(b:Nat)(s:AZ)(ws:Wd):Prop where
 c2:w.cell? ⟨b,2,none⟩=some (.slice s.base s.len s.cap)
 f2:w.frozen? ⟨b,2,none⟩=false
 own:Hp w 0 E.BL 3 s (flat3 ws)
 ok:Yr ws
 apart: ∀a,s.base=some a->a.block≠b
theorem WideAt.len{E:Env}{w:World}{b:Nat}{s:AZ}{ws:Wd}(h:WideAt E w b s ws):s.len=ws.length:=by
 have:=h.own.len;rw[K6]at this;omega
theorem WideAt.lt{E:Env}{w:World}{b:Nat}{s:AZ}{ws:Wd}(h:WideAt E w b s ws):b<w.heap.size:=World.block_lt_of_cell? w _ h.c2
theorem WideAt.ext{E:Env}{w w':World}{b:Nat}{s:AZ}{ws:Wd}{S:Nat->Prop}(h:WideAt E w b s ws)(he:Ext S w w')(hp: ¬S b)(hs: ∀a,s.base=some a-> ¬S a.block):WideAt E w' b s ws:=
 ⟨he.cell h.c2 hp,by rw[he.frozen (p:=⟨b,2,none⟩) h.lt hp];exact h.f2,h.own.ext he fun g d=>hs _ d,h.ok,h.apart⟩
theorem WideAt.cells{E:Env}{w:World}{b:Nat}{s:AZ}{ws:Wd}(h:WideAt E w b s ws){i:Nat}{q:Int×Int×Int}(hi:ws[i]? =some q):
  ∃r,s.base=some ⟨r,0,none⟩/\w.cell? ⟨r,i*3,none⟩=some (.int .u64 q.1)/\w.cell? ⟨r,i*3+1,none⟩=some (.int .u64 q.2.1)/\w.cell? ⟨r,i*3+2,none⟩=some (.int .i64 q.2.2):=by
 have d:=h.own.rowAt;obtain⟨j,v,y⟩:=Sn ws i q hi;rcases h.own.row with ⟨h1,C⟩|⟨b,cs,h1,_⟩
 ·rw[h1]at d;have:flat3 ws=[]:=d;rw[this]at j;simp at j
 ·rw[h1]at d;refine⟨b,h1,?_,?_,?_⟩
  ·have:=d.2 _ _ j;rwa[add_eq,Nat.zero_add]at this
  ·have:=d.2 _ _ v;rwa[add_eq,Nat.zero_add]at this
  ·have:=d.2 _ _ y;rwa[add_eq,Nat.zero_add]at this
theorem Q4{E:Env}{w:World}{b:Nat}{s:AZ}{ws:Wd}(h:WideAt E w b s ws){c:Int}{K:Int->World->Prop}(hK: ∀w',Ext AN w w'->K (wholeL ws c) w'):
  F.Fk E (some ⟨b,0,none⟩) c K w:=by
 unfold F.Fk;simp only[AI,add_eq,Nat.zero_add];have hlen:=h.len;have hsm:=h.ok.len;refine⟨s,h.c2,AK (fun st w'=> ∃k:Nat,st.1=(k:Int)/\k<=ws.length/\wholeL ws c=wholeL (ws.drop k) c/\Ext AN w w') (fun st _=>(ws.length-st.1).toNat) ⟨0,rfl,Nat.zero_le _,rfl,Ext.refl _ _⟩ ?_⟩;rintro⟨i,u⟩ _ w4 ⟨k,hk,aT,y,j⟩;simp only at hk⊢;subst hk;have h4:=h.ext j (fun f=>f) fun _ _ f=>f;refine AD (fun aM=> ?_) (fun aL=> ?_)
 ·have hl:k<ws.length:=by omega
  have hg:=List.getElem?_eq_getElem hl;obtain⟨r,hr,aC,aB,aF⟩:=h4.cells hg;rw[hr];simp only[AI,add_eq,Nat.zero_add,Int.toNat_natCast,Nat.add_zero];refine⟨⟨by omega,by omega⟩,_,aC,_,aB,_,aF,BK fun aO aA aE Y=> ?_⟩;refine HZ _ _ _ _ _ _ _ aA (by simp) (by intro v hv;simp at hv;rcases hv with rfl|rfl|rfl<;>rfl) fun T O aD d=> ?_;simp at d;have C:Ext AN w T:=(j.trans' Y).trans O (fun _ _ f=>f) fun i hi e=>by have:i=w4.heap.size:=e;have:=j.size;omega
  refine AX (fun st w'=>w'=T/\(st.1=true↔ws[k].1<=c/\c<ws[k].2.1)) ?_ ?_
  ·refine⟨ws[k].1,by rw[AS d];rfl,AD (fun h1=> ?_) (fun h1=> ?_)⟩
   ·refine⟨ws[k].2.1,by rw[AS d];rfl,rfl,?_⟩;simp only[decide_eq_true_iff];omega
   ·refine⟨rfl,?_⟩;simp only[Bool.false_eq_true,false_iff];omega
  ·rintro⟨bt,u⟩ _ aV ⟨rfl,J⟩;simp only at J⊢;have hd:=Qc hg;refine AQ (fun ht=> ?_) (fun hf=> ?_)
   ·refine⟨ws[k].2.2,by rw[AS d];rfl,?_⟩;have:wholeL ws c=ws[k].2.2:=by rw[y,hd,wholeL,if_pos (J.1 ht)]
    rw[<-this];exact hK _ C
   ·have hn: ¬(ws[k].1<=c/\c<ws[k].2.1):=fun h=>by rw[J.2 h]at hf;cases hf
    refine⟨⟨k+1,by rw[AH];omega,by omega,by rw[y,hd,wholeL,if_neg hn],C⟩,by rw[AH];omega⟩
 ·have:ws.drop k=[]:=List.drop_eq_nil_of_le (by omega);rw[this]at y;have:wholeL ws c=0:=y;rw[<-this];exact hK _ j
end Go.Sh
set_option linter.all false
namespace Go.Sh
theorem Nz{E:Env}{w:World}{B g:Nat}{s:AZ}{m:Wd}{q:Int×Int×Int}{K:AZ->World->Prop}(d:Hp w B E.BL 3 s (flat3 m))
  (y:w.heap[g]? =some (.cells ⟨[.int .u64 q.1,.int .u64 q.2.1,.int .i64 q.2.2]⟩ E.BL))(T:B<=w.heap.size)(hm:m.length<=67108865)
  (J: ∀s' w',Hp w' B E.BL 3 s' (flat3 (m++[q]))->Ext (I4 s) w w'->(s'.base=s.base∨ ∃b,s'.base=some ⟨b,0,none⟩/\w.heap.size<=b)->K s' w'):
  APP E.BL 3 24 #[.int .u64 0,.int .u64 0,.int .i64 0] s ⟨some ⟨g,0,none⟩,1,1⟩ w K:=by
 have O:=d.len;rw[K6]at O;refine NV (news:=[.int .u64 q.1,.int .u64 q.2.1,.int .i64 q.2.2]) rfl d (L1 y rfl) rfl (by intro v j;simp at j;rcases j with rfl|rfl|rfl<;>rfl) T (by simp only;omega) (by simp only;omega) ?_;intro s' w' ho Y he C;refine J s' w' ?_ he C;rw[Nw];exact ho
theorem Vb{l:Wd}{a b:Int}(h:Yr l)(d:a<b):(wcut l a b).length<=67108864:=(VY h d).len
theorem Zx{l:Wd}(h:Yr l)(k:Nat):Yr (l.take k):=by
 have h1:=h;rw[<-List.take_append_drop k l,Q3]at h1;exact h1.1
end Go.Sh
set_option linter.all false
namespace Go.Sh
structure MapG where
 s:AZ
 ks:Iv
 sw:AZ
 ws:Wd
 mb:Nat
 lv:Int->Option (Nat×(Int->Int))
structure GI(E:Env)(w:World)(b:Nat)(G:MapG):Prop where
 set:IT E w b 0 G.s G.ks
 wide:WideAt E w b G.sw G.ws
 c3:w.cell? ⟨b,3,none⟩=some (.map (some G.mb))
 map: ∃es c m,w.heap[G.mb]? =some (.map es c)/\MapI .u64 es c m/\ ∀k,aget m k=(G.lv k).map fun q=>.pointer (some ⟨q.1,0,none⟩)
 leaf: ∀k q,G.lv k=some q-> ∀i:Nat,i<512->w.cell? ⟨q.1,i,none⟩=some (.int .i64 (q.2 i))/\w.frozen? ⟨q.1,i,none⟩=false
 inj: ∀k k' q q',G.lv k=some q->G.lv k'=some q'->q.1=q'.1->k=k'
 d1: ∀k,I4 G.s k-> ¬I4 G.sw k
 d2: ∀k q,G.lv k=some q->q.1≠b/\ ¬I4 G.s q.1/\ ¬I4 G.sw q.1
section
variable{E:Env}{w w':World}{b:Nat}{G:MapG}
theorem GI.lt(h:GI E w b G):b<w.heap.size:=h.wide.lt
theorem GI.vR(h:GI E w b G):G.mb≠b:=by
 rintro e;obtain⟨es,c,m,h1,_⟩:=h.map;rw[e]at h1;exact Nn h1 h.c3
theorem GI.ms(h:GI E w b G): ¬I4 G.s G.mb:=by
 obtain⟨es,c,m,h1,_⟩:=h.map;exact h.set.row.own.Tf h1
theorem GI.mw(h:GI E w b G): ¬I4 G.sw G.mb:=by
 obtain⟨es,c,m,h1,_⟩:=h.map;exact h.wide.own.Tf h1
theorem GI.ml(h:GI E w b G){k:Int}{q:Nat×(Int->Int)}(d:G.lv k=some q):q.1≠G.mb:=by
 rintro e;obtain⟨es,c,m,h1,_⟩:=h.map;rw[<-e]at h1;exact Nn h1 (h.leaf k q d 0 (by decide)).1
theorem GI.mlt(h:GI E w b G):G.mb<w.heap.size:=by
 obtain⟨es,c,m,h1,_⟩:=h.map;exact FU h1
def IV(b:Nat)(G:MapG)(k:Nat):Prop:=k=b∨k=G.mb∨I4 G.s k∨I4 G.sw k∨ ∃c q,G.lv c=some q/\k=q.1
theorem GI.MY(h:GI E w b G){k:Nat}(d:IV b G k):k<w.heap.size:=by
 rcases d with rfl|rfl|d|d|⟨c,q,d,rfl⟩
 ·exact h.lt
 ·exact h.mlt
 ·exact(h.set.row.own.Wu d).2
 ·exact(h.wide.own.Wu d).2
 ·exact World.block_lt_of_cell? w _ (h.leaf c q d 0 (by decide)).1
theorem GI.ext{S:Nat->Prop}(h:GI E w b G)(he:Ext S w w')(d: ∀k,IV b G k-> ¬S k):GI E w' b G:=by
 have y: ¬S b:=d b (.inl rfl);refine⟨h.set.ext he y fun a j=>d _ (.inr (.inr (.inl ⟨a,j,rfl⟩))),h.wide.ext he y fun a j=>d _ (.inr (.inr (.inr (.inl ⟨a,j,rfl⟩)))),he.cell h.c3 y,?_,?_,h.inj,h.d1,h.d2⟩
 ·obtain⟨es,c,m,h1,v⟩:=h.map;exact⟨es,c,m,he.obj h1 (d _ (.inr (.inl rfl))),v⟩
 ·intro k q J i hi;obtain⟨h1,v⟩:=h.leaf k q J i hi;have C: ¬S q.1:=d _ (.inr (.inr (.inr (.inr ⟨k,q,J,rfl⟩))));exact⟨he.cell h1 C,by rw[he.frozen (World.block_lt_of_cell? w _ h1) C];exact v⟩
theorem GI.E0(h:GI E w b G)(he:Ext AN w w'):GI E w' b G:=h.ext he fun _ _ f=>f
end
def MapG.cut(G:MapG)(a c:Int)(sw:AZ):MapG:={G with sw:=sw,ws:=wcut G.ws a c,lv:=fun k=>if a<=k/\k<c then none else G.lv k}
theorem Sp{E:Env}{w:World}{b:Nat}{G:MapG}(h:GI E w b G){a c:Int}(ha:0<=a)(bI:a<c)(hc:c<=67108864){K:World->Prop}
  (hK: ∀w' b0,GI E w' b (G.cut a c b0)->Ext (fun k=>k=b∨k=G.mb) w w'->(∀k,I4 b0 k->w.heap.size<=k)->K w'):
  F.Gg E (some ⟨b,0,none⟩) a c K w:=by
 unfold F.Gg;simp only[AI,add_eq,Nat.zero_add];have hlen:=h.wide.len;have hsm:=h.wide.ok.len;have cV:=h.lt;refine⟨G.sw,h.wide.c2,AK (fun st w'=> ∃k:Nat,st.2.1=(k:Int)/\k<=G.ws.length/\Hp w' w.heap.size E.BL 3 st.1 (flat3 (wcut (G.ws.take k) a c))/\Ext AN w w')
  (fun st _=>(G.ws.length-st.2.1).toNat) ⟨0,rfl,Nat.zero_le _,Hp.nil _ _ _ _,Ext.refl _ _⟩ ?_⟩
 rintro⟨s3,i,u⟩ _ w4 ⟨k,hk,O,J,aT⟩;simp only at hk J⊢;subst hk;refine AD (fun cC=> ?_) (fun b8=> ?_)
 ·have hl:k<G.ws.length:=by omega
  have hg:=List.getElem?_eq_getElem hl;have h4:=h.E0 aT;obtain⟨r,hr,bT,bR,b1⟩:=h4.wide.cells hg;generalize hq:G.ws[k]=q at hg bT bR b1;have b9:q∈G.ws:=List.mem_of_getElem? hg;have c9:=h.wide.ok.1 q b9;have a4:G.ws.take (k+1)=G.ws.take k++[q]:=Iu hg;have aI:wcut (G.ws.take (k+1)) a c=wcut (G.ws.take k) a c++I6 q a c:=by rw[a4,Va];simp[wcut]
  have cY:(wcut (G.ws.take k) a c).length<=67108864:=Vb (Zx h.wide.ok k) bI;rw[hr];simp only[AI,add_eq,Nat.zero_add,Int.toNat_natCast,Nat.add_zero];refine⟨⟨by omega,by omega⟩,_,bT,_,bR,_,b1,BK fun dG bK cF a1=> ?_⟩;refine HZ _ _ _ _ _ _ _ bK (by simp) (by intro v hv;simp at hv;rcases hv with rfl|rfl|rfl<;>rfl) fun bA aZ cO y=> ?_;simp at y;have aF:Ext AN w bA:=(aT.trans' a1).trans aZ (fun _ _ f=>f) fun i hi e=>by have:i=w4.heap.size:=e;have:=aT.size;omega
  have C:Hp bA w.heap.size E.BL 3 s3 (flat3 (wcut (G.ws.take k) a c)):=(J.ext a1 fun _ _ f=>f).ext aZ fun g aG e=>by
   have:=J.lt aG;have:g=w4.heap.size:=e;simp only at *;omega
  have a9: ∀g,s3.base=some ⟨g,0,none⟩->g≠w4.heap.size:=fun g aG e=>by have:=J.lt aG;simp only at *;omega
  refine AX (fun st w'=>w'=bA/\(st.1=true↔q.2.1<=a∨c<=q.1)) ?_ ?_
  ·refine⟨q.2.1,by rw[AS y];rfl,AD (fun h1=> ?_) (fun h1=> ?_)⟩
   ·refine⟨rfl,?_⟩;simp;omega
   ·refine⟨q.1,by rw[AS y];rfl,rfl,?_⟩;simp;omega
  ·rintro⟨bt,u⟩ _ dE ⟨rfl,a7⟩;simp only at a7⊢;refine AQ (fun ht=> ?_) (fun hf=> ?_)
   ·have b6:=a7.1 ht;refine⟨q.1,by rw[AS y];rfl,q.2.1,by rw[AS y];rfl,q.2.2,by rw[AS y];rfl,BK fun c1 b3 cE aN=> ?_⟩;refine Nz (C.ext aN fun _ _ f=>f) b3 (by have:=aF.size;omega) (by omega) fun c4 dI bF bQ aQ=> ?_;have bU:=GZ (aF.trans' aN) (C.ext aN fun _ _ f=>f) (Nat.le_refl _) bQ;have h1:I6 q a c=[q]:=by
     unfold I6;rw[if_pos (by omega)]
    refine⟨⟨k+1,by rw[AH];omega,by omega,by rw[aI,h1];exact bF,bU⟩,by rw[AH];omega⟩
   ·have cZ: ¬(q.2.1<=a∨c<=q.1):=fun h=>by rw[a7.2 h]at hf;cases hf
    refine AX (fun st w'=>Hp w' w.heap.size E.BL 3 st.1 (flat3 (wcut (G.ws.take k) a c++if q.1<a then [(q.1,a,q.2.2)]else []))/\Ext AN w w'/\
      w'.heap[w4.heap.size]? =some (.cells #[.int .u64 q.1,.int .u64 q.2.1,.int .i64 q.2.2] E.BL)/\w4.heap.size<w'.heap.size/\ ∀g,st.1.base=some ⟨g,0,none⟩->g≠w4.heap.size) ?_ ?_
    ·refine⟨q.1,by rw[AS y];rfl,AD (fun h1=> ?_) (fun h1=> ?_)⟩
     ·refine⟨q.1,by rw[AS y];rfl,q.2.2,by rw[AS y];rfl,BK fun c5 b4 cG aK=> ?_⟩;refine Nz (q:=(q.1,a,q.2.2)) (C.ext aK fun _ _ f=>f) b4 (by have:=aF.size;omega) (by omega) fun c0 dK bH aV aQ=> ?_;have bP:=GZ (aF.trans' aK) (C.ext aK fun _ _ f=>f) (Nat.le_refl _) aV;refine⟨by rw[if_pos h1];exact bH,bP,aV.obj (aK.obj y fun f=>f) ?_,by have:=aV.size;omega,?_⟩
      ·rintro⟨a',aC,cJ⟩;have:=C.lt aC;exact a9 a'.block (by rw[aC];cases a';simp_all) cJ.symm
      ·intro g aG e;rcases aQ with aQ|⟨b',cM,hle⟩
       ·rw[aQ]at aG;exact a9 g aG e
       ·rw[cM]at aG;cases aG;omega
     ·refine⟨by rw[if_neg h1,List.append_nil];exact C,aF,y,by omega,a9⟩
    ·rintro⟨dM,u⟩ _ dA ⟨aJ,aW,aU,cH,bO⟩;simp only at aJ bO⊢;refine⟨q.2.1,by rw[AS aU];rfl,AD (fun h1=> ?_) (fun h1=> ?_)⟩
     ·refine⟨q.2.1,by rw[AS aU];rfl,q.2.2,by rw[AS aU];rfl,BK fun c7 b2 cQ aM=> ?_⟩;refine Nz (q:=(c,q.2.1,q.2.2)) (aJ.ext aM fun _ _ f=>f) b2 (by have:=aW.size;omega) (by split<;>simp<;>omega) fun dF c6 bL bW aQ=> ?_;have bX:=GZ (aW.trans' aM) (aJ.ext aM fun _ _ f=>f) (Nat.le_refl _) bW;have h2:I6 q a c=(if q.1<a then [(q.1,a,q.2.2)]else [])++[(c,q.2.1,q.2.2)]:=by
       unfold I6;rw[if_neg (by omega),if_pos (show c<q.2.1 from h1)]
      refine⟨⟨k+1,by rw[AH];omega,by omega,by rw[aI,h2,<-List.append_assoc];exact bL,bX⟩,by rw[AH];omega⟩
     ·have h2:I6 q a c=(if q.1<a then [(q.1,a,q.2.2)]else []):=by
       unfold I6;rw[if_neg (by omega),if_neg (show ¬c<q.2.1 from h1),List.append_nil]
      refine⟨⟨k+1,by rw[AH];omega,by omega,by rw[aI,h2];exact aJ,aW⟩,by rw[AH];omega⟩
 ·have a4:G.ws.take k=G.ws:=List.take_of_length_le (by omega);rw[a4]at J;have h4:=h.E0 aT;refine JZ h4.wide.c2 h4.wide.f2 rfl fun aA aE=> ?_;have hu:L0 b (fun j=>j=2) w4 aA:=L0.HI aE rfl;have bV:IT E aA b 0 G.s G.ks:=h4.set.IF hu (by decide) (by decide);have aS: ∀k,I4 s3 k->w.heap.size<=k:=fun k hk=>(J.Wu hk).1;have bB:WideAt E aA b s3 (wcut G.ws a c):=by
   refine⟨aE.same,by rw[aE.frozen];exact h4.wide.f2,(J.ext aE.ext fun g hg e=> ?_).lower (Nat.zero_le _),VY h.wide.ok bI,fun a' aC e=> ?_⟩
   ·have:=J.lt hg;have:g=b:=e;simp only at *;omega
   ·have:=(J.lt aC).1;omega
  have aP:aA.cell? ⟨b,3,none⟩=some (.map (some G.mb)):=by rw[aE.other _ (by intro e;injection e with _ e;omega)];exact h4.c3
  obtain⟨es,cl,m,bS,bG,b7⟩:=h4.map;have T:aA.heap[G.mb]? =some (.map es cl):=aE.ext.obj bS h.vR;have a0:Ext (Ix b) w aA:=(aT.any).trans' aE.ext;have bD: ∀k q,G.lv k=some q-> ∀i:Nat,i<512->aA.cell? ⟨q.1,i,none⟩=some (.int .i64 (q.2 i))/\aA.frozen? ⟨q.1,i,none⟩=false:=by
   intro k q hk i hi;obtain⟨h1,h2⟩:=h4.leaf k q hk i hi;have hn: ¬Ix b q.1:=(h.d2 k q hk).1;exact⟨aE.ext.cell h1 hn,by rw[aE.ext.frozen (World.block_lt_of_cell? w4 _ h1) hn];exact h2⟩
  have fin: ∀w' Y m',Ext (fun k=>k=G.mb∨w.heap.size<=k/\ ¬I4 s3 k) aA w'->w'.heap[G.mb]? =some (.map Y cl)->MapI .u64 Y cl m'->(∀k,aget m' k=if a<=k/\k<c then none else aget m k)->K w':=by
   intro w' Y m' d aL aD aB;have a8: ¬(b=G.mb∨w.heap.size<=b/\ ¬I4 s3 b):=by
    rintro(e|⟨e,_⟩)
    ·exact h.vR e.symm
    ·omega
   refine hK w' s3 ⟨?_,?_,d.cell aP a8,⟨Y,cl,m',aL,aD,?_⟩,?_,?_,?_,?_⟩ ?_ aS
   ·refine bV.ext d a8 fun a' aC=> ?_;have:=(h.set.row.own.lt aC);rintro(e|⟨e,_⟩)
    ·exact h.ms ⟨a',aC,e.symm⟩
    ·omega
   ·refine bB.ext d a8 fun a' aC=> ?_;have:=J.lt aC;rintro(e|⟨_,e⟩)
    ·have:=h.mlt;omega
    ·exact e ⟨a',aC,rfl⟩
   ·intro k;rw[aB,b7];show _=Option.map _ (if a<=k/\k<c then none else G.lv k);split<;>simp
   ·intro k q hk i hi;have O:(if a<=k/\k<c then none else G.lv k)=some q:=hk;split at O
    ·cases O
    ·obtain⟨h1,h2⟩:=bD k q O i hi;have hq:=World.block_lt_of_cell? w _ (h.leaf k q O i hi).1;have hn: ¬(q.1=G.mb∨w.heap.size<=q.1/\ ¬I4 s3 q.1):=by
      rintro(e|⟨e,_⟩)
      ·exact h.ml O e
      ·simp only at hq;omega
     exact⟨d.cell h1 hn,by rw[d.frozen (World.block_lt_of_cell? aA _ h1) hn];exact h2⟩
   ·intro k k' q q' hk a5 e;have O:(if a<=k/\k<c then none else G.lv k)=some q:=hk;have aR:(if a<=k'/\k'<c then none else G.lv k')=some q':=a5;split at O
    ·cases O
    ·split at aR
     ·cases aR
     ·exact h.inj k k' q q' O aR e
   ·intro k hk a5;have:=aS k a5;have:=(h.set.row.own.Wu hk).2;omega
   ·intro k q hk;have O:(if a<=k/\k<c then none else G.lv k)=some q:=hk;split at O
    ·cases O
    ·obtain⟨g1,g2,g3⟩:=h.d2 k q O;refine⟨g1,g2,fun g=> ?_⟩;have:=aS _ g;have:=World.block_lt_of_cell? w _ (h.leaf k q O 0 (by decide)).1;simp only at this;omega
   ·refine a0.trans d (fun i _ e=>.inl e) fun i hi e=> ?_;rcases e with e|⟨e,_⟩
    ·exact .inr e
    ·omega
  refine⟨some G.mb,aP,es,⟨cl,T⟩,AQ (fun _=> ?_) (fun _=> ?_)⟩
  ·refine⟨some G.mb,aP,cl,⟨es,T⟩,BK fun dD bM cK aO=> ?_⟩;have a6:=aO.obj T fun f=>f;have cL:=FU T;refine range_del (K:=K) (m0:=m) (m1:=m) (es0:=es) (seen0:= #[]) (mb:=G.mb) (since:=cl) (a:=a) (b:=c) (getm:=fun K' w=> ∃bY:(Option Nat),w.cell? ⟨b,3,none⟩=some (.map bY)/\K' bY w) (fun w' K' he hk=>⟨some G.mb,?_,hk⟩)
    ⟨⟨cl,bM,.inl rfl⟩,a6,bG,fun _ _=>rfl,fun _ _ h=>h,by simp⟩ (by omega) (by omega) (by omega) ?_
   ·refine he.cell (aO.cell aP fun f=>f) ?_;rintro(e|e)
    ·have:=a0.size;simp only at e;omega
    ·exact h.vR e.symm
   ·intro w' Y m' d dJ aL aD aB;refine fin w' Y m' ?_ aL aD aB;refine aO.any.trans d (fun _ _ f=>f) fun i hi e=> ?_;rcases e with e|e
    ·omega
    ·exact .inl e
  ·refine AK (fun st w'=> ∃Y m',a<=st.1/\st.1<=c/\Ext (Ix G.mb) aA w'/\w'.heap[G.mb]? =some (.map Y cl)/\MapI .u64 Y cl m'/\ ∀k,aget m' k=if a<=k/\k<st.1 then none else aget m k)
    (fun st _=>(c-st.1).toNat) ⟨es,m,Int.le_refl _,by simp only;omega,Ext.refl _ _,T,bG,fun k=>by rw[if_neg (by simp only;omega)]⟩ ?_
   rintro⟨x,u⟩ _ cP ⟨Y,m',cB,cA,d,aL,aD,aB⟩;simp only at cB cA aB⊢;refine AD (fun cC=> ?_) (fun b8=> ?_)
   ·refine⟨some G.mb,d.cell aP (fun e=>h.vR e.symm),M3 aL aD fun dH cD m2 cI bN bZ _ _ _ cN _=> ?_⟩;refine⟨⟨cD,m2,?_,?_,d.trans' cN,cI,bN,fun k=> ?_⟩,?_⟩
    ·rw[AM];omega
    ·rw[AM];omega
    ·rw[AM,bZ,aB];by_cases e:k=x
     ·rw[if_pos e,if_pos (by omega)]
     ·rw[if_neg e];by_cases e2:a<=k/\k<x
      ·rw[if_pos e2,if_pos (by omega)]
      ·rw[if_neg e2,if_neg (by omega)]
    ·rw[AM];omega
   ·have:x=c:=by omega
    subst this;exact fin cP Y m' (d.mono fun i _ e=>.inl e) aL aD aB
end Go.Sh
set_option linter.all false
set_option maxRecDepth 4000
namespace Go.Sh
def MapG.own(G:MapG)(p:Int):Int:=match G.lv (p/512)with
 | some q=>q.2 (p %512)
 | none=>wholeL G.ws (p/512)
structure GB(E:Env)(b:Nat)(w:World)(G:MapG)(w':World)(G':MapG):Prop where
 rep:GI E w' b G'
 ext:Ext (IV b G) w w'
 SB: ∀k,IV b G' k->IV b G k∨w.heap.size<=k
section
variable{E:Env}{w w' w1:World}{b:Nat}{G G' G1:MapG}
theorem GB.refl(h:GI E w b G):GB E b w G w G:=⟨h,Ext.refl _ _,fun _ h=>.inl h⟩
theorem GB.nothing(h:GI E w b G)(he:Ext AN w w'):GB E b w G w' G:=⟨h.E0 he,he.any,fun _ h=>.inl h⟩
theorem GB.trans(h:GB E b w G w1 G1)(k:GB E b w1 G1 w' G'):GB E b w G w' G':=
 ⟨k.rep,h.ext.trans k.ext (fun _ _ s=>s) (fun i hi s=>by rcases h.SB i s with s|s;exact s;omega),fun i hi=>by
  rcases k.SB i hi with s|s
  ·exact h.SB i s
  ·have:=h.ext.size;exact .inr (by omega)⟩
theorem GB.mA(h:GB E b w G w' G'){k:Nat}(d: ¬IV b G k)(j:k<w.heap.size): ¬IV b G' k:=fun e=>by
 rcases h.SB k e with s|s
 ·exact d s
 ·omega
end
theorem Zy{E:Env}{w:World}{b:Nat}{G:MapG}(h:GI E w b G){c:Int}(aY:0<=c)(hc:c<67108864){K:Option Addr->World->Prop}
  (hK: ∀w' G' q,GB E b w G w' G'->G'.ks=G.ks->G'.lv c=some q->(∀p,G'.own p=G.own p)->K (some ⟨q.1,0,none⟩) w'):
  F.Ey E (some ⟨b,0,none⟩) c K w:=by
 unfold F.Ey T0.Ey;simp only[AI,add_eq,Nat.zero_add];obtain⟨es,cl,m,hm,aU,aS⟩:=h.map;refine⟨some G.mb,h.c3,KV hm aU ?_⟩;rw[aS];cases hlv:G.lv c with
 | some q=>exact⟨some ⟨q.1,0,none⟩,rfl,AQ (fun e=>by cases e) (fun _=>hK w G q (GB.refl h) rfl hlv fun _=>rfl)⟩
 | none=>
  refine⟨none,rfl,AQ (fun _=> ?_) (fun e=>by cases e)⟩;refine Q4 h.wide fun w8 aI=> ?_;rw[AM];refine Sp (h.E0 aI) aY (by omega) (by omega) fun J C h9 aM aZ=> ?_;generalize hzs:Array.replicate 512 (Value.int .i64 0)=zs;have hz: ∀i:Nat,i<512->zs[i]? =some (.int .i64 0):=by
   intro i hi;rw[<-hzs,Array.getElem?_replicate,if_pos hi]
  clear hzs;refine BK fun a2 aF a6 aH=> ?_;have aV:=h9.E0 aH;have bH:w8.heap.size<=J.heap.size:=aM.size;have bF:w.heap.size<=w8.heap.size:=aI.size;have y: ¬IV b (G.cut c (c+1) C) J.heap.size:=fun e=>by have:=h9.MY e;omega
  refine AK (fun st w'=> ∃k:Nat,st.1=(k:Int)/\k<=512/\Ext (Ix J.heap.size) a2 w'/\ ∀i:Nat,i<512->w'.cell? ⟨J.heap.size,i,none⟩=some (.int .i64 (if i<k then wholeL G.ws c else 0))/\w'.frozen? ⟨J.heap.size,i,none⟩=false)
   (fun st _=>(512-st.1).toNat) ⟨0,rfl,by decide,Ext.refl _ _,fun i hi=>⟨by rw[AS aF,if_neg (by omega)];exact hz i hi,by simp[World.frozen?,aF]⟩⟩ ?_
  rintro⟨i,u⟩ _ aB ⟨k,T,d,Y,Ba⟩;simp only at T⊢;subst T;refine AD (fun bI=> ?_) (fun bE=> ?_)
  ·refine⟨⟨by omega,by omega⟩,?_⟩;have aD:k<512:=by omega
   simp only[Int.toNat_natCast,Nat.mul_one];refine JZ (Ba k aD).1 (Ba k aD).2 rfl fun bG aE=> ?_;refine⟨⟨k+1,by rw[AH];omega,by omega,Y.trans' aE.ext,fun i hi=> ?_⟩,by rw[AH];omega⟩;rw[aE.frozen];refine⟨?_,(Ba i hi).2⟩;by_cases e:i=k
   ·subst e;rw[aE.same,if_pos (by omega)]
   ·rw[aE.other _ (by intro e2;injection e2 with _ e2;exact e e2),(Ba i hi).1];congr 2;by_cases e2:i<k
    ·rw[if_pos e2,if_pos (by omega)]
    ·rw[if_neg e2,if_neg (by omega)]
  ·have aD:k=512:=by omega
   subst aD;have j:GI E aB b (G.cut c (c+1) C):=aV.ext Y fun k T e=>by
    have:k=J.heap.size:=e;exact y (this▸T)
   obtain⟨bK,bM,m',a7,aL,aQ⟩:=j.map;refine⟨some G.mb,j.c3,Qd a7 aL fun aO a3 c2 m2 a9 aP aN _ _ _ v aT=> ?_⟩;have aX:(G.cut c (c+1) C).mb=G.mb:=rfl;have aR:J.heap.size≠G.mb:=fun e=>y (.inr (.inl (e.trans aX.symm)))
   let G2:MapG:={G.cut c (c+1) C with lv:=fun k=>if k=c then some (J.heap.size,fun _=>wholeL G.ws c)else(G.cut c (c+1) C).lv k}
   have aJ: ¬Ix G.mb b:=fun e=>j.vR e.symm;have a8:GI E aO b G2:=by
    refine⟨j.set.ext v aJ fun a ha e=>j.ms ⟨a,ha,e.symm⟩,j.wide.ext v aJ fun a ha e=>j.mw ⟨a,ha,e.symm⟩,v.cell j.c3 aJ,⟨a3,c2,m2,a9,aP,fun k=> ?_⟩,?_,?_,j.d1,?_⟩
    ·rw[aN];show _=Option.map _ (if k=c then _ else _);by_cases e:k=c
     ·rw[if_pos e,if_pos e];rfl
     ·rw[if_neg e,if_neg e,aQ]
    ·intro k q T i hi;have d:(if k=c then some (J.heap.size,fun _=>wholeL G.ws c)else(G.cut c (c+1) C).lv k)=some q:=T;split at d
     ·cases d;obtain⟨g1,g2⟩:=Ba i hi;rw[if_pos hi]at g1;refine⟨v.cell g1 fun e=>aR e,?_⟩;rw[v.frozen (World.block_lt_of_cell? aB _ g1) fun e=>aR e];exact g2
     ·obtain⟨g1,g2⟩:=j.leaf k q d i hi;have hn: ¬Ix G.mb q.1:=fun e=>j.ml d e;exact⟨v.cell g1 hn,by rw[v.frozen (World.block_lt_of_cell? aB _ g1) hn];exact g2⟩
    ·intro k k' q q' T a1 e;have d:(if k=c then some (J.heap.size,fun _=>wholeL G.ws c)else(G.cut c (c+1) C).lv k)=some q:=T;have O:(if k'=c then some (J.heap.size,fun _=>wholeL G.ws c)else(G.cut c (c+1) C).lv k')=some q':=a1;split at d
     ·split at O
      ·rename_i e1 e2;rw[e1,e2]
      ·cases d;exact absurd (.inr (.inr (.inr (.inr ⟨k',q',O,e⟩)))) y
     ·split at O
      ·cases O;exact absurd (.inr (.inr (.inr (.inr ⟨k,q,d,e.symm⟩)))) y
      ·exact j.inj k k' q q' d O e
    ·intro k q T;have d:(if k=c then some (J.heap.size,fun _=>wholeL G.ws c)else(G.cut c (c+1) C).lv k)=some q:=T;split at d
     ·cases d;exact⟨fun e=>y (.inl e),fun e=>y (.inr (.inr (.inl e))),fun e=>y (.inr (.inr (.inr (.inl e))))⟩
     ·exact j.d2 k q d
   have aC: ∀k q,(G.cut c (c+1) C).lv k=some q->G.lv k=some q:=by
    intro k q T;have d:(if c<=k/\k<c+1 then none else G.lv k)=some q:=T;split at d
    ·cases d
    ·exact d
   refine hK aO G2 (J.heap.size,fun _=>wholeL G.ws c) ⟨a8,?_,?_⟩ rfl (if_pos rfl) ?_
   ·have e1:Ext (IV b G) w J:=(aI.any).trans aM (fun _ _ f=>f) fun i _ e=>by rcases e with e|e;exact .inl e;exact .inr (.inl e)
    have e2:Ext (Ix J.heap.size) J aB:=(aH.any).trans' Y;have e3:=e2.trans v (U:=fun k=>k=J.heap.size∨k=G.mb) (fun i _ e=>.inl e) (fun i _ e=>.inr e);refine e1.trans e3 (fun _ _ f=>f) fun i hi e=> ?_;rcases e with e|e
    ·omega
    ·exact .inr (.inl e)
   ·rintro k (e|e|e|e|⟨k',q,e,rfl⟩)
    ·exact .inl (.inl e)
    ·exact .inl (.inr (.inl e))
    ·exact .inl (.inr (.inr (.inl e)))
    ·exact .inr (by have:=aZ k e;omega)
    ·have d:(if k'=c then some (J.heap.size,fun _=>wholeL G.ws c)else(G.cut c (c+1) C).lv k')=some q:=e;split at d
     ·cases d;exact .inr (by simp only;omega)
     ·exact .inl (.inr (.inr (.inr (.inr ⟨k',q,aC _ _ d,rfl⟩))))
   ·intro p;unfold MapG.own;show(match(if p/512=c then some (J.heap.size,fun _=>wholeL G.ws c)else if c<=p/512/\p/512<c+1 then none else G.lv (p/512))with|some q=>q.2 (p %512)|none=>wholeL (wcut G.ws c (c+1)) (p/512))=_;by_cases e:p/512=c
    ·rw[if_pos e,e,hlv]
    ·rw[if_neg e,if_neg (by omega)];rw[KB (by omega),if_neg (by omega)]
def MapG.put(G:MapG)(c:Int)(q:Nat×(Int->Int))(i id:Int):MapG:={G with lv:=fun k=>if k=c then some (q.1,fun j=>if j=i then id else q.2 j)else G.lv k}
theorem eN{E:Env}{w w':World}{b:Nat}{G:MapG}(h:GI E w b G){c id:Int}{i:Nat}{q:Nat×(Int->Int)}(J:G.lv c=some q)
  (v:Li ⟨q.1,i,none⟩ (.int .i64 id) w w'):GB E b w G w' (G.put c q i id):=by
 obtain⟨d1,d2,d3⟩:=h.d2 c q J;have hn: ¬Ix q.1 b:=fun e=>d1 e.symm;refine⟨⟨h.set.ext v.ext hn fun a ha e=>d2 ⟨a,ha,e.symm⟩,h.wide.ext v.ext hn fun a ha e=>d3 ⟨a,ha,e.symm⟩,v.ext.cell h.c3 hn,?_,?_,?_,h.d1,?_⟩,?_,?_⟩
 ·obtain⟨es,cl,m,hm,aA,Y⟩:=h.map;refine⟨es,cl,m,v.ext.obj hm fun e=>h.ml J e.symm,aA,fun k=> ?_⟩;rw[Y];show _=Option.map _ (if k=c then _ else _);by_cases e:k=c
  ·rw[if_pos e,e,J];rfl
  ·rw[if_neg e]
 ·intro k C O j hj;have d:(if k=c then some (q.1,fun j=>if j=(i:Int)then id else q.2 j)else G.lv k)=some C:=O;split at d
  ·cases d;obtain⟨g1,g2⟩:=h.leaf c q J j hj;rw[v.frozen];refine⟨?_,g2⟩;simp only;by_cases e:j=i
   ·subst e;rw[if_pos rfl];exact v.same
   ·rw[if_neg (by omega),v.other _ (by intro T;injection T with _ T;exact e T)];exact g1
  ·rename_i hkc;obtain⟨g1,g2⟩:=h.leaf k C d j hj;have aC: ¬Ix q.1 C.1:=fun e=>hkc (h.inj k c C q d J e);exact⟨v.ext.cell g1 aC,by rw[v.frozen];exact g2⟩
 ·intro k K q1 C O aD e;have d:(if k=c then some (q.1,fun j=>if j=(i:Int)then id else q.2 j)else G.lv k)=some q1:=O;have y:(if K=c then some (q.1,fun j=>if j=(i:Int)then id else q.2 j)else G.lv K)=some C:=aD;split at d
  ·split at y
   ·rename_i e1 T;rw[e1,T]
   ·rename_i e1 _;cases d;rw[e1];exact h.inj c K q C J y e
  ·split at y
   ·rename_i e1;cases y;rw[e1];exact h.inj k c q1 q d J e
   ·exact h.inj k K q1 C d y e
 ·intro k C O;have d:(if k=c then some (q.1,fun j=>if j=(i:Int)then id else q.2 j)else G.lv k)=some C:=O;split at d
  ·cases d;exact⟨d1,d2,d3⟩
  ·exact h.d2 k C d
 ·exact v.ext.mono fun k _ e=>.inr (.inr (.inr (.inr ⟨c,q,J,e⟩)))
 ·rintro k (e|e|e|e|⟨K,C,e,rfl⟩)
  ·exact .inl (.inl e)
  ·exact .inl (.inr (.inl e))
  ·exact .inl (.inr (.inr (.inl e)))
  ·exact .inl (.inr (.inr (.inr (.inl e))))
  ·have d:(if K=c then some (q.1,fun j=>if j=(i:Int)then id else q.2 j)else G.lv K)=some C:=e;split at d
   ·cases d;exact .inl (.inr (.inr (.inr (.inr ⟨c,q,J,rfl⟩))))
   ·exact .inl (.inr (.inr (.inr (.inr ⟨K,C,d,rfl⟩))))
theorem mB{G:MapG}{c id:Int}{i:Nat}{q:Nat×(Int->Int)}(d:G.lv c=some q)(p:Int):(G.put c q i id).own p=if p/512=c/\p %512=i then id else G.own p:=by
 unfold MapG.own MapG.put;simp only;by_cases e:p/512=c
 ·rw[if_pos e,e,d];simp only[true_and]
 ·rw[if_neg e,if_neg (by intro h;exact e h.1)]
theorem L7{E:Env}{w:World}{b bi bm:Nat}{G:MapG}(h:GI E w b G){x y id:Int}(hx:0<=x)(hy:y<=34359738368)
  (hi:w.cell? ⟨bi,0,none⟩=some (.int .i64 id))(hm:w.cell? ⟨bm,0,none⟩=some (.pointer (some ⟨b,0,none⟩)))(aA: ¬IV b G bi)(aK: ¬IV b G bm){K:World->Prop}
  (hK: ∀w' G',GB E b w G w' G'->G'.ks=G.ks->(∀p,G'.own p=if x<=p/\p<y then id else G.own p)->K w'):
  F.EV E x y (some ⟨bi,0,none⟩) (some ⟨bm,0,none⟩) K w:=by
 unfold F.EV T0.EV;simp only[AI,add_eq,Nat.zero_add,Nat.mul_one];refine AK (fun st w'=> ∃G',x<=st.1/\(st.1<=y∨st.1=x)/\GB E b w G w' G'/\G'.ks=G.ks/\ ∀p,G'.own p=if x<=p/\p<st.1 then id else G.own p)
  (fun st _=>(y-st.1).toNat) ⟨G,Int.le_refl _,.inr rfl,GB.refl h,rfl,fun p=>by rw[if_neg (by simp only;omega)]⟩ ?_
 rintro⟨n,u⟩ _ w2 ⟨G2,aI,aG,O,C,d⟩;simp only at aI aG d⊢;refine AD (fun aM=> ?_) (fun aL=> ?_)
 ·have hl:bi<w.heap.size:=World.block_lt_of_cell? w _ hi;have aU:bm<w.heap.size:=World.block_lt_of_cell? w _ hm;have hd:Ext AN w2 w2.drew:=Ext.drew _ _;have v:=O.trans (GB.nothing O.rep hd);refine⟨some ⟨b,0,none⟩,v.ext.cell hm aK,by decide,by decide,id,v.ext.cell hi aA,?_⟩;have hdiv:Int.tdiv n 512=n/512:=Int.tdiv_eq_ediv_of_nonneg (by omega);have aB:Int.tmod n 512=n %512:=Int.tmod_eq_emod_of_nonneg (by omega);rw[hdiv,aB,AM];refine Zy v.rep (by omega) (by omega) fun w9 G9 q J aC j T=> ?_;have Y:=v.trans J;simp only[AI,add_eq,Nat.zero_add];refine⟨Y.ext.cell hi aA,⟨by omega,by omega⟩,?_⟩;have hj:(n %512).toNat<512:=by omega
  have aH:(((n %512).toNat:Nat):Int)=n %512:=by omega
  obtain⟨g1,g2⟩:=J.rep.leaf _ q j _ hj;refine JZ g1 g2 rfl fun aO aJ=> ?_;have aE:=eN J.rep j aJ;rw[AM];refine⟨⟨_,by omega,by omega,Y.trans aE,aC.trans C,fun p=> ?_⟩,by omega⟩;rw[mB j,T,d,aH];by_cases e:p=n
  ·subst e;rw[if_pos ⟨rfl,rfl⟩,if_pos (by omega)]
  ·rw[if_neg (by omega)];by_cases e2:x<=p/\p<n
   ·rw[if_pos e2,if_pos (by omega)]
   ·rw[if_neg e2,if_neg (by omega)]
 ·refine hK w2 G2 O C fun p=> ?_;rw[d];by_cases e2:x<=p/\p<n
  ·rw[if_pos e2,if_pos (by omega)]
  ·rw[if_neg e2,if_neg (by omega)]
end Go.Sh
set_option linter.all false
set_option maxRecDepth 4000
namespace Go.Sh
structure EnvA(E:Env):Prop extends EnvS E where
 mC: ∀x y p1 p2 (R:Value->World->Prop) w,F.EV E x y p1 p2 (fun w'=>R (.tuple ⟨[]⟩) w') w->E.call E.Fp #[.int .u64 x,.int .u64 y,.pointer p1,.pointer p2] w R LU
theorem eO{E:Env}{w:World}{K:Option Addr->World->Prop}
  (Y: ∀w' b G,GI E w' b G->Ext AN w w'->(∀k,IV b G k->w.heap.size<=k)->G.ks=[]->(∀p,G.own p=0)->K (some ⟨b,0,none⟩) w'):F.JU E K w:=by
 unfold F.JU;refine BK fun w1 C T y=>BK fun w2 d aB v=> ?_;have hm:=v.obj C fun f=>f;refine Y w2 w1.heap.size ⟨⟨none,0,0⟩,[],⟨none,0,0⟩,[],w.heap.size,fun _=>none⟩ ?_ (y.trans' v) ?_ rfl (fun _=>rfl)
 ·have J: ∀k,¬I4 ⟨none,0,0⟩ k:=by rintro k ⟨a,j,_⟩;cases j
  refine⟨⟨⟨by rw[AS d];rfl,by simp[World.frozen?,d],Hp.nil _ _ _ _,trivial,by simp,by intro a h;cases h⟩,by rw[AS d];rfl,by simp[World.frozen?,d]⟩,
   ⟨by rw[AS d];rfl,by simp[World.frozen?,d],Hp.nil _ _ _ _,⟨by simp,List.Pairwise.nil⟩,by intro a h;cases h⟩,by rw[AS d];rfl,⟨_,_,_,hm,MapI.empty _,fun _=>rfl⟩,?_,?_,fun k h=>absurd h (J k),?_⟩
  ·intro k q h;cases h
  ·intro k k' q q' h;cases h
  ·intro k q h;cases h
 ·rintro k (e|e|⟨a,j,_⟩|⟨a,j,_⟩|⟨c,q,O,_⟩)
  ·rw[e];omega
  ·rw[e];exact Nat.le_refl _
  ·cases j
  ·cases j
  ·cases O
section
variable{E:Env}{w:World}{b:Nat}{G:MapG}
theorem vS(h:GI E w b G){x:Int}(h0:0<=x)(T:x<18446744073709551616){K:Int->World->Prop}(y: ∀w',Ext AN w w'->K (G.own (x/8192)) w'):
  F.FJ E (some ⟨b,0,none⟩) x K w:=by
 unfold F.FJ T0.FJ;have J:Int.tdiv x 8192=x/8192:=Int.tdiv_eq_ediv_of_nonneg h0;have C:Int.tdiv (x/8192) 512=x/8192/512:=Int.tdiv_eq_ediv_of_nonneg (by omega);have O:Int.tmod (x/8192) 512=x/8192 %512:=Int.tmod_eq_emod_of_nonneg (by omega);rw[J,AM (n:=x/8192),C,AM (n:=x/8192/512),O];simp only[AI,add_eq,Nat.zero_add,Nat.mul_one];obtain⟨es,Y,m,hm,v,d⟩:=h.map;refine⟨by decide,some G.mb,h.c3,by decide,KV hm v ?_⟩;rw[d];cases hlv:G.lv (x/8192/512)with
 | some q=>
  refine⟨some ⟨q.1,0,none⟩,rfl,AQ (fun _=> ?_) (fun e=>by cases e)⟩;refine⟨by decide,⟨by omega,by omega⟩,q.2 (x/8192 %512),?_,?_⟩
  ·have:=(h.leaf _ q hlv (x/8192 %512).toNat (by omega)).1;rw[show(((x/8192 %512).toNat:Nat):Int)=x/8192 %512 from by omega]at this;simp only[add_eq,Nat.zero_add];exact this
  ·have:G.own (x/8192)=q.2 (x/8192 %512):=by unfold MapG.own;rw[hlv]
   rw[<-this];exact y w (Ext.refl _ _)
 | none=>
  refine⟨none,rfl,AQ (fun e=>by cases e) (fun _=>⟨by decide,Q4 h.wide fun w' j=> ?_⟩)⟩;have:G.own (x/8192)=wholeL G.ws (x/8192/512):=by unfold MapG.own;rw[hlv]
  rw[<-this];exact y w' j
end
section
variable{E:Env}(hE:EnvA E){w:World}{b:Nat}{G:MapG}
include hE
theorem Zz(h:GI E w b G){x:Int}(h0:0<=x)(v:x<18446744073709551616){K:Bool->World->Prop}(j: ∀w' r,(r=true↔mem G.ks (x/4194304))->Ext AN w w'->K r w'):
  F.Ei E (some ⟨b,0,none⟩) x K w:=by
 unfold F.Ei T0.Ei;have d:Int.tdiv x 4194304=x/4194304:=Int.tdiv_eq_ediv_of_nonneg h0;rw[d,AM (n:=x/4194304)];simp only[AI];exact⟨by decide,U8 hE.toEnvS h.set.row (by omega) j⟩
def MapG.grow(G:MapG)(s:AZ)(ks:Iv):MapG:={G with s:=s,ks:=ks}
end
end Go.Sh
set_option linter.all false
set_option maxRecDepth 4000
namespace Go.Sh
section
variable{E:Env}(hE:EnvA E){w:World}{b:Nat}{G:MapG}
theorem Z0{w w':World}(h:GI E w b G){y:AZ}{q:Int×Int×Int}(hq:0<=q.1/\q.1<q.2.1/\q.2.1<=67108864)(hd: ∀p∈G.ws,p.2.1<=q.1∨q.2.1<=p.1)
  (d:Ext (I4 G.sw) w w')(Y:Hp w' 0 E.BL 3 y (flat3 (G.ws++[q])))(hb:y.base=G.sw.base∨ ∃k,y.base=some ⟨k,0,none⟩/\w.heap.size<=k)
  {w2:World}(v:Li ⟨b,2,none⟩ (.slice y.base y.len y.cap) w' w2):GB E b w G w2 {G with sw:=y,ws:=G.ws++[q]}:=by
 have O: ∀k,I4 y k->I4 G.sw k∨w.heap.size<=k:=by
  rintro k ⟨a,J,rfl⟩;rcases hb with e|⟨k,e,C⟩
  ·rw[e]at J;exact .inl ⟨a,J,rfl⟩
  ·rw[e]at J;cases J;exact .inr C
 have K: ¬I4 G.sw b:=by rintro⟨a,J,e⟩;exact h.wide.apart a J e.symm
 have T: ¬I4 y b:=fun e=>by
  rcases O b e with e|e
  ·exact K e
  ·have:=h.lt;omega
 have hu:L0 b (fun j=>j=2) w' w2:=L0.HI v rfl;have aF:IT E w' b 0 G.s G.ks:=h.set.ext d K fun a J e=>h.d1 a.block ⟨a,J,rfl⟩ e;refine⟨⟨aF.IF hu (by decide) (by decide),⟨v.same,?_,Y.ext v.ext fun g hg e=>T ⟨_,hg,e.symm⟩,?_,fun a J e=>T ⟨a,J,e.symm⟩⟩,?_,?_,?_,h.inj,?_,?_⟩,?_,?_⟩
 ·rw[v.frozen,d.frozen (p:=⟨b,2,none⟩) h.lt K];exact h.wide.f2
 ·refine Q3.2 ⟨h.wide.ok,⟨by intro p hp;rw[List.mem_singleton]at hp;subst hp;exact hq,List.pairwise_singleton _ _⟩,fun p hp r hr=> ?_⟩;rw[List.mem_singleton]at hr;subst hr;exact hd p hp
 ·rw[v.other _ (by intro e;injection e with _ e;omega)];exact d.cell h.c3 K
 ·obtain⟨es,cl,m,h1,h2⟩:=h.map;exact⟨es,cl,m,v.ext.obj (d.obj h1 h.mw) h.vR,h2⟩
 ·intro k q C i hi;obtain⟨g1,g2⟩:=h.leaf k q C i hi;have hn: ¬I4 G.sw q.1:=(h.d2 k q C).2.2;have aE: ¬Ix b q.1:=(h.d2 k q C).1;exact⟨v.ext.cell (d.cell g1 hn) aE,by rw[v.frozen,d.frozen (World.block_lt_of_cell? w _ g1) hn];exact g2⟩
 ·intro k C aD;rcases O k aD with e|e
  ·exact h.d1 k C e
  ·have:=(h.set.row.own.Wu C).2;omega
 ·intro k q C;obtain⟨g1,g2,g3⟩:=h.d2 k q C;refine⟨g1,g2,fun e=> ?_⟩;rcases O _ e with e|e
  ·exact g3 e
  ·have:=World.block_lt_of_cell? w _ (h.leaf k q C 0 (by decide)).1;simp only at this;omega
 ·exact d.trans v.ext (fun i _ e=>.inr (.inr (.inr (.inl e)))) (fun i _ e=>.inl e)
 ·rintro k (e|e|e|e|⟨c',q,e,e2⟩)
  ·exact .inl (.inl e)
  ·exact .inl (.inr (.inl e))
  ·exact .inl (.inr (.inr (.inl e)))
  ·rcases O k e with e|e
   ·exact .inl (.inr (.inr (.inr (.inl e))))
   ·exact .inr e
  ·exact .inl (.inr (.inr (.inr (.inr ⟨c',q,e,e2⟩))))
theorem eP{w w':World}(h:GI E w b G){a c:Int}{j:AZ}(C:GI E w' b (G.cut a c j))(he:Ext (fun k=>k=b∨k=G.mb) w w')(hf: ∀k,I4 j k->w.heap.size<=k):
  GB E b w G w' (G.cut a c j):=by
 refine⟨C,he.mono fun i _ e=>by rcases e with e|e;exact .inl e;exact .inr (.inl e),?_⟩;rintro k (e|e|e|e|⟨v,q,e,y⟩)
 ·exact .inl (.inl e)
 ·exact .inl (.inr (.inl e))
 ·exact .inl (.inr (.inr (.inl e)))
 ·exact .inr (hf k e)
 ·have d:(if a<=v/\v<c then none else G.lv v)=some q:=e;split at d
  ·cases d
  ·exact .inl (.inr (.inr (.inr (.inr ⟨v,q,d,y⟩))))
theorem mD{a c:Int}(d:a<c)(j:AZ)(p:Int):(G.cut a c j).own p=if a<=p/512/\p/512<c then 0 else G.own p:=by
 unfold MapG.own;show(match(if a<=p/512/\p/512<c then none else G.lv (p/512))with|some q=>q.2 (p %512)|none=>wholeL (wcut G.ws a c) (p/512))=_;by_cases e:a<=p/512/\p/512<c
 ·rw[if_pos e,if_pos e];show wholeL (wcut G.ws a c) (p/512)=0;rw[KB d,if_pos e]
 ·rw[if_neg e,if_neg e];cases G.lv (p/512)with
  | some q=>rfl
  | none=>
   show wholeL (wcut G.ws a c) (p/512)=_;rw[KB d,if_neg e]
include hE
theorem Z1(h:GI E w b G){x n id:Int}(aX:0<=x)(hx:x<18446744073709551616)(cQ:0<=n)(hn:n<18446744073709551616){K:Int->World->Prop}
  (bW:(n=0∨id<0)-> ∀w',Ext AN w w'->K 1 w')
  (bF: ¬(n=0∨id<0)->(34359738368<=x∨34359738368-x<n∨ ∃c,x/512<=c/\c<(x+n+511)/512/\ ¬mem G.ks c)-> ∀w',Ext AN w w'->K 10 w')
  (bQ: ¬(n=0∨id<0)->x<34359738368->n<=34359738368-x->(∀c,x/512<=c->c<(x+n+511)/512->mem G.ks c)-> ∀w' G',GB E b w G w' G'->G'.ks=G.ks->
   (∀p,G'.own p=if x<=p/\p<x+n then id else G.own p)->K 0 w'):
  F.De E (some ⟨b,0,none⟩) x n id K w:=by
 unfold F.De T0.De;refine BK fun w2 b0 cD b3=>BK fun w4 b1 cG bK=> ?_;have aQ:Ext AN w w4:=b3.trans' bK;have bM:=bK.obj b0 fun f=>f;have cm: ∀w',Ext AN w4 w'->w'.cell? ⟨w.heap.size,0,none⟩=some (.pointer (some ⟨b,0,none⟩)):=fun w' he=>he.cell (by rw[AS bM];rfl) fun f=>f;have ci: ∀w',Ext AN w4 w'->w'.cell? ⟨w2.heap.size,0,none⟩=some (.int .i64 id):=fun w' he=>he.cell (by rw[AS b1];rfl) fun f=>f;refine AX (fun st w'=>w'=w4/\(st.1=true↔n=0∨id<0)) ?_ ?_
 ·refine AQ (fun e=>⟨rfl,?_⟩) (fun e=>⟨id,ci w4 (Ext.refl _ _),rfl,?_⟩)
  ·have:n=0:=by simpa using e
   simp[this]
  ·have:n≠0:=by simpa using e
   simp[this]
 rintro⟨bt,u⟩ _ w7 ⟨rfl,a1⟩;simp only at a1⊢;refine AQ (fun e=>bW (a1.1 e) _ aQ) (fun e=> ?_);have aP: ¬(n=0∨id<0):=fun h=>by rw[a1.2 h]at e;cases e
 refine AX (fun st w'=>w'=w7/\(st.1=true↔34359738368<=x∨34359738368-x<n)) ?_ ?_
 ·refine AD (fun e=>⟨rfl,?_⟩) (fun e=>⟨rfl,?_⟩)
  ·simp only[true_iff];omega
  ·rw[AM];simp only[decide_eq_true_iff];omega
 rintro⟨cJ,u⟩ _ cU ⟨rfl,aJ⟩;simp only at aJ⊢;refine AQ (fun e=>bF aP (by rcases aJ.1 e with e|e;exact .inl e;exact .inr (.inl e)) _ aQ) (fun e=> ?_);have cB: ¬(34359738368<=x∨34359738368-x<n):=fun h=>by rw[aJ.2 h]at e;cases e
 have bO:x<34359738368:=by omega
 have bR:n<=34359738368-x:=by omega
 have cW:1<=n:=by omega
 refine⟨by decide,by decide,AU fun last a2=>⟨some ⟨b,0,none⟩,cm _ (Ext.refl _ _),?_⟩⟩;have bY:last=(x+n+511)/512:=by
  rw[a2,AM (n:=x+n),AM (n:=x+n+512),AM (n:=x+n+512-1)];rw[Int.tdiv_eq_ediv_of_nonneg (by omega),AM];congr 1;omega
 have b7:u64 (Int.tdiv x 512)=x/512:=by rw[Int.tdiv_eq_ediv_of_nonneg aX,AM]
 simp only[AI];rw[b7];have h4:=h.E0 aQ;have bT:x/512<=last:=by omega
 refine IB hE.toEnvS h4.set.row (by omega) bT (by omega) fun aC j=> ?_;have bJ:=DM h.set.row.ok bT;rw[AM];have aE:Ext AN w aC:=aQ.trans' j;refine AQ (fun e=>bF aP (.inr (.inr ?_)) _ aE) (fun e=> ?_)
 ·have bX:cnt G.ks (x/512) last≠last-x/512:=by simpa using e
  rw[<-bY];rcases Classical.em (∃c,x/512<=c/\c<last/\ ¬mem G.ks c)with h|h
  ·exact h
  ·exfalso;refine bX (bJ.2 fun m h1 h2=> ?_);exact Classical.byContradiction fun h3=>h ⟨m,h1,h2,h3⟩
 have bG:=bJ.1 (by simpa using e);refine⟨by decide,by decide,AU fun fr bV=>AU fun to bZ=> ?_⟩;have cC:fr=(x+511)/512:=by
  rw[bV,AM (n:=x+512),AM (n:=x+512-1),Int.tdiv_eq_ediv_of_nonneg (by omega),AM];congr 1;omega
 have cA:to=(x+n)/512:=by
  rw[bZ,AM (n:=x+n),Int.tdiv_eq_ediv_of_nonneg (by omega),AM]
 have aV:=h.E0 aE;have a0: ¬IV b G w.heap.size:=fun e=>by have:=h.MY e;omega
 have aU: ¬IV b G w2.heap.size:=fun e=>by have:=h.MY e;omega
 have a3:w.heap.size<aC.heap.size:=by have:=j.size;omega
 have bC:w2.heap.size<aC.heap.size:=by have:=j.size;omega
 refine AX (fun _ w'=> ∃G',GB E b aC G w' G'/\G'.ks=G.ks/\ ∀p,G'.own p=if fr<=p/512/\p/512<to then id else G.own p) ?_ ?_
 ·refine AD (fun T=> ?_) (fun cH=>⟨G,GB.refl aV,rfl,fun p=>by rw[if_neg (by omega)]⟩);refine⟨some ⟨b,0,none⟩,cm _ j,Sp aV (by omega) T (by omega) fun aG aD aN bP aR=> ?_⟩;have aB:=eP aV aN bP aR;have aA: ∀w',Ext AN aG w'->w'.cell? ⟨w2.heap.size,0,none⟩=some (.int .i64 id):=fun w' he=>he.cell (aB.ext.cell (ci _ j) aU) fun f=>f;have J: ∀w',Ext AN aG w'->w'.cell? ⟨w.heap.size,0,none⟩=some (.pointer (some ⟨b,0,none⟩)):=fun w' he=>he.cell (aB.ext.cell (cm _ j) a0) fun f=>f;refine⟨id,aA _ (Ext.refl _ _),AD (fun cF=> ?_) (fun hz=>⟨_,aB,rfl,fun p=> ?_⟩)⟩
  ·have hd:Ext AN aG aG.drew:=Ext.drew _ _;have b5:=aN.E0 hd;refine⟨some ⟨b,0,none⟩,J _ hd,some ⟨b,0,none⟩,J _ hd,?_⟩;simp only[AI,add_eq,Nat.zero_add];refine⟨aD,b5.wide.c2,id,aA _ hd,BK fun b6 bE b4 bL=> ?_⟩;have v:Ext AN aG b6:=hd.trans' bL;have O:=aN.E0 v;refine⟨aA _ v,O.wide.c2,J _ v,J _ v,?_⟩;refine Nz (q:=(fr,to,id)) (m:=wcut G.ws fr to) O.wide.own bE (Nat.zero_le _) (by have:=Vb h.wide.ok T;omega) fun cI cO bB y a9=> ?_;have a5: ∀k,k<aC.heap.size-> ¬I4 (G.cut fr to aD).sw k:=fun k hk e=>by have:=aR k e;omega
   have bH: ¬I4 (G.cut fr to aD).sw b:=by rintro⟨a,ha,e⟩;exact O.wide.apart a ha e.symm
   refine⟨y.cell (aA _ v) (a5 _ bC),y.cell (J _ v) (a5 _ a3),y.cell (J _ v) (a5 _ a3),?_⟩;refine JZ (y.cell O.wide.c2 bH) (by rw[y.frozen (p:=⟨b,2,none⟩) O.lt bH];exact O.wide.f2) rfl fun cN b8=> ?_;have a6:=Z0 O (q:=(fr,to,id)) ⟨by simp only;omega,T,by simp only;omega⟩ (fun p hp=>by
    obtain⟨p',b2,g1,g2,g3,g4⟩:=KC h.wide.ok T hp;exact g4) y bB a9 b8
   refine⟨_,(aB.trans (GB.nothing aN v)).trans a6,rfl,fun p=> ?_⟩;unfold MapG.own;show(match(if fr<=p/512/\p/512<to then none else G.lv (p/512))with|some q=>q.2 (p %512)|none=>wholeL (wcut G.ws fr to++[(fr,to,id)]) (p/512))=_;by_cases hin:fr<=p/512/\p/512<to
   ·rw[if_pos hin,if_pos hin];show wholeL (wcut G.ws fr to++[(fr,to,id)]) (p/512)=id;rw[M9,wholeL,if_pos hin];rintro⟨p1,a4,g1,g2⟩;obtain⟨p',b2,_,_,_,g4⟩:=KC h.wide.ok T a4;omega
   ·rw[if_neg hin,if_neg hin];cases G.lv (p/512)with
    | some q=>rfl
    | none=>
     show wholeL (wcut G.ws fr to++[(fr,to,id)]) (p/512)=wholeL G.ws (p/512);rw[<-show wholeL (wcut G.ws fr to) (p/512)=wholeL G.ws (p/512)from by rw[KB T,if_neg hin]];by_cases hex: ∃p1∈wcut G.ws fr to,p1.1<=p/512/\p/512<p1.2.1
     ·rw[So hex]
     ·rw[M9 hex,wholeL,if_neg hin,VX fun p1 a4 h2=>hex ⟨p1,a4,h2⟩];rfl
  ·rw[mD T];have:id=0:=by omega
   rw[this]
 rintro _ _ bN ⟨G1,d,aS,aK⟩;have aH:bN.cell? ⟨w2.heap.size,0,none⟩=some (.int .i64 id):=d.ext.cell (ci _ j) aU;have aL:bN.cell? ⟨w.heap.size,0,none⟩=some (.pointer (some ⟨b,0,none⟩)):=d.ext.cell (cm _ j) a0;have aO: ¬IV b G1 w.heap.size:=d.mA a0 a3;have aM: ¬IV b G1 w2.heap.size:=d.mA aU bC;have aF: ∀c,x/512<=c->c<(x+n+511)/512->mem G.ks c:=fun c h1 h2=>bG c h1 (by omega);have aT:GB E b w G aC G:=GB.nothing h aE;refine AD (fun cR=> ?_) (fun hle=> ?_)
 ·refine hE.mC _ _ _ _ _ _ ?_;rw[AM];refine L7 d.rep aX (by omega) aH aL aM aO fun w' G' aZ aI Y=>⟨rfl,?_⟩;refine bQ aP bO bR aF w' G' ((aT.trans d).trans aZ) (aI.trans aS) fun p=> ?_;rw[Y,aK];by_cases hin:x<=p/\p<x+n
  ·rw[if_pos hin,if_pos hin]
  ·rw[if_neg hin,if_neg hin,if_neg (by omega)]
 ·refine hE.mC _ _ _ _ _ _ ?_;rw[AM];refine L7 d.rep aX (by omega) aH aL aM aO fun cP G2 C bA aY=>⟨rfl,?_⟩;refine hE.mC _ _ _ _ _ _ ?_;rw[AM (n:=to*512),AM (n:=x+n)];have b9:=d.ext.size;refine L7 C.rep (by omega) (by omega) (C.ext.cell aH aM) (C.ext.cell aL aO) (C.mA aM (by omega)) (C.mA aO (by omega)) fun w' G' aZ aI Y=>⟨rfl,?_⟩;refine bQ aP bO bR aF w' G' (((aT.trans d).trans C).trans aZ) (aI.trans (bA.trans aS)) fun p=> ?_;rw[Y,aY,aK];by_cases h1:to*512<=p/\p<x+n
  ·rw[if_pos h1,if_pos (by omega)]
  ·rw[if_neg h1];by_cases h2:x<=p/\p<fr*512
   ·rw[if_pos h2];by_cases h3:x<=p/\p<x+n
    ·rw[if_pos h3]
    ·exfalso;omega
   ·rw[if_neg h2];by_cases h3:fr<=p/512/\p/512<to
    ·rw[if_pos h3,if_pos (by omega)]
    ·rw[if_neg h3,if_neg (by omega)]
end
end Go.Sh
set_option linter.all false
set_option maxRecDepth 4000
set_option maxHeartbeats 1000000
namespace Go.Sh
def Bu(E:Env)(b:Nat)(ks:Iv)(own:Int->Int):Pr where
 holds D w:= ∃G,GI E w b G/\G.ks=ks/\(∀p,G.own p=own p)/\ ∀k,D k↔IV b G k
 loc h he hS:=let⟨G,h1,h2,h3,h4⟩:=h;⟨G,h1.ext he fun k d=>hS k ((h4 k).2 d),h2,h3,h4⟩
 lt h d:=let⟨G,h1,_,_,h4⟩:=h;h1.MY ((h4 _).1 d)
section
variable{E:Env}{b:Nat}{ks:Iv}{own:Int->Int}{Z:List Pr}{w:World}
theorem Sat.Sq(H:Sat (Bu E b ks own::Z) w):
  ∃G,GI E w b G/\G.ks=ks/\(∀p,G.own p=own p)/\ ∀w' G' d eQ,GB E b w G w' G'->G'.ks=d->(∀p,G'.own p=eQ p)->Sat (Bu E b d eQ::Z) w':=by
 obtain⟨D,⟨G,h1,y,K,j⟩,hs⟩:=H.step;refine⟨G,h1,y,K,fun w' G' d eQ st C v=>hs w' (IV b G') _ (st.ext.mono fun i _ hi=>(j i).2 hi) ⟨G',st.rep,C,v,fun _=>Iff.rfl⟩ fun k J=> ?_⟩;rcases st.SB k J with h|h
 ·exact .inl ((j k).2 h)
 ·exact .inr h
theorem Sat.mE(H:Sat (Bu E b ks own::Z) w):Ok ks:=by
 obtain⟨G,h1,rfl,_⟩:=H.Sq;exact h1.set.row.ok
theorem eR(H:Sat Z w){K:Option Addr->World->Prop}(v: ∀w' b,Sat (Bu E b [] (fun _=>0)::Z) w'->K (some ⟨b,0,none⟩) w'):F.JU E K w:=
 eO fun w' b G y he C j d=>v w' b (H.new (P:=Bu E b [] fun _=>0) (D:=IV b G) he ⟨G,y,j,d,fun _=>Iff.rfl⟩ C)
theorem mF(H:Sat (Bu E b ks own::Z) w){x:Int}(h0:0<=x)(d:x<18446744073709551616){K:Int->World->Prop}(j: ∀w',Sat (Bu E b ks own::Z) w'->K (own (x/8192)) w'):
  F.FJ E (some ⟨b,0,none⟩) x K w:=by
 obtain⟨G,h1,y,v,_⟩:=H.Sq;refine vS h1 h0 d fun w' he=> ?_;rw[v];exact j w' (H.nothing he)
theorem XN(H:Sat (Bu E b ks own::Z) w){K:Int->World->Prop}(j:K (DE ks) w):F.EU E (some ⟨b,0,none⟩) K w:=by
 obtain⟨G,h1,d,v,_⟩:=H.Sq;unfold F.EU T0.EU F.Dj;simp only[AI,add_eq,Nat.zero_add];refine⟨_,h1.set.c1,?_⟩;rw[d];exact j
theorem Z2{w':World}{G:MapG}(j:GI E w b G){O:AZ}{K:Iv}(C:IT E w' b 0 O K)(d:L0 b (UY 0) w w')(aC:Qn w G.s O):GB E b w G w' (G.grow O K):=by
 have v: ∀k,I4 O k->I4 G.s k∨w.heap.size<=k:=by
  rintro k ⟨a,ha,rfl⟩;rcases aC with e|e
  ·rw[e]at ha;exact .inl ⟨a,ha,rfl⟩
  ·exact .inr (e a ha)
 refine⟨?_,?_,?_⟩
 ·have Y: ¬UY 0 2:=by unfold UY;omega
  have aA: ¬UY 0 3:=by unfold UY;omega
  have aE:=j.lt;refine⟨C,⟨by rw[d.DP 2 Y];exact j.wide.c2,by rw[d.gZ];exact j.wide.f2,j.wide.own.ext d.ext fun g hg e=>j.wide.apart _ hg e,j.wide.ok,j.wide.apart⟩,by rw[d.DP 3 aA];exact j.c3,?_,?_,j.inj,?_,?_⟩
  ·obtain⟨es,cl,m,h1,h2⟩:=j.map;exact⟨es,cl,m,d.ext.obj h1 j.vR,h2⟩
  ·intro k q y i hi;obtain⟨T,g2⟩:=j.leaf k q y i hi;have Y: ¬Ix b q.1:=(j.d2 k q y).1;exact⟨d.ext.cell T Y,by rw[d.ext.frozen (World.block_lt_of_cell? w _ T) Y];exact g2⟩
  ·intro k y J;rcases v k y with e|e
   ·exact j.d1 k e J
   ·have:=(j.wide.own.Wu J).2;omega
  ·intro k q y;obtain⟨T,g2,g3⟩:=j.d2 k q y;refine⟨T,fun e=> ?_,g3⟩;rcases v _ e with e|e
   ·exact g2 e
   ·have:=World.block_lt_of_cell? w _ (j.leaf k q y 0 (by decide)).1;simp only at this;omega
 ·exact d.ext.mono fun i _ e=>.inl e
 ·rintro k (e|e|e|e|⟨c',q,e,e2⟩)
  ·exact .inl (.inl e)
  ·exact .inl (.inr (.inl e))
  ·rcases v k e with e|e
   ·exact .inl (.inr (.inr (.inl e)))
   ·exact .inr e
  ·exact .inl (.inr (.inr (.inr (.inl e))))
  ·exact .inl (.inr (.inr (.inr (.inr ⟨c',q,e,e2⟩))))
end
section
variable{E:Env}{b:Nat}{ks:Iv}{own:Int->Int}{Z:List Pr}{w:World}(hE:EnvA E)
include hE
theorem eS(H:Sat (Bu E b ks own::Z) w){x:Int}(h0:0<=x)(d:x<18446744073709551616){K:Bool->World->Prop}(y: ∀w' r,(r=true↔mem ks (x/4194304))->Sat (Bu E b ks own::Z) w'->K r w'):
  F.Ei E (some ⟨b,0,none⟩) x K w:=by
 obtain⟨G,h1,j,C,_⟩:=H.Sq;exact Zz hE h1 h0 d fun w' r v he=>y w' r (by rw[<-j];exact v) (H.nothing he)
theorem Vc(H:Sat (Bu E b ks own::Z) w){x n id:Int}(C:0<=x)(hx:x<18446744073709551616)(y:0<=n)(Y:n<18446744073709551616){K:Int->World->Prop}
  (d:n≠0/\0<=id/\x+n<=34359738368/\ ∀p,x<=p->p<x+n->mem ks (p/512))(hK: ∀w',Sat (Bu E b ks (fun p=>if x<=p/\p<x+n then id else own p)::Z) w'->K 0 w'):
  F.De E (some ⟨b,0,none⟩) x n id K w:=by
 obtain⟨G,h1,J,h3,j⟩:=H.Sq;obtain⟨g1,g2,g3,O⟩:=d;have v: ¬(n=0∨id<0):=by omega
 refine Z1 hE h1 C hx y Y (fun h=>absurd h v) (fun _ h=> ?_) fun _ _ _ _ w' G' st e1 T=>hK w' (j w' G' ks _ st (e1.trans J) fun p=>by rw[T,h3]);exfalso;rcases h with h|h|⟨c,c1,c2,c3⟩
 ·omega
 ·omega
 ·refine c3 ?_;rw[J];have:=O (max x (c*512)) (by omega) (by omega);rwa[show max x (c*512)/512=c by omega]at this
theorem aA(H:Sat (Bu E b ks own::Z) w){a c:Int}(C:0<=a)(j:a<c)(Y:c<=67108864){K:World->Prop}(O: ∀w',Sat (Bu E b (CX ks a c) own::Z) w'->K w'):
  F.Er E (some ⟨b,0,none⟩) a c K w:=by
 obtain⟨G,h1,J,T,v⟩:=H.Sq;unfold F.Er T0.Er;simp only[AI];have y:Lz=4398046511104:=rfl;refine I5 hE.toEnvS h1.set C j (by omega) fun w' s' d hu hf=>O w' (v w' (G.grow s' (CX G.ks a c)) _ own (Z2 h1 d hu hf) (by rw[J];rfl) fun p=>T p)
end
end Go.Sh

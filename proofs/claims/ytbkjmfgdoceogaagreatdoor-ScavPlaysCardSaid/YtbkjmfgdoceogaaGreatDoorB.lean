/- The map of arenas does what its chunks and owners say. No further condition. -/
import Derived.Test.YtbkjmfgdoceogaaGreatDoorS
import Derived.Test.YtbkjmfgdoceogaaGreatDoorM
import Derived.Test.YtbkjmfgdoceogaaGreatDoorA
set_option linter.all false
namespace Go.Sh
abbrev Wd:=List (Int×Int×Int)
def flat3:Wd->List Value
 | []=>[]
 | p::r=>.int .u64 p.1:: .int .u64 p.2.1:: .int .i64 p.2.2::flat3 r
theorem I3: ∀l:Wd,(flat3 l).length=l.length*3
 | []=>rfl
 | p::r=>by simp[flat3,I3 r];omega
theorem Lo: ∀l m:Wd,flat3 (l++m)=flat3 l++flat3 m
 | [],_=>rfl
 | p::r,m=>by simp[flat3,Lo r m]
theorem Ph: ∀(l:Wd) (i:Nat) (p:Int×Int×Int),l[i]? =some p->
  (flat3 l)[i*3]? =some (.int .u64 p.1)/\(flat3 l)[i*3+1]? =some (.int .u64 p.2.1)/\(flat3 l)[i*3+2]? =some (.int .i64 p.2.2)
 | [],i,p,h=>by simp at h
 | q::r,0,p,h=>by simp at h;subst h;simp[flat3]
 | q::r,i+1,p,h=>by
  have:=Ph r i p (by simpa using h);rw[show(i+1)*3=i*3+1+1+1 from by omega];simpa[flat3]using this
def wholeL:Wd->Int->Int
 | [],_=>0
 | p::r,c=>if p.1<=c/\c<p.2.1 then p.2.2 else wholeL r c
def HA(p:Int×Int×Int)(a b:Int):Wd:=
 if p.2.1<=a∨b<=p.1 then [p]else(if p.1<a then [(p.1,a,p.2.2)]else [])++(if b<p.2.1 then [(b,p.2.1,p.2.2)]else [])
def wcut:Wd->Int->Int->Wd
 | [],_,_=>[]
 | p::r,a,b=>HA p a b++wcut r a b
theorem Pj{l m:Wd}{c:Int}(h: ∃p∈l,p.1<=c/\c<p.2.1):wholeL (l++m) c=wholeL l c:=by
 induction l with
 | nil=>obtain⟨p,hp,_⟩:=h;cases hp
 | cons p r ih=>
  simp only[List.cons_append,wholeL];by_cases h1:p.1<=c/\c<p.2.1
  ·rw[if_pos h1,if_pos h1]
  ·rw[if_neg h1,if_neg h1];obtain⟨q,d,j⟩:=h;rcases List.mem_cons.1 d with rfl|d
   ·exact absurd j h1
   ·exact ih ⟨q,d,j⟩
theorem K6{l m:Wd}{c:Int}(h: ¬ ∃p∈l,p.1<=c/\c<p.2.1):wholeL (l++m) c=wholeL m c:=by
 induction l with
 | nil=>rfl
 | cons p r ih=>
  simp only[List.cons_append,wholeL];rw[if_neg fun h1=>h ⟨p,List.mem_cons_self,h1⟩];exact ih fun⟨q,hq,h2⟩=>h ⟨q,List.mem_cons_of_mem _ hq,h2⟩
theorem SG{l:Wd}{c:Int}(h: ∀p∈l,¬(p.1<=c/\c<p.2.1)):wholeL l c=0:=by
 induction l with
 | nil=>rfl
 | cons p r ih=>rw[wholeL,if_neg (h p (by simp)),ih fun q d=>h q (by simp[d])]
theorem Lp{p:Int×Int×Int}{a b c:Int}(v:a<b):
  (∃q∈HA p a b,q.1<=c/\c<q.2.1)↔(p.1<=c/\c<p.2.1)/\ ¬(a<=c/\c<b):=by
 unfold HA;split
 ·rename_i h;simp only[List.mem_singleton,exists_eq_left];omega
 ·rename_i h;simp only[List.mem_append];constructor
  ·rintro⟨q,d|d,h1,j⟩
   ·split at d
    ·simp at d;subst d;simp only at h1 j;omega
    ·cases d
   ·split at d
    ·simp at d;subst d;simp only at h1 j;omega
    ·cases d
  ·rintro⟨⟨h1,j⟩,C⟩;by_cases h4:c<a
   ·exact⟨(p.1,a,p.2.2),.inl (by rw[if_pos (by omega)];simp),h1,h4⟩
   ·exact⟨(b,p.2.1,p.2.2),.inr (by rw[if_pos (by omega)];simp),by simp only;omega,j⟩
theorem NN{p:Int×Int×Int}{a b c:Int}(h: ∃q∈HA p a b,q.1<=c/\c<q.2.1):wholeL (HA p a b) c=p.2.2:=by
 have RP: ∀q∈HA p a b,q.2.2=p.2.2:=by
  intro q d;unfold HA at d;split at d
  ·simp at d;subst d;rfl
  ·rcases List.mem_append.1 d with d|d<;>split at d<;>simp at d<;>subst d<;>rfl
 have key: ∀l:Wd,(∀q∈l,q.2.2=p.2.2)->(∃q∈l,q.1<=c/\c<q.2.1)->wholeL l c=p.2.2:=by
  intro l
  induction l with
  | nil=>rintro _ ⟨q,d,_⟩;cases d
  | cons q r ih=>
   intro h1 K;rw[wholeL];split
   ·exact h1 q (by simp)
   ·rename_i hn;obtain⟨C,j,v⟩:=K;rcases List.mem_cons.1 j with rfl|j
    ·exact absurd v hn
    ·exact ih (fun x J=>h1 x (by simp[J])) ⟨C,j,v⟩
 exact key _ RP h
theorem IK{l:Wd}{a b:Int}(j:a<b)(c:Int):wholeL (wcut l a b) c=if a<=c/\c<b then 0 else wholeL l c:=by
 induction l with
 | nil=>simp[wcut,wholeL]
 | cons p r ih=>
  rw[wcut];by_cases h1:(p.1<=c/\c<p.2.1)/\ ¬(a<=c/\c<b)
  ·have d:=(Lp j).2 h1;rw[Pj d,if_neg h1.2,wholeL,if_pos h1.1];exact NN d
  ·rw[K6 fun d=>h1 ((Lp j).1 d),ih];split
   ·rfl
   ·rename_i d;rw[wholeL,if_neg fun v=>h1 ⟨v,d⟩]
def VE(l:Wd):Prop:=(∀p∈l,0<=p.1/\p.1<p.2.1/\p.2.1<=67108864)/\l.Pairwise fun p q=>p.2.1<=q.1∨q.2.1<=p.1
theorem Lq{p q:Int×Int×Int}{a b:Int}(hp:p.1<p.2.1)(d:a<b)(h:q∈HA p a b):p.1<=q.1/\q.1<q.2.1/\q.2.1<=p.2.1/\(q.2.1<=a∨b<=q.1):=by
 unfold HA at h;split at h
 ·simp at h;subst h;omega
 ·rcases List.mem_append.1 h with h|h<;>split at h<;>simp at h<;>subst h<;>simp only<;>omega
theorem IL{l:Wd}{q:Int×Int×Int}{a b:Int}(d:VE l)(v:a<b)(h:q∈wcut l a b): ∃p∈l,p.1<=q.1/\q.1<q.2.1/\q.2.1<=p.2.1/\(q.2.1<=a∨b<=q.1):=by
 induction l with
 | nil=>cases h
 | cons p r ih=>
  rcases List.mem_append.1 h with h|h
  ·exact⟨p,by simp,Lq (d.1 p (by simp)).2.1 v h⟩
  ·obtain⟨C,j,J⟩:=ih ⟨fun x K=>d.1 x (by simp[K]),(List.pairwise_cons.1 d.2).2⟩ h;exact⟨C,by simp[j],J⟩
theorem SH{l:Wd}{a b:Int}(h:VE l)(d:a<b):VE (wcut l a b):=by
 refine⟨fun q j=> ?_,?_⟩
 ·obtain⟨p,hp,h1⟩:=IL h d j;have:=h.1 p hp;omega
 ·induction l with
  | nil=>exact List.Pairwise.nil
  | cons p r ih=>
   have J:VE r:=⟨fun x K=>h.1 x (by simp[K]),(List.pairwise_cons.1 h.2).2⟩;rw[wcut,List.pairwise_append];refine⟨?_,ih J,fun q j O C=> ?_⟩
   ·unfold HA;split
    ·simp
    ·split<;>split<;>simp;omega
   ·have h1:=Lq (h.1 p (by simp)).2.1 d j;obtain⟨N,v,T⟩:=IL J d C;have:=(List.pairwise_cons.1 h.2).1 N v;omega
theorem SJ: ∀(n:Nat) (l:List Int),l.Nodup->(∀x∈l,0<=x/\x<n)->l.length<=n
 | 0,[],_,_=>Nat.le_refl _
 | 0,x::r,_,h=>by have:=h x (by simp);omega
 | n+1,l,hn,h=>by
  have h1:(l.erase (n:Int)).length<=n:=SJ n _ (hn.erase _) fun x j=>by
   have d:=(List.Nodup.mem_erase_iff hn).1 j;have:=h x d.2;have:=d.1;omega
  have:=List.length_erase_of_mem (a:=(n:Int)) (l:=l);by_cases hm:(n:Int)∈l
  ·have:=this hm;omega
  ·rw[List.erase_of_not_mem hm]at h1;omega
theorem VE.len{l:Wd}(h:VE l):l.length<=67108864:=by
 have h1:=SJ 67108864 (l.map (·.1)) ?_ ?_
 ·simpa using h1
 ·have v:=h.1;have C:=h.2;clear h
  induction l with
  | nil=>simp
  | cons p r ih=>
   rw[List.map_cons,List.nodup_cons];refine⟨fun hm=> ?_,ih (fun x j=>v x (by simp[j])) (List.pairwise_cons.1 C).2⟩;obtain⟨q,d,he⟩:=List.mem_map.1 hm;have K:=(List.pairwise_cons.1 C).1 q d;have J:=v p (by simp);have N:=v q (by simp[d]);omega
 ·intro x j;obtain⟨q,d,rfl⟩:=List.mem_map.1 j;have:=h.1 q d;omega
theorem OT{l m:Wd}:VE (l++m)↔VE l/\VE m/\ ∀p∈l,∀q∈m,p.2.1<=q.1∨q.2.1<=p.1:=by
 simp only[VE,List.pairwise_append,List.mem_append];constructor
 ·rintro⟨h1,d,j,v⟩;exact⟨⟨fun p hp=>h1 p (.inl hp),d⟩,⟨fun p hp=>h1 p (.inr hp),j⟩,v⟩
 ·rintro⟨⟨h1,d⟩,⟨j,v⟩,C⟩;exact⟨fun p hp=>hp.elim (h1 p) (j p),d,v,C⟩
theorem SK(l m:Wd)(a b:Int):wcut (l++m) a b=wcut l a b++wcut m a b:=by
 induction l with
 | nil=>rfl
 | cons p r ih=>simp[wcut,ih]
structure WideAt(E:Env)(w:World)(b:Nat)(s:AZ)(ws:Wd):Prop where
 c2:w.cell? ⟨b,2,none⟩=some (.slice s.base s.len s.cap)
 f2:w.frozen? ⟨b,2,none⟩=false
 own:Fs w 0 E.A3 3 s (flat3 ws)
 ok:VE ws
 apart: ∀a,s.base=some a->a.block≠b
theorem WideAt.len{E:Env}{w:World}{b:Nat}{s:AZ}{ws:Wd}(h:WideAt E w b s ws):s.len=ws.length:=by
 have:=h.own.len;rw[I3]at this;omega
theorem WideAt.lt{E:Env}{w:World}{b:Nat}{s:AZ}{ws:Wd}(h:WideAt E w b s ws):b<w.heap.size:=World.block_lt_of_cell? w _ h.c2
theorem WideAt.ext{E:Env}{w w':World}{b:Nat}{s:AZ}{ws:Wd}{S:Nat->Prop}(h:WideAt E w b s ws)(he:Ext S w w')(hp: ¬S b)(hs: ∀a,s.base=some a-> ¬S a.block):WideAt E w' b s ws:=
 ⟨he.cell h.c2 hp,by rw[he.frozen (p:=⟨b,2,none⟩) h.lt hp];exact h.f2,h.own.ext he fun g d=>hs _ d,h.ok,h.apart⟩
theorem WideAt.cells{E:Env}{w:World}{b:Nat}{s:AZ}{ws:Wd}(h:WideAt E w b s ws){i:Nat}{q:Int×Int×Int}(J:ws[i]? =some q):
  ∃r,s.base=some ⟨r,0,none⟩/\w.cell? ⟨r,i*3,none⟩=some (.int .u64 q.1)/\w.cell? ⟨r,i*3+1,none⟩=some (.int .u64 q.2.1)/\w.cell? ⟨r,i*3+2,none⟩=some (.int .i64 q.2.2):=by
 have d:=h.own.rowAt;obtain⟨j,v,C⟩:=Ph ws i q J;rcases h.own.row with ⟨h1,K⟩|⟨b,cs,h1,_⟩
 ·rw[h1]at d;have:flat3 ws=[]:=d;rw[this]at j;simp at j
 ·rw[h1]at d;refine⟨b,h1,?_,?_,?_⟩
  ·have:=d.2 _ _ j;rwa[add_eq,Nat.zero_add]at this
  ·have:=d.2 _ _ v;rwa[add_eq,Nat.zero_add]at this
  ·have:=d.2 _ _ C;rwa[add_eq,Nat.zero_add]at this
theorem Tv{E:Env}{w:World}{b:Nat}{s:AZ}{ws:Wd}(h:WideAt E w b s ws){c:Int}{K:Int->World->Prop}(hK: ∀w',Ext AK w w'->K (wholeL ws c) w'):
  F.Ev E (some ⟨b,0,none⟩) c K w:=by
 unfold F.Ev;simp only[AI,add_eq,Nat.zero_add];have hlen:=h.len;have aP:=h.ok.len;refine⟨s,h.c2,AM (fun st w'=> ∃k:Nat,st.1=(k:Int)/\k<=ws.length/\wholeL ws c=wholeL (ws.drop k) c/\Ext AK w w') (fun st _=>(ws.length-st.1).toNat) ⟨0,rfl,Nat.zero_le _,rfl,Ext.refl _ _⟩ ?_⟩;rintro⟨i,u⟩ _ w4 ⟨k,hk,aS,C,j⟩;simp only at hk⊢;subst hk;have h4:=h.ext j (fun f=>f) fun _ _ f=>f;refine AE (fun aW=> ?_) (fun aV=> ?_)
 ·have hl:k<ws.length:=by omega
  have hg:=List.getElem?_eq_getElem hl;obtain⟨r,hr,aE,aF,aC⟩:=h4.cells hg;rw[hr];simp only[AI,add_eq,Nat.zero_add,Int.toNat_natCast,Nat.add_zero];refine⟨⟨by omega,by omega⟩,_,aE,_,aF,_,aC,A7 fun aN O aD T=> ?_⟩;refine Fg _ _ _ _ _ _ _ O (by simp) (by intro v hv;simp at hv;rcases hv with rfl|rfl|rfl<;>rfl) fun aA Y aB d=> ?_;simp at d;have J:Ext AK w aA:=(j.trans' T).trans Y (fun _ _ f=>f) fun i hi e=>by have:i=w4.heap.size:=e;have:=j.size;omega
  refine Ak (fun st w'=>w'=aA/\(st.1=true↔ws[k].1<=c/\c<ws[k].2.1)) ?_ ?_
  ·refine⟨ws[k].1,by rw[AO d];rfl,AE (fun h1=> ?_) (fun h1=> ?_)⟩
   ·refine⟨ws[k].2.1,by rw[AO d];rfl,rfl,?_⟩;simp only[decide_eq_true_iff];omega
   ·refine⟨rfl,?_⟩;simp only[Bool.false_eq_true,false_iff];omega
  ·rintro⟨bt,u⟩ _ aT ⟨rfl,N⟩;simp only at N⊢;have hd:=N7 hg;refine AR (fun ht=> ?_) (fun hf=> ?_)
   ·refine⟨ws[k].2.2,by rw[AO d];rfl,?_⟩;have:wholeL ws c=ws[k].2.2:=by rw[C,hd,wholeL,if_pos (N.1 ht)]
    rw[<-this];exact hK _ J
   ·have hn: ¬(ws[k].1<=c/\c<ws[k].2.1):=fun h=>by rw[N.2 h]at hf;cases hf
    refine⟨⟨k+1,by rw[AN];omega,by omega,by rw[C,hd,wholeL,if_neg hn],J⟩,by rw[AN];omega⟩
 ·have:ws.drop k=[]:=List.drop_eq_nil_of_le (by omega);rw[this]at C;have:wholeL ws c=0:=C;rw[<-this];exact hK _ j
end Go.Sh
set_option linter.all false
namespace Go.Sh
theorem Lr{E:Env}{w:World}{B g:Nat}{s:AZ}{m:Wd}{q:Int×Int×Int}{K:AZ->World->Prop}(d:Fs w B E.A3 3 s (flat3 m))
  (hg:w.heap[g]? =some (.cells ⟨[.int .u64 q.1,.int .u64 q.2.1,.int .i64 q.2.2]⟩ E.A3))(N:B<=w.heap.size)(hm:m.length<=67108865)
  (O: ∀s' w',Fs w' B E.A3 3 s' (flat3 (m++[q]))->Ext (Gx s) w w'->(s'.base=s.base∨ ∃b,s'.base=some ⟨b,0,none⟩/\w.heap.size<=b)->K s' w'):
  APP E.A3 3 24 #[.int .u64 0,.int .u64 0,.int .i64 0] s ⟨some ⟨g,0,none⟩,1,1⟩ w K:=by
 have C:=d.len;rw[I3]at C;refine LO (news:=[.int .u64 q.1,.int .u64 q.2.1,.int .i64 q.2.2]) rfl d (Jt hg rfl) rfl (by intro v j;simp at j;rcases j with rfl|rfl|rfl<;>rfl) N (by simp only;omega) (by simp only;omega) ?_;intro s' w' J Y he T;refine O s' w' ?_ he T;rw[Lo];exact J
theorem SL{l:Wd}{a b:Int}(h:VE l)(d:a<b):(wcut l a b).length<=67108864:=(SH h d).len
theorem WC{l:Wd}(h:VE l)(k:Nat):VE (l.take k):=by
 have h1:=h;rw[<-List.take_append_drop k l,OT]at h1;exact h1.1
end Go.Sh
set_option linter.all false
namespace Go.Sh
structure MapG where
 s:AZ
 ks:Iv
 sw:AZ
 ws:Wd
 mb:Nat
 lv:Int->Option (Nat×(Int->Int))
structure E3(E:Env)(w:World)(b:Nat)(G:MapG):Prop where
 set:GI E w b 0 G.s G.ks
 wide:WideAt E w b G.sw G.ws
 c3:w.cell? ⟨b,3,none⟩=some (.map (some G.mb))
 map: ∃es c m,w.heap[G.mb]? =some (.map es c)/\MapI .u64 es c m/\ ∀k,aget m k=(G.lv k).map fun q=>.pointer (some ⟨q.1,0,none⟩)
 leaf: ∀k q,G.lv k=some q-> ∀i:Nat,i<512->w.cell? ⟨q.1,i,none⟩=some (.int .i64 (q.2 i))/\w.frozen? ⟨q.1,i,none⟩=false
 inj: ∀k k' q q',G.lv k=some q->G.lv k'=some q'->q.1=q'.1->k=k'
 d1: ∀k,Gx G.s k-> ¬Gx G.sw k
 d2: ∀k q,G.lv k=some q->q.1≠b/\ ¬Gx G.s q.1/\ ¬Gx G.sw q.1
section
variable{E:Env}{w w':World}{b:Nat}{G:MapG}
theorem E3.lt(h:E3 E w b G):b<w.heap.size:=h.wide.lt
theorem E3.gV(h:E3 E w b G):G.mb≠b:=by
 rintro e;obtain⟨es,c,m,h1,_⟩:=h.map;rw[e]at h1;exact Le h1 h.c3
theorem E3.ms(h:E3 E w b G): ¬Gx G.s G.mb:=by
 obtain⟨es,c,m,h1,_⟩:=h.map;exact h.set.row.own.Qb h1
theorem E3.mw(h:E3 E w b G): ¬Gx G.sw G.mb:=by
 obtain⟨es,c,m,h1,_⟩:=h.map;exact h.wide.own.Qb h1
theorem E3.ml(h:E3 E w b G){k:Int}{q:Nat×(Int->Int)}(d:G.lv k=some q):q.1≠G.mb:=by
 rintro e;obtain⟨es,c,m,h1,_⟩:=h.map;rw[<-e]at h1;exact Le h1 (h.leaf k q d 0 (by decide)).1
theorem E3.mlt(h:E3 E w b G):G.mb<w.heap.size:=by
 obtain⟨es,c,m,h1,_⟩:=h.map;exact Ff h1
def GK(b:Nat)(G:MapG)(k:Nat):Prop:=k=b∨k=G.mb∨Gx G.s k∨Gx G.sw k∨ ∃c q,G.lv c=some q/\k=q.1
theorem E3.KQ(h:E3 E w b G){k:Nat}(d:GK b G k):k<w.heap.size:=by
 rcases d with rfl|rfl|d|d|⟨c,q,d,rfl⟩
 ·exact h.lt
 ·exact h.mlt
 ·exact(h.set.row.own.TY d).2
 ·exact(h.wide.own.TY d).2
 ·exact World.block_lt_of_cell? w _ (h.leaf c q d 0 (by decide)).1
theorem E3.ext{S:Nat->Prop}(h:E3 E w b G)(he:Ext S w w')(d: ∀k,GK b G k-> ¬S k):E3 E w' b G:=by
 have v: ¬S b:=d b (.inl rfl);refine⟨h.set.ext he v fun a j=>d _ (.inr (.inr (.inl ⟨a,j,rfl⟩))),h.wide.ext he v fun a j=>d _ (.inr (.inr (.inr (.inl ⟨a,j,rfl⟩)))),he.cell h.c3 v,?_,?_,h.inj,h.d1,h.d2⟩
 ·obtain⟨es,c,m,h1,C⟩:=h.map;exact⟨es,c,m,he.obj h1 (d _ (.inr (.inl rfl))),C⟩
 ·intro k q K i N;obtain⟨h1,C⟩:=h.leaf k q K i N;have J: ¬S q.1:=d _ (.inr (.inr (.inr (.inr ⟨k,q,K,rfl⟩))));exact⟨he.cell h1 J,by rw[he.frozen (World.block_lt_of_cell? w _ h1) J];exact C⟩
theorem E3.Dm(h:E3 E w b G)(he:Ext AK w w'):E3 E w' b G:=h.ext he fun _ _ f=>f
end
def MapG.cut(G:MapG)(a c:Int)(sw:AZ):MapG:={G with sw:=sw,ws:=wcut G.ws a c,lv:=fun k=>if a<=k/\k<c then none else G.lv k}
theorem Pk{E:Env}{w:World}{b:Nat}{G:MapG}(h:E3 E w b G){a c:Int}(ha:0<=a)(bR:a<c)(hc:c<=67108864){K:World->Prop}
  (hK: ∀w' bZ,E3 E w' b (G.cut a c bZ)->Ext (fun k=>k=b∨k=G.mb) w w'->(∀k,Gx bZ k->w.heap.size<=k)->K w'):
  F.E7 E (some ⟨b,0,none⟩) a c K w:=by
 unfold F.E7;simp only[AI,add_eq,Nat.zero_add];have hlen:=h.wide.len;have cY:=h.wide.ok.len;have cV:=h.lt;refine⟨G.sw,h.wide.c2,AM (fun st w'=> ∃k:Nat,st.2.1=(k:Int)/\k<=G.ws.length/\Fs w' w.heap.size E.A3 3 st.1 (flat3 (wcut (G.ws.take k) a c))/\Ext AK w w')
  (fun st _=>(G.ws.length-st.2.1).toNat) ⟨0,rfl,Nat.zero_le _,Fs.nil _ _ _ _,Ext.refl _ _⟩ ?_⟩
 rintro⟨s3,i,u⟩ _ w4 ⟨k,hk,O,N,aU⟩;simp only at hk N⊢;subst hk;refine AE (fun cE=> ?_) (fun cJ=> ?_)
 ·have hl:k<G.ws.length:=by omega
  have hg:=List.getElem?_eq_getElem hl;have h4:=h.Dm aU;obtain⟨r,hr,bI,bJ,b2⟩:=h4.wide.cells hg;generalize hq:G.ws[k]=q at hg bI bJ b2;have cD:q∈G.ws:=List.mem_of_getElem? hg;have dL:=h.wide.ok.1 q cD;have a4:G.ws.take (k+1)=G.ws.take k++[q]:=Gi hg;have aI:wcut (G.ws.take (k+1)) a c=wcut (G.ws.take k) a c++HA q a c:=by rw[a4,SK];simp[wcut]
  have dB:(wcut (G.ws.take k) a c).length<=67108864:=SL (WC h.wide.ok k) bR;rw[hr];simp only[AI,add_eq,Nat.zero_add,Int.toNat_natCast,Nat.add_zero];refine⟨⟨by omega,by omega⟩,_,bI,_,bJ,_,b2,A7 fun c9 bG cO aZ=> ?_⟩;refine Fg _ _ _ _ _ _ _ bG (by simp) (by intro v hv;simp at hv;rcases hv with rfl|rfl|rfl<;>rfl) fun bA a0 b9 C=> ?_;simp at C;have aG:Ext AK w bA:=(aU.trans' aZ).trans a0 (fun _ _ f=>f) fun i hi e=>by have:i=w4.heap.size:=e;have:=aU.size;omega
  have J:Fs bA w.heap.size E.A3 3 s3 (flat3 (wcut (G.ws.take k) a c)):=(N.ext aZ fun _ _ f=>f).ext a0 fun g aH e=>by
   have:=N.lt aH;have:g=w4.heap.size:=e;simp only at *;omega
  have a7: ∀g,s3.base=some ⟨g,0,none⟩->g≠w4.heap.size:=fun g aH e=>by have:=N.lt aH;simp only at *;omega
  refine Ak (fun st w'=>w'=bA/\(st.1=true↔q.2.1<=a∨c<=q.1)) ?_ ?_
  ·refine⟨q.2.1,by rw[AO C];rfl,AE (fun h1=> ?_) (fun h1=> ?_)⟩
   ·refine⟨rfl,?_⟩;simp;omega
   ·refine⟨q.1,by rw[AO C];rfl,rfl,?_⟩;simp;omega
  ·rintro⟨bt,u⟩ _ dC ⟨rfl,a8⟩;simp only at a8⊢;refine AR (fun ht=> ?_) (fun hf=> ?_)
   ·have cI:=a8.1 ht;refine⟨q.1,by rw[AO C];rfl,q.2.1,by rw[AO C];rfl,q.2.2,by rw[AO C];rfl,A7 fun cZ bW cG aW=> ?_⟩;refine Lr (J.ext aW fun _ _ f=>f) bW (by have:=aG.size;omega) (by omega) fun c0 dK bS bL aP=> ?_;have b4:=Ew (aG.trans' aW) (J.ext aW fun _ _ f=>f) (Nat.le_refl _) bL;have h1:HA q a c=[q]:=by
     unfold HA;rw[if_pos (by omega)]
    refine⟨⟨k+1,by rw[AN];omega,by omega,by rw[aI,h1];exact bS,b4⟩,by rw[AN];omega⟩
   ·have dM: ¬(q.2.1<=a∨c<=q.1):=fun h=>by rw[a8.2 h]at hf;cases hf
    refine Ak (fun st w'=>Fs w' w.heap.size E.A3 3 st.1 (flat3 (wcut (G.ws.take k) a c++if q.1<a then [(q.1,a,q.2.2)]else []))/\Ext AK w w'/\
      w'.heap[w4.heap.size]? =some (.cells #[.int .u64 q.1,.int .u64 q.2.1,.int .i64 q.2.2] E.A3)/\w4.heap.size<w'.heap.size/\ ∀g,st.1.base=some ⟨g,0,none⟩->g≠w4.heap.size) ?_ ?_
    ·refine⟨q.1,by rw[AO C];rfl,AE (fun h1=> ?_) (fun h1=> ?_)⟩
     ·refine⟨q.1,by rw[AO C];rfl,q.2.2,by rw[AO C];rfl,A7 fun dE b0 cK aK=> ?_⟩;refine Lr (q:=(q.1,a,q.2.2)) (J.ext aK fun _ _ f=>f) b0 (by have:=aG.size;omega) (by omega) fun cX dA bU aO aP=> ?_;have bT:=Ew (aG.trans' aK) (J.ext aK fun _ _ f=>f) (Nat.le_refl _) aO;refine⟨by rw[if_pos h1];exact bU,bT,aO.obj (aK.obj C fun f=>f) ?_,by have:=aO.size;omega,?_⟩
      ·rintro⟨a',aC,cF⟩;have:=J.lt aC;exact a7 a'.block (by rw[aC];cases a';simp_all) cF.symm
      ·intro g aH e;rcases aP with aP|⟨b',b8,hle⟩
       ·rw[aP]at aH;exact a7 g aH e
       ·rw[b8]at aH;cases aH;omega
     ·refine⟨by rw[if_neg h1,List.append_nil];exact J,aG,C,by omega,a7⟩
    ·rintro⟨dH,u⟩ _ c1 ⟨aJ,aT,aS,cN,bV⟩;simp only at aJ bV⊢;refine⟨q.2.1,by rw[AO aS];rfl,AE (fun h1=> ?_) (fun h1=> ?_)⟩
     ·refine⟨q.2.1,by rw[AO aS];rfl,q.2.2,by rw[AO aS];rfl,A7 fun c4 bH cC aR=> ?_⟩;refine Lr (q:=(c,q.2.1,q.2.2)) (aJ.ext aR fun _ _ f=>f) bH (by have:=aT.size;omega) (by split<;>simp<;>omega) fun c8 dP bK b1 aP=> ?_;have bQ:=Ew (aT.trans' aR) (aJ.ext aR fun _ _ f=>f) (Nat.le_refl _) b1;have h2:HA q a c=(if q.1<a then [(q.1,a,q.2.2)]else [])++[(c,q.2.1,q.2.2)]:=by
       unfold HA;rw[if_neg (by omega),if_pos (show c<q.2.1 from h1)]
      refine⟨⟨k+1,by rw[AN];omega,by omega,by rw[aI,h2,<-List.append_assoc];exact bK,bQ⟩,by rw[AN];omega⟩
     ·have h2:HA q a c=(if q.1<a then [(q.1,a,q.2.2)]else []):=by
       unfold HA;rw[if_neg (by omega),if_neg (show ¬c<q.2.1 from h1),List.append_nil]
      refine⟨⟨k+1,by rw[AN];omega,by omega,by rw[aI,h2];exact aJ,aT⟩,by rw[AN];omega⟩
 ·have a4:G.ws.take k=G.ws:=List.take_of_length_le (by omega);rw[a4]at N;have h4:=h.Dm aU;refine IP h4.wide.c2 h4.wide.f2 rfl fun Y aE=> ?_;have hu:Js b (fun j=>j=2) w4 Y:=Js.FV aE rfl;have b5:GI E Y b 0 G.s G.ks:=h4.set.F1 hu (by decide) (by decide);have aQ: ∀k,Gx s3 k->w.heap.size<=k:=fun k hk=>(N.TY hk).1;have bD:WideAt E Y b s3 (wcut G.ws a c):=by
   refine⟨aE.same,by rw[aE.frozen];exact h4.wide.f2,(N.ext aE.ext fun g hg e=> ?_).lower (Nat.zero_le _),SH h.wide.ok bR,fun a' aC e=> ?_⟩
   ·have:=N.lt hg;have:g=b:=e;simp only at *;omega
   ·have:=(N.lt aC).1;omega
  have aM:Y.cell? ⟨b,3,none⟩=some (.map (some G.mb)):=by rw[aE.other _ (by intro e;injection e with _ e;omega)];exact h4.c3
  obtain⟨es,cl,m,bX,bM,cL⟩:=h4.map;have T:Y.heap[G.mb]? =some (.map es cl):=aE.ext.obj bX h.gV;have a1:Ext (Gr b) w Y:=(aU.any).trans' aE.ext;have a3: ∀k q,G.lv k=some q-> ∀i:Nat,i<512->Y.cell? ⟨q.1,i,none⟩=some (.int .i64 (q.2 i))/\Y.frozen? ⟨q.1,i,none⟩=false:=by
   intro k q hk i hi;obtain⟨h1,h2⟩:=h4.leaf k q hk i hi;have hn: ¬Gr b q.1:=(h.d2 k q hk).1;exact⟨aE.ext.cell h1 hn,by rw[aE.ext.frozen (World.block_lt_of_cell? w4 _ h1) hn];exact h2⟩
  have fin: ∀w' aB m',Ext (fun k=>k=G.mb∨w.heap.size<=k/\ ¬Gx s3 k) Y w'->w'.heap[G.mb]? =some (.map aB cl)->MapI .u64 aB cl m'->(∀k,aget m' k=if a<=k/\k<c then none else aget m k)->K w':=by
   intro w' aB m' d aL aD aA;have bB: ¬(b=G.mb∨w.heap.size<=b/\ ¬Gx s3 b):=by
    rintro(e|⟨e,_⟩)
    ·exact h.gV e.symm
    ·omega
   refine hK w' s3 ⟨?_,?_,d.cell aM bB,⟨aB,cl,m',aL,aD,?_⟩,?_,?_,?_,?_⟩ ?_ aQ
   ·refine b5.ext d bB fun a' aC=> ?_;have:=(h.set.row.own.lt aC);rintro(e|⟨e,_⟩)
    ·exact h.ms ⟨a',aC,e.symm⟩
    ·omega
   ·refine bD.ext d bB fun a' aC=> ?_;have:=N.lt aC;rintro(e|⟨_,e⟩)
    ·have:=h.mlt;omega
    ·exact e ⟨a',aC,rfl⟩
   ·intro k;rw[aA,cL];show _=Option.map _ (if a<=k/\k<c then none else G.lv k);split<;>simp
   ·intro k q hk i hi;have O:(if a<=k/\k<c then none else G.lv k)=some q:=hk;split at O
    ·cases O
    ·obtain⟨h1,h2⟩:=a3 k q O i hi;have hq:=World.block_lt_of_cell? w _ (h.leaf k q O i hi).1;have hn: ¬(q.1=G.mb∨w.heap.size<=q.1/\ ¬Gx s3 q.1):=by
      rintro(e|⟨e,_⟩)
      ·exact h.ml O e
      ·simp only at hq;omega
     exact⟨d.cell h1 hn,by rw[d.frozen (World.block_lt_of_cell? Y _ h1) hn];exact h2⟩
   ·intro k k' q q' hk a6 e;have O:(if a<=k/\k<c then none else G.lv k)=some q:=hk;have aV:(if a<=k'/\k'<c then none else G.lv k')=some q':=a6;split at O
    ·cases O
    ·split at aV
     ·cases aV
     ·exact h.inj k k' q q' O aV e
   ·intro k hk a6;have:=aQ k a6;have:=(h.set.row.own.TY hk).2;omega
   ·intro k q hk;have O:(if a<=k/\k<c then none else G.lv k)=some q:=hk;split at O
    ·cases O
    ·obtain⟨g1,g2,g3⟩:=h.d2 k q O;refine⟨g1,g2,fun g=> ?_⟩;have:=aQ _ g;have:=World.block_lt_of_cell? w _ (h.leaf k q O 0 (by decide)).1;simp only at this;omega
   ·refine a1.trans d (fun i _ e=>.inl e) fun i hi e=> ?_;rcases e with e|⟨e,_⟩
    ·exact .inr e
    ·omega
  refine⟨some G.mb,aM,es,⟨cl,T⟩,AR (fun _=> ?_) (fun _=> ?_)⟩
  ·refine⟨some G.mb,aM,cl,⟨es,T⟩,A7 fun c6 bO cM aN=> ?_⟩;have a5:=aN.obj T fun f=>f;have b7:=Ff T;refine range_del (K:=K) (m0:=m) (m1:=m) (es0:=es) (seen0:= #[]) (mb:=G.mb) (since:=cl) (a:=a) (b:=c) (getm:=fun K' w=> ∃b3:(Option Nat),w.cell? ⟨b,3,none⟩=some (.map b3)/\K' b3 w) (fun w' K' he hk=>⟨some G.mb,?_,hk⟩)
    ⟨⟨cl,bO,.inl rfl⟩,a5,bM,fun _ _=>rfl,fun _ _ h=>h,by simp⟩ (by omega) (by omega) (by omega) ?_
   ·refine he.cell (aN.cell aM fun f=>f) ?_;rintro(e|e)
    ·have:=a1.size;simp only at e;omega
    ·exact h.gV e.symm
   ·intro w' aB m' d dI aL aD aA;refine fin w' aB m' ?_ aL aD aA;refine aN.any.trans d (fun _ _ f=>f) fun i hi e=> ?_;rcases e with e|e
    ·omega
    ·exact .inl e
  ·refine AM (fun st w'=> ∃aB m',a<=st.1/\st.1<=c/\Ext (Gr G.mb) Y w'/\w'.heap[G.mb]? =some (.map aB cl)/\MapI .u64 aB cl m'/\ ∀k,aget m' k=if a<=k/\k<st.1 then none else aget m k)
    (fun st _=>(c-st.1).toNat) ⟨es,m,Int.le_refl _,by simp only;omega,Ext.refl _ _,T,bM,fun k=>by rw[if_neg (by simp only;omega)]⟩ ?_
   rintro⟨x,u⟩ _ cR ⟨aB,m',cA,cB,d,aL,aD,aA⟩;simp only at cA cB aA⊢;refine AE (fun cE=> ?_) (fun cJ=> ?_)
   ·refine⟨some G.mb,d.cell aM (fun e=>h.gV e.symm),Kx aL aD fun c5 cH m2 cP bY bP _ _ _ cQ _=> ?_⟩;refine⟨⟨cH,m2,?_,?_,d.trans' cQ,cP,bY,fun k=> ?_⟩,?_⟩
    ·rw[AG];omega
    ·rw[AG];omega
    ·rw[AG,bP,aA];by_cases e:k=x
     ·rw[if_pos e,if_pos (by omega)]
     ·rw[if_neg e];by_cases e2:a<=k/\k<x
      ·rw[if_pos e2,if_pos (by omega)]
      ·rw[if_neg e2,if_neg (by omega)]
    ·rw[AG];omega
   ·have:x=c:=by omega
    subst this;exact fin cR aB m' (d.mono fun i _ e=>.inl e) aL aD aA
end Go.Sh
set_option linter.all false
set_option maxRecDepth 4000
namespace Go.Sh
def MapG.own(G:MapG)(p:Int):Int:=match G.lv (p/512)with
 | some q=>q.2 (p %512)
 | none=>wholeL G.ws (p/512)
structure Ej(E:Env)(b:Nat)(w:World)(G:MapG)(w':World)(G':MapG):Prop where
 rep:E3 E w' b G'
 ext:Ext (GK b G) w w'
 PB: ∀k,GK b G' k->GK b G k∨w.heap.size<=k
section
variable{E:Env}{w w' w1:World}{b:Nat}{G G' G1:MapG}
theorem Ej.refl(h:E3 E w b G):Ej E b w G w G:=⟨h,Ext.refl _ _,fun _ h=>.inl h⟩
theorem Ej.nothing(h:E3 E w b G)(he:Ext AK w w'):Ej E b w G w' G:=⟨h.Dm he,he.any,fun _ h=>.inl h⟩
theorem Ej.trans(h:Ej E b w G w1 G1)(k:Ej E b w1 G1 w' G'):Ej E b w G w' G':=
 ⟨k.rep,h.ext.trans k.ext (fun _ _ s=>s) (fun i d s=>by rcases h.PB i s with s|s;exact s;omega),fun i d=>by
  rcases k.PB i d with s|s
  ·exact h.PB i s
  ·have:=h.ext.size;exact .inr (by omega)⟩
theorem Ej.aA(h:Ej E b w G w' G'){k:Nat}(d: ¬GK b G k)(j:k<w.heap.size): ¬GK b G' k:=fun e=>by
 rcases h.PB k e with s|s
 ·exact d s
 ·omega
end
theorem WD{E:Env}{w:World}{b:Nat}{G:MapG}(h:E3 E w b G){c:Int}(aZ:0<=c)(hc:c<67108864){K:Option Addr->World->Prop}
  (hK: ∀w' G' q,Ej E b w G w' G'->G'.ks=G.ks->G'.lv c=some q->(∀p,G'.own p=G.own p)->K (some ⟨q.1,0,none⟩) w'):
  F.Dk E (some ⟨b,0,none⟩) c K w:=by
 unfold F.Dk T0.Dk;simp only[AI,add_eq,Nat.zero_add];obtain⟨es,cl,m,hm,a5,a1⟩:=h.map;refine⟨some G.mb,h.c3,PW hm a5 ?_⟩;rw[a1];cases hlv:G.lv c with
 | some q=>exact⟨some ⟨q.1,0,none⟩,rfl,AR (fun e=>by cases e) (fun _=>hK w G q (Ej.refl h) rfl hlv fun _=>rfl)⟩
 | none=>
  refine⟨none,rfl,AR (fun _=> ?_) (fun e=>by cases e)⟩;refine Tv h.wide fun w8 aK=> ?_;rw[AG];refine Pk (h.Dm aK) aZ (by omega) (by omega) fun N C h9 aQ aX=> ?_;generalize hzs:Array.replicate 512 (Value.int .i64 0)=zs;have hz: ∀i:Nat,i<512->zs[i]? =some (.int .i64 0):=by
   intro i hi;rw[<-hzs,Array.getElem?_replicate,if_pos hi]
  clear hzs;refine A7 fun a6 aG a7 aH=> ?_;have a0:=h9.Dm aH;have bG:w8.heap.size<=N.heap.size:=aQ.size;have bN:w.heap.size<=w8.heap.size:=aK.size;have J: ¬GK b (G.cut c (c+1) C) N.heap.size:=fun e=>by have:=h9.KQ e;omega
  refine AM (fun st w'=> ∃k:Nat,st.1=(k:Int)/\k<=512/\Ext (Gr N.heap.size) a6 w'/\ ∀i:Nat,i<512->w'.cell? ⟨N.heap.size,i,none⟩=some (.int .i64 (if i<k then wholeL G.ws c else 0))/\w'.frozen? ⟨N.heap.size,i,none⟩=false)
   (fun st _=>(512-st.1).toNat) ⟨0,rfl,by decide,Ext.refl _ _,fun i hi=>⟨by rw[AO aG,if_neg (by omega)];exact hz i hi,by simp[World.frozen?,aG]⟩⟩ ?_
  rintro⟨i,u⟩ _ aD ⟨k,T,d,Y,CC⟩;simp only at T⊢;subst T;refine AE (fun bL=> ?_) (fun bH=> ?_)
  ·refine⟨⟨by omega,by omega⟩,?_⟩;have aF:k<512:=by omega
   simp only[Int.toNat_natCast,Nat.mul_one];refine IP (CC k aF).1 (CC k aF).2 rfl fun bJ aC=> ?_;refine⟨⟨k+1,by rw[AN];omega,by omega,Y.trans' aC.ext,fun i hi=> ?_⟩,by rw[AN];omega⟩;rw[aC.frozen];refine⟨?_,(CC i hi).2⟩;by_cases e:i=k
   ·subst e;rw[aC.same,if_pos (by omega)]
   ·rw[aC.other _ (by intro e2;injection e2 with _ e2;exact e e2),(CC i hi).1];congr 2;by_cases e2:i<k
    ·rw[if_pos e2,if_pos (by omega)]
    ·rw[if_neg e2,if_neg (by omega)]
  ·have aF:k=512:=by omega
   subst aF;have j:E3 E aD b (G.cut c (c+1) C):=a0.ext Y fun k T e=>by
    have:k=N.heap.size:=e;exact J (this▸T)
   obtain⟨bM,bI,m',aU,aM,aR⟩:=j.map;refine⟨some G.mb,j.c3,N8 aU aM fun aO aW c2 m2 bA aP aS _ _ _ v a9=> ?_⟩;have aY:(G.cut c (c+1) C).mb=G.mb:=rfl;have aN:N.heap.size≠G.mb:=fun e=>J (.inr (.inl (e.trans aY.symm)))
   let G2:MapG:={G.cut c (c+1) C with lv:=fun k=>if k=c then some (N.heap.size,fun _=>wholeL G.ws c)else(G.cut c (c+1) C).lv k}
   have aJ: ¬Gr G.mb b:=fun e=>j.gV e.symm;have aV:E3 E aO b G2:=by
    refine⟨j.set.ext v aJ fun a ha e=>j.ms ⟨a,ha,e.symm⟩,j.wide.ext v aJ fun a ha e=>j.mw ⟨a,ha,e.symm⟩,v.cell j.c3 aJ,⟨aW,c2,m2,bA,aP,fun k=> ?_⟩,?_,?_,j.d1,?_⟩
    ·rw[aS];show _=Option.map _ (if k=c then _ else _);by_cases e:k=c
     ·rw[if_pos e,if_pos e];rfl
     ·rw[if_neg e,if_neg e,aR]
    ·intro k q T i hi;have d:(if k=c then some (N.heap.size,fun _=>wholeL G.ws c)else(G.cut c (c+1) C).lv k)=some q:=T;split at d
     ·cases d;obtain⟨g1,g2⟩:=CC i hi;rw[if_pos hi]at g1;refine⟨v.cell g1 fun e=>aN e,?_⟩;rw[v.frozen (World.block_lt_of_cell? aD _ g1) fun e=>aN e];exact g2
     ·obtain⟨g1,g2⟩:=j.leaf k q d i hi;have hn: ¬Gr G.mb q.1:=fun e=>j.ml d e;exact⟨v.cell g1 hn,by rw[v.frozen (World.block_lt_of_cell? aD _ g1) hn];exact g2⟩
    ·intro k k' q q' T a4 e;have d:(if k=c then some (N.heap.size,fun _=>wholeL G.ws c)else(G.cut c (c+1) C).lv k)=some q:=T;have O:(if k'=c then some (N.heap.size,fun _=>wholeL G.ws c)else(G.cut c (c+1) C).lv k')=some q':=a4;split at d
     ·split at O
      ·rename_i e1 e2;rw[e1,e2]
      ·cases d;exact absurd (.inr (.inr (.inr (.inr ⟨k',q',O,e⟩)))) J
     ·split at O
      ·cases O;exact absurd (.inr (.inr (.inr (.inr ⟨k,q,d,e.symm⟩)))) J
      ·exact j.inj k k' q q' d O e
    ·intro k q T;have d:(if k=c then some (N.heap.size,fun _=>wholeL G.ws c)else(G.cut c (c+1) C).lv k)=some q:=T;split at d
     ·cases d;exact⟨fun e=>J (.inl e),fun e=>J (.inr (.inr (.inl e))),fun e=>J (.inr (.inr (.inr (.inl e))))⟩
     ·exact j.d2 k q d
   have aE: ∀k q,(G.cut c (c+1) C).lv k=some q->G.lv k=some q:=by
    intro k q T;have d:(if c<=k/\k<c+1 then none else G.lv k)=some q:=T;split at d
    ·cases d
    ·exact d
   refine hK aO G2 (N.heap.size,fun _=>wholeL G.ws c) ⟨aV,?_,?_⟩ rfl (if_pos rfl) ?_
   ·have e1:Ext (GK b G) w N:=(aK.any).trans aQ (fun _ _ f=>f) fun i _ e=>by rcases e with e|e;exact .inl e;exact .inr (.inl e)
    have e2:Ext (Gr N.heap.size) N aD:=(aH.any).trans' Y;have e3:=e2.trans v (U:=fun k=>k=N.heap.size∨k=G.mb) (fun i _ e=>.inl e) (fun i _ e=>.inr e);refine e1.trans e3 (fun _ _ f=>f) fun i hi e=> ?_;rcases e with e|e
    ·omega
    ·exact .inr (.inl e)
   ·rintro k (e|e|e|e|⟨k',q,e,rfl⟩)
    ·exact .inl (.inl e)
    ·exact .inl (.inr (.inl e))
    ·exact .inl (.inr (.inr (.inl e)))
    ·exact .inr (by have:=aX k e;omega)
    ·have d:(if k'=c then some (N.heap.size,fun _=>wholeL G.ws c)else(G.cut c (c+1) C).lv k')=some q:=e;split at d
     ·cases d;exact .inr (by simp only;omega)
     ·exact .inl (.inr (.inr (.inr (.inr ⟨k',q,aE _ _ d,rfl⟩))))
   ·intro p;unfold MapG.own;show(match(if p/512=c then some (N.heap.size,fun _=>wholeL G.ws c)else if c<=p/512/\p/512<c+1 then none else G.lv (p/512))with|some q=>q.2 (p %512)|none=>wholeL (wcut G.ws c (c+1)) (p/512))=_;by_cases e:p/512=c
    ·rw[if_pos e,e,hlv]
    ·rw[if_neg e,if_neg (by omega)];rw[IK (by omega),if_neg (by omega)]
def MapG.put(G:MapG)(c:Int)(q:Nat×(Int->Int))(i id:Int):MapG:={G with lv:=fun k=>if k=c then some (q.1,fun j=>if j=i then id else q.2 j)else G.lv k}
theorem X0{E:Env}{w w':World}{b:Nat}{G:MapG}(h:E3 E w b G){c id:Int}{i:Nat}{q:Nat×(Int->Int)}(K:G.lv c=some q)
  (v:JZ ⟨q.1,i,none⟩ (.int .i64 id) w w'):Ej E b w G w' (G.put c q i id):=by
 obtain⟨d1,d2,d3⟩:=h.d2 c q K;have hn: ¬Gr q.1 b:=fun e=>d1 e.symm;refine⟨⟨h.set.ext v.ext hn fun a ha e=>d2 ⟨a,ha,e.symm⟩,h.wide.ext v.ext hn fun a ha e=>d3 ⟨a,ha,e.symm⟩,v.ext.cell h.c3 hn,?_,?_,?_,h.d1,?_⟩,?_,?_⟩
 ·obtain⟨es,cl,m,hm,aC,Y⟩:=h.map;refine⟨es,cl,m,v.ext.obj hm fun e=>h.ml K e.symm,aC,fun k=> ?_⟩;rw[Y];show _=Option.map _ (if k=c then _ else _);by_cases e:k=c
  ·rw[if_pos e,e,K];rfl
  ·rw[if_neg e]
 ·intro k J T j hj;have d:(if k=c then some (q.1,fun j=>if j=(i:Int)then id else q.2 j)else G.lv k)=some J:=T;split at d
  ·cases d;obtain⟨g1,g2⟩:=h.leaf c q K j hj;rw[v.frozen];refine⟨?_,g2⟩;simp only;by_cases e:j=i
   ·subst e;rw[if_pos rfl];exact v.same
   ·rw[if_neg (by omega),v.other _ (by intro O;injection O with _ O;exact e O)];exact g1
  ·rename_i hkc;obtain⟨g1,g2⟩:=h.leaf k J d j hj;have aE: ¬Gr q.1 J.1:=fun e=>hkc (h.inj k c J q d K e);exact⟨v.ext.cell g1 aE,by rw[v.frozen];exact g2⟩
 ·intro k N q1 J T aB e;have d:(if k=c then some (q.1,fun j=>if j=(i:Int)then id else q.2 j)else G.lv k)=some q1:=T;have C:(if N=c then some (q.1,fun j=>if j=(i:Int)then id else q.2 j)else G.lv N)=some J:=aB;split at d
  ·split at C
   ·rename_i e1 O;rw[e1,O]
   ·rename_i e1 _;cases d;rw[e1];exact h.inj c N q J K C e
  ·split at C
   ·rename_i e1;cases C;rw[e1];exact h.inj k c q1 q d K e
   ·exact h.inj k N q1 J d C e
 ·intro k J T;have d:(if k=c then some (q.1,fun j=>if j=(i:Int)then id else q.2 j)else G.lv k)=some J:=T;split at d
  ·cases d;exact⟨d1,d2,d3⟩
  ·exact h.d2 k J d
 ·exact v.ext.mono fun k _ e=>.inr (.inr (.inr (.inr ⟨c,q,K,e⟩)))
 ·rintro k (e|e|e|e|⟨N,J,e,rfl⟩)
  ·exact .inl (.inl e)
  ·exact .inl (.inr (.inl e))
  ·exact .inl (.inr (.inr (.inl e)))
  ·exact .inl (.inr (.inr (.inr (.inl e))))
  ·have d:(if N=c then some (q.1,fun j=>if j=(i:Int)then id else q.2 j)else G.lv N)=some J:=e;split at d
   ·cases d;exact .inl (.inr (.inr (.inr (.inr ⟨c,q,K,rfl⟩))))
   ·exact .inl (.inr (.inr (.inr (.inr ⟨N,J,d,rfl⟩))))
theorem aB{G:MapG}{c id:Int}{i:Nat}{q:Nat×(Int->Int)}(d:G.lv c=some q)(p:Int):(G.put c q i id).own p=if p/512=c/\p %512=i then id else G.own p:=by
 unfold MapG.own MapG.put;simp only;by_cases e:p/512=c
 ·rw[if_pos e,e,d];simp only[true_and]
 ·rw[if_neg e,if_neg (by intro h;exact e h.1)]
theorem J0{E:Env}{w:World}{b bi bm:Nat}{G:MapG}(h:E3 E w b G){x y id:Int}(hx:0<=x)(hy:y<=34359738368)
  (hi:w.cell? ⟨bi,0,none⟩=some (.int .i64 id))(hm:w.cell? ⟨bm,0,none⟩=some (.pointer (some ⟨b,0,none⟩)))(aC: ¬GK b G bi)(aI: ¬GK b G bm){K:World->Prop}
  (hK: ∀w' G',Ej E b w G w' G'->G'.ks=G.ks->(∀p,G'.own p=if x<=p/\p<y then id else G.own p)->K w'):
  F.DS E x y (some ⟨bi,0,none⟩) (some ⟨bm,0,none⟩) K w:=by
 unfold F.DS T0.DS;simp only[AI,add_eq,Nat.zero_add,Nat.mul_one];refine AM (fun st w'=> ∃G',x<=st.1/\(st.1<=y∨st.1=x)/\Ej E b w G w' G'/\G'.ks=G.ks/\ ∀p,G'.own p=if x<=p/\p<st.1 then id else G.own p)
  (fun st _=>(y-st.1).toNat) ⟨G,Int.le_refl _,.inr rfl,Ej.refl h,rfl,fun p=>by rw[if_neg (by simp only;omega)]⟩ ?_
 rintro⟨n,u⟩ _ w2 ⟨G2,aL,aG,J,C,d⟩;simp only at aL aG d⊢;refine AE (fun aV=> ?_) (fun aS=> ?_)
 ·have hl:bi<w.heap.size:=World.block_lt_of_cell? w _ hi;have aT:bm<w.heap.size:=World.block_lt_of_cell? w _ hm;have hd:Ext AK w2 w2.drew:=Ext.drew _ _;have v:=J.trans (Ej.nothing J.rep hd);refine⟨some ⟨b,0,none⟩,v.ext.cell hm aI,by decide,by decide,id,v.ext.cell hi aC,?_⟩;have hdiv:Int.tdiv n 512=n/512:=Int.tdiv_eq_ediv_of_nonneg (by omega);have aA:Int.tmod n 512=n %512:=Int.tmod_eq_emod_of_nonneg (by omega);rw[hdiv,aA,AG];refine WD v.rep (by omega) (by omega) fun w9 G9 q O T j N=> ?_;have Y:=v.trans O;simp only[AI,add_eq,Nat.zero_add];refine⟨Y.ext.cell hi aC,⟨by omega,by omega⟩,?_⟩;have hj:(n %512).toNat<512:=by omega
  have aF:(((n %512).toNat:Nat):Int)=n %512:=by omega
  obtain⟨g1,g2⟩:=O.rep.leaf _ q j _ hj;refine IP g1 g2 rfl fun aN aE=> ?_;have aJ:=X0 O.rep j aE;rw[AG];refine⟨⟨_,by omega,by omega,Y.trans aJ,T.trans C,fun p=> ?_⟩,by omega⟩;rw[aB j,N,d,aF];by_cases e:p=n
  ·subst e;rw[if_pos ⟨rfl,rfl⟩,if_pos (by omega)]
  ·rw[if_neg (by omega)];by_cases e2:x<=p/\p<n
   ·rw[if_pos e2,if_pos (by omega)]
   ·rw[if_neg e2,if_neg (by omega)]
 ·refine hK w2 G2 J C fun p=> ?_;rw[d];by_cases e2:x<=p/\p<n
  ·rw[if_pos e2,if_pos (by omega)]
  ·rw[if_neg e2,if_neg (by omega)]
end Go.Sh
set_option linter.all false
set_option maxRecDepth 4000
namespace Go.Sh
structure K7(E:Env):Prop extends EnvS E where
 aC: ∀x y p1 p2 (R:Value->World->Prop) w,F.DS E x y p1 p2 (fun w'=>R (.tuple ⟨[]⟩) w') w->E.call E.EV #[.int .u64 x,.int .u64 y,.pointer p1,.pointer p2] w R Ns
theorem X1{E:Env}{w:World}{K:Option Addr->World->Prop}
  (O: ∀w' b G,E3 E w' b G->Ext AK w w'->(∀k,GK b G k->w.heap.size<=k)->G.ks=[]->(∀p,G.own p=0)->K (some ⟨b,0,none⟩) w'):F.HT E K w:=by
 unfold F.HT;refine A7 fun w1 J aB C=>A7 fun T d N v=> ?_;have hm:=v.obj J fun f=>f;refine O T w1.heap.size ⟨⟨none,0,0⟩,[],⟨none,0,0⟩,[],w.heap.size,fun _=>none⟩ ?_ (C.trans' v) ?_ rfl (fun _=>rfl)
 ·have hn: ∀k,¬Gx ⟨none,0,0⟩ k:=by rintro k ⟨a,j,_⟩;cases j
  refine⟨⟨⟨by rw[AO d];rfl,by simp[World.frozen?,d],Fs.nil _ _ _ _,trivial,by simp,by intro a h;cases h⟩,by rw[AO d];rfl,by simp[World.frozen?,d]⟩,
   ⟨by rw[AO d];rfl,by simp[World.frozen?,d],Fs.nil _ _ _ _,⟨by simp,List.Pairwise.nil⟩,by intro a h;cases h⟩,by rw[AO d];rfl,⟨_,_,_,hm,MapI.empty _,fun _=>rfl⟩,?_,?_,fun k h=>absurd h (hn k),?_⟩
  ·intro k q h;cases h
  ·intro k k' q q' h;cases h
  ·intro k q h;cases h
 ·rintro k (e|e|⟨a,j,_⟩|⟨a,j,_⟩|⟨c,q,Y,_⟩)
  ·rw[e];omega
  ·rw[e];exact Nat.le_refl _
  ·cases j
  ·cases j
  ·cases Y
section
variable{E:Env}{w:World}{b:Nat}{G:MapG}
end
section
variable{E:Env}(hE:K7 E){w:World}{b:Nat}{G:MapG}
include hE
def MapG.grow(G:MapG)(s:AZ)(ks:Iv):MapG:={G with s:=s,ks:=ks}
end
end Go.Sh
set_option linter.all false
set_option maxRecDepth 4000
namespace Go.Sh
section
variable{E:Env}(hE:K7 E){w:World}{b:Nat}{G:MapG}
theorem WE{w w':World}(h:E3 E w b G){C:AZ}{q:Int×Int×Int}(hq:0<=q.1/\q.1<q.2.1/\q.2.1<=67108864)(hd: ∀p∈G.ws,p.2.1<=q.1∨q.2.1<=p.1)
  (d:Ext (Gx G.sw) w w')(Y:Fs w' 0 E.A3 3 C (flat3 (G.ws++[q])))(hb:C.base=G.sw.base∨ ∃k,C.base=some ⟨k,0,none⟩/\w.heap.size<=k)
  {w2:World}(v:JZ ⟨b,2,none⟩ (.slice C.base C.len C.cap) w' w2):Ej E b w G w2 {G with sw:=C,ws:=G.ws++[q]}:=by
 have O: ∀k,Gx C k->Gx G.sw k∨w.heap.size<=k:=by
  rintro k ⟨a,K,rfl⟩;rcases hb with e|⟨k,e,J⟩
  ·rw[e]at K;exact .inl ⟨a,K,rfl⟩
  ·rw[e]at K;cases K;exact .inr J
 have N: ¬Gx G.sw b:=by rintro⟨a,K,e⟩;exact h.wide.apart a K e.symm
 have T: ¬Gx C b:=fun e=>by
  rcases O b e with e|e
  ·exact N e
  ·have:=h.lt;omega
 have hu:Js b (fun j=>j=2) w' w2:=Js.FV v rfl;have aF:GI E w' b 0 G.s G.ks:=h.set.ext d N fun a K e=>h.d1 a.block ⟨a,K,rfl⟩ e;refine⟨⟨aF.F1 hu (by decide) (by decide),⟨v.same,?_,Y.ext v.ext fun g hg e=>T ⟨_,hg,e.symm⟩,?_,fun a K e=>T ⟨a,K,e.symm⟩⟩,?_,?_,?_,h.inj,?_,?_⟩,?_,?_⟩
 ·rw[v.frozen,d.frozen (p:=⟨b,2,none⟩) h.lt N];exact h.wide.f2
 ·refine OT.2 ⟨h.wide.ok,⟨by intro p hp;rw[List.mem_singleton]at hp;subst hp;exact hq,List.pairwise_singleton _ _⟩,fun p hp r hr=> ?_⟩;rw[List.mem_singleton]at hr;subst hr;exact hd p hp
 ·rw[v.other _ (by intro e;injection e with _ e;omega)];exact d.cell h.c3 N
 ·obtain⟨es,cl,m,h1,h2⟩:=h.map;exact⟨es,cl,m,v.ext.obj (d.obj h1 h.mw) h.gV,h2⟩
 ·intro k q J i hi;obtain⟨g1,g2⟩:=h.leaf k q J i hi;have hn: ¬Gx G.sw q.1:=(h.d2 k q J).2.2;have aD: ¬Gr b q.1:=(h.d2 k q J).1;exact⟨v.ext.cell (d.cell g1 hn) aD,by rw[v.frozen,d.frozen (World.block_lt_of_cell? w _ g1) hn];exact g2⟩
 ·intro k J aC;rcases O k aC with e|e
  ·exact h.d1 k J e
  ·have:=(h.set.row.own.TY J).2;omega
 ·intro k q J;obtain⟨g1,g2,g3⟩:=h.d2 k q J;refine⟨g1,g2,fun e=> ?_⟩;rcases O _ e with e|e
  ·exact g3 e
  ·have:=World.block_lt_of_cell? w _ (h.leaf k q J 0 (by decide)).1;simp only at this;omega
 ·exact d.trans v.ext (fun i _ e=>.inr (.inr (.inr (.inl e)))) (fun i _ e=>.inl e)
 ·rintro k (e|e|e|e|⟨c',q,e,e2⟩)
  ·exact .inl (.inl e)
  ·exact .inl (.inr (.inl e))
  ·exact .inl (.inr (.inr (.inl e)))
  ·rcases O k e with e|e
   ·exact .inl (.inr (.inr (.inr (.inl e))))
   ·exact .inr e
  ·exact .inl (.inr (.inr (.inr (.inr ⟨c',q,e,e2⟩))))
theorem X2{w w':World}(h:E3 E w b G){a c:Int}{j:AZ}(C:E3 E w' b (G.cut a c j))(he:Ext (fun k=>k=b∨k=G.mb) w w')(hf: ∀k,Gx j k->w.heap.size<=k):
  Ej E b w G w' (G.cut a c j):=by
 refine⟨C,he.mono fun i _ e=>by rcases e with e|e;exact .inl e;exact .inr (.inl e),?_⟩;rintro k (e|e|e|e|⟨v,q,e,J⟩)
 ·exact .inl (.inl e)
 ·exact .inl (.inr (.inl e))
 ·exact .inl (.inr (.inr (.inl e)))
 ·exact .inr (hf k e)
 ·have d:(if a<=v/\v<c then none else G.lv v)=some q:=e;split at d
  ·cases d
  ·exact .inl (.inr (.inr (.inr (.inr ⟨v,q,d,J⟩))))
theorem aD{a c:Int}(d:a<c)(j:AZ)(p:Int):(G.cut a c j).own p=if a<=p/512/\p/512<c then 0 else G.own p:=by
 unfold MapG.own;show(match(if a<=p/512/\p/512<c then none else G.lv (p/512))with|some q=>q.2 (p %512)|none=>wholeL (wcut G.ws a c) (p/512))=_;by_cases e:a<=p/512/\p/512<c
 ·rw[if_pos e,if_pos e];show wholeL (wcut G.ws a c) (p/512)=0;rw[IK d,if_pos e]
 ·rw[if_neg e,if_neg e];cases G.lv (p/512)with
  | some q=>rfl
  | none=>
   show wholeL (wcut G.ws a c) (p/512)=_;rw[IK d,if_neg e]
include hE
theorem WG(h:E3 E w b G){x n id:Int}(a8:0<=x)(hx:x<18446744073709551616)(cQ:0<=n)(hn:n<18446744073709551616){K:Int->World->Prop}
  (b1:(n=0∨id<0)-> ∀w',Ext AK w w'->K 1 w')
  (bV: ¬(n=0∨id<0)->(34359738368<=x∨34359738368-x<n∨ ∃c,x/512<=c/\c<(x+n+511)/512/\ ¬mem G.ks c)-> ∀w',Ext AK w w'->K 10 w')
  (bQ: ¬(n=0∨id<0)->x<34359738368->n<=34359738368-x->(∀c,x/512<=c->c<(x+n+511)/512->mem G.ks c)-> ∀w' G',Ej E b w G w' G'->G'.ks=G.ks->
   (∀p,G'.own p=if x<=p/\p<x+n then id else G.own p)->K 0 w'):
  F.Ct E (some ⟨b,0,none⟩) x n id K w:=by
 unfold F.Ct T0.Ct;refine A7 fun w2 bY cC b8=>A7 fun w4 bZ cJ bS=> ?_;have aR:Ext AK w w4:=b8.trans' bS;have bO:=bS.obj bY fun f=>f;have cm: ∀w',Ext AK w4 w'->w'.cell? ⟨w.heap.size,0,none⟩=some (.pointer (some ⟨b,0,none⟩)):=fun w' he=>he.cell (by rw[AO bO];rfl) fun f=>f;have ci: ∀w',Ext AK w4 w'->w'.cell? ⟨w2.heap.size,0,none⟩=some (.int .i64 id):=fun w' he=>he.cell (by rw[AO bZ];rfl) fun f=>f;refine Ak (fun st w'=>w'=w4/\(st.1=true↔n=0∨id<0)) ?_ ?_
 ·refine AR (fun e=>⟨rfl,?_⟩) (fun e=>⟨id,ci w4 (Ext.refl _ _),rfl,?_⟩)
  ·have:n=0:=by simpa using e
   simp[this]
  ·have:n≠0:=by simpa using e
   simp[this]
 rintro⟨bt,u⟩ _ w7 ⟨rfl,a4⟩;simp only at a4⊢;refine AR (fun e=>b1 (a4.1 e) _ aR) (fun e=> ?_);have aS: ¬(n=0∨id<0):=fun h=>by rw[a4.2 h]at e;cases e
 refine Ak (fun st w'=>w'=w7/\(st.1=true↔34359738368<=x∨34359738368-x<n)) ?_ ?_
 ·refine AE (fun e=>⟨rfl,?_⟩) (fun e=>⟨rfl,?_⟩)
  ·simp only[true_iff];omega
  ·rw[AG];simp only[decide_eq_true_iff];omega
 rintro⟨cM,u⟩ _ cO ⟨rfl,aO⟩;simp only at aO⊢;refine AR (fun e=>bV aS (by rcases aO.1 e with e|e;exact .inl e;exact .inr (.inl e)) _ aR) (fun e=> ?_);have cH: ¬(34359738368<=x∨34359738368-x<n):=fun h=>by rw[aO.2 h]at e;cases e
 have bM:x<34359738368:=by omega
 have bJ:n<=34359738368-x:=by omega
 have cU:1<=n:=by omega
 refine⟨by decide,by decide,AY fun last aZ=>⟨some ⟨b,0,none⟩,cm _ (Ext.refl _ _),?_⟩⟩;have cA:last=(x+n+511)/512:=by
  rw[aZ,AG (n:=x+n),AG (n:=x+n+512),AG (n:=x+n+512-1)];rw[Int.tdiv_eq_ediv_of_nonneg (by omega),AG];congr 1;omega
 have b5:u64 (Int.tdiv x 512)=x/512:=by rw[Int.tdiv_eq_ediv_of_nonneg a8,AG]
 simp only[AI];rw[b5];have h4:=h.Dm aR;have bW:x/512<=last:=by omega
 refine Fy hE.toEnvS h4.set.row (by omega) bW (by omega) fun aF j=> ?_;have bG:=Ci h.set.row.ok bW;rw[AG];have aG:Ext AK w aF:=aR.trans' j;refine AR (fun e=>bV aS (.inr (.inr ?_)) _ aG) (fun e=> ?_)
 ·have b6:cnt G.ks (x/512) last≠last-x/512:=by simpa using e
  rw[<-cA];rcases Classical.em (∃c,x/512<=c/\c<last/\ ¬mem G.ks c)with h|h
  ·exact h
  ·exfalso;refine b6 (bG.2 fun m h1 h2=> ?_);exact Classical.byContradiction fun h3=>h ⟨m,h1,h2,h3⟩
 have bN:=bG.1 (by simpa using e);refine⟨by decide,by decide,AY fun fr b9=>AY fun to b2=> ?_⟩;have cG:fr=(x+511)/512:=by
  rw[b9,AG (n:=x+512),AG (n:=x+512-1),Int.tdiv_eq_ediv_of_nonneg (by omega),AG];congr 1;omega
 have cI:to=(x+n)/512:=by
  rw[b2,AG (n:=x+n),Int.tdiv_eq_ediv_of_nonneg (by omega),AG]
 have a9:=h.Dm aG;have a5: ¬GK b G w.heap.size:=fun e=>by have:=h.KQ e;omega
 have aY: ¬GK b G w2.heap.size:=fun e=>by have:=h.KQ e;omega
 have a1:w.heap.size<aF.heap.size:=by have:=j.size;omega
 have bI:w2.heap.size<aF.heap.size:=by have:=j.size;omega
 refine Ak (fun _ w'=> ∃G',Ej E b aF G w' G'/\G'.ks=G.ks/\ ∀p,G'.own p=if fr<=p/512/\p/512<to then id else G.own p) ?_ ?_
 ·refine AE (fun T=> ?_) (fun cS=>⟨G,Ej.refl a9,rfl,fun p=>by rw[if_neg (by omega)]⟩);refine⟨some ⟨b,0,none⟩,cm _ j,Pk a9 (by omega) T (by omega) fun aL aM aQ bE aU=> ?_⟩;have aB:=X2 a9 aQ bE aU;have aE: ∀w',Ext AK aL w'->w'.cell? ⟨w2.heap.size,0,none⟩=some (.int .i64 id):=fun w' he=>he.cell (aB.ext.cell (ci _ j) aY) fun f=>f;have J: ∀w',Ext AK aL w'->w'.cell? ⟨w.heap.size,0,none⟩=some (.pointer (some ⟨b,0,none⟩)):=fun w' he=>he.cell (aB.ext.cell (cm _ j) a5) fun f=>f;refine⟨id,aE _ (Ext.refl _ _),AE (fun cD=> ?_) (fun hz=>⟨_,aB,rfl,fun p=> ?_⟩)⟩
  ·have hd:Ext AK aL aL.drew:=Ext.drew _ _;have b7:=aQ.Dm hd;refine⟨some ⟨b,0,none⟩,J _ hd,some ⟨b,0,none⟩,J _ hd,?_⟩;simp only[AI,add_eq,Nat.zero_add];refine⟨aM,b7.wide.c2,id,aE _ hd,A7 fun cB bF b0 bT=> ?_⟩;have v:Ext AK aL cB:=hd.trans' bT;have Y:=aQ.Dm v;refine⟨aE _ v,Y.wide.c2,J _ v,J _ v,?_⟩;refine Lr (q:=(fr,to,id)) (m:=wcut G.ws fr to) Y.wide.own bF (Nat.zero_le _) (by have:=SL h.wide.ok T;omega) fun cZ cR bC N bD=> ?_;have a7: ∀k,k<aF.heap.size-> ¬Gx (G.cut fr to aM).sw k:=fun k hk e=>by have:=aU k e;omega
   have bP: ¬Gx (G.cut fr to aM).sw b:=by rintro⟨a,ha,e⟩;exact Y.wide.apart a ha e.symm
   refine⟨N.cell (aE _ v) (a7 _ bI),N.cell (J _ v) (a7 _ a1),N.cell (J _ v) (a7 _ a1),?_⟩;refine IP (N.cell Y.wide.c2 bP) (by rw[N.frozen (p:=⟨b,2,none⟩) Y.lt bP];exact Y.wide.f2) rfl fun cN b3=> ?_;have a2:=WE Y (q:=(fr,to,id)) ⟨by simp only;omega,T,by simp only;omega⟩ (fun p hp=>by
    obtain⟨p',b4,g1,g2,g3,g4⟩:=IL h.wide.ok T hp;exact g4) N bC bD b3
   refine⟨_,(aB.trans (Ej.nothing aQ v)).trans a2,rfl,fun p=> ?_⟩;unfold MapG.own;show(match(if fr<=p/512/\p/512<to then none else G.lv (p/512))with|some q=>q.2 (p %512)|none=>wholeL (wcut G.ws fr to++[(fr,to,id)]) (p/512))=_;by_cases hin:fr<=p/512/\p/512<to
   ·rw[if_pos hin,if_pos hin];show wholeL (wcut G.ws fr to++[(fr,to,id)]) (p/512)=id;rw[K6,wholeL,if_pos hin];rintro⟨p1,aX,g1,g2⟩;obtain⟨p',b4,_,_,_,g4⟩:=IL h.wide.ok T aX;omega
   ·rw[if_neg hin,if_neg hin];cases G.lv (p/512)with
    | some q=>rfl
    | none=>
     show wholeL (wcut G.ws fr to++[(fr,to,id)]) (p/512)=wholeL G.ws (p/512);rw[<-show wholeL (wcut G.ws fr to) (p/512)=wholeL G.ws (p/512)from by rw[IK T,if_neg hin]];by_cases hex: ∃p1∈wcut G.ws fr to,p1.1<=p/512/\p/512<p1.2.1
     ·rw[Pj hex]
     ·rw[K6 hex,wholeL,if_neg hin,SG fun p1 aX h2=>hex ⟨p1,aX,h2⟩];rfl
  ·rw[aD T];have:id=0:=by omega
   rw[this]
 rintro _ _ bR ⟨G1,d,aV,aN⟩;have aH:bR.cell? ⟨w2.heap.size,0,none⟩=some (.int .i64 id):=d.ext.cell (ci _ j) aY;have aI:bR.cell? ⟨w.heap.size,0,none⟩=some (.pointer (some ⟨b,0,none⟩)):=d.ext.cell (cm _ j) a5;have aP: ¬GK b G1 w.heap.size:=d.aA a5 a1;have aT: ¬GK b G1 w2.heap.size:=d.aA aY bI;have aJ: ∀c,x/512<=c->c<(x+n+511)/512->mem G.ks c:=fun c h1 h2=>bN c h1 (by omega);have aW:Ej E b w G aF G:=Ej.nothing h aG;refine AE (fun cK=> ?_) (fun hle=> ?_)
 ·refine hE.aC _ _ _ _ _ _ ?_;rw[AG];refine J0 d.rep a8 (by omega) aH aI aT aP fun w' G' a0 aK O=>⟨rfl,?_⟩;refine bQ aS bM bJ aJ w' G' ((aW.trans d).trans a0) (aK.trans aV) fun p=> ?_;rw[O,aN];by_cases hin:x<=p/\p<x+n
  ·rw[if_pos hin,if_pos hin]
  ·rw[if_neg hin,if_neg hin,if_neg (by omega)]
 ·refine hE.aC _ _ _ _ _ _ ?_;rw[AG];refine J0 d.rep a8 (by omega) aH aI aT aP fun cL G2 C bH a6=>⟨rfl,?_⟩;refine hE.aC _ _ _ _ _ _ ?_;rw[AG (n:=to*512),AG (n:=x+n)];have cF:=d.ext.size;refine J0 C.rep (by omega) (by omega) (C.ext.cell aH aT) (C.ext.cell aI aP) (C.aA aT (by omega)) (C.aA aP (by omega)) fun w' G' a0 aK O=>⟨rfl,?_⟩;refine bQ aS bM bJ aJ w' G' (((aW.trans d).trans C).trans a0) (aK.trans (bH.trans aV)) fun p=> ?_;rw[O,a6,aN];by_cases h1:to*512<=p/\p<x+n
  ·rw[if_pos h1,if_pos (by omega)]
  ·rw[if_neg h1];by_cases h2:x<=p/\p<fr*512
   ·rw[if_pos h2];by_cases h3:x<=p/\p<x+n
    ·rw[if_pos h3]
    ·exfalso;omega
   ·rw[if_neg h2];by_cases h3:fr<=p/512/\p/512<to
    ·rw[if_pos h3,if_pos (by omega)]
    ·rw[if_neg h3,if_neg (by omega)]
end
end Go.Sh
set_option linter.all false
set_option maxRecDepth 4000
set_option maxHeartbeats 1000000
namespace Go.Sh
def CP(E:Env)(b:Nat)(ks:Iv)(own:Int->Int):Pr where
 holds D w:= ∃G,E3 E w b G/\G.ks=ks/\(∀p,G.own p=own p)/\ ∀k,D k↔GK b G k
 loc h he hS:=let⟨G,h1,h2,h3,h4⟩:=h;⟨G,h1.ext he fun k d=>hS k ((h4 k).2 d),h2,h3,h4⟩
 lt h d:=let⟨G,h1,_,_,h4⟩:=h;h1.KQ ((h4 _).1 d)
section
variable{E:Env}{b:Nat}{ks:Iv}{own:Int->Int}{Z:List Pr}{w:World}
theorem Sat.VF(H:Sat (CP E b ks own::Z) w):
  ∃G,E3 E w b G/\G.ks=ks/\(∀p,G.own p=own p)/\ ∀w' G' j d,Ej E b w G w' G'->G'.ks=j->(∀p,G'.own p=d p)->Sat (CP E b j d::Z) w':=by
 obtain⟨D,⟨G,h1,N,J,v⟩,hs⟩:=H.step;refine⟨G,h1,N,J,fun w' G' j d st C K=>hs w' (GK b G') _ (st.ext.mono fun i _ O=>(v i).2 O) ⟨G',st.rep,C,K,fun _=>Iff.rfl⟩ fun k T=> ?_⟩;rcases st.PB k T with h|h
 ·exact .inl ((v k).2 h)
 ·exact .inr h
theorem Sat.aE(H:Sat (CP E b ks own::Z) w):Ok ks:=by
 obtain⟨G,h1,rfl,_⟩:=H.VF;exact h1.set.row.ok
theorem X3(H:Sat Z w){K:Option Addr->World->Prop}(v: ∀w' b,Sat (CP E b [] (fun _=>0)::Z) w'->K (some ⟨b,0,none⟩) w'):F.HT E K w:=
 X1 fun w' b G J he C j d=>v w' b (H.new (P:=CP E b [] fun _=>0) (D:=GK b G) he ⟨G,J,j,d,fun _=>Iff.rfl⟩ C)
theorem Tw(H:Sat (CP E b ks own::Z) w){K:Int->World->Prop}(d:K (CK ks) w):F.DR E (some ⟨b,0,none⟩) K w:=by
 obtain⟨G,h1,j,v,_⟩:=H.VF;unfold F.DR T0.DR F.Cv;simp only[AI,add_eq,Nat.zero_add];refine⟨_,h1.set.c1,?_⟩;rw[j];exact d
theorem WH{w':World}{G:MapG}(j:E3 E w b G){T:AZ}{K:Iv}(C:GI E w' b 0 T K)(d:Js b (RI 0) w w')(aB:OJ w G.s T):Ej E b w G w' (G.grow T K):=by
 have v: ∀k,Gx T k->Gx G.s k∨w.heap.size<=k:=by
  rintro k ⟨a,ha,rfl⟩;rcases aB with e|e
  ·rw[e]at ha;exact .inl ⟨a,ha,rfl⟩
  ·exact .inr (e a ha)
 refine⟨?_,?_,?_⟩
 ·have O: ¬RI 0 2:=by unfold RI;omega
  have aC: ¬RI 0 3:=by unfold RI;omega
  have aE:=j.lt;refine⟨C,⟨by rw[d.Dd 2 O];exact j.wide.c2,by rw[d.Yr];exact j.wide.f2,j.wide.own.ext d.ext fun g hg e=>j.wide.apart _ hg e,j.wide.ok,j.wide.apart⟩,by rw[d.Dd 3 aC];exact j.c3,?_,?_,j.inj,?_,?_⟩
  ·obtain⟨es,cl,m,h1,h2⟩:=j.map;exact⟨es,cl,m,d.ext.obj h1 j.gV,h2⟩
  ·intro k q J i hi;obtain⟨Y,g2⟩:=j.leaf k q J i hi;have O: ¬Gr b q.1:=(j.d2 k q J).1;exact⟨d.ext.cell Y O,by rw[d.ext.frozen (World.block_lt_of_cell? w _ Y) O];exact g2⟩
  ·intro k J N;rcases v k J with e|e
   ·exact j.d1 k e N
   ·have:=(j.wide.own.TY N).2;omega
  ·intro k q J;obtain⟨Y,g2,g3⟩:=j.d2 k q J;refine⟨Y,fun e=> ?_,g3⟩;rcases v _ e with e|e
   ·exact g2 e
   ·have:=World.block_lt_of_cell? w _ (j.leaf k q J 0 (by decide)).1;simp only at this;omega
 ·exact d.ext.mono fun i _ e=>.inl e
 ·rintro k (e|e|e|e|⟨c',q,e,e2⟩)
  ·exact .inl (.inl e)
  ·exact .inl (.inr (.inl e))
  ·rcases v k e with e|e
   ·exact .inl (.inr (.inr (.inl e)))
   ·exact .inr e
  ·exact .inl (.inr (.inr (.inr (.inl e))))
  ·exact .inl (.inr (.inr (.inr (.inr ⟨c',q,e,e2⟩))))
end
section
variable{E:Env}{b:Nat}{ks:Iv}{own:Int->Int}{Z:List Pr}{w:World}(hE:K7 E)
include hE
theorem SM(H:Sat (CP E b ks own::Z) w){x n id:Int}(J:0<=x)(hx:x<18446744073709551616)(C:0<=n)(hn:n<18446744073709551616){K:Int->World->Prop}
  (d:n≠0/\0<=id/\x+n<=34359738368/\ ∀p,x<=p->p<x+n->mem ks (p/512))(hK: ∀w',Sat (CP E b ks (fun p=>if x<=p/\p<x+n then id else own p)::Z) w'->K 0 w'):
  F.Ct E (some ⟨b,0,none⟩) x n id K w:=by
 obtain⟨G,h1,N,T,j⟩:=H.VF;obtain⟨g1,g2,g3,g4⟩:=d;have v: ¬(n=0∨id<0):=by omega
 refine WG hE h1 J hx C hn (fun h=>absurd h v) (fun _ h=> ?_) fun _ _ _ _ w' G' st O Y=>hK w' (j w' G' ks _ st (O.trans N) fun p=>by rw[Y,T]);exfalso;rcases h with h|h|⟨c,c1,c2,c3⟩
 ·omega
 ·omega
 ·refine c3 ?_;rw[N];have:=g4 (max x (c*512)) (by omega) (by omega);rwa[show max x (c*512)/512=c by omega]at this
theorem WI(H:Sat (CP E b ks own::Z) w){a c:Int}(N:0<=a)(j:a<c)(Y:c<=67108864){K:World->Prop}(J: ∀w',Sat (CP E b (Bk ks a c) own::Z) w'->K w'):
  F.Df E (some ⟨b,0,none⟩) a c K w:=by
 obtain⟨G,h1,T,O,v⟩:=H.VF;unfold F.Df T0.Df;simp only[AI];have C:Jr=4398046511104:=rfl;refine Gy hE.toEnvS h1.set N j (by omega) fun w' s' d hu hf=>J w' (v w' (G.grow s' (Bk G.ks a c)) _ own (WH h1 d hu hf) (by rw[T];rfl) fun p=>O p)
end
end Go.Sh

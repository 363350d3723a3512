/- The sets of stretches do what their lists say. No further condition. -/
import Derived.Test.YtbkjmfgdoceogaaGreatDoorF
import Derived.Test.YtbkjmfgdoceogaaGreatDoorM
set_option linter.all false
namespace Go.Sh
def flat:Iv->List Value
  | []=>[]
  | p::r=>.int .u64 p.1:: .int .u64 p.2::flat r
theorem Dl: ∀l:Iv,(flat l).length=l.length*2
  | []=>rfl
  | p::r=>by simp[flat,Dl r];omega
theorem Jp: ∀l m:Iv,flat (l++m)=flat l++flat m
  | [],_=>rfl
  | p::r,m=>by simp[flat,Jp r m]
theorem MU: ∀(l:Iv) (i:Nat),(flat l).take (i*2)=flat (l.take i)
  | [],i=>by simp[flat]
  | p::r,0=>by simp[flat]
  | p::r,i+1=>by
    rw[show(i+1)*2=i*2+1+1 from by omega];simp[flat,MU r i]
theorem MV: ∀(l:Iv) (i:Nat),(flat l).drop (i*2)=flat (l.drop i)
  | [],i=>by simp[flat]
  | p::r,0=>by simp[flat]
  | p::r,i+1=>by
    rw[show(i+1)*2=i*2+1+1 from by omega];simp[flat,MV r i]
theorem Jq: ∀(l:Iv) (i:Nat) (p:Int×Int),l[i]? =some p->(flat l)[i*2]? =some (.int .u64 p.1)/\(flat l)[i*2+1]? =some (.int .u64 p.2)
  | [],i,p,h=>by simp at h
  | q::r,0,p,h=>by simp at h;subst h;simp[flat]
  | q::r,i+1,p,h=>by
    have:=Jq r i p (by simpa using h);rw[show(i+1)*2=i*2+1+1 from by omega];simpa[flat]using this
theorem Rv: ∀(l:Iv) (v:Value),v∈flat l->v.oneCell'=true
  | [],v,h=>by cases h
  | p::r,v,h=>by
    simp only[flat,List.mem_cons]at h;rcases h with rfl|rfl|h
    · rfl
    · rfl
    · exact Rv r v h
abbrev Jr:Int:=4398046511104
theorem length_le: ∀{l:Iv},Ok l-> ∀B:Int,0<=B->(∀p∈l,p.2<=B)->(l.length:Int)<=B:=by
  have key: ∀{l:Iv},Ok l-> ∀A B:Int,A<=B->(∀p∈l,A<=p.1)->(∀p∈l,p.2<=B)->(l.length:Int)<=B-A:=by
    intro l
    induction l with
    | nil=>intro _ A B h _ _;simp;omega
    | cons p r ih=>
      intro h A B C v d;have h1:=v p (by simp);have J:=d p (by simp);have K:=h.2.1;have:=ih h.tail p.2 B J (fun q j=>by have:=h.2.2.2.1 q j;omega) (fun q j=>d q (by simp[j]));simp only[List.length_cons];omega
  intro l h B h0 d;have:=key h 0 B h0 (fun p hp=>(h.mem hp).1) d;omega
structure Eg(E:Env)(w:World)(p:Addr)(s:AZ)(l:Iv):Prop where
  c0:w.cell? p=some (.slice s.base s.len s.cap)
  f0:w.frozen? p=false
  own:Fs w 0 E.AD 2 s (flat l)
  ok:Ok l
  ZH: ∀q∈l,q.2<=Jr
  apart: ∀a,s.base=some a->a.block≠p.block
section
variable{E:Env}{w w':World}{p:Addr}{s:AZ}{l:Iv}
theorem Eg.len(h:Eg E w p s l):s.len=l.length:=by
  have:=h.own.len;rw[Dl]at this;omega
theorem Eg.small(h:Eg E w p s l):(l.length:Int)<=Jr:=length_le h.ok Jr (by decide) h.ZH
theorem Eg.ext{S:Nat->Prop}(h:Eg E w p s l)(he:Ext S w w')(hp: ¬S p.block)(hs: ∀a,s.base=some a-> ¬S a.block):Eg E w' p s l:=
  ⟨he.cell h.c0 hp,by rw[he.frozen (World.block_lt_of_cell? w p h.c0) hp];exact h.f0,
   h.own.ext he fun b d=>hs _ d,h.ok,h.ZH,h.apart⟩
theorem Eg.Dm(h:Eg E w p s l)(he:Ext AK w w'):Eg E w' p s l:=h.ext he (fun f=>f) fun _ _ f=>f
theorem Eg.cells(h:Eg E w p s l){i:Nat}{q:Int×Int}(v:l[i]? =some q):
    ∃b,s.base=some ⟨b,0,none⟩/\w.cell? ⟨b,i*2,none⟩=some (.int .u64 q.1)/\w.cell? ⟨b,i*2+1,none⟩=some (.int .u64 q.2):=by
  have d:=h.own.rowAt;obtain⟨j,C⟩:=Jq l i q v;rcases h.own.row with ⟨h1,J⟩|⟨b,cs,h1,_⟩
  · rw[h1]at d;have:flat l=[]:=d;rw[this]at j;simp at j
  · rw[h1]at d;refine⟨b,h1,?_,?_⟩
    · have:=d.2 _ _ j;rwa[add_eq,Nat.zero_add]at this
    · have:=d.2 _ _ C;rwa[add_eq,Nat.zero_add]at this
theorem Eg.lt(h:Eg E w p s l):p.block<w.heap.size:=World.block_lt_of_cell? w p h.c0
end
structure GI(E:Env)(w:World)(b o:Nat)(s:AZ)(l:Iv):Prop where
  row:Eg E w ⟨b,o,none⟩ s l
  c1:w.cell? ⟨b,o+1,none⟩=some (.int .u64 (CK l))
  f1:w.frozen? ⟨b,o+1,none⟩=false
theorem GI.ext{E:Env}{w w':World}{b o:Nat}{s:AZ}{l:Iv}{S:Nat->Prop}(h:GI E w b o s l)(he:Ext S w w')(hp: ¬S b)(hs: ∀a,s.base=some a-> ¬S a.block):GI E w' b o s l:=
  ⟨h.row.ext he hp hs,he.cell h.c1 hp,by rw[he.frozen (p:=⟨b,o+1,none⟩) h.row.lt hp];exact h.f1⟩
structure Js(b:Nat)(C:Nat->Prop)(w w':World):Prop where
  ext:Ext (Gr b) w w'
  Dd: ∀j,¬C j->w'.cell? ⟨b,j,none⟩=w.cell? ⟨b,j,none⟩
  Yr: ∀j,w'.frozen? ⟨b,j,none⟩=w.frozen? ⟨b,j,none⟩
theorem Js.TX{b:Nat}{C:Nat->Prop}{w w':World}(h:Ext AK w w')(d:b<w.heap.size):Js b C w w':=
  ⟨h.any,fun j _=>World.cell?_of_block (h.block b d fun f=>f),fun j=>World.frozen?_of_block (h.block b d fun f=>f)⟩
theorem Js.FV{b j:Nat}{C:Nat->Prop}{w w':World}{v:Value}(h:JZ ⟨b,j,none⟩ v w w')(J:C j):Js b C w w':=
  ⟨h.ext,fun i d=>h.other _ (by intro e;injection e with _ e;subst e;exact d J),fun i=>h.frozen _⟩
theorem Js.trans{b:Nat}{C:Nat->Prop}{w w1 v:World}(h:Js b C w w1)(k:Js b C w1 v):Js b C w v:=
  ⟨h.ext.trans' k.ext,fun j d=>(k.Dd j d).trans (h.Dd j d),fun j=>(k.Yr j).trans (h.Yr j)⟩
def RI(o:Nat):Nat->Prop:=fun j=>j=o∨j=o+1
def OJ(w:World)(s s':AZ):Prop:=s'.base=s.base∨ ∀a,s'.base=some a->w.heap.size<=a.block
structure EnvS(E:Env):Prop where
  sL: ∀i p1 p2 K w,F.C8 E i p1 p2 K w->E.call E.Fw #[.int .i64 i,.pointer p1,.pointer p2] w (fun r w'=> ∃b,r= .bool b/\K b w') Ns
  mono: ∀g args w (K K':Value->World->Prop),(∀v w',K v w'->K' v w')->E.call g args w K Ns->E.call g args w K' Ns
theorem half(a b:Int)(v:0<=a)(C:0<=b)(hs:a+b<9223372036854775808):
    i64 (Int.fdiv (u64 (i64 (a+b))) (2^(min (Int.toNat 1) (IntKind.bits .u64))))=(a+b)/2:=by
  have j:i64 (a+b)=a+b:=AN;have d:u64 (a+b)=a+b:=AG;rw[j,d];have:(2:Int)^(min (Int.toNat 1) (IntKind.bits .u64))=2:=by decide
  rw[this,Int.fdiv_eq_ediv_of_nonneg _ (by omega),AN]
theorem Rw{E:Env}{n:Int}{fv:Value}{w0:World}{K:Int->World->Prop}(t:Int->Bool)(hn:0<=n)(aG:n<4611686018427387904)
    (hf: ∀i w,0<=i->i<n->Ext AK w0 w-> ∀K':Value->World->Prop,(∀w',Ext AK w0 w'->K' (.bool (t i)) w')->DYN E.call fv #[.int .i64 i] w K')
    (m:Int)(O:0<=m)(Y:m<=n)(J: ∀i,0<=i->i<m->t i=false)(T: ∀i,m<=i->i<n->t i=true)
    (hK: ∀w',Ext AK w0 w'->K m w'):F.Gw E n fv K w0:=by
  unfold F.Gw;refine AM (fun s w=>0<=s.1/\s.1<=m/\m<=s.2.1/\s.2.1<=n/\Ext AK w0 w) (fun s _=>(s.2.1-s.1).toNat) ⟨by simp,by simpa using O,by simpa using Y,by simp,Ext.refl _ _⟩ ?_;rintro⟨i,j,u⟩ _ w ⟨h1,h2,h3,h4,hw⟩;simp only at h1 h2 h3 h4⊢;refine AE (fun aJ=>⟨by decide,AY fun h hh=> ?_⟩) (fun aI=> ?_)
  · rw[half i j h1 (by omega) (by omega)]at hh;refine hf h w (by omega) (by omega) hw _ fun w' C=>⟨_,rfl,AR (fun N=> ?_) (fun N=> ?_)⟩
    · have d:t h=false:=by simpa using N
      have:h<m:=by
        rcases Int.lt_or_le h m with v|v
        · exact v
        · rw[T h v (by omega)]at d;cases d
      rw[AN];exact⟨⟨by omega,by omega,h3,h4,C⟩,by omega⟩
    · have d:t h=true:=by simpa using N
      have:m<=h:=by
        rcases Int.lt_or_le h m with v|v
        · rw[J h (by omega) v]at d;cases d
        · exact v
      exact⟨⟨h1,h2,this,by omega,C⟩,by omega⟩
  · have:i=m:=by omega
    subst this;exact hK w hw
theorem Gi{α:Type}{l:List α}{k:Nat}{x:α}(h:l[k]? =some x):l.take (k+1)=l.take k++[x]:=by
  obtain⟨d,rfl⟩:=List.getElem?_eq_some_iff.1 h;exact List.take_succ_eq_append_getElem d
section
variable{E:Env}(hE:EnvS E){w:World}{p:Addr}{s:AZ}{l:Iv}
include hE
theorem Na(h:Eg E w p s l){x:Int}(aT:0<=x){K:Int->World->Prop}(hK: ∀w',Ext AK w w'->K (posn l x) w'):F.CV E (some p) x K w:=by
  unfold F.CV T0.CV;refine A7 fun w1 h1 aS aE=>A7 fun w2 h2 aJ aC=> ?_;have J:Ext AK w w2:=aE.trans' aC;have aB:w2.cell? ⟨w.heap.size,0,none⟩=some (.pointer (some p)):=aC.cell (by rw[AO h1];rfl) (fun f=>f);have aF:w2.cell? ⟨w1.heap.size,0,none⟩=some (.int .u64 x):=by rw[AO h2];rfl
  have O:=h.Dm J;refine⟨some p,aB,?_⟩;simp only[AI];refine⟨s,O.c0,?_⟩;have hlen:=h.len;have aD:=h.small;have aI:Jr=4398046511104:=rfl;refine Rw (fun i=>match l[i.toNat]? with|some q=>decide (q.2>x)|none=>true) (by omega) (by omega) ?_ (posn l x) (by omega) ?_ ?_ ?_ fun w' d=>hK w' (J.trans' d)
  · intro i w' T aR d K' Y;have C:i.toNat<l.length:=by omega
    have N:=List.getElem?_eq_getElem C;simp only[N]at Y;have j:=O.Dm d;obtain⟨b,hb,aP,aH⟩:=j.cells N;refine hE.mono _ _ _ _ _ ?_ (hE.sL i (some ⟨w.heap.size,0,none⟩) (some ⟨w1.heap.size,0,none⟩) (fun r aA=>K' (.bool r) aA) w' ?_)
    · rintro v aA ⟨r,rfl,hr⟩;exact hr
    · unfold F.C8;simp only[AI];refine⟨some p,d.cell aB (fun f=>f),?_⟩;simp only[AI];refine⟨s,j.c0,?_⟩;rw[hb];simp only[AI,add_eq,Nat.zero_add];exact⟨⟨T,by omega⟩,l[i.toNat].2,aH,x,d.cell aF (fun f=>f),Y _ (d.trans' (Ext.drew _ _))⟩
  · have:=IA l x;omega
  · intro i T hi;have C:i.toNat<l.length:=by have:=IA l x;omega
    have N:=List.getElem?_eq_getElem C;simp only[N];have:=Jd l x i.toNat _ (by omega) N;exact decide_eq_false (by omega)
  · intro i T hi;have C:i.toNat<l.length:=by omega
    have N:=List.getElem?_eq_getElem C;simp only[N];have:=Hb h.ok x (i:=i.toNat) (by omega) N;exact decide_eq_true (by omega)
theorem Fy(h:Eg E w p s l){a b:Int}(ha:0<=a)(aK:a<=b)(hb:b<18446744073709551616){K:Int->World->Prop}(hK: ∀w',Ext AK w w'->K (cnt l a b) w'):
    F.An E (some p) a b K w:=by
  unfold F.An T0.An;refine Na hE h ha fun w1 N=> ?_;have a1:=h.Dm N;have hlen:=h.len;have aS:=h.small;have aP:Jr=4398046511104:=rfl;have aH:=IA l a;refine AM (fun st w'=> ∃k:Nat,st.2.1=(k:Int)/\posn l a<=k/\k<=l.length/\st.1=cnt (l.take k) a b/\Ext AK w w') (fun st _=>(l.length-st.2.1).toNat)
    ⟨posn l a,rfl,Nat.le_refl _,aH,(NL LR).symm,N⟩ ?_
  rintro⟨n,i,u⟩ _ w2 ⟨k,hk,aF,aV,hn,J⟩;simp only at hk hn⊢;subst hk;have d:=h.Dm J;simp only[AI];have fin:(∀q,l[k]? =some q->b<=q.1)->K n w2:=by
    intro Y;have:cnt l a b=cnt (l.take k) a b:=by
      conv=>lhs;rw[<-List.take_append_drop k l]
      rw[N4];have:cnt (l.drop k) a b=0:=by
        refine N5 fun q C=> ?_;obtain⟨i,hi,rfl⟩:=List.mem_iff_getElem.1 C;rw[List.getElem_drop];simp only[List.length_drop]at hi;have v:k<l.length:=by omega
        have h4:=Y _ (List.getElem?_eq_getElem v);rcases Nat.eq_zero_or_pos i with rfl|aT
        · simpa using h4
        · have h5:=h.ok.lt (i:=k) (j:=k+i) (by omega) (List.getElem?_eq_getElem v) (List.getElem?_eq_getElem (by omega));have h6:=h.ok.get (List.getElem?_eq_getElem v);omega
      omega
    rw[hn,<-this];exact hK w2 J
  refine⟨s,d.c0,AE (fun a2=> ?_) (fun aY=>fin fun q C=> ?_)⟩
  · have hl:k<l.length:=by omega
    have O:=List.getElem?_eq_getElem hl;obtain⟨r,hr,aA,aL⟩:=d.cells O;refine⟨s,d.c0,?_⟩;rw[hr];simp only[AI,add_eq,Nat.zero_add,Int.toNat_natCast];refine⟨⟨by omega,by omega⟩,_,aA,AE (fun aN=> ?_) (fun aO=>fin fun q C=> ?_)⟩
    · have aC:=d.Dm (Ext.drew _ w2);refine⟨s,aC.c0,?_⟩;rw[hr];simp only[AI,add_eq,Nat.zero_add,Int.toNat_natCast];refine⟨⟨by omega,by omega⟩,l[k].2,aL,s,aC.c0,?_⟩;rw[hr];simp only[AI,add_eq,Nat.zero_add,Int.toNat_natCast];refine⟨⟨by omega,by omega⟩,l[k].1,aA,AY fun n' aB=> ?_⟩;have C:=h.ok.get O;have aM:=Hb h.ok a (i:=k) aF O;have T:cnt (l.take (k+1)) a b=n+(min l[k].2 b-max l[k].1 a):=by
        rw[Gi O,N4,<-hn];simp only[cnt,Jc];omega
      have aE:Ok (l.take (k+1)):=by
        have:=h.ok;rw[<-List.take_append_drop (k+1) l,DL]at this;exact this.1
      have hle:=DY aE aK;have aG:=B1 (l.take (k+1)) a b;have a0:=B1 (l.take k) a b;rw[NV,LP,AG (n:=min l[k].2 b-max l[k].1 a),<-T,AG aG (by omega)]at aB;refine⟨⟨k+1,?_,by omega,by omega,aB,J.trans' (Ext.drew _ _)⟩,?_⟩
      · rw[AN];omega
      · rw[AN];omega
    · rw[O]at C;cases C;omega
  · have:=(List.getElem?_eq_some_iff.1 C).1;omega
end
theorem Eg.F1{E:Env}{w w':World}{b o:Nat}{s:AZ}{l:Iv}{C:Nat->Prop}(h:Eg E w ⟨b,o,none⟩ s l)(hu:Js b C w w')(d: ¬C o):Eg E w' ⟨b,o,none⟩ s l:=
  ⟨by rw[hu.Dd o d];exact h.c0,by rw[hu.Yr o];exact h.f0,h.own.ext hu.ext fun g j e=>h.apart _ j e,h.ok,h.ZH,h.apart⟩
theorem Jt{w:World}{b n t:Nat}{l:List Value}{f:Nat×Nat}(h:w.heap[b]? =some (.cells ⟨l⟩ t f))(d:l.length=n):rowAt w (some ⟨b,0,none⟩) n l:=
  ⟨d,fun j v C=>by rw[add_eq,Nat.zero_add,AO h];simpa using C⟩
def Gx(s:AZ):Nat->Prop:=fun k=> ∃a,s.base=some a/\k=a.block
theorem Fs.TY{w:World}{B t z:Nat}{s:AZ}{vs:List Value}(h:Fs w B t z s vs){k:Nat}(j:Gx s k):B<=k/\k<w.heap.size:=by
  obtain⟨a,d,rfl⟩:=j;exact⟨(h.lt d).1,(h.lt d).2.1⟩
theorem Rx{l:Iv}{a b:Int}(h:Ok l)(d:a<b)(v: ∀q∈l,q.2<=Jr):((B6 l a b).length:Int)<=Jr:=
  length_le (EK h d) Jr (by decide) fun q j=>by
    obtain⟨p,hp,h1,C,J⟩:=Je h d j;have:=v p hp;omega
theorem XQ{l:Iv}{a b:Int}(h:Ok l)(d:a<b)(v: ∀q∈l,q.2<=Jr): ∀q∈B6 l a b,q.2<=Jr:=fun q j=>by
  obtain⟨p,hp,h1,C,J⟩:=Je h d j;have:=v p hp;omega
theorem Nb{E:Env}{w:World}{B g:Nat}{s:AZ}{m:Iv}{q:Int×Int}{K:AZ->World->Prop}(d:Fs w B E.AD 2 s (flat m))(hg:w.heap[g]? =some (.cells ⟨[.int .u64 q.1,.int .u64 q.2]⟩ E.AD))
    (O:B<=w.heap.size)(hm:(m.length:Int)<=Jr+1)
    (T: ∀s' w',Fs w' B E.AD 2 s' (flat (m++[q]))->Ext (Gx s) w w'->(s'.base=s.base∨ ∃b,s'.base=some ⟨b,0,none⟩/\w.heap.size<=b)->K s' w'):
    APP E.AD 2 16 #[.int .u64 0,.int .u64 0] s ⟨some ⟨g,0,none⟩,1,1⟩ w K:=by
  have J:=d.len;rw[Dl]at J;have j:Jr=4398046511104:=rfl;refine LO (news:=[.int .u64 q.1,.int .u64 q.2]) rfl d (Jt hg rfl) rfl (by intro v C;simp at C;rcases C with rfl|rfl<;>rfl) O (by simp only;omega) (by simp only;omega) ?_;intro s' w' N aA he Y;refine T s' w' ?_ he Y;rw[Jp];exact N
theorem Ld{E:Env}{w:World}{B:Nat}{s x:AZ}{m n:Iv}{K:AZ->World->Prop}(d:Fs w B E.AD 2 s (flat m))(O:rowAt w x.base (x.len*2) (flat n))(j:x.len=n.length)
    (hB:B<=w.heap.size)(hm:((m.length+n.length:Nat):Int)<=Jr+1)
    (N: ∀s' w',Fs w' B E.AD 2 s' (flat (m++n))->Ext (Gx s) w w'->(s'.base=s.base∨ ∃b,s'.base=some ⟨b,0,none⟩/\w.heap.size<=b)->K s' w'):
    APP E.AD 2 16 #[.int .u64 0,.int .u64 0] s x w K:=by
  have C:=d.len;rw[Dl]at C;have v:Jr=4398046511104:=rfl;refine LO rfl d O (by rw[Dl,j]) (Rv n) hB (by omega) (by omega) ?_;intro s' w' J Y he T;refine N s' w' ?_ he T;rw[Jp];exact J
theorem Ew{w0 w w':World}{B t z:Nat}{s:AZ}{vs:List Value}(h:Ext AK w0 w)(d:Fs w B t z s vs)(C:w0.heap.size<=B)(he:Ext (Gx s) w w'):Ext AK w0 w':=
  h.trans he (fun _ _ f=>f) fun i v j=>by have:=d.TY j;omega
section
variable{E:Env}(hE:EnvS E){w:World}{b o:Nat}{s:AZ}{l:Iv}
include hE
theorem Ig(h:GI E w b o s l){a c:Int}(ha:0<=a)(Y:a<c)(hc:c<18446744073709551616){K:World->Prop}
    (hK: ∀w' s',GI E w' b o s' (B6 l a c)->Js b (RI o) w w'->OJ w s s'->K w'):F.BJ E (some ⟨b,o,none⟩) a c K w:=by
  unfold F.BJ T0.BJ;refine AE (fun a5=>by omega) (fun _=> ?_);simp only[AI,add_eq];have hd:Ext AK w w.drew:=Ext.drew _ _;refine⟨CK l,h.c1,Fy hE (h.row.Dm hd) ha (by omega) hc fun w4 c2=> ?_⟩;have cE:Ext AK w w4:=hd.trans' c2;have b3:b<w.heap.size:=h.row.lt;have h4:=h.ext cE (fun f=>f) fun _ _ f=>f;refine⟨h4.c1,IP h4.c1 h4.f1 rfl fun w6 aC=> ?_⟩;have a7:Js b (RI o) w w6:=(Js.TX cE b3).trans (Js.FV aC (.inr rfl));have cB:Eg E w6 ⟨b,o,none⟩ s l:=h4.row.F1 (C:=fun j=>j=o+1) (Js.FV aC rfl) (by omega);have cD:u64 (CK l-cnt l a c)=CK (B6 l a c):=by
    rw[N3 h.row.ok Y];have h1:=GY (EK h.row.ok Y);have h2:=QW (EK h.row.ok Y);rw[N3 h.row.ok Y]at h1 h2;exact AG h1 h2
  rw[cD]at aC;refine Na hE cB ha fun w8 a2=> ?_;have hlen:=h.row.len;have dJ:=h.row.small;have dB:Jr=4398046511104:=rfl;have cS:=IA l a;have cI:=cB.Dm a2;have cG: ∀k,k<=l.length->posn l a<=k->((B6 ((l.take k).drop (posn l a)) a c).length:Int)<=Jr:=by
    intro k _ _;have cQ:Ok ((l.take k).drop (posn l a)):=by
      have h1:=h.row.ok;rw[<-List.take_append_drop k l,DL]at h1;have h2:=h1.1;rw[<-List.take_append_drop (posn l a) (l.take k),DL]at h2;exact h2.2.1
    exact Rx cQ Y fun q hq=>h.row.ZH q (List.mem_of_mem_take (List.mem_of_mem_drop hq))
  refine Ak (fun st w'=> ∃k:Nat,st.1=(k:Int)/\posn l a<=k/\k<=l.length/\(∀q,l[k]? =some q->c<=q.1)/\
      Fs w' w8.heap.size E.AD 2 st.2.1 (flat (B6 ((l.take k).drop (posn l a)) a c))/\Ext AK w8 w') ?_ ?_
  · refine AM (fun st w'=> ∃k:Nat,st.1=(k:Int)/\posn l a<=k/\k<=l.length/\
      Fs w' w8.heap.size E.AD 2 st.2.1 (flat (B6 ((l.take k).drop (posn l a)) a c))/\Ext AK w8 w') (fun st _=>(l.length-st.1).toNat)
      ⟨posn l a,rfl,Nat.le_refl _,cS,?_,Ext.refl _ _⟩ ?_
    · have:(l.take (posn l a)).drop (posn l a)=[]:=List.drop_eq_nil_of_le (by simp;omega);rw[this];exact Fs.nil _ _ _ _
    · rintro⟨i,rest,u⟩ _ aH ⟨k,hk,aU,bM,d,aN⟩;simp only at hk d⊢;subst hk;have aM:=cI.Dm aN;have out:(∀q,l[k]? =some q->c<=q.1)-> ∃k':Nat,(k:Int)=(k':Int)/\posn l a<=k'/\k'<=l.length/\(∀q,l[k']? =some q->c<=q.1)/\
          Fs aH w8.heap.size E.AD 2 rest (flat (B6 ((l.take k').drop (posn l a)) a c))/\Ext AK w8 aH:=
        fun hq=>⟨k,rfl,aU,bM,hq,d,aN⟩
      refine⟨s,aM.c0,AE (fun dC=> ?_) (fun c6=>out fun q hq=> ?_)⟩
      · have hl:k<l.length:=by omega
        have hg:=List.getElem?_eq_getElem hl;obtain⟨r,hr,bV,cL⟩:=aM.cells hg;refine⟨s,aM.c0,?_⟩;rw[hr];simp only[AI,add_eq,Nat.zero_add,Int.toNat_natCast];refine⟨⟨by omega,by omega⟩,_,bV,AE (fun c8=> ?_) (fun dA=>out fun q hq=> ?_)⟩
        · refine⟨s,aM.c0,?_⟩;rw[hr];simp only[AI,add_eq,Nat.zero_add,Int.toNat_natCast,Nat.add_zero];refine⟨⟨by omega,by omega⟩,l[k].1,bV,l[k].2,cL,?_⟩;have hq:=h.row.ok.get hg;have c7:=Hb h.row.ok a (i:=k) aU hg;obtain⟨M,hM⟩: ∃M,M=B6 ((l.take k).drop (posn l a)) a c:=⟨_,rfl⟩;rw[<-hM]at d;have dS:(M.length:Int)<=Jr:=by rw[hM];exact cG k bM aU
          have aS:B6 ((l.take (k+1)).drop (posn l a)) a c=M++LQ l[k] a c:=by
            rw[Gi hg,List.drop_append_of_le_length (by simp;omega),Jf,<-hM];simp[B6]
          refine A7 fun dL b7 c4 bG=> ?_;have b8:=aN.trans' bG;refine Fg _ _ _ _ _ _ _ b7 (by simp) (by intro v hv;simp at hv;rcases hv with rfl|rfl<;>rfl) fun bY bD cM aB=> ?_;simp at aB;have cU:=aN.size;have aR:Ext AK w8 bY:=b8.trans bD (fun _ _ f=>f) fun i hi cZ=>by have:i=aH.heap.size:=cZ;omega
          have aA:Fs bY w8.heap.size E.AD 2 rest (flat M):=(d.ext bG fun _ _ f=>f).ext bD fun g c3 e=>by
            have:=(d.lt c3).2.1;have:g=aH.heap.size:=e;simp at *;omega
          have aG: ¬Gx rest aH.heap.size:=fun hb=>by have:=(d.TY hb).2;omega
          refine Ak (fun st w'=>Fs w' w8.heap.size E.AD 2 st.1 (flat (M++if l[k].1<a then [(l[k].1,a)]else []))/\Ext AK w8 w'/\
              w'.heap[aH.heap.size]? =some (.cells ⟨[.int .u64 l[k].1,.int .u64 l[k].2]⟩ E.AD)/\ ¬Gx st.1 aH.heap.size) ?_ ?_
          · refine⟨l[k].1,by rw[AO aB];rfl,AE (fun a9=> ?_) (fun bB=> ?_)⟩
            · refine⟨l[k].1,by rw[AO aB];rfl,A7 fun dM b9 cT aP=> ?_⟩;refine Nb (q:=(l[k].1,a)) (aA.ext aP fun _ _ f=>f) b9 (by have:=aR.size;omega) (by omega) fun dP dQ b2 bA a4=> ?_;refine⟨by rw[if_pos a9];exact b2,Ew (aR.trans' aP) (aA.ext aP fun _ _ f=>f) (Nat.le_refl _) bA,bA.obj (aP.obj aB fun f=>f) aG,?_⟩;rintro⟨x,hx,he⟩;rcases a4 with a4|⟨y,hy,dW⟩
              · exact aG ⟨x,by rw[<-a4];exact hx,he⟩
              · rw[hy]at hx;cases hx;simp only at he;omega
            · refine⟨by rw[if_neg bB,List.append_nil];exact aA,aR,aB,aG⟩
          · rintro⟨dY,u⟩ _ d3 ⟨aK,a0,bC,bL⟩;simp only at aK bL⊢;have a8:i64 ((k:Int)+1)=((k+1:Nat):Int):=by rw[AN];omega
            have aQ:LQ l[k] a c=(if l[k].1<a then [(l[k].1,a)]else [])++if c<l[k].2 then [(c,l[k].2)]else []:=by
              unfold LQ;have e1:min l[k].2 a=a:=by omega
              have e2:max l[k].1 c=c:=by omega
              rw[e1,e2]
            refine⟨l[k].2,by rw[AO bC];rfl,AE (fun a9=> ?_) (fun bB=> ?_)⟩
            · refine⟨l[k].2,by rw[AO bC];rfl,A7 fun d1 bR cX a1=> ?_⟩;have a3:((M++if l[k].1<a then [(l[k].1,a)]else []).length:Int)<=Jr+1:=by
                rw[List.length_append];split<;>simp<;>omega
              refine Nb (q:=(c,l[k].2)) (aK.ext a1 fun _ _ f=>f) bR (by have:=a0.size;omega) a3 fun d2 dK bS b0 a4=> ?_;refine⟨⟨k+1,a8,by omega,by omega,?_,Ew (a0.trans' a1) (aK.ext a1 fun _ _ f=>f) (Nat.le_refl _) b0⟩,by rw[a8];omega⟩;rw[aS,aQ,if_pos (by omega:c<l[k].2),<-List.append_assoc];exact bS
            · refine⟨⟨k+1,a8,by omega,by omega,?_,a0⟩,by rw[a8];omega⟩;rw[aS,aQ,if_neg (by omega: ¬c<l[k].2),List.append_nil];exact aK
        · rw[hg]at hq;cases hq;omega
      · have:=(List.getElem?_eq_some_iff.1 hq).1;omega
  · rintro⟨i,rest,u⟩ _ T ⟨k,hk,aU,bM,bW,d,O⟩;simp only at hk d⊢;subst hk;have N:=cI.Dm O;have bU:Ext AK T T.drew:=Ext.drew _ _;simp only[AI,Jb];have bK:s.len<=s.cap:=N.own.cap;refine⟨s,N.c0,⟨by omega,by omega⟩,s,N.c0,⟨by omega,by omega⟩,A7 fun bH b4 cN cA=> ?_⟩;have aD:Ext AK T bH:=bU.trans' cA;have aV:=N.Dm aD;refine⟨aV.c0,aV.c0,?_⟩;have dE:w8.heap.size<=bH.heap.size:=Nat.le_trans O.size aD.size;have aJ:Fs bH T.heap.size E.AD 2 ⟨some ⟨T.heap.size,0,none⟩,0,0⟩ (flat []):=QT (w:=T.drew) b4 rfl (Nat.le_refl _) (by decide);have cC:=d.ext aD fun _ _ f=>f;have b6:=aV.own.rowAt;have cF:(flat l).length=s.len*2:=by rw[Dl,hlen]
    have cY:Int.toNat ((posn l a:Nat):Int)=posn l a:=Int.toNat_natCast _;have cV:Int.toNat ((k:Nat):Int)=k:=Int.toNat_natCast _;rw[cY,cV];have aI:=TQ h.row.ok Y aU bW;have bJ:=Rx h.row.ok Y h.row.ZH;rw[aI,List.length_append,List.length_append]at bJ;refine Ld (x:=⟨s.base,posn l a,s.cap⟩) (n:=l.take (posn l a)) aJ (by
        have:=Iu (m:=posn l a*2) b6 (by omega) cF;rwa[MU]at this) (by simp;omega) (by have:=aD.size;omega) (by simp;omega) fun dZ cO aY bT c5=> ?_
    have aO:Ext AK T cO:=Ew aD aJ (Nat.le_refl _) bT;have bF:=N.Dm aO;refine⟨bF.c0,bF.c0,?_⟩;have aE:=d.ext aO fun _ _ f=>f;simp only[List.nil_append]at aY;refine Ld (x:=rest) (n:=B6 ((l.take k).drop (posn l a)) a c) aY aE.rowAt (by have:=aE.len;rw[Dl]at this;omega) (by have:=aO.size;omega)
      (by simp at bJ⊢;omega) fun dI cJ bE cH cR=> ?_
    have aZ:Ext AK T cJ:=Ew aO aY (Nat.le_refl _) cH;have aT:=N.Dm aZ;refine⟨aT.c0,aT.c0,?_⟩;refine Ld (x:=⟨Fe s.base s.cap k 2,s.len-k,s.cap-k⟩) (n:=l.drop k) bE (by
        have:=Ha (k:=k) (z:=2) (cap:=s.cap) aT.own.rowAt rfl (by omega) bK cF;rwa[MV]at this) (by simp;omega) (by have:=aZ.size;omega) (by simp at bJ⊢;omega) fun b5 cW aW bZ cK=> ?_
    have aL:Ext AK T cW:=Ew aZ bE (Nat.le_refl _) bZ;have aF:=N.Dm aL;refine⟨aF.c0,aF.c0,IP aF.c0 aF.f0 rfl fun bQ J=> ?_⟩;rw[<-aI]at aW;have hu:Js b (RI o) w bQ:=(a7.trans (Js.TX ((a2.trans' O).trans' aL) (Nat.lt_of_lt_of_le b3 a7.ext.size))).trans (Js.FV J (.inl rfl));have a5: ∀x,b5.base=some x->w.heap.size<=x.block:=fun x hx=>by
      have h1:=(aW.lt hx).1;have h2:=a7.ext.size;have h3:=a2.size;have h4:=O.size;omega
    refine hK bQ b5 ⟨⟨J.same,by rw[J.frozen];exact aF.f0,?_,EK h.row.ok Y,XQ h.row.ok Y h.row.ZH,fun x hx e=>by have:=a5 x hx;simp only at e;omega⟩,?_,?_⟩ hu (.inr a5)
    · refine(aW.lower (Nat.zero_le _)).ext J.ext fun g hg e=> ?_;have:=a5 _ hg;have:g=b:=e;simp only at *
      omega
    · rw[J.other _ (by intro e;injection e with _ e;omega)];exact((a2.trans' O).trans' aL).cell aC.same (fun f=>f)
    · rw[J.frozen,((a2.trans' O).trans' aL).frozen (p:=⟨b,o+1,none⟩) (by have:=a7.ext.size;simp only;omega) (fun f=>f),aC.frozen];exact h4.f1
end
theorem OK{E:Env}{w0 w:World}{b o g:Nat}{s s1:AZ}{l:Iv}{i k:Nat}{q:Int×Int}{K:World->Prop}
    (hr:Eg E w0 ⟨b,o,none⟩ s l)(Y:Ext AK w0 w)(aG:Fs w w0.heap.size E.AD 2 s1 (flat (l.take i)))(hg:w.heap[g]? =some (.cells ⟨[.int .u64 q.1,.int .u64 q.2]⟩ E.AD))
    (hi:i<=k)(hk:k<=l.length)
    (hK: ∀w' aC s',Fs w' w0.heap.size E.AD 2 s' (flat (l.take i++[q]++l.drop k))->Ext AK w0 w'->JZ ⟨b,o,none⟩ (.slice s'.base s'.len s'.cap) w' aC->K aC):
    APP E.AD 2 16 #[.int .u64 0,.int .u64 0] s1 ⟨some ⟨g,0,none⟩,1,1⟩ w fun aE N=>
      N.cell? ⟨b,o,none⟩=some (.slice s.base s.len s.cap)/\N.cell? ⟨b,o,none⟩=some (.slice s.base s.len s.cap)/\
      APP E.AD 2 16 #[.int .u64 0,.int .u64 0] aE ⟨Fe s.base s.cap k 2,s.len-k,s.cap-k⟩ N fun C v=>
      v.cell? ⟨b,o,none⟩=some (.slice s.base s.len s.cap)/\v.cell? ⟨b,o,none⟩=some (.slice s.base s.len s.cap)/\
      stCells ⟨b,o,none⟩ 0 [.slice C.base C.len C.cap] v fun aA=>K aA:=by
  have hlen:=hr.len;have aN:=hr.small;have aL:Jr=4398046511104:=rfl;have aJ:(flat l).length=s.len*2:=by rw[Dl,hlen]
  refine Nb aG hg Y.size (by simp;omega) fun aE N O aF aK=> ?_;have J:Ext AK w0 N:=Ew Y aG (Nat.le_refl _) aF;have d:=hr.Dm J;refine⟨d.c0,d.c0,?_⟩;refine Ld (x:=⟨Fe s.base s.cap k 2,s.len-k,s.cap-k⟩) (n:=l.drop k) O (by
      have:=Ha (k:=k) (z:=2) (cap:=s.cap) d.own.rowAt rfl (by omega) d.own.cap aJ;rwa[MV]at this) (by simp;omega) J.size (by simp;omega) fun C v aD aB aM=> ?_
  have T:Ext AK w0 v:=Ew J O (Nat.le_refl _) aB;have j:=hr.Dm T;exact⟨j.c0,j.c0,IP j.c0 j.f0 rfl fun aA aI=>hK v aA C aD T aI⟩
theorem OL{E:Env}{w0 w:World}{b o g:Nat}{s:AZ}{l:Iv}{i:Nat}{K:AZ->World->Prop}
    (C:Eg E w0 ⟨b,o,none⟩ s l)(d:Ext AK w0 w)(hg:w.heap[g]? =some (.cells ⟨[]⟩ E.AD))(N:w0.heap.size<=g)(O:i<=l.length)
    (hK: ∀s' w',Fs w' w0.heap.size E.AD 2 s' (flat (l.take i))->Ext AK w0 w'->Ext (Gr g) w w'->K s' w'):
    APP E.AD 2 16 #[.int .u64 0,.int .u64 0] ⟨some ⟨g,0,none⟩,0,0⟩ ⟨s.base,i,s.cap⟩ w K:=by
  have hlen:=C.len;have Y:=C.small;have T:Jr=4398046511104:=rfl;have v:(flat l).length=s.len*2:=by rw[Dl,hlen]
  have j:Fs w w0.heap.size E.AD 2 ⟨some ⟨g,0,none⟩,0,0⟩ (flat []):=⟨rfl,Nat.le_refl _,(by decide:(0:Nat)<9223372036854775808),.inr ⟨g,_,rfl,N,hg,rfl,rfl⟩⟩;have J:=C.Dm d;refine Ld (n:=l.take i) j (by
    have:=Iu (m:=i*2) J.own.rowAt (by omega) v;rwa[MU]at this) (by simp;omega) d.size (by simp;omega) fun s' w' ho he hb=> ?_
  exact hK s' w' ho (Ew d j (Nat.le_refl _) he) (he.mono fun i _ O=>by obtain⟨a,ha,rfl⟩:=O;cases ha;rfl)
theorem XR(l:Iv)(i:Nat)(a:Int):(addLo l i a).2<=i:=by
  unfold addLo;cases i with
  | zero=>simp
  | succ j=>
    simp only;split
    · split<;>simp
    · simp
theorem XS(l:Iv)(i:Nat)(b:Int)(d:i<=l.length):i<=(addHi l i b).2/\(addHi l i b).2<=l.length:=by
  unfold addHi;split
  · rename_i q hq;have:=(List.getElem?_eq_some_iff.1 hq).1;split<;>simp<;>omega
  · simp;omega
section
variable{E:Env}(hE:EnvS E){w:World}{b o:Nat}{s:AZ}{l:Iv}
include hE
theorem Gy(h:GI E w b o s l){a c:Int}(ha:0<=a)(bP:a<c)(hc:c<=Jr){K:World->Prop}
    (hK: ∀w' s',GI E w' b o s' (Bk l a c)->Js b (RI o) w w'->OJ w s s'->K w'):F.Aq E (some ⟨b,o,none⟩) a c K w:=by
  have dG:Jr=4398046511104:=rfl;unfold F.Aq T0.Aq;refine AE (fun aM=>by omega) (fun _=> ?_);refine Ig hE h ha bP (by omega) fun w1 s1 h1 c6 dV=> ?_;simp only[AI,add_eq,Nat.zero_add,Nat.add_zero,Jb];obtain⟨l1,bM⟩: ∃l1,l1=B6 l a c:=⟨_,rfl⟩;rw[<-bM]at h1;have aV:Clear l1 a c:=by rw[bM];exact N6 h.row.ok bP
  obtain⟨aH,bT,bQ⟩:=PV h1.row.ok bP ha (by omega) aV;have bY:Bk l a c=NK l1 a c:=by rw[Bk,bM]
  refine⟨CK l1,h1.c1,IP h1.c1 h1.f1 rfl fun w5 aB=> ?_⟩;have hT:u64 (CK l1+u64 (c-a))=CK (NK l1 a c):=by
    have h2:=GY aH;have h3:=QW aH;rw[bQ]at h2 h3⊢;rw[AG (n:=c-a),AG]
  rw[hT]at aB;have aX:Js b (RI o) w w5:=c6.trans (Js.FV aB (.inr rfl));have aW:Eg E w5 ⟨b,o,none⟩ s1 l1:=h1.row.F1 (C:=fun j=>j=o+1) (Js.FV aB rfl) (by omega);refine Na hE aW ha fun w7 bL=> ?_;have aD:=aW.Dm bL;obtain⟨i,hi⟩: ∃i,i=posn l1 a:=⟨_,rfl⟩;rw[<-hi];have cQ:i<=l1.length:=by rw[hi];exact IA l1 a
  have hlen:=aD.len;have dJ:=aD.small;obtain⟨c9,aY⟩:=XS l1 i c cQ;have cW:=XR l1 i a;refine A7 fun w9 b2 dD c4=> ?_;obtain⟨g,hg⟩: ∃g,g=w7.heap.size:=⟨_,rfl⟩;rw[<-hg]at b2⊢;refine Fg _ _ _ _ _ _ _ b2 (by simp) (by intro v hv;simp at hv;rcases hv with rfl|rfl<;>rfl) fun b6 b9 cL aR=> ?_;simp at aR;have aC: ∀{w1 w2:World},Ext AK w7 w1->Ext (Gr g) w1 w2->Ext AK w7 w2:=fun h1 h2=>h1.trans h2 (fun _ _ f=>f) fun i hi e=>by have:i=g:=e;omega
  have aG:Ext AK w7 b6:=aC c4 b9;refine Ak (fun st w'=>st.1=((addHi l1 i c).2:Int)/\w'.heap[g]? =some (.cells ⟨[.int .u64 a,.int .u64 (addHi l1 i c).1]⟩ E.AD)/\Ext AK w7 w') ?_ ?_
  · refine Ak (fun st w'=>w'=b6/\(st.1=true↔ ∃q,l1[i]? =some q/\q.1=c)) ?_ ?_
    · have N:=aD.Dm aG;refine⟨s1,N.c0,AE (fun bO=> ?_) (fun aM=>⟨rfl,?_⟩)⟩
      · have hl:i<l1.length:=by omega
        have aK:=List.getElem?_eq_getElem hl;obtain⟨r,hr,aN,aO⟩:=N.cells aK;refine⟨s1,N.c0,?_⟩;rw[hr];simp only[AI,add_eq,Nat.zero_add,Int.toNat_natCast];refine⟨⟨by omega,by omega⟩,_,aN,trivial,?_⟩;rw[aK];simp
      · have:l1[i]? =none:=List.getElem?_eq_none (by omega);simp[this]
    · rintro⟨bt,u⟩ _ dN ⟨rfl,aE⟩;simp only at aE⊢;have N:=aD.Dm aG;refine AR (fun ht=> ?_) (fun hf=> ?_)
      · obtain⟨q,T,c5⟩:=aE.1 ht;have hl:=(List.getElem?_eq_some_iff.1 T).1;obtain⟨r,hr,aN,aO⟩:=N.cells T;refine⟨s1,N.c0,?_⟩;rw[hr];simp only[AI,add_eq,Nat.zero_add,Int.toNat_natCast];refine⟨⟨by omega,by omega⟩,_,aO,?_⟩;refine Fg _ _ _ _ _ _ _ aR (by simp) (by intro v hv;simp at hv;subst hv;rfl) fun cP aU bV O=> ?_;simp at O;have hH:addHi l1 i c=(q.2,i+1):=by unfold addHi;rw[T];simp[c5]
        rw[hH];refine⟨by rw[AN];simp,O,aC aG aU⟩
      · have hH:addHi l1 i c=(c,i):=by
          unfold addHi;split
          · rename_i q T;rw[if_neg];intro e;rw[aE.2 ⟨q,T,e⟩]at hf;cases hf
          · rfl
        rw[hH];exact⟨rfl,aR,aG⟩
  · rintro⟨k,u⟩ _ cZ ⟨hk,bF,aJ⟩;simp only at hk⊢;subst hk;refine Ak (fun st w'=>st.1=((addLo l1 i a).2:Int)/\w'.heap[g]? =some (.cells ⟨[.int .u64 (addLo l1 i a).1,.int .u64 (addHi l1 i c).1]⟩ E.AD)/\Ext AK w7 w') ?_ ?_
    · refine Ak (fun st w'=>w'=cZ/\(st.1=true↔ ∃j q,i=j+1/\l1[j]? =some q/\q.2=a)) ?_ ?_
      · have Y:=aD.Dm aJ;refine AE (fun bO=> ?_) (fun aM=>⟨rfl,?_⟩)
        · obtain⟨j,rfl⟩: ∃j,i=j+1:=⟨i-1,by omega⟩;have hl:j<l1.length:=by omega
          have aK:=List.getElem?_eq_getElem hl;obtain⟨r,hr,aN,aO⟩:=Y.cells aK;refine⟨s1,Y.c0,?_⟩;rw[hr];have hm:i64 (((j+1:Nat):Int)-1)=(j:Int):=by rw[AN];omega
          rw[hm];simp only[AI,add_eq,Nat.zero_add,Int.toNat_natCast];refine⟨⟨by omega,by omega⟩,_,aO,trivial,?_⟩;constructor
          · intro he;exact⟨j,_,rfl,aK,by simpa using he⟩
          · rintro⟨j',q,hj,T,bS⟩;have:j'=j:=by omega
            subst this;rw[aK]at T;cases T;simpa using bS
        · constructor
          · intro h;cases h
          · rintro⟨j,q,hj,_⟩;omega
      · rintro⟨bt,u⟩ _ dT ⟨rfl,aE⟩;simp only at aE⊢;have Y:=aD.Dm aJ;refine AR (fun ht=> ?_) (fun hf=> ?_)
        · obtain⟨j,q,rfl,T,bS⟩:=aE.1 ht;have hl:=(List.getElem?_eq_some_iff.1 T).1;obtain⟨r,hr,aN,aO⟩:=Y.cells T;refine⟨s1,Y.c0,?_⟩;rw[hr];have hm:i64 (((j+1:Nat):Int)-1)=(j:Int):=by rw[AN];omega
          rw[hm];simp only[AI,add_eq,Nat.zero_add,Int.toNat_natCast];refine⟨⟨by omega,by omega⟩,_,aN,?_⟩;refine Fg _ _ _ _ _ _ _ bF (by simp) (by intro v hv;simp at hv;subst hv;rfl) fun cP aU bV O=> ?_;simp at O;have hH:addLo l1 (j+1) a=(q.1,j):=by unfold addLo;simp only[T];simp[bS]
          rw[hH];exact⟨rfl,O,aC aJ aU⟩
        · have hH:addLo l1 i a=(a,i):=by
            unfold addLo;cases i with
            | zero=>rfl
            | succ j=>
              simp only;split
              · rename_i q T;rw[if_neg];intro e;rw[aE.2 ⟨j,q,rfl,T,e⟩]at hf;cases hf
              · rfl
          rw[hH];exact⟨rfl,bF,aJ⟩
    · rintro⟨k2,u⟩ _ J ⟨cI,aS,aP⟩;simp only at cI⊢;subst cI;have a4:NK l1 a c=l1.take (addLo l1 i a).2++[((addLo l1 i a).1,(addHi l1 i c).1)]++l1.drop (addHi l1 i c).2:=by rw[hi];rfl
      obtain⟨x,hx⟩: ∃x,x=(addLo l1 i a).1:=⟨_,rfl⟩;obtain⟨y,hy⟩: ∃y,y=(addHi l1 i c).1:=⟨_,rfl⟩;obtain⟨i1,aT⟩: ∃i1,i1=(addLo l1 i a).2:=⟨_,rfl⟩;obtain⟨k,bN⟩: ∃k,k=(addHi l1 i c).2:=⟨_,rfl⟩;rw[<-hx,<-hy]at aS;rw[<-hx,<-hy,<-aT,<-bN]at a4;rw[<-bN]at c9 aY;rw[<-aT]at cW;rw[<-bN,<-aT];have d:=aD.Dm aP;have dB:=d.own.cap;have fin: ∀w' aQ s',Fs w' J.heap.size E.AD 2 s' (flat (l1.take i1++[(x,y)]++l1.drop k))->Ext AK J w'->JZ ⟨b,o,none⟩ (.slice s'.base s'.len s'.cap) w' aQ->K aQ:=by
        intro w' aQ s' ho he aL;rw[<-a4]at ho;have bO:b<w.heap.size:=h.row.lt;have aI:Ext AK w5 w':=(bL.trans' aP).trans' he;have hu:Js b (RI o) w aQ:=(aX.trans (Js.TX aI (Nat.lt_of_lt_of_le bO aX.ext.size))).trans (Js.FV aL (.inl rfl));have aM: ∀x,s'.base=some x->w.heap.size<=x.block:=fun x hx=>by
          have h1:=(ho.lt hx).1;have h2:=aX.ext.size;have h3:=(bL.trans' aP).size;omega
        have cR:=aW.Dm aI;refine hK aQ s' ?_ hu (.inr aM);rw[bY];refine⟨⟨aL.same,by rw[aL.frozen];exact cR.f0,?_,aH,?_,fun x hx e=>by have:=aM x hx;simp only at e;omega⟩,?_,?_⟩
        · refine(ho.lower (Nat.zero_le _)).ext aL.ext fun g hg e=> ?_;have h1:=aM _ hg;have h2:g=b:=e;simp only at h1;omega
        · intro q T;have hm:=(aH.mem T);have h2:=(bT (q.2-1)).1 ⟨q,T,by omega,by omega⟩;rcases h2 with ⟨p,hp,h3,h4⟩|h2
          · have:=aW.ZH p hp;omega
          · omega
        · rw[aL.other _ (by intro e;injection e with _ e;omega)];exact aI.cell aB.same (fun f=>f)
        · rw[aL.frozen,aI.frozen (p:=⟨b,o+1,none⟩) (by have:=aX.ext.size;simp only;omega) (fun f=>f),aB.frozen];exact h1.f1
      have hd:Ext AK J J.drew:=Ext.drew _ _;have bW:J.cell? ⟨g,0,none⟩=some (.int .u64 x):=by rw[AO aS];rfl
      have bU:J.cell? ⟨g,1,none⟩=some (.int .u64 y):=by rw[AO aS];rfl
      have cV:Int.toNat ((k:Nat):Int)=k:=Int.toNat_natCast _;have cO:Int.toNat ((i1:Nat):Int)=i1:=Int.toNat_natCast _;rw[cV,cO];refine⟨s1,d.c0,⟨by omega,by omega⟩,x,bW,y,bU,s1,d.c0,⟨by omega,by omega⟩,?_,?_⟩
      · refine A7 fun cH bJ cM b4=> ?_;have aA:Ext AK J cH:=hd.trans' b4;have aZ:=d.Dm aA;have c3:J.drew.heap.size=J.heap.size:=rfl;refine⟨aZ.c0,⟨aA.cell bW (fun f=>f),aA.cell bU (fun f=>f),trivial⟩,aZ.c0,?_,?_⟩
        · refine OL d aA bJ (by omega) (by omega) fun dM dP cA aF dF=> ?_;have a9:=d.Dm aF;refine⟨a9.c0,⟨aF.cell bW (fun f=>f),aF.cell bU (fun f=>f),trivial⟩,a9.c0,A7 fun dR cC cU bA=> ?_⟩;have a0:=aF.trans' bA;have bG:=d.Dm a0;exact⟨bG.c0,bG.c0,OK (q:=(x,y)) d a0 (cA.ext bA fun _ _ f=>f) cC (by omega) aY fin⟩
        · refine A7 fun dX b5 cK bD=> ?_;have bB:=aA.trans' bD;have a2:=d.Dm bB;refine⟨a2.c0,a2.c0,OL d bB (bD.obj bJ fun f=>f) (by omega) (by omega) fun dK dZ b8 a8 cB=> ?_⟩;have a3:=d.Dm a8;exact⟨a3.c0,a3.c0,OK (q:=(x,y)) d a8 b8 (cB.obj b5 fun e=>by have:cH.heap.size=J.drew.heap.size:=e;omega) (by omega) aY fin⟩
      · refine A7 fun cE cF c2 b1=> ?_;have bE:Ext AK J cE:=hd.trans' b1;have a7:=d.Dm bE;have c3:J.drew.heap.size=J.heap.size:=rfl;refine⟨a7.c0,a7.c0,A7 fun dU b3 c8 bC=> ?_⟩;have a1:=bE.trans' bC;have a5:=d.Dm a1;refine⟨a5.c0,a5.c0,OL d a1 b3 (by omega) (by omega) fun dI dY cG bH cD=> ?_⟩;have bI:=d.Dm bH;exact⟨bI.c0,bI.c0,OK (q:=(x,y)) d bH cG (cD.obj (bC.obj cF fun f=>f) fun e=>by have:J.drew.heap.size=cE.heap.size:=e;omega) (by omega) aY fin⟩
end
end Go.Sh
set_option linter.all false
set_option maxRecDepth 4000
namespace Go.Sh
theorem Le{w:World}{k:Nat}{es:Array MapEntry}{c:Nat}{i:Nat}{v:Value}(hm:w.heap[k]? =some (.map es c))(d:w.cell? ⟨k,i,none⟩=some v):False:=by
 simp[World.cell?,hm]at d
theorem Fs.Qb{w:World}{B t z:Nat}{s:AZ}{vs:List Value}{k:Nat}{es:Array MapEntry}{c:Nat}(h:Fs w B t z s vs)(hm:w.heap[k]? =some (.map es c)): ¬Gx s k:=by
 rintro⟨a,d,rfl⟩;rcases h.row with ⟨h1,_⟩|⟨b,cs,h1,_,j,_⟩
 ·rw[h1]at d;cases d
 ·rw[h1]at d;cases d;rw[hm]at j;cases j
theorem GI.F1{E:Env}{w w':World}{b o:Nat}{s:AZ}{l:Iv}{C:Nat->Prop}(h:GI E w b o s l)(hu:Js b C w w')(h0: ¬C o)(h1: ¬C (o+1)):GI E w' b o s l:=
 ⟨h.row.F1 hu h0,by rw[hu.Dd _ h1];exact h.c1,by rw[hu.Yr];exact h.f1⟩
end Go.Sh
set_option linter.all false
set_option maxRecDepth 4000
namespace Go.Sh
def Gj(p:Int×Int)(a b:Int):Iv:=if p.2<=a∨b<=p.1 then []else [(max p.1 a,min p.2 b)]
def withinL:Iv->Int->Int->Iv
 | [],_,_=>[]
 | p::r,a,b=>Gj p a b++withinL r a b
theorem Ju(l m:Iv)(a b:Int):withinL (l++m) a b=withinL l a b++withinL m a b:=by
 induction l with
 | nil=>rfl
 | cons p r ih=>simp[withinL,ih]
theorem Mq{l:Iv}{a b:Int}(h: ∀p∈l,p.2<=a∨b<=p.1):withinL l a b=[]:=by
 induction l with
 | nil=>rfl
 | cons p r ih=>
  simp only[withinL,ih fun q d=>h q (List.mem_cons_of_mem _ d),List.append_nil];unfold Gj;rw[if_pos (h p List.mem_cons_self)]
theorem Ry(l:Iv)(a b:Int):(withinL l a b).length<=l.length:=by
 induction l with
 | nil=>exact Nat.le_refl _
 | cons p r ih=>
  simp only[withinL,List.length_append,List.length_cons];have:(Gj p a b).length<=1:=by unfold Gj;split<;>simp
  omega
theorem K0{l:Iv}(h:Ok l){a b:Int}(j:a<b): ∀q∈withinL l a b,a<=q.1/\q.1<q.2/\q.2<=b:=by
 induction l with
 | nil=>intro q d;cases d
 | cons p r ih=>
  intro q d;have hp:=h.mem (List.mem_cons_self:p∈p::r);rcases List.mem_append.1 d with d|d
  ·unfold Gj at d;split at d
   ·cases d
   ·rw[List.mem_singleton]at d;subst d;simp only;omega
  ·exact ih h.tail q d
theorem Fs.cells2{w:World}{B t:Nat}{s:AZ}{l:Iv}(h:Fs w B t 2 s (flat l)){i:Nat}{q:Int×Int}(C:l[i]? =some q):
  ∃b,s.base=some ⟨b,0,none⟩/\w.cell? ⟨b,i*2,none⟩=some (.int .u64 q.1)/\w.cell? ⟨b,i*2+1,none⟩=some (.int .u64 q.2):=by
 have d:=h.rowAt;obtain⟨j,v⟩:=Jq l i q C;rcases h.row with ⟨h1,J⟩|⟨b,cs,h1,_⟩
 ·rw[h1]at d;have:flat l=[]:=d;rw[this]at j;simp at j
 ·rw[h1]at d;refine⟨b,h1,?_,?_⟩
  ·have:=d.2 _ _ j;rwa[add_eq,Nat.zero_add]at this
  ·have:=d.2 _ _ v;rwa[add_eq,Nat.zero_add]at this
end Go.Sh
set_option linter.all false
set_option maxRecDepth 4000
namespace Go.Sh
section
variable{E:Env}(hE:EnvS E){w:World}{p:Addr}{s:AZ}{l:Iv}
include hE
theorem Rz(h:Eg E w p s l){a b:Int}(ha:0<=a)(hb:b<18446744073709551616){K:AZ->World->Prop}
  (hK: ∀s' w',Fs w' w.heap.size E.AD 2 s' (flat (withinL l a b))->Ext AK w w'->K s' w'):F.BK E (some p) a b K w:=by
 unfold F.BK T0.BK;refine Na hE h ha fun w2 aV=> ?_;have hlen:=h.len;have a2:=h.small;have aX:Jr=4398046511104:=rfl;have aG:=IA l a;simp only[AI,add_eq,Nat.zero_add];have N:withinL (l.take (posn l a)) a b=[]:=Mq fun q hq=>.inl (LR q hq);refine AM (fun st w'=> ∃k:Nat,st.2.1=(k:Int)/\posn l a<=k/\k<=l.length/\Fs w' w.heap.size E.AD 2 st.1 (flat (withinL (l.take k) a b))/\Ext AK w w')
  (fun st _=>(l.length-st.2.1).toNat) ⟨posn l a,rfl,Nat.le_refl _,aG,by rw[N];exact Fs.nil _ _ _ _,aV⟩ ?_
 rintro⟨s3,i,u⟩ _ w4 ⟨k,hk,aS,bB,C,O⟩;simp only at hk C⊢;subst hk;have h4:=h.Dm O;have fin:(∀q,l[k]? =some q->b<=q.1)->K s3 w4:=fun T=>by
  refine hK s3 w4 ?_ O;have:withinL l a b=withinL (l.take k) a b:=by
   have e:l=l.take k++l.drop k:=(List.take_append_drop k l).symm
   conv=>lhs;rw[e]
   rw[Ju];rw[Mq (l:=l.drop k),List.append_nil];intro q hq;right;obtain⟨j,hj⟩:=List.mem_iff_getElem?.1 hq;rw[List.getElem?_drop]at hj;by_cases hj0:j=0
   ·subst hj0;exact T q hj
   ·have aD:k<l.length:=by have:=(List.getElem?_eq_some_iff.1 hj).1;omega
    have:=T _ (List.getElem?_eq_getElem aD);have h2:=h.ok.lt (i:=k) (j:=k+j) (by omega) (List.getElem?_eq_getElem aD) hj;have h3:=h.ok.get (List.getElem?_eq_getElem aD);omega
  rw[this];exact C
 refine⟨s,h4.c0,AE (fun bH=> ?_) (fun a5=>fin fun q hq=>by have:=(List.getElem?_eq_some_iff.1 hq).1;omega)⟩;have hl:k<l.length:=by omega
 have hg:=List.getElem?_eq_getElem hl;obtain⟨r,hr,aE,aK⟩:=h4.cells hg;generalize hq:l[k]=q at hg aE aK;have a4:=h.ok.get hg;have bF:=h.ZH q (List.mem_of_getElem? hg);refine⟨s,h4.c0,?_⟩;rw[hr];simp only[AI,add_eq,Nat.zero_add,Int.toNat_natCast,Nat.add_zero];refine⟨⟨by omega,by omega⟩,q.1,aE,AE (fun a6=> ?_) (fun aZ=>fin fun q' aP=>by rw[hg]at aP;cases aP;omega)⟩;have hd:Ext AK w4 w4.drew:=Ext.drew _ _;have J: ∀{w'},Ext AK w4 w'->w'.cell? p=some (.slice s.base s.len s.cap)/\w'.cell? ⟨r,k*2,none⟩=some (.int .u64 q.1)/\w'.cell? ⟨r,k*2+1,none⟩=some (.int .u64 q.2):=fun he=>
  ⟨he.cell h4.c0 fun f=>f,he.cell aE fun f=>f,he.cell aK fun f=>f⟩
 obtain⟨c1,c2,c3⟩:=J hd;refine⟨s,c1,?_⟩;rw[hr];simp only[AI,add_eq,Nat.zero_add];refine⟨⟨by omega,by omega⟩,q.1,c2,s,c1,?_⟩;rw[hr];simp only[AI,add_eq,Nat.zero_add];refine⟨⟨by omega,by omega⟩,q.2,c3,A7 fun aU aM aW d=> ?_⟩;obtain⟨d1,d2,d3⟩:=J (hd.trans' d);refine⟨d3,by rw[<-hr];exact d1,d2,by rw[<-hr];exact d1,?_⟩;have v:=C.ext (hd.trans' d) fun _ _ f=>f;have bG:=Ry (l.take k) a b;have a3:(l.take k).length=k:=by simp;omega
 refine Nb (q:=(HL q.1 a,KX q.2 b)) v aM (by have:=O.size;have:=(hd.trans' d).size;omega) (by omega) fun bA bC aN aI a7=> ?_;have aJ:Ext AK w aU:=O.trans' (hd.trans' d);have Y:=Ew aJ v (Nat.le_refl _) aI;have aC:=h.Dm Y;obtain⟨r',aL,e1,e2⟩:=aC.cells hg;rw[hr]at aL;cases aL;refine⟨e2,by rw[<-hr];exact aC.c0,e1,by rw[<-hr];exact aC.c0,?_⟩;rw[AN];refine⟨⟨k+1,by omega,by omega,by omega,?_,Y⟩,by omega⟩;have aT:l.take (k+1)=l.take k++[q]:=Gi hg;have a1:=Hb h.ok a (i:=k) (p:=q) aS hg;rw[aT,Ju];have:withinL [q] a b=[(HL q.1 a,KX q.2 b)]:=by
  simp only[withinL,List.append_nil,Gj];rw[if_neg (by omega),LP,NV]
 rw[this];exact aN
end
end Go.Sh
set_option linter.all false
set_option maxRecDepth 4000
namespace Go.Sh
def Ih(E:Env)(s:AZ)(l:Iv):Pr:=ID (Ok l/\ ∀q∈l,q.2<=Jr) (Row E.AD 2 s (flat l))
section
variable{E:Env}{R:List Pr}{w w':World}{b t o:Nat}{vs:List Value}{s s':AZ}{l l':Iv}
theorem Sat.setAt(H:Sat (Cells b t vs::Ih E s l::R) w)(h0:vs[o]? =some (.slice s.base s.len s.cap))(h1:vs[o+1]? =some (.int .u64 (CK l))):GI E w b o s l:=by
 obtain⟨D,K,N,d,⟨T,O,⟨BH,j⟩,_,_,J⟩,C,_⟩:=H;refine⟨⟨(d.2.2 o _ h0).1,(d.2.2 o _ h0).2,j.2,BH.1,BH.2,fun a v e=> ?_⟩,(d.2.2 _ _ h1).1,(d.2.2 _ _ h1).2⟩;have h1:K a.block:=(d.1 _).2 e;exact C _ h1 ((J _).2 (.inl ((j.1 _).2 ⟨a,v,rfl⟩)))
theorem Sat.Ut(H:Sat (Cells b t vs::Ih E s l::R) w)(ho:o+1<vs.length)(hs:GI E w' b o s' l')(hu:Js b (RI o) w w')(hf:OJ w s s'):
  Sat (Cells b t ((vs.set o (.slice s'.base s'.len s'.cap)).set (o+1) (.int .u64 (CK l')))::Ih E s' l'::R) w':=by
 obtain⟨D,D1,D2,C,⟨D3,O,⟨BH,hr⟩,hF,T,J⟩,hd,hD⟩:=H;have K: ∀k,LW s' k->LW s k∨w.heap.size<=k:=by
  rintro k ⟨a,N,rfl⟩;rcases hf with e|e
  ·exact .inl ⟨a,by rw[<-e];exact N,rfl⟩
  ·exact .inr (e a N)
 have hb:b<w.heap.size:=C.2.1;have Y: ∀k,LW s' k->k≠b:=by
  rintro k ⟨a,N,rfl⟩;exact hs.row.apart a N
 refine⟨fun k=>k=b∨LW s' k∨O k,fun k=>k=b,fun k=>LW s' k∨O k,⟨fun _=>Iff.rfl,by have:=hu.ext.size;omega,fun j v d=> ?_⟩,⟨LW s',O,⟨⟨hs.row.ok,hs.row.ZH⟩,fun _=>Iff.rfl,hs.row.own⟩,?_,?_,fun _=>Iff.rfl⟩,?_,fun _=>Iff.rfl⟩
 ·rw[List.getElem?_set,List.getElem?_set]at d;rw[hu.Yr];by_cases e1:o+1=j
  ·subst e1;rw[if_pos rfl,if_pos (by simpa using ho)]at d;cases d;exact⟨hs.c1,(C.2.2 (o+1) _ (List.getElem?_eq_getElem ho)).2⟩
  ·rw[if_neg e1]at d;by_cases e2:o=j
   ·subst e2;rw[if_pos rfl,if_pos (by omega)]at d;cases d;exact⟨hs.row.c0,(C.2.2 o _ (List.getElem?_eq_getElem (by omega))).2⟩
   ·rw[if_neg e2]at d;rw[hu.Dd j (by unfold RI;omega)];exact C.2.2 j v d
 ·exact hF.loc hu.ext fun k hk e=>by
   have e:k=b:=e;subst e;exact hd _ ((C.1 _).2 rfl) ((J _).2 (.inr hk))
 ·intro k hk h4;rcases K k hk with e|e
  ·exact T k ((hr.1 k).2 e) h4
  ·have:=hF.lt h4;omega
 ·rintro k rfl (h|h)
  ·exact Y _ h rfl
  ·exact hd _ ((C.1 _).2 rfl) ((J _).2 (.inr h))
variable(hE:EnvS E)
include hE
theorem Lf(H:Sat (Cells b t vs::Ih E s l::R) w)(h0:vs[o]? =some (.slice s.base s.len s.cap))(h1:vs[o+1]? =some (.int .u64 (CK l))){x y:Int}(v:0<=x)(d:x<=y)(C:y<18446744073709551616)
  {K:Int->World->Prop}(j: ∀w',Ext AK w w'->K (cnt l x y) w'):F.An E (some ⟨b,o,none⟩) x y K w:=Fy hE (H.setAt h0 h1).row v d C j
theorem XT(H:Sat (Cells b t vs::Ih E s l::R) w)(h0:vs[o]? =some (.slice s.base s.len s.cap))(h1:vs[o+1]? =some (.int .u64 (CK l))){x y:Int}(v:0<=x)(d:x<y)(C:y<18446744073709551616){K:World->Prop}
  (j: ∀w' s',Sat (Cells b t ((vs.set o (.slice s'.base s'.len s'.cap)).set (o+1) (.int .u64 (CK (B6 l x y))))::Ih E s' (B6 l x y)::R) w'->K w'):F.BJ E (some ⟨b,o,none⟩) x y K w:=
 Ig hE (H.setAt h0 h1) v d C fun w' s' hs hu hf=>j w' s' (H.Ut (List.getElem?_eq_some_iff.1 h1).1 hs hu hf)
theorem TZ(H:Sat (Cells b t vs::Ih E s l::R) w)(h0:vs[o]? =some (.slice s.base s.len s.cap))(h1:vs[o+1]? =some (.int .u64 (CK l))){x y:Int}(v:0<=x)(d:x<y)(C:y<=Jr){K:World->Prop}
  (j: ∀w' s',Sat (Cells b t ((vs.set o (.slice s'.base s'.len s'.cap)).set (o+1) (.int .u64 (CK (Bk l x y))))::Ih E s' (Bk l x y)::R) w'->K w'):F.Aq E (some ⟨b,o,none⟩) x y K w:=
 Gy hE (H.setAt h0 h1) v d C fun w' s' hs hu hf=>j w' s' (H.Ut (List.getElem?_eq_some_iff.1 h1).1 hs hu hf)
end
theorem Ih.ok{E:Env}{s:AZ}{l:Iv}{R:List Pr}{w:World}(H:Sat (Ih E s l::R) w):Ok l/\ ∀q∈l,q.2<=Jr:=(Sat.where.1 H).1
theorem Sat.Ta{E:Env}{R:List Pr}{w:World}(H:Sat R w):Sat (Ih E ⟨none,0,0⟩ []::R) w:=
 Sat.where.2 ⟨⟨trivial,by simp⟩,H.nil E.AD 2⟩
end Go.Sh

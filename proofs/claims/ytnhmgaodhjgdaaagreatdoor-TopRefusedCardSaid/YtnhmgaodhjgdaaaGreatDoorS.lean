/- The sets of stretches do what their lists say. No further condition. -/
import Derived.Test.YtnhmgaodhjgdaaaGreatDoorF
import Derived.Test.YtnhmgaodhjgdaaaGreatDoorM
set_option linter.all false
set_option maxRecDepth 50000
namespace Go.Sh
def flat:Iv->List Value
  | []=>[]
  | p::r=>.int .u64 p.1:: .int .u64 p.2::flat r
def Ez: ∀l:Iv,(flat l).length=l.length*2
  | []=>rfl
  | p::r=>by simp[flat,Ez r];omega
def N5: ∀l m:Iv,flat (l++m)=flat l++flat m
  | [],_=>rfl
  | p::r,m=>by simp[flat,N5 r m]
def Rq: ∀(l:Iv) (i:Nat),(flat l).take (i*2)=flat (l.take i)
  | [],i=>by simp[flat]
  | p::r,0=>by rfl
  | p::r,i+1=>by
    rw[show(i+1)*2=i*2+1+1 from by omega];simp[flat,Rq r i]
def Rr: ∀(l:Iv) (i:Nat),(flat l).drop (i*2)=flat (l.drop i)
  | [],i=>by simp[flat]
  | p::r,0=>by rfl
  | p::r,i+1=>by
    rw[show(i+1)*2=i*2+1+1 from by omega];simp[flat,Rr r i]
def N6: ∀(l:Iv) (i:Nat) (p:Int×Int),l[i]? =some p->(flat l)[i*2]? =some (.int .u64 p.1)/\(flat l)[i*2+1]? =some (.int .u64 p.2)
  | [],i,p,h=>by grind
  | q::r,0,p,h=>by simp at h;subst h;simp[flat]
  | q::r,i+1,p,h=>by
    have:=N6 r i p (by grind);rw[show(i+1)*2=i*2+1+1 from by omega];simpa[flat]using this
def Yg: ∀(l:Iv) (v:Value),v∈flat l->v.oneCell'=true
  | [],v,h=>by cases h
  | p::r,v,h=>by
    simp only[flat,List.mem_cons]at h;rcases h with rfl|rfl|h
    . rfl
    . rfl
    . exact Yg r v h
abbrev O9:Int:=4398046511104
def length_le: ∀{l:Iv},Ok l-> ∀B:Int,0<=B->(∀p∈l,p.2<=B)->(l.length:Int)<=B:=by
  have key: ∀{l:Iv},Ok l-> ∀A B:Int,A<=B->(∀p∈l,A<=p.1)->(∀p∈l,p.2<=B)->(l.length:Int)<=B-A:=by
    intro l
    induction l with
    | nil=>simp
    | cons p r ih=>
      intro h A B u m a;have h1:=m p (by simp);have e:=a p (by simp);have v:=h.2.1;have:=ih h.tail p.2 B e (λq d=>by have:=h.2.2.2.1 q d;omega) (λq d=>a q (by grind))
      grind
  intro l h B h0 a;have:=key h 0 B h0 (λp hp=>(h.mem hp).1) a;omega
structure Gy(E:Env)(w:World)(p:Addr)(s:AW)(l:Iv):Prop where
  c0:w.cell? p=some (.slice s.base s.len s.cap)
  f0:w.frozen? p=false
  own:I8 w 0 E.AD 2 s (flat l)
  ok:Ok l
  W9: ∀q∈l,q.2<=O9
  apart: ∀a,s.base=some a->a.block≠p.block
section
variable{E:Env}{w w':World}{p:Addr}{s:AW}{l:Iv}
def Gy.len(h:Gy E w p s l):s.len=l.length:=by
  have:=h.own.len;rw[Ez]at this;omega
def Gy.small(h:Gy E w p s l):(l.length:Int)<=O9:=length_le h.ok O9 (by decide) h.W9
def Gy.ext{S:Nat->Prop}(h:Gy E w p s l)(he:Ext S w w')(hp: ¬S p.block)(e: ∀a,s.base=some a-> ¬S a.block):Gy E w' p s l:=
  ⟨he.cell h.c0 hp,by rw[he.frozen (World.block_lt_of_cell? w p h.c0) hp];exact h.f0,
   h.own.ext he λb d=>e _ d,h.ok,h.W9,h.apart⟩
def Gy.E0(h:Gy E w p s l)(he:Ext AN w w'):Gy E w' p s l:=h.ext he (λf=>f) λ_ _ f=>f
def Gy.cells(h:Gy E w p s l){i:Nat}{q:Int×Int}(hi:l[i]? =some q):
    ∃b,s.base=some ⟨b,0,none⟩/\w.cell? ⟨b,i*2,none⟩=some (.int .u64 q.1)/\w.cell? ⟨b,i*2+1,none⟩=some (.int .u64 q.2):=by
  have a:=h.own.rowAt;obtain⟨g1,g2⟩:=N6 l i q hi;rcases h.own.row with ⟨h1,d⟩|⟨b,cs,h1,_⟩
  . rw[h1]at a;have:flat l=[]:=a
    grind
  . rw[h1]at a;refine⟨b,h1,?_,?_⟩
    . have:=a.2 _ _ g1;rwa[add_eq,Nat.zero_add]at this
    . have:=a.2 _ _ g2;rwa[add_eq,Nat.zero_add]at this
def Gy.lt(h:Gy E w p s l):p.block<w.heap.size:=World.block_lt_of_cell? w p h.c0
end
structure Jj(E:Env)(w:World)(b o:Nat)(s:AW)(l:Iv):Prop where
  row:Gy E w ⟨b,o,none⟩ s l
  c1:w.cell? ⟨b,o+1,none⟩=some (.int .u64 (JZ l))
  f1:w.frozen? ⟨b,o+1,none⟩=false
def Jj.ext{E:Env}{w w':World}{b o:Nat}{s:AW}{l:Iv}{S:Nat->Prop}(h:Jj E w b o s l)(he:Ext S w w')(hp: ¬S b)(d: ∀a,s.base=some a-> ¬S a.block):Jj E w' b o s l:=
  ⟨h.row.ext he hp d,he.cell h.c1 hp,by rw[he.frozen (p:=⟨b,o+1,none⟩) h.row.lt hp];exact h.f1⟩
structure N7(b:Nat)(C:Nat->Prop)(w w':World):Prop where
  ext:Ext (KD b) w w'
  GW: ∀j,¬C j->w'.cell? ⟨b,j,none⟩=w.cell? ⟨b,j,none⟩
  sL: ∀j,w'.frozen? ⟨b,j,none⟩=w.frozen? ⟨b,j,none⟩
def N7.aZ{b:Nat}{C:Nat->Prop}{w w':World}(h:Ext AN w w')(a:b<w.heap.size):N7 b C w w':=
  ⟨h.any,λj _=>World.cell?_of_block (h.block b a λf=>f),λj=>World.frozen?_of_block (h.block b a λf=>f)⟩
def N7.Ie{b j:Nat}{C:Nat->Prop}{w w':World}{v:Value}(h:Nm ⟨b,j,none⟩ v w w')(a:C j):N7 b C w w':=
  ⟨h.ext,λi hi=>h.other _ (by grind),λi=>h.frozen _⟩
def N7.trans{b:Nat}{C:Nat->Prop}{w w1 d:World}(h:N7 b C w w1)(k:N7 b C w1 d):N7 b C w d:=
  ⟨h.ext.trans' k.ext,λj a=>(k.GW j a).trans (h.GW j a),λj=>(k.sL j).trans (h.sL j)⟩
def X5(o:Nat):Nat->Prop:=λj=>j=o∨j=o+1
def UK(w:World)(s s':AW):Prop:=s'.base=s.base∨ ∀a,s'.base=some a->w.heap.size<=a.block
structure EnvS(E:Env):Prop where
  at1: ∀i p1 p2 K w,F.Du E i p1 p2 K w->E.call E.JC #[.int .i64 i,.pointer p1,.pointer p2] w (λr w'=> ∃b,r= .bool b/\K b w') EW
  mono: ∀g args w (K K':Value->World->Prop),(∀v w',K v w'->K' v w')->E.call g args w K EW->E.call g args w K' EW
def half(a b:Int)(m:0<=a)(u:0<=b)(v:a+b<9223372036854775808):
    i64 (Int.fdiv (u64 (i64 (a+b))) (2^(min (Int.toNat 1) (IntKind.bits .u64))))=(a+b)/2:=by
  have d:i64 (a+b)=a+b:=AI;have e:u64 (a+b)=a+b:=AR;rw[d,e];have:(2:Int)^(min (Int.toNat 1) (IntKind.bits .u64))=2:=by decide
  rw[this,Int.fdiv_eq_ediv_of_nonneg _ (by omega),AI]
def L4{E:Env}{n:Int}{d:Value}{w0:World}{K:Int->World->Prop}(t:Int->Bool)(hn:0<=n)(aG:n<4611686018427387904)
    (O: ∀i w,0<=i->i<n->Ext AN w0 w-> ∀a:Value->World->Prop,(∀w',Ext AN w0 w'->a (.bool (t i)) w')->DYN E.call d #[.int .i64 i] w a)
    (m:Int)(aE:0<=m)(aF:m<=n)(aC: ∀i,0<=i->i<m->t i=false)(aB: ∀i,m<=i->i<n->t i=true)
    (hK: ∀w',Ext AN w0 w'->K m w'):F.IP E n d K w0:=by
  unfold F.IP;refine AM (λs w=>0<=s.1/\s.1<=m/\m<=s.2.1/\s.2.1<=n/\Ext AN w0 w) (λs _=>(s.2.1-s.1).toNat) ⟨by simp,by omega,by omega,by simp,Ext.refl _ _⟩ ?_;rintro⟨i,j,u⟩ _ w ⟨h1,e,v,J,hw⟩;simp only at h1 e v J⊢;refine AG (λaD=>⟨by decide,Ac λh hh=> ?_⟩) (λY=> ?_)
  . rw[half i j h1 (by omega) (by omega)]at hh;refine O h w (by omega) (by omega) hw _ λw' aI=>⟨_,rfl,AY (λht=> ?_) (λht=> ?_)⟩
    . have T:t h=false:=by grind
      have:h<m:=by grind
      rw[AI]
      grind
    grind
  grind
def Gd{α:Type}{l:List α}{k:Nat}{x:α}(h:l[k]? =some x):l.take (k+1)=l.take k++[x]:=by
  obtain⟨a,rfl⟩:=List.getElem?_eq_some_iff.1 h;simp
section
variable{E:Env}(hE:EnvS E){w:World}{p:Addr}{s:AW}{l:Iv}
include hE
theorem Qo(h:Gy E w p s l){x:Int}(aP:0<=x){K:Int->World->Prop}(hK: ∀w',Ext AN w w'->K (posn l x) w'):F.CT E (some p) x K w:=by
  unfold F.CT T0.CT;refine A8 λw1 h1 aN aC=>A8 λw2 h2 aO Y=> ?_;have m:Ext AN w w2:=aC.trans' Y;have T:w2.cell? ⟨w.heap.size,0,none⟩=some (.pointer (some p)):=Y.cell (by rw[AS h1];rfl) (λf=>f);have aB:w2.cell? ⟨w1.heap.size,0,none⟩=some (.int .u64 x):=by rw[AS h2];rfl
  have v:=h.E0 m;refine⟨some p,T,?_⟩;simp only[AK];refine⟨s,v.c0,?_⟩;have hlen:=h.len;have aA:=h.small;have aG:O9=4398046511104:=rfl;refine L4 (λi=>match l[i.toNat]? with|some q=>decide (q.2>x)|none=>true) (by omega) (by omega) ?_ (posn l x) (by omega) ?_ ?_ ?_ λw' a=>hK w' (m.trans' a)
  . intro i w' J aL a K' O;have d:i.toNat<l.length:=by omega
    have u:=List.getElem?_eq_getElem d;simp only[u]at O;have e:=v.E0 a;obtain⟨b,hb,aM,aD⟩:=e.cells u;refine hE.mono _ _ _ _ _ ?_ (hE.at1 i (some ⟨w.heap.size,0,none⟩) (some ⟨w1.heap.size,0,none⟩) (λr aE=>K' (.bool r) aE) w' ?_)
    . grind
    . unfold F.Du;simp only[AK];refine⟨some p,a.cell T (λf=>f),?_⟩;simp only[AK];refine⟨s,e.c0,?_⟩;rw[hb];simp only[AK,add_eq,Nat.zero_add];exact⟨⟨J,by omega⟩,l[i.toNat].2,aD,x,a.cell aB (λf=>f),O _ (a.trans' (Ext.drew _ _))⟩
  . have:=Kv l x;omega
  . intro i J hi;have d:i.toNat<l.length:=by have:=Kv l x;omega
    have u:=List.getElem?_eq_getElem d;simp only[u];have:=KQ l x i.toNat _ (by omega) u
    grind
  . intro i J hi;have d:i.toNat<l.length:=by omega
    have u:=List.getElem?_eq_getElem d;simp only[u];have:=LK h.ok x (i:=i.toNat) (by omega) u
    grind
theorem nR(h:Gy E w p s l){x:Int}(O:0<=x){K:Bool->World->Prop}(T: ∀w' b,(b=true↔mem l x)->Ext AN w w'->K b w'):F.Df E (some p) x K w:=by
  unfold F.Df T0.Df;refine Qo hE h O λw' d=> ?_;have a:=h.E0 d;have hlen:=h.len;simp only[AK];refine⟨s,a.c0,AG (λaD=> ?_) (λaC=> ?_)⟩
  . have Y:posn l x<l.length:=by omega
    have u:=List.getElem?_eq_getElem Y;obtain⟨b,hb,J,aE⟩:=a.cells u;refine⟨s,a.c0,?_⟩;rw[hb];simp only[AK,add_eq,Nat.zero_add];refine⟨⟨by omega,by omega⟩,_,by simpa using J,T _ _ ?_ d⟩;rw[decide_eq_true_iff];constructor
    . intro hle;exact⟨_,List.getElem_mem Y,hle,TK l x _ u⟩
    . rintro⟨q,v,h1,h2⟩;obtain⟨i,hi,rfl⟩:=List.mem_iff_getElem.1 v;have e:=List.getElem?_eq_getElem hi;rcases Nat.lt_trichotomy i (posn l x)with m|m|m
      . have:=KQ l x i _ m e;omega
      . grind
      . have:=h.ok.lt m u e;have:=(h.ok.get u).2.1;omega
  . refine T _ _ ?_ d;simp only[Bool.false_eq_true,false_iff];rintro⟨q,v,h1,h2⟩;obtain⟨i,hi,rfl⟩:=List.mem_iff_getElem.1 v;have:=Kv l x;have:=KQ l x i _ (by omega) (List.getElem?_eq_getElem hi);omega
theorem JI(h:Gy E w p s l){a b:Int}(ha:0<=a)(aE:a<=b)(hb:b<18446744073709551616){K:Int->World->Prop}(hK: ∀w',Ext AN w w'->K (cnt l a b) w'):
    F.Aw E (some p) a b K w:=by
  unfold F.Aw T0.Aw;refine Qo hE h ha λw1 Y=> ?_;have aY:=h.E0 Y;have hlen:=h.len;have hsm:=h.small;have aK:O9=4398046511104:=rfl;have aH:=Kv l a;refine AM (λst w'=> ∃k:Nat,st.2.1=(k:Int)/\posn l a<=k/\k<=l.length/\st.1=cnt (l.take k) a b/\Ext AN w w') (λst _=>(l.length-st.2.1).toNat)
    ⟨posn l a,rfl,Nat.le_refl _,aH,(S4 QX).symm,Y⟩ ?_
  rintro⟨n,i,u⟩ _ w2 ⟨k,hk,aF,aU,hn,aA⟩;simp only at hk hn⊢;subst hk;have d:=h.E0 aA;simp only[AK];have fin:(∀q,l[k]? =some q->b<=q.1)->K n w2:=by
    intro v;have:cnt l a b=cnt (l.take k) a b:=by
      conv=>lhs;rw[<-List.take_append_drop k l]
      rw[Tz];have:cnt (l.drop k) a b=0:=by
        refine T2 λq hq=> ?_;obtain⟨i,hi,rfl⟩:=List.mem_iff_getElem.1 hq;rw[List.getElem_drop];simp only[List.length_drop]at hi;have e:k<l.length:=by omega
        have h4:=v _ (List.getElem?_eq_getElem e);rcases Nat.eq_zero_or_pos i with rfl|aT
        . omega
        . have h5:=h.ok.lt (i:=k) (j:=k+i) (by omega) (List.getElem?_eq_getElem e) (List.getElem?_eq_getElem (by omega));have h6:=h.ok.get (List.getElem?_eq_getElem e);omega
      omega
    grind
  refine⟨s,d.c0,AG (λaW=> ?_) (λaS=>fin λq hq=> ?_)⟩
  . have hl:k<l.length:=by omega
    have hg:=List.getElem?_eq_getElem hl;obtain⟨r,hr,O,aI⟩:=d.cells hg;refine⟨s,d.c0,?_⟩;rw[hr];simp only[AK,add_eq,Nat.zero_add,Int.toNat_natCast];refine⟨⟨by omega,by omega⟩,_,O,AG (λaN=> ?_) (λaL=>fin λq hq=> ?_)⟩
    . have T:=d.E0 (Ext.drew _ w2);refine⟨s,T.c0,?_⟩;rw[hr];simp only[AK,add_eq,Nat.zero_add,Int.toNat_natCast];refine⟨⟨by omega,by omega⟩,l[k].2,aI,s,T.c0,?_⟩;rw[hr];simp only[AK,add_eq,Nat.zero_add,Int.toNat_natCast];refine⟨⟨by omega,by omega⟩,l[k].1,O,Ac λn' J=> ?_⟩;have hq:=h.ok.get hg;have aP:=LK h.ok a (i:=k) aF hg;have m:cnt (l.take (k+1)) a b=n+(min l[k].2 b-max l[k].1 a):=by
        rw[Gd hg,Tz,<-hn];simp only[cnt,No];omega
      have aD:Ok (l.take (k+1)):=by
        have:=h.ok;rw[<-List.take_append_drop (k+1) l,Fh]at this
        grind
      have hle:=Gm aD aE;have aG:=EX (l.take (k+1)) a b;have aX:=EX (l.take k) a b;rw[Wn,TJ,AR (n:=min l[k].2 b-max l[k].1 a),<-m,AR aG (by omega)]at J;refine⟨⟨k+1,?_,by omega,by omega,J,aA.trans' (Ext.drew _ _)⟩,?_⟩
      . rw[AI];omega
      . rw[AI];omega
    grind
  grind
end
def Gy.JT{E:Env}{w w':World}{b o:Nat}{s:AW}{l:Iv}{C:Nat->Prop}(h:Gy E w ⟨b,o,none⟩ s l)(hu:N7 b C w w')(hC: ¬C o):Gy E w' ⟨b,o,none⟩ s l:=
  ⟨by rw[hu.GW o hC];exact h.c0,by rw[hu.sL o];exact h.f0,h.own.ext hu.ext λg a e=>h.apart _ a e,h.ok,h.W9,h.apart⟩
def N8{w:World}{b n t:Nat}{l:List Value}{f:Nat×Nat}(h:w.heap[b]? =some (.cells ⟨l⟩ t f))(a:l.length=n):rowAt w (some ⟨b,0,none⟩) n l:=
  ⟨a,λj v d=>by rw[add_eq,Nat.zero_add,AS h];grind⟩
def Ki(s:AW):Nat->Prop:=λk=> ∃a,s.base=some a/\k=a.block
def I8.EU{w:World}{B t z:Nat}{s:AW}{vs:List Value}(h:I8 w B t z s vs){k:Nat}(e:Ki s k):B<=k/\k<w.heap.size:=by
  obtain⟨a,d,rfl⟩:=e;exact⟨(h.lt d).1,(h.lt d).2.1⟩
def Yh{l:Iv}{a b:Int}(h:Ok l)(d:a<b)(v: ∀q∈l,q.2<=O9):((Dy l a b).length:Int)<=O9:=
  length_le (Mo h d) O9 (by decide) λq e=>by
    obtain⟨p,hp,h1,m,u⟩:=Np h d e
    grind
def nS{l:Iv}{a b:Int}(h:Ok l)(d:a<b)(v: ∀q∈l,q.2<=O9): ∀q∈Dy l a b,q.2<=O9:=λq e=>by
  obtain⟨p,hp,h1,m,u⟩:=Np h d e
  grind
def TQ{E:Env}{w:World}{B g:Nat}{s:AW}{m:Iv}{q:Int×Int}{K:AW->World->Prop}(a:I8 w B E.AD 2 s (flat m))(T:w.heap[g]? =some (.cells ⟨[.int .u64 q.1,.int .u64 q.2]⟩ E.AD))
    (u:B<=w.heap.size)(hm:(m.length:Int)<=O9+1)
    (J: ∀s' w',I8 w' B E.AD 2 s' (flat (m++[q]))->Ext (Ki s) w w'->(s'.base=s.base∨ ∃b,s'.base=some ⟨b,0,none⟩/\w.heap.size<=b)->K s' w'):
    APP E.AD 2 16 #[.int .u64 0,.int .u64 0] s ⟨some ⟨g,0,none⟩,1,1⟩ w K:=by
  have Y:=a.len;rw[Ez]at Y;have d:O9=4398046511104:=rfl;refine QU (news:=[.int .u64 q.1,.int .u64 q.2]) rfl a (N8 T rfl) rfl (by intro v e;simp at e;rcases e with rfl|rfl<;>rfl) u (by grind) (by grind) ?_;intro s' w' ho aA he O;refine J s' w' ?_ he O;rw[N5];exact ho
def Qq{E:Env}{w:World}{B:Nat}{s x:AW}{m n:Iv}{K:AW->World->Prop}(a:I8 w B E.AD 2 s (flat m))(Y:rowAt w x.base (x.len*2) (flat n))(d:x.len=n.length)
    (u:B<=w.heap.size)(hm:((m.length+n.length:Nat):Int)<=O9+1)
    (v: ∀s' w',I8 w' B E.AD 2 s' (flat (m++n))->Ext (Ki s) w w'->(s'.base=s.base∨ ∃b,s'.base=some ⟨b,0,none⟩/\w.heap.size<=b)->K s' w'):
    APP E.AD 2 16 #[.int .u64 0,.int .u64 0] s x w K:=by
  have O:=a.len;rw[Ez]at O;have e:O9=4398046511104:=rfl;refine QU rfl a Y (by rw[Ez,d]) (Yg n) u (by omega) (by omega) ?_;intro s' w' ho T he J;refine v s' w' ?_ he J;rw[N5];omega
def Hk{w0 w w':World}{B t z:Nat}{s:AW}{vs:List Value}(h:Ext AN w0 w)(ho:I8 w B t z s vs)(d:w0.heap.size<=B)(he:Ext (Ki s) w w'):Ext AN w0 w':=
  h.trans he (λ_ _ f=>f) λi hi a=>by have:=ho.EU a;omega
section
variable{E:Env}(hE:EnvS E){w:World}{b o:Nat}{s:AW}{l:Iv}
include hE
theorem N9(h:Jj E w b o s l){a c:Int}(ha:0<=a)(Y:a<c)(hc:c<18446744073709551616){K:World->Prop}
    (hK: ∀w' s',Jj E w' b o s' (Dy l a c)->N7 b (X5 o) w w'->UK w s s'->K w'):F.CB E (some ⟨b,o,none⟩) a c K w:=by
  unfold F.CB T0.CB;refine AG (λbE=>by omega) (λ_=> ?_);simp only[AK,add_eq];have hd:Ext AN w w.drew:=Ext.drew _ _;refine⟨JZ l,h.c1,JI hE (h.row.E0 hd) ha (by omega) hc λw4 c2=> ?_⟩;have bQ:Ext AN w w4:=hd.trans' c2;have b3:b<w.heap.size:=h.row.lt;have h4:=h.ext bQ (λf=>f) λ_ _ f=>f;refine⟨h4.c1,LI h4.c1 h4.f1 rfl λw6 aE=> ?_⟩;have a5:N7 b (X5 o) w w6:=(N7.aZ bQ b3).trans (N7.Ie aE (.inr rfl));have b6:Gy E w6 ⟨b,o,none⟩ s l:=h4.row.JT (C:=λj=>j=o+1) (N7.Ie aE rfl) (by omega);have cA:u64 (JZ l-cnt l a c)=JZ (Dy l a c):=by
    rw[Tw h.row.ok Y];have h1:=Tx (Mo h.row.ok Y);have h2:=fB (Mo h.row.ok Y);rw[Tw h.row.ok Y]at h1 h2;exact AR h1 h2
  rw[cA]at aE;refine Qo hE b6 ha λw8 a1=> ?_;have hlen:=h.row.len;have hsm:=h.row.small;have dB:O9=4398046511104:=rfl;have cS:=Kv l a;have b7:=b6.E0 a1;have dG: ∀k,k<=l.length->posn l a<=k->((Dy ((l.take k).drop (posn l a)) a c).length:Int)<=O9:=by
    intro k _ _;have cH:Ok ((l.take k).drop (posn l a)):=by
      have h1:=h.row.ok;rw[<-List.take_append_drop k l,Fh]at h1;have h2:=h1.1;rw[<-List.take_append_drop (posn l a) (l.take k),Fh]at h2
      grind
    exact Yh cH Y λq hq=>h.row.W9 q (List.mem_of_mem_take (List.mem_of_mem_drop hq))
  refine AV (λst w'=> ∃k:Nat,st.1=(k:Int)/\posn l a<=k/\k<=l.length/\(∀q,l[k]? =some q->c<=q.1)/\
      I8 w' w8.heap.size E.AD 2 st.2.1 (flat (Dy ((l.take k).drop (posn l a)) a c))/\Ext AN w8 w') ?_ ?_
  . refine AM (λst w'=> ∃k:Nat,st.1=(k:Int)/\posn l a<=k/\k<=l.length/\
      I8 w' w8.heap.size E.AD 2 st.2.1 (flat (Dy ((l.take k).drop (posn l a)) a c))/\Ext AN w8 w') (λst _=>(l.length-st.1).toNat)
      ⟨posn l a,rfl,Nat.le_refl _,cS,?_,Ext.refl _ _⟩ ?_
    . have:(l.take (posn l a)).drop (posn l a)=[]:=List.drop_eq_nil_of_le (by grind);rw[this];exact I8.nil _ _ _ _
    . rintro⟨i,rest,u⟩ _ aF ⟨k,hk,a3,b2,d,aM⟩;simp only at hk d⊢;subst hk;have aL:=b7.E0 aM;have out:(∀q,l[k]? =some q->c<=q.1)-> ∃k':Nat,(k:Int)=(k':Int)/\posn l a<=k'/\k'<=l.length/\(∀q,l[k']? =some q->c<=q.1)/\
          I8 aF w8.heap.size E.AD 2 rest (flat (Dy ((l.take k').drop (posn l a)) a c))/\Ext AN w8 aF:=
        λhq=>⟨k,rfl,a3,b2,hq,d,aM⟩
      refine⟨s,aL.c0,AG (λdE=> ?_) (λdC=>out λq hq=> ?_)⟩
      . have hl:k<l.length:=by omega
        have hg:=List.getElem?_eq_getElem hl;obtain⟨r,hr,b5,cU⟩:=aL.cells hg;refine⟨s,aL.c0,?_⟩;rw[hr];simp only[AK,add_eq,Nat.zero_add,Int.toNat_natCast];refine⟨⟨by omega,by omega⟩,_,b5,AG (λdF=> ?_) (λdD=>out λq hq=> ?_)⟩
        . refine⟨s,aL.c0,?_⟩;rw[hr];simp only[AK,add_eq,Nat.zero_add,Int.toNat_natCast,Nat.add_zero];refine⟨⟨by omega,by omega⟩,l[k].1,b5,l[k].2,cU,?_⟩;have hq:=h.row.ok.get hg;have dJ:=LK h.row.ok a (i:=k) a3 hg;obtain⟨M,hM⟩: ∃M,M=Dy ((l.take k).drop (posn l a)) a c:=⟨_,rfl⟩;rw[<-hM]at d;have dO:(M.length:Int)<=O9:=by grind
          have cR:Dy ((l.take (k+1)).drop (posn l a)) a c=M++QW l[k] a c:=by
            rw[Gd hg,List.drop_append_of_le_length (by grind),Nq,<-hM];simp[Dy]
          refine A8 λdT bL cV a7=> ?_;have cB:=aM.trans' a7;refine IF _ _ _ _ _ _ _ bL (by simp) (by intro v hv;simp at hv;rcases hv with rfl|rfl<;>rfl) λcF a8 cW aG=> ?_;simp at aG;have c3:=aM.size;have cC:Ext AN w8 cF:=cB.trans a8 (λ_ _ f=>f) λi hi cP=>by have:i=aF.heap.size:=cP;omega
          have aI:I8 cF w8.heap.size E.AD 2 rest (flat M):=(d.ext a7 λ_ _ f=>f).ext a8 λg cN e=>by
            have:=(d.lt cN).2.1;have:g=aF.heap.size:=e;grind
          have aS: ¬Ki rest aF.heap.size:=λhb=>by have:=(d.EU hb).2;omega
          refine AV (λst w'=>I8 w' w8.heap.size E.AD 2 st.1 (flat (M++if l[k].1<a then [(l[k].1,a)]else []))/\Ext AN w8 w'/\
              w'.heap[aF.heap.size]? =some (.cells ⟨[.int .u64 l[k].1,.int .u64 l[k].2]⟩ E.AD)/\ ¬Ki st.1 aF.heap.size) ?_ ?_
          . refine⟨l[k].1,by rw[AS aG];rfl,AG (λb4=> ?_) (λbY=> ?_)⟩
            . refine⟨l[k].1,by rw[AS aG];rfl,A8 λdV bM cX aH=> ?_⟩;refine TQ (q:=(l[k].1,a)) (aI.ext aH λ_ _ f=>f) bM (by omega) (by omega) λW7 dW dH a9 bC=> ?_;refine⟨by grind,Hk (cC.trans' aH) (aI.ext aH λ_ _ f=>f) (Nat.le_refl _) a9,a9.obj (aH.obj aG λf=>f) aS,?_⟩;rintro⟨x,hx,he⟩;rcases bC with bC|⟨y,hy,dS⟩
              . exact aS ⟨x,by grind,he⟩
              grind
            grind
          . rintro⟨lS,u⟩ _ dU ⟨aT,cD,a6,bF⟩;simp only at aT bF⊢;have cO:i64 ((k:Int)+1)=((k+1:Nat):Int):=by rw[AI];omega
            have cM:QW l[k] a c=(if l[k].1<a then [(l[k].1,a)]else [])++if c<l[k].2 then [(c,l[k].2)]else []:=by
              unfold QW
              grind
            refine⟨l[k].2,by rw[AS a6];rfl,AG (λb4=> ?_) (λbY=> ?_)⟩
            . refine⟨l[k].2,by rw[AS a6];rfl,A8 λdY bN cY aR=> ?_⟩;have a4:((M++if l[k].1<a then [(l[k].1,a)]else []).length:Int)<=O9+1:=by grind
              refine TQ (q:=(c,l[k].2)) (aT.ext aR λ_ _ f=>f) bN (by grind) a4 λaY dZ dI bR bC=> ?_;refine⟨⟨k+1,cO,by omega,by omega,?_,Hk (cD.trans' aR) (aT.ext aR λ_ _ f=>f) (Nat.le_refl _) bR⟩,by omega⟩
              grind
            grind
        grind
      grind
  . rintro⟨i,rest,u⟩ _ aA ⟨k,hk,a3,b2,bW,d,T⟩;simp only at hk d⊢;subst hk;have O:=b7.E0 T;have bP:Ext AN aA aA.drew:=Ext.drew _ _;simp only[AK,Tv];have bD:s.len<=s.cap:=O.own.cap;refine⟨s,O.c0,⟨by omega,by omega⟩,s,O.c0,⟨by omega,by omega⟩,A8 λbG bO cZ bS=> ?_⟩;have aN:Ext AN aA bG:=bP.trans' bS;have aW:=O.E0 aN;refine⟨aW.c0,aW.c0,?_⟩;have c8:w8.heap.size<=bG.heap.size:=Nat.le_trans T.size aN.size;have aJ:I8 bG aA.heap.size E.AD 2 ⟨some ⟨aA.heap.size,0,none⟩,0,0⟩ (flat []):=Wm (w:=aA.drew) bO rfl (Nat.le_refl _) (by decide);have b8:=d.ext aN λ_ _ f=>f;have b9:=aW.own.rowAt;have bX:(flat l).length=s.len*2:=by rw[Ez,hlen]
    have cT:Int.toNat ((posn l a:Nat):Int)=posn l a:=Int.toNat_natCast _;have cQ:Int.toNat ((k:Nat):Int)=k:=Int.toNat_natCast _;rw[cT,cQ];have aK:=aQ h.row.ok Y a3 bW;have cL:=Yh h.row.ok Y h.row.W9;rw[aK,List.length_append,List.length_append]at cL;refine Qq (x:=⟨s.base,posn l a,s.cap⟩) (n:=l.take (posn l a)) aJ (by
        have:=Pj (m:=posn l a*2) b9 (by omega) bX;rwa[Rq]at this) (by grind) (by simp_all) (by grind) λnN c5 aU bT cI=> ?_
    have aO:Ext AN aA c5:=Hk aN aJ (Nat.le_refl _) bT;have bB:=O.E0 aO;refine⟨bB.c0,bB.c0,?_⟩;have aD:=d.ext aO λ_ _ f=>f;simp only[List.nil_append]at aU;refine Qq (x:=rest) (n:=Dy ((l.take k).drop (posn l a)) a c) aU aD.rowAt (by have:=aD.len;rw[Ez]at this;omega) (by have:=aO.size;omega)
      (by omega) λtC c6 bA bU cJ=> ?_
    have a0:Ext AN aA c6:=Hk aO aU (Nat.le_refl _) bU;have aX:=O.E0 a0;refine⟨aX.c0,aX.c0,?_⟩;refine Qq (x:=⟨KH s.base s.cap k 2,s.len-k,s.cap-k⟩) (n:=l.drop k) bA (by
        have:=LJ (k:=k) (z:=2) (cap:=s.cap) aX.own.rowAt rfl (by omega) bD bX;rwa[Rr]at this) (by grind) (by have:=a0.size;omega) (by grind) λaC c7 aV bV cK=> ?_
    have aP:Ext AN aA c7:=Hk a0 bA (Nat.le_refl _) bV;have aB:=O.E0 aP;refine⟨aB.c0,aB.c0,LI aB.c0 aB.f0 rfl λcG J=> ?_⟩;rw[<-aK]at aV;have hu:N7 b (X5 o) w cG:=(a5.trans (N7.aZ ((a1.trans' T).trans' aP) (Nat.lt_of_lt_of_le b3 a5.ext.size))).trans (N7.Ie J (.inl rfl));have bE: ∀x,aC.base=some x->w.heap.size<=x.block:=λx hx=>by
      have h1:=(aV.lt hx).1;have h2:=a5.ext.size;have h3:=a1.size;have h4:=T.size;omega
    refine hK cG aC ⟨⟨J.same,by rw[J.frozen];exact aB.f0,?_,Mo h.row.ok Y,nS h.row.ok Y h.row.W9,λx hx e=>by grind⟩,?_,?_⟩ hu (.inr bE)
    . refine(aV.lower (Nat.zero_le _)).ext J.ext λg hg e=> ?_;have:=bE _ hg;have:g=b:=e
      grind
    . rw[J.other _ (by simp)];exact((a1.trans' T).trans' aP).cell aE.same (λf=>f)
    . rw[J.frozen,((a1.trans' T).trans' aP).frozen (p:=⟨b,o+1,none⟩) (by have:=a5.ext.size;grind) (λf=>f),aE.frozen];exact h4.f1
end
def UL{E:Env}{w0 w:World}{b o g:Nat}{s s1:AW}{l:Iv}{i k:Nat}{q:Int×Int}{K:World->Prop}
    (hr:Gy E w0 ⟨b,o,none⟩ s l)(v:Ext AN w0 w)(aB:I8 w w0.heap.size E.AD 2 s1 (flat (l.take i)))(hg:w.heap[g]? =some (.cells ⟨[.int .u64 q.1,.int .u64 q.2]⟩ E.AD))
    (hi:i<=k)(hk:k<=l.length)
    (hK: ∀w' aD s',I8 w' w0.heap.size E.AD 2 s' (flat (l.take i++[q]++l.drop k))->Ext AN w0 w'->Nm ⟨b,o,none⟩ (.slice s'.base s'.len s'.cap) w' aD->K aD):
    APP E.AD 2 16 #[.int .u64 0,.int .u64 0] s1 ⟨some ⟨g,0,none⟩,1,1⟩ w λfM u=>
      u.cell? ⟨b,o,none⟩=some (.slice s.base s.len s.cap)/\u.cell? ⟨b,o,none⟩=some (.slice s.base s.len s.cap)/\
      APP E.AD 2 16 #[.int .u64 0,.int .u64 0] fM ⟨KH s.base s.cap k 2,s.len-k,s.cap-k⟩ u λVK e=>
      e.cell? ⟨b,o,none⟩=some (.slice s.base s.len s.cap)/\e.cell? ⟨b,o,none⟩=some (.slice s.base s.len s.cap)/\
      stCells ⟨b,o,none⟩ 0 [.slice VK.base VK.len VK.cap] e λT=>K T:=by
  have hlen:=hr.len;have hsm:=hr.small;have aJ:O9=4398046511104:=rfl;have aF:(flat l).length=s.len*2:=by rw[Ez,hlen]
  refine TQ aB hg v.size (by grind) λfM u J Y aH=> ?_;have m:Ext AN w0 u:=Hk v aB (Nat.le_refl _) Y;have a:=hr.E0 m;refine⟨a.c0,a.c0,?_⟩;refine Qq (x:=⟨KH s.base s.cap k 2,s.len-k,s.cap-k⟩) (n:=l.drop k) J (by
      have:=LJ (k:=k) (z:=2) (cap:=s.cap) a.own.rowAt rfl (by omega) a.own.cap aF;rwa[Rr]at this) (by grind) m.size (by grind) λVK e aC aA aI=> ?_
  have O:Ext AN w0 e:=Hk m J (Nat.le_refl _) aA;have d:=hr.E0 O;exact⟨d.c0,d.c0,LI d.c0 d.f0 rfl λT aG=>hK e T VK aC O aG⟩
def UM{E:Env}{w0 w:World}{b o g:Nat}{s:AW}{l:Iv}{i:Nat}{K:AW->World->Prop}
    (J:Gy E w0 ⟨b,o,none⟩ s l)(d:Ext AN w0 w)(hg:w.heap[g]? =some (.cells ⟨[]⟩ E.AD))(v:w0.heap.size<=g)(hi:i<=l.length)
    (Y: ∀s' w',I8 w' w0.heap.size E.AD 2 s' (flat (l.take i))->Ext AN w0 w'->Ext (KD g) w w'->K s' w'):
    APP E.AD 2 16 #[.int .u64 0,.int .u64 0] ⟨some ⟨g,0,none⟩,0,0⟩ ⟨s.base,i,s.cap⟩ w K:=by
  have hlen:=J.len;have hsm:=J.small;have T:O9=4398046511104:=rfl;have u:(flat l).length=s.len*2:=by rw[Ez,hlen]
  have e:I8 w w0.heap.size E.AD 2 ⟨some ⟨g,0,none⟩,0,0⟩ (flat []):=⟨rfl,Nat.le_refl _,(by decide:(0:Nat)<9223372036854775808),.inr ⟨g,_,rfl,v,hg,rfl,rfl⟩⟩;have O:=J.E0 d;refine Qq (n:=l.take i) e (by
    have:=Pj (m:=i*2) O.own.rowAt (by omega) u;rwa[Rq]at this) (by grind) d.size (by grind) λs' w' ho he hb=> ?_
  exact Y s' w' ho (Hk d e (Nat.le_refl _) he) (he.mono λi _ hi=>by obtain⟨a,ha,rfl⟩:=hi;cases ha;rfl)
def nT(l:Iv)(i:Nat)(a:Int):(addLo l i a).2<=i:=by
  unfold addLo
  grind
def nU(l:Iv)(i:Nat)(b:Int)(hi:i<=l.length):i<=(addHi l i b).2/\(addHi l i b).2<=l.length:=by
  unfold addHi
  grind
section
variable{E:Env}(hE:EnvS E){w:World}{b o:Nat}{s:AW}{l:Iv}
include hE
theorem LX(h:Jj E w b o s l){a c:Int}(ha:0<=a)(bK:a<c)(hc:c<=O9){K:World->Prop}
    (hK: ∀w' s',Jj E w' b o s' (ES l a c)->N7 b (X5 o) w w'->UK w s s'->K w'):F.BJ E (some ⟨b,o,none⟩) a c K w:=by
  have c9:O9=4398046511104:=rfl;unfold F.BJ T0.BJ;refine AG (λaJ=>by omega) (λ_=> ?_);refine N9 hE h ha bK (by omega) λw1 s1 h1 c5 dK=> ?_;simp only[AK,add_eq,Nat.zero_add,Nat.add_zero,Tv];obtain⟨l1,bQ⟩: ∃l1,l1=Dy l a c:=⟨_,rfl⟩;rw[<-bQ]at h1;have aO:Clear l1 a c:=by rw[bQ];exact T3 h.row.ok bK
  obtain⟨aC,bS,bV⟩:=Vu h1.row.ok bK ha (by omega) aO;have bL:ES l a c=Sz l1 a c:=by rw[ES,bQ]
  refine⟨JZ l1,h1.c1,LI h1.c1 h1.f1 rfl λw5 T=> ?_⟩;have hT:u64 (JZ l1+u64 (c-a))=JZ (Sz l1 a c):=by
    have h2:=Tx aC;have h3:=fB aC;rw[bV]at h2 h3⊢;rw[AR (n:=c-a),AR]
  rw[hT]at T;have aT:N7 b (X5 o) w w5:=c5.trans (N7.Ie T (.inr rfl));have aS:Gy E w5 ⟨b,o,none⟩ s1 l1:=h1.row.JT (C:=λj=>j=o+1) (N7.Ie T rfl) (by omega);refine Qo hE aS ha λw7 bW=> ?_;have aA:=aS.E0 bW;obtain⟨i,hi⟩: ∃i,i=posn l1 a:=⟨_,rfl⟩;rw[<-hi];have cQ:i<=l1.length:=by rw[hi];exact Kv l1 a
  have hlen:=aA.len;have hsm:=aA.small;obtain⟨cP,aP⟩:=nU l1 i c cQ;have cT:=nT l1 i a;refine A8 λw9 b5 dD cN=> ?_;obtain⟨g,hg⟩: ∃g,g=w7.heap.size:=⟨_,rfl⟩;rw[<-hg]at b5⊢;refine IF _ _ _ _ _ _ _ b5 (by simp) (by intro v hv;simp at hv;rcases hv with rfl|rfl<;>rfl) λcH b6 cW aV=> ?_;simp at aV;have aG: ∀{w1 w2:World},Ext AN w7 w1->Ext (KD g) w1 w2->Ext AN w7 w2:=λh1 h2=>h1.trans h2 (λ_ _ f=>f) λi hi e=>by have:i=g:=e;omega
  have aL:Ext AN w7 cH:=aG cN b6;refine AV (λst w'=>st.1=((addHi l1 i c).2:Int)/\w'.heap[g]? =some (.cells ⟨[.int .u64 a,.int .u64 (addHi l1 i c).1]⟩ E.AD)/\Ext AN w7 w') ?_ ?_
  . refine AV (λst w'=>w'=cH/\(st.1=true↔ ∃q,l1[i]? =some q/\q.1=c)) ?_ ?_
    . have J:=aA.E0 aL;refine⟨s1,J.c0,AG (λbR=> ?_) (λaJ=>⟨rfl,?_⟩)⟩
      . have hl:i<l1.length:=by omega
        have bO:=List.getElem?_eq_getElem hl;obtain⟨r,hr,aQ,aR⟩:=J.cells bO;refine⟨s1,J.c0,?_⟩;rw[hr];simp only[AK,add_eq,Nat.zero_add,Int.toNat_natCast]
        grind
      grind
    . rintro⟨bt,u⟩ _ dN ⟨rfl,aI⟩;simp only at aI⊢;have J:=aA.E0 aL;refine AY (λht=> ?_) (λhf=> ?_)
      . obtain⟨q,hq,dM⟩:=aI.1 ht;have hl:=(List.getElem?_eq_some_iff.1 hq).1;obtain⟨r,hr,aQ,aR⟩:=J.cells hq;refine⟨s1,J.c0,?_⟩;rw[hr];simp only[AK,add_eq,Nat.zero_add,Int.toNat_natCast];refine⟨⟨by omega,by omega⟩,_,aR,?_⟩;refine IF _ _ _ _ _ _ _ aV (by simp) (by intro v hv;simp at hv;subst hv;rfl) λc7 aX bU aD=> ?_;simp at aD;have hH:addHi l1 i c=(q.2,i+1):=by unfold addHi;grind
        rw[hH];refine⟨by rw[AI];simp,aD,aG aL aX⟩
      . have hH:addHi l1 i c=(c,i):=by
          unfold addHi
          grind
        grind
  . rintro⟨k,u⟩ _ c6 ⟨hk,bY,bD⟩;simp only at hk⊢;subst hk;refine AV (λst w'=>st.1=((addLo l1 i a).2:Int)/\w'.heap[g]? =some (.cells ⟨[.int .u64 (addLo l1 i a).1,.int .u64 (addHi l1 i c).1]⟩ E.AD)/\Ext AN w7 w') ?_ ?_
    . refine AV (λst w'=>w'=c6/\(st.1=true↔ ∃j q,i=j+1/\l1[j]? =some q/\q.2=a)) ?_ ?_
      . have O:=aA.E0 bD;refine AG (λbR=> ?_) (λaJ=>⟨rfl,?_⟩)
        . obtain⟨j,rfl⟩: ∃j,i=j+1:=⟨i-1,by omega⟩;have hl:j<l1.length:=by omega
          have bO:=List.getElem?_eq_getElem hl;obtain⟨r,hr,aQ,aR⟩:=O.cells bO;refine⟨s1,O.c0,?_⟩;rw[hr];have hm:i64 (((j+1:Nat):Int)-1)=(j:Int):=by rw[AI];omega
          rw[hm];simp only[AK,add_eq,Nat.zero_add,Int.toNat_natCast]
          grind
        grind
      . rintro⟨bt,u⟩ _ dO ⟨rfl,aI⟩;simp only at aI⊢;have O:=aA.E0 bD;refine AY (λht=> ?_) (λhf=> ?_)
        . obtain⟨j,q,rfl,hq,dL⟩:=aI.1 ht;have hl:=(List.getElem?_eq_some_iff.1 hq).1;obtain⟨r,hr,aQ,aR⟩:=O.cells hq;refine⟨s1,O.c0,?_⟩;rw[hr];have hm:i64 (((j+1:Nat):Int)-1)=(j:Int):=by rw[AI];omega
          rw[hm];simp only[AK,add_eq,Nat.zero_add,Int.toNat_natCast];refine⟨⟨by omega,by omega⟩,_,aQ,?_⟩;refine IF _ _ _ _ _ _ _ bY (by simp) (by intro v hv;simp at hv;subst hv;rfl) λc7 aX bU aD=> ?_;simp at aD;have hH:addLo l1 (j+1) a=(q.1,j):=by unfold addLo;grind
          grind
        . have hH:addLo l1 i a=(a,i):=by
            unfold addLo
            grind
          grind
    . rintro⟨k2,u⟩ _ m ⟨cB,aH,aM⟩;simp only at cB⊢;subst cB;have a2:Sz l1 a c=l1.take (addLo l1 i a).2++[((addLo l1 i a).1,(addHi l1 i c).1)]++l1.drop (addHi l1 i c).2:=by rw[hi];rfl
      obtain⟨x,hx⟩: ∃x,x=(addLo l1 i a).1:=⟨_,rfl⟩;obtain⟨y,hy⟩: ∃y,y=(addHi l1 i c).1:=⟨_,rfl⟩;obtain⟨i1,aK⟩: ∃i1,i1=(addLo l1 i a).2:=⟨_,rfl⟩;obtain⟨k,bP⟩: ∃k,k=(addHi l1 i c).2:=⟨_,rfl⟩;rw[<-hx,<-hy]at aH;rw[<-hx,<-hy,<-aK,<-bP]at a2;rw[<-bP]at cP aP;rw[<-aK]at cT;rw[<-bP,<-aK];have d:=aA.E0 aM;have dA:=d.own.cap;have fin: ∀w' aN s',I8 w' m.heap.size E.AD 2 s' (flat (l1.take i1++[(x,y)]++l1.drop k))->Ext AN m w'->Nm ⟨b,o,none⟩ (.slice s'.base s'.len s'.cap) w' aN->K aN:=by
        intro w' aN s' ho he aF;rw[<-a2]at ho;have bR:b<w.heap.size:=h.row.lt;have aB:Ext AN w5 w':=(bW.trans' aM).trans' he;have hu:N7 b (X5 o) w aN:=(aT.trans (N7.aZ aB (Nat.lt_of_lt_of_le bR aT.ext.size))).trans (N7.Ie aF (.inl rfl));have aJ: ∀x,s'.base=some x->w.heap.size<=x.block:=λx hx=>by
          have h1:=(ho.lt hx).1;have h2:=aT.ext.size;have h3:=(bW.trans' aM).size;omega
        have cU:=aS.E0 aB;refine hK aN s' ?_ hu (.inr aJ);rw[bL];refine⟨⟨aF.same,by rw[aF.frozen];exact cU.f0,?_,aC,?_,λx hx e=>by grind⟩,?_,?_⟩
        . refine(ho.lower (Nat.zero_le _)).ext aF.ext λg hg e=> ?_;have h1:=aJ _ hg;have h2:g=b:=e
          grind
        . intro q hq;have hm:=(aC.mem hq);have h2:=(bS (q.2-1)).1 ⟨q,hq,by omega,by omega⟩;rcases h2 with ⟨p,hp,h3,h4⟩|h2
          . have:=aS.W9 p hp;omega
          omega
        . rw[aF.other _ (by simp)];exact aB.cell T.same (λf=>f)
        . rw[aF.frozen,aB.frozen (p:=⟨b,o+1,none⟩) (by have:=aT.ext.size;grind) (λf=>f),T.frozen];exact h1.f1
      have hd:Ext AN m m.drew:=Ext.drew _ _;have bM:m.cell? ⟨g,0,none⟩=some (.int .u64 x):=by rw[AS aH];rfl
      have bN:m.cell? ⟨g,1,none⟩=some (.int .u64 y):=by rw[AS aH];rfl
      have cS:Int.toNat ((k:Nat):Int)=k:=Int.toNat_natCast _;have cR:Int.toNat ((i1:Nat):Int)=i1:=Int.toNat_natCast _;rw[cS,cR];refine⟨s1,d.c0,⟨by omega,by omega⟩,x,bM,y,bN,s1,d.c0,⟨by omega,by omega⟩,?_,?_⟩
      . refine A8 λcI aW cX b7=> ?_;have Y:Ext AN m cI:=hd.trans' b7;have a4:=d.E0 Y;have cV:m.drew.heap.size=m.heap.size:=rfl;refine⟨a4.c0,⟨Y.cell bM (λf=>f),Y.cell bN (λf=>f),trivial⟩,a4.c0,?_,?_⟩
        . refine UM d Y aW (by omega) (by omega) λOz dP cD aE dB=> ?_;have a5:=d.E0 aE;refine⟨a5.c0,⟨aE.cell bM (λf=>f),aE.cell bN (λf=>f),trivial⟩,a5.c0,A8 λdQ bZ cY aY=> ?_⟩;have bE:=aE.trans' aY;have a6:=d.E0 bE;exact⟨a6.c0,a6.c0,UL (q:=(x,y)) d bE (cD.ext aY λ_ _ f=>f) bZ (by omega) aP fin⟩
        . refine A8 λdR b2 cZ a0=> ?_;have bF:=Y.trans' a0;have a7:=d.E0 bF;refine⟨a7.c0,a7.c0,UM d bF (a0.obj aW λf=>f) (by omega) (by omega) λs63 dS cE bG b8=> ?_⟩;have a8:=d.E0 bG;exact⟨a8.c0,a8.c0,UL (q:=(x,y)) d bG cE (b8.obj b2 λe=>by have:cI.heap.size=m.drew.heap.size:=e;omega) (by omega) aP fin⟩
      . refine A8 λcJ b3 c2 b9=> ?_;have bH:Ext AN m cJ:=hd.trans' b9;have a9:=d.E0 bH;have cV:m.drew.heap.size=m.heap.size:=rfl;refine⟨a9.c0,a9.c0,A8 λdT b4 c3 a1=> ?_⟩;have bI:=bH.trans' a1;have bA:=d.E0 bI;refine⟨bA.c0,bA.c0,UM d bI b4 (by omega) (by omega) λzP dU cF bJ cA=> ?_⟩;have bB:=d.E0 bJ;exact⟨bB.c0,bB.c0,UL (q:=(x,y)) d bJ cF (cA.obj (a1.obj b3 λf=>f) λe=>by have:m.drew.heap.size=cJ.heap.size:=e;omega) (by omega) aP fin⟩
end
def UN{w:World}{k:Nat}{es:Array MapEntry}{c:Nat}{i:Nat}{v:Value}(hm:w.heap[k]? =some (.map es c))(a:w.cell? ⟨k,i,none⟩=some v):False:=by
 simp[World.cell?,hm]at a
def I8.XA{w:World}{B t z:Nat}{s:AW}{vs:List Value}{k:Nat}{es:Array MapEntry}{c:Nat}(h:I8 w B t z s vs)(hm:w.heap[k]? =some (.map es c)): ¬Ki s k:=by
 rintro⟨a,e,rfl⟩;rcases h.row with ⟨h1,_⟩|⟨b,cs,h1,_,d,_⟩
 .grind
 grind
def Jj.JT{E:Env}{w w':World}{b o:Nat}{s:AW}{l:Iv}{C:Nat->Prop}(h:Jj E w b o s l)(hu:N7 b C w w')(h0: ¬C o)(h1: ¬C (o+1)):Jj E w' b o s l:=
 ⟨h.row.JT hu h0,by rw[hu.GW _ h1];exact h.c1,by rw[hu.sL];exact h.f1⟩
def KN(p:Int×Int)(a b:Int):Iv:=if p.2<=a∨b<=p.1 then []else [(max p.1 a,min p.2 b)]
def withinL:Iv->Int->Int->Iv
 | [],_,_=>[]
 | p::r,a,b=>KN p a b++withinL r a b
def OA(l m:Iv)(a b:Int):withinL (l++m) a b=withinL l a b++withinL m a b:=by
 induction l with
 | nil=>rfl
 | cons p r ih=>simp[withinL,ih]
def SR{l:Iv}{a b:Int}(h: ∀p∈l,p.2<=a∨b<=p.1):withinL l a b=[]:=by
 induction l with
 | nil=>rfl
 | cons p r ih=>
  simp only[withinL,ih λq d=>h q (List.mem_cons_of_mem _ d),List.append_nil];unfold KN
  grind
def Yi(l:Iv)(a b:Int):(withinL l a b).length<=l.length:=by
 induction l with
 | nil=>exact Nat.le_refl _
 | cons p r ih=>
  simp only[withinL,List.length_append,List.length_cons];have:(KN p a b).length<=1:=by unfold KN;grind
  omega
def Pn{l:Iv}(h:Ok l){a b:Int}(e:a<b): ∀q∈withinL l a b,a<=q.1/\q.1<q.2/\q.2<=b:=by
 induction l with
 | nil=>intro q d;cases d
 | cons p r ih=>
  intro q d;have hp:=h.mem (List.mem_cons_self:p∈p::r);rcases List.mem_append.1 d with d|d
  .unfold KN at d
   grind
  .exact ih h.tail q d
def I8.cells2{w:World}{B t:Nat}{s:AW}{l:Iv}(h:I8 w B t 2 s (flat l)){i:Nat}{q:Int×Int}(hi:l[i]? =some q):
  ∃b,s.base=some ⟨b,0,none⟩/\w.cell? ⟨b,i*2,none⟩=some (.int .u64 q.1)/\w.cell? ⟨b,i*2+1,none⟩=some (.int .u64 q.2):=by
 have a:=h.rowAt;obtain⟨g1,g2⟩:=N6 l i q hi;rcases h.row with ⟨h1,d⟩|⟨b,cs,h1,_⟩
 .rw[h1]at a;have:flat l=[]:=a
  grind
 .rw[h1]at a;refine⟨b,h1,?_,?_⟩
  .have:=a.2 _ _ g1;rwa[add_eq,Nat.zero_add]at this
  .have:=a.2 _ _ g2;rwa[add_eq,Nat.zero_add]at this
section
variable{E:Env}(hE:EnvS E){w:World}{p:Addr}{s:AW}{l:Iv}
include hE
theorem Yj(h:Gy E w p s l){a b:Int}(ha:0<=a)(hb:b<18446744073709551616){K:AW->World->Prop}
  (hK: ∀s' w',I8 w' w.heap.size E.AD 2 s' (flat (withinL l a b))->Ext AN w w'->K s' w'):F.Bd E (some p) a b K w:=by
 unfold F.Bd T0.Bd;refine Qo hE h ha λw2 aU=> ?_;have hlen:=h.len;have hsm:=h.small;have aW:O9=4398046511104:=rfl;have aJ:=Kv l a;simp only[AK,add_eq,Nat.zero_add];have J:withinL (l.take (posn l a)) a b=[]:=SR λq hq=>.inl (QX q hq);refine AM (λst w'=> ∃k:Nat,st.2.1=(k:Int)/\posn l a<=k/\k<=l.length/\I8 w' w.heap.size E.AD 2 st.1 (flat (withinL (l.take k) a b))/\Ext AN w w')
  (λst _=>(l.length-st.2.1).toNat) ⟨posn l a,rfl,Nat.le_refl _,aJ,by rw[J];exact I8.nil _ _ _ _,aU⟩ ?_
 rintro⟨s3,i,u⟩ _ w4 ⟨k,hk,aR,a8,aA,O⟩;simp only at hk aA⊢;subst hk;have h4:=h.E0 O;have fin:(∀q,l[k]? =some q->b<=q.1)->K s3 w4:=λT=>by
  refine hK s3 w4 ?_ O;have:withinL l a b=withinL (l.take k) a b:=by
   have e:l=l.take k++l.drop k:=(List.take_append_drop k l).symm
   conv=>lhs;rw[e]
   rw[OA];rw[SR (l:=l.drop k),List.append_nil];intro q hq;right;obtain⟨j,hj⟩:=List.mem_iff_getElem?.1 hq;rw[List.getElem?_drop]at hj;by_cases hj0:j=0
   .subst hj0;exact T q hj
   .have aD:k<l.length:=by have:=(List.getElem?_eq_some_iff.1 hj).1;omega
    have:=T _ (List.getElem?_eq_getElem aD);have h2:=h.ok.lt (i:=k) (j:=k+j) (by omega) (List.getElem?_eq_getElem aD) hj;have h3:=h.ok.get (List.getElem?_eq_getElem aD);omega
  grind
 refine⟨s,h4.c0,AG (λbA=> ?_) (λa6=>fin λq hq=>by have:=(List.getElem?_eq_some_iff.1 hq).1;omega)⟩;have hl:k<l.length:=by omega
 have Y:=List.getElem?_eq_getElem hl;obtain⟨r,hr,aE,aL⟩:=h4.cells Y;generalize hq:l[k]=q at Y aE aL;have bC:=h.ok.get Y;have bB:=h.W9 q (List.mem_of_getElem? Y);refine⟨s,h4.c0,?_⟩;rw[hr];simp only[AK,add_eq,Nat.zero_add,Int.toNat_natCast,Nat.add_zero];refine⟨⟨by omega,by omega⟩,q.1,aE,AG (λa7=> ?_) (λaZ=>fin λq' aK=>by rw[Y]at aK;cases aK;omega)⟩;have hd:Ext AN w4 w4.drew:=Ext.drew _ _;have v: ∀{w'},Ext AN w4 w'->w'.cell? p=some (.slice s.base s.len s.cap)/\w'.cell? ⟨r,k*2,none⟩=some (.int .u64 q.1)/\w'.cell? ⟨r,k*2+1,none⟩=some (.int .u64 q.2):=λhe=>
  ⟨he.cell h4.c0 λf=>f,he.cell aE λf=>f,he.cell aL λf=>f⟩
 obtain⟨c1,c2,c3⟩:=v hd;refine⟨s,c1,?_⟩;rw[hr];simp only[AK,add_eq,Nat.zero_add];refine⟨⟨by omega,by omega⟩,q.1,c2,s,c1,?_⟩;rw[hr];simp only[AK,add_eq,Nat.zero_add];refine⟨⟨by omega,by omega⟩,q.2,c3,A8 λaV aH aS d=> ?_⟩;obtain⟨d1,d2,d3⟩:=v (hd.trans' d);refine⟨d3,by grind,d2,by grind,?_⟩;have m:=aA.ext (hd.trans' d) λ_ _ f=>f;have bE:=Yi (l.take k) a b;have bD:(l.take k).length=k:=by simp;omega
 refine TQ (q:=(MO q.1 a,VQ q.2 b)) m aH (by have:=O.size;have:=(hd.trans' d).size;omega) (by omega) λsR bF aY aI a5=> ?_;have aN:Ext AN w aV:=O.trans' (hd.trans' d);have aB:=Hk aN m (Nat.le_refl _) aI;have aC:=h.E0 aB;obtain⟨r',aM,e1,e2⟩:=aC.cells Y;rw[hr]at aM;cases aM;refine⟨e2,by rw[<-hr];exact aC.c0,e1,by rw[<-hr];exact aC.c0,?_⟩;rw[AI];refine⟨⟨k+1,by omega,by omega,by omega,?_,aB⟩,by omega⟩;have aT:l.take (k+1)=l.take k++[q]:=Gd Y;have a4:=LK h.ok a (i:=k) (p:=q) aR Y;rw[aT,OA];have:withinL [q] a b=[(MO q.1 a,VQ q.2 b)]:=by
  simp only[withinL,List.append_nil,KN];rw[if_neg (by omega),TJ,Wn]
 grind
end
def Mb(E:Env)(s:AW)(l:Iv):Pr:=KR (Ok l/\ ∀q∈l,q.2<=O9) (Row E.AD 2 s (flat l))
section
variable{E:Env}{R:List Pr}{w w':World}{b t o:Nat}{vs:List Value}{s s':AW}{l l':Iv}
def Sat.setAt(H:Sat (Cells b t vs::Mb E s l::R) w)(h0:vs[o]? =some (.slice s.base s.len s.cap))(h1:vs[o+1]? =some (.int .u64 (JZ l))):Jj E w b o s l:=by
 obtain⟨D,u,K,d,⟨O,T,⟨BU,m⟩,_,_,v⟩,hd,_⟩:=H;refine⟨⟨(d.2.2 o _ h0).1,(d.2.2 o _ h0).2,m.2,BU.1,BU.2,λa J e=> ?_⟩,(d.2.2 _ _ h1).1,(d.2.2 _ _ h1).2⟩;have h1:u a.block:=(d.1 _).2 e;exact hd _ h1 ((v _).2 (.inl ((m.1 _).2 ⟨a,J,rfl⟩)))
def Sat.fO(H:Sat (Cells b t vs::Mb E s l::R) w)(ho:o+1<vs.length)(u:Jj E w' b o s' l')(hu:N7 b (X5 o) w w')(hf:UK w s s'):
  Sat (Cells b t ((vs.set o (.slice s'.base s'.len s'.cap)).set (o+1) (.int .u64 (JZ l')))::Mb E s' l'::R) w':=by
 obtain⟨D,D1,D2,m,⟨D3,O,⟨BU,hr⟩,hF,T,J⟩,hd,hD⟩:=H;have K: ∀k,O5 s' k->O5 s k∨w.heap.size<=k:=by
  rintro k ⟨a,ha,rfl⟩;rcases hf with e|e
  .exact .inl ⟨a,by grind,rfl⟩
  grind
 have hb:b<w.heap.size:=m.2.1;have aD: ∀k,O5 s' k->k≠b:=by
  rintro k ⟨a,ha,rfl⟩;exact u.row.apart a ha
 refine⟨λk=>k=b∨O5 s' k∨O k,λk=>k=b,λk=>O5 s' k∨O k,⟨λ_=>Iff.rfl,by have:=hu.ext.size;omega,λj v d=> ?_⟩,⟨O5 s',O,⟨⟨u.row.ok,u.row.W9⟩,λ_=>Iff.rfl,u.row.own⟩,?_,?_,λ_=>Iff.rfl⟩,?_,λ_=>Iff.rfl⟩
 .rw[List.getElem?_set,List.getElem?_set]at d;rw[hu.sL];by_cases e1:o+1=j
  .subst e1;rw[if_pos rfl,if_pos (by grind)]at d;cases d;exact⟨u.c1,(m.2.2 (o+1) _ (List.getElem?_eq_getElem ho)).2⟩
  .rw[if_neg e1]at d;by_cases e2:o=j
   .subst e2;rw[if_pos rfl,if_pos (by omega)]at d;cases d;exact⟨u.row.c0,(m.2.2 o _ (List.getElem?_eq_getElem (by omega))).2⟩
   .rw[if_neg e2]at d;rw[hu.GW j (by unfold X5;omega)];exact m.2.2 j v d
 .exact hF.loc hu.ext λk Y e=>by
   have e:k=b:=e;subst e;exact hd _ ((m.1 _).2 rfl) ((J _).2 (.inr Y))
 .intro k Y h4;rcases K k Y with e|e
  .exact T k ((hr.1 k).2 e) h4
  .have:=hF.lt h4;omega
 .rintro k rfl (h|h)
  .grind
  .exact hd _ ((m.1 _).2 rfl) ((J _).2 (.inr h))
variable(hE:EnvS E)
include hE
theorem zQ(H:Sat (Cells b t vs::Mb E s l::R) w)(h0:vs[o]? =some (.slice s.base s.len s.cap))(h1:vs[o+1]? =some (.int .u64 (JZ l))){x:Int}(a:0<=x){K:Bool->World->Prop}
  (d: ∀w' r,(r=true↔mem l x)->Ext AN w w'->K r w'):F.Df E (some ⟨b,o,none⟩) x K w:=nR hE (H.setAt h0 h1).row a d
theorem UO(H:Sat (Cells b t vs::Mb E s l::R) w)(h0:vs[o]? =some (.slice s.base s.len s.cap))(h1:vs[o+1]? =some (.int .u64 (JZ l))){x y:Int}(e:0<=x)(a:x<=y)(m:y<18446744073709551616)
  {K:Int->World->Prop}(d: ∀w',Ext AN w w'->K (cnt l x y) w'):F.Aw E (some ⟨b,o,none⟩) x y K w:=JI hE (H.setAt h0 h1).row e a m d
theorem zR(H:Sat (Cells b t vs::Mb E s l::R) w)(h0:vs[o]? =some (.slice s.base s.len s.cap))(h1:vs[o+1]? =some (.int .u64 (JZ l))){x y:Int}(e:0<=x)(a:x<y)(m:y<18446744073709551616){K:World->Prop}
  (d: ∀w' s',Sat (Cells b t ((vs.set o (.slice s'.base s'.len s'.cap)).set (o+1) (.int .u64 (JZ (Dy l x y))))::Mb E s' (Dy l x y)::R) w'->K w'):F.CB E (some ⟨b,o,none⟩) x y K w:=
 N9 hE (H.setAt h0 h1) e a m λw' s' v hu u=>d w' s' (H.fO (List.getElem?_eq_some_iff.1 h1).1 v hu u)
theorem nV(H:Sat (Cells b t vs::Mb E s l::R) w)(h0:vs[o]? =some (.slice s.base s.len s.cap))(h1:vs[o+1]? =some (.int .u64 (JZ l))){x y:Int}(e:0<=x)(a:x<y)(m:y<=O9){K:World->Prop}
  (d: ∀w' s',Sat (Cells b t ((vs.set o (.slice s'.base s'.len s'.cap)).set (o+1) (.int .u64 (JZ (ES l x y))))::Mb E s' (ES l x y)::R) w'->K w'):F.BJ E (some ⟨b,o,none⟩) x y K w:=
 LX hE (H.setAt h0 h1) e a m λw' s' v hu u=>d w' s' (H.fO (List.getElem?_eq_some_iff.1 h1).1 v hu u)
end
def Mb.ok{E:Env}{s:AW}{l:Iv}{R:List Pr}{w:World}(H:Sat (Mb E s l::R) w):Ok l/\ ∀q∈l,q.2<=O9:=(Sat.where.1 H).1
def Sat.a7{E:Env}{R:List Pr}{w:World}(H:Sat R w):Sat (Mb E ⟨none,0,0⟩ []::R) w:=
 Sat.where.2 ⟨⟨trivial,by simp⟩,H.nil E.AD 2⟩
end Go.Sh

/- The sets of stretches do what their lists say. No further condition. -/
import Derived.Test.YtjibkpcalinfhaaGreatDoorF
import Derived.Test.YtjibkpcalinfhaaGreatDoorM
set_option linter.all false
set_option maxRecDepth 50000
namespace Go.Sh
def flat:Iv->List Value
  | []=>[]
  | p::r=>.int .u64 p.1:: .int .u64 p.2::flat r
def FA: ∀l:Iv,(flat l).length=l.length*2
  | []=>rfl
  | p::r=>by simp[flat,FA r];omega
def NN: ∀l m:Iv,flat (l++m)=flat l++flat m
  | [],_=>rfl
  | p::r,m=>by simp[flat,NN r m]
def Qc: ∀(l:Iv) (i:Nat),(flat l).take (i*2)=flat (l.take i)
  | [],i=>by simp[flat]
  | p::r,0=>by rfl
  | p::r,i+1=>by
    rw[show(i+1)*2=i*2+1+1 from by omega];simp[flat,Qc r i]
def Qd: ∀(l:Iv) (i:Nat),(flat l).drop (i*2)=flat (l.drop i)
  | [],i=>by simp[flat]
  | p::r,0=>by rfl
  | p::r,i+1=>by
    rw[show(i+1)*2=i*2+1+1 from by omega];simp[flat,Qd r i]
def NO: ∀(l:Iv) (i:Nat) (p:Int×Int),l[i]? =some p->(flat l)[i*2]? =some (.int .u64 p.1)/\(flat l)[i*2+1]? =some (.int .u64 p.2)
  | [],i,p,h=>by grind
  | q::r,0,p,h=>by simp at h;subst h;simp[flat]
  | q::r,i+1,p,h=>by
    have:=NO r i p (by grind);rw[show(i+1)*2=i*2+1+1 from by omega];simpa[flat]using this
def XX: ∀(l:Iv) (v:Value),v∈flat l->v.oneCell'=true
  | [],v,h=>by cases h
  | p::r,v,h=>by
    simp only[flat,List.mem_cons]at h;rcases h with rfl|rfl|h
    . rfl
    . rfl
    . exact XX r v h
abbrev OB:Int:=4398046511104
def length_le: ∀{l:Iv},Ok l-> ∀B:Int,0<=B->(∀p∈l,p.2<=B)->(l.length:Int)<=B:=by
  have key: ∀{l:Iv},Ok l-> ∀A B:Int,A<=B->(∀p∈l,A<=p.1)->(∀p∈l,p.2<=B)->(l.length:Int)<=B-A:=by
    intro l
    induction l with
    | nil=>simp
    | cons p r ih=>
      intro h A B y v d;have h1:=v p (by simp);have h2:=d p (by simp);have C:=h.2.1;have:=ih h.tail p.2 B h2 (λq j=>by have:=h.2.2.2.1 q j;omega) (λq j=>d q (by grind))
      grind
  intro l h B h0 d;have:=key h 0 B h0 (λp hp=>(h.mem hp).1) d;omega
structure Gi(E:Env)(w:World)(p:Addr)(s:AX)(l:Iv):Prop where
  c0:w.cell? p=some (.slice s.base s.len s.cap)
  f0:w.frozen? p=false
  own:Ie w 0 E.AE 2 s (flat l)
  ok:Ok l
  oQ: ∀q∈l,q.2<=OB
  apart: ∀a,s.base=some a->a.block≠p.block
section
variable{E:Env}{w w':World}{p:Addr}{s:AX}{l:Iv}
def Gi.len(h:Gi E w p s l):s.len=l.length:=by
  have:=h.own.len;rw[FA]at this;omega
def Gi.small(h:Gi E w p s l):(l.length:Int)<=OB:=length_le h.ok OB (by decide) h.oQ
def Gi.ext{S:Nat->Prop}(h:Gi E w p s l)(he:Ext S w w')(hp: ¬S p.block)(hs: ∀a,s.base=some a-> ¬S a.block):Gi E w' p s l:=
  ⟨he.cell h.c0 hp,by rw[he.frozen (World.block_lt_of_cell? w p h.c0) hp];exact h.f0,
   h.own.ext he λb d=>hs _ d,h.ok,h.oQ,h.apart⟩
def Gi.FE(h:Gi E w p s l)(he:Ext AQ w w'):Gi E w' p s l:=h.ext he (λf=>f) λ_ _ f=>f
def Gi.cells(h:Gi E w p s l){i:Nat}{q:Int×Int}(j:l[i]? =some q):
    ∃b,s.base=some ⟨b,0,none⟩/\w.cell? ⟨b,i*2,none⟩=some (.int .u64 q.1)/\w.cell? ⟨b,i*2+1,none⟩=some (.int .u64 q.2):=by
  have d:=h.own.rowAt;obtain⟨g1,g2⟩:=NO l i q j;rcases h.own.row with ⟨h1,h2⟩|⟨b,cs,h1,_⟩
  . rw[h1]at d;have:flat l=[]:=d
    grind
  . rw[h1]at d;refine⟨b,h1,?_,?_⟩
    . have:=d.2 _ _ g1;rwa[add_eq,Nat.zero_add]at this
    . have:=d.2 _ _ g2;rwa[add_eq,Nat.zero_add]at this
def Gi.lt(h:Gi E w p s l):p.block<w.heap.size:=World.block_lt_of_cell? w p h.c0
end
structure JW(E:Env)(w:World)(b o:Nat)(s:AX)(l:Iv):Prop where
  row:Gi E w ⟨b,o,none⟩ s l
  c1:w.cell? ⟨b,o+1,none⟩=some (.int .u64 (Ig l))
  f1:w.frozen? ⟨b,o+1,none⟩=false
def JW.ext{E:Env}{w w':World}{b o:Nat}{s:AX}{l:Iv}{S:Nat->Prop}(h:JW E w b o s l)(he:Ext S w w')(hp: ¬S b)(hs: ∀a,s.base=some a-> ¬S a.block):JW E w' b o s l:=
  ⟨h.row.ext he hp hs,he.cell h.c1 hp,by rw[he.frozen (p:=⟨b,o+1,none⟩) h.row.lt hp];exact h.f1⟩
structure NP(b:Nat)(C:Nat->Prop)(w w':World):Prop where
  ext:Ext (Jq b) w w'
  C5: ∀j,¬C j->w'.cell? ⟨b,j,none⟩=w.cell? ⟨b,j,none⟩
  nP: ∀j,w'.frozen? ⟨b,j,none⟩=w.frozen? ⟨b,j,none⟩
def NP.Zj{b:Nat}{C:Nat->Prop}{w w':World}(h:Ext AQ w w')(d:b<w.heap.size):NP b C w w':=
  ⟨h.any,λj _=>World.cell?_of_block (h.block b d λf=>f),λj=>World.frozen?_of_block (h.block b d λf=>f)⟩
def NP.Hw{b j:Nat}{C:Nat->Prop}{w w':World}{v:Value}(h:M8 ⟨b,j,none⟩ v w w')(y:C j):NP b C w w':=
  ⟨h.ext,λi d=>h.other _ (by grind),λi=>h.frozen _⟩
def NP.trans{b:Nat}{C:Nat->Prop}{w w1 v:World}(h:NP b C w w1)(k:NP b C w1 v):NP b C w v:=
  ⟨h.ext.trans' k.ext,λj d=>(k.C5 j d).trans (h.C5 j d),λj=>(k.nP j).trans (h.nP j)⟩
def Wv(o:Nat):Nat->Prop:=λj=>j=o∨j=o+1
def TK(w:World)(s s':AX):Prop:=s'.base=s.base∨ ∀a,s'.base=some a->w.heap.size<=a.block
structure EnvS(E:Env):Prop where
  at1: ∀i p1 p2 K w,F.EI E i p1 p2 K w->E.call E.Ir #[.int .i64 i,.pointer p1,.pointer p2] w (λr w'=> ∃b,r= .bool b/\K b w') Kk
  mono: ∀g args w (K K':Value->World->Prop),(∀v w',K v w'->K' v w')->E.call g args w K Kk->E.call g args w K' Kk
def half(a b:Int)(v:0<=a)(y:0<=b)(hs:a+b<9223372036854775808):
    i64 (Int.fdiv (u64 (i64 (a+b))) (2^(min (Int.toNat 1) (IntKind.bits .u64))))=(a+b)/2:=by
  have d:i64 (a+b)=a+b:=AF;have j:u64 (a+b)=a+b:=AM;rw[d,j];have:(2:Int)^(min (Int.toNat 1) (IntKind.bits .u64))=2:=by decide
  rw[this,Int.fdiv_eq_ediv_of_nonneg _ (by omega),AF]
def RD{E:Env}{n:Int}{v:Value}{w0:World}{K:Int->World->Prop}(t:Int->Bool)(hn:0<=n)(aE:n<4611686018427387904)
    (hf: ∀i w,0<=i->i<n->Ext AQ w0 w-> ∀d:Value->World->Prop,(∀w',Ext AQ w0 w'->d (.bool (t i)) w')->DYN E.call v #[.int .i64 i] w d)
    (m:Int)(aC:0<=m)(aD:m<=n)(aA: ∀i,0<=i->i<m->t i=false)(Y: ∀i,m<=i->i<n->t i=true)
    (hK: ∀w',Ext AQ w0 w'->K m w'):F.KD E n v K w0:=by
  unfold F.KD;refine AI (λs w=>0<=s.1/\s.1<=m/\m<=s.2.1/\s.2.1<=n/\Ext AQ w0 w) (λs _=>(s.2.1-s.1).toNat) ⟨by simp,by omega,by omega,by simp,Ext.refl _ _⟩ ?_;rintro⟨i,j,u⟩ _ w ⟨h1,h2,y,C,hw⟩;simp only at h1 h2 y C⊢;refine AB (λaB=>⟨by decide,AY λh T=> ?_⟩) (λO=> ?_)
  . rw[half i j h1 (by omega) (by omega)]at T;refine hf h w (by omega) (by omega) hw _ λw' aG=>⟨_,rfl,AS (λht=> ?_) (λht=> ?_)⟩
    . have J:t h=false:=by grind
      have:h<m:=by grind
      rw[AF]
      grind
    grind
  grind
def Et{α:Type}{l:List α}{k:Nat}{x:α}(h:l[k]? =some x):l.take (k+1)=l.take k++[x]:=by
  obtain⟨d,rfl⟩:=List.getElem?_eq_some_iff.1 h;simp
section
variable{E:Env}(hE:EnvS E){w:World}{p:Addr}{s:AX}{l:Iv}
include hE
theorem SL(h:Gi E w p s l){x:Int}(aQ:0<=x){K:Int->World->Prop}(hK: ∀w',Ext AQ w w'->K (posn l x) w'):F.DT E (some p) x K w:=by
  unfold F.DT T0.DT;refine BV λw1 h1 aO aD=>BV λw2 h2 aP aA=> ?_;have y:Ext AQ w w2:=aD.trans' aA;have Y:w2.cell? ⟨w.heap.size,0,none⟩=some (.pointer (some p)):=aA.cell (by rw[AW h1];rfl) (λf=>f);have aC:w2.cell? ⟨w1.heap.size,0,none⟩=some (.int .u64 x):=by rw[AW h2];rfl
  have J:=h.FE y;refine⟨some p,Y,?_⟩;simp only[AG];refine⟨s,J.c0,?_⟩;have hlen:=h.len;have aB:=h.small;have aH:OB=4398046511104:=rfl;refine RD (λi=>match l[i.toNat]? with|some q=>decide (q.2>x)|none=>true) (by omega) (by omega) ?_ (posn l x) (by omega) ?_ ?_ ?_ λw' d=>hK w' (y.trans' d)
  . intro i w' O aM d K' T;have j:i.toNat<l.length:=by omega
    have C:=List.getElem?_eq_getElem j;simp only[C]at T;have v:=J.FE d;obtain⟨b,hb,aN,aE⟩:=v.cells C;refine hE.mono _ _ _ _ _ ?_ (hE.at1 i (some ⟨w.heap.size,0,none⟩) (some ⟨w1.heap.size,0,none⟩) (λr aF=>K' (.bool r) aF) w' ?_)
    . grind
    . unfold F.EI;simp only[AG];refine⟨some p,d.cell Y (λf=>f),?_⟩;simp only[AG];refine⟨s,v.c0,?_⟩;rw[hb];simp only[AG,add_eq,Nat.zero_add];exact⟨⟨O,by omega⟩,l[i.toNat].2,aE,x,d.cell aC (λf=>f),T _ (d.trans' (Ext.drew _ _))⟩
  . have:=LG l x;omega
  . intro i O hi;have j:i.toNat<l.length:=by have:=LG l x;omega
    have C:=List.getElem?_eq_getElem j;simp only[C];have:=NB l x i.toNat _ (by omega) C
    grind
  . intro i O hi;have j:i.toNat<l.length:=by omega
    have C:=List.getElem?_eq_getElem j;simp only[C];have:=Kt h.ok x (i:=i.toNat) (by omega) C
    grind
theorem It(h:Gi E w p s l){a b:Int}(ha:0<=a)(aE:a<=b)(hb:b<18446744073709551616){K:Int->World->Prop}(hK: ∀w',Ext AQ w w'->K (cnt l a b) w'):
    F.BG E (some p) a b K w:=by
  unfold F.BG T0.BG;refine SL hE h ha λw1 Y=> ?_;have aY:=h.FE Y;have hlen:=h.len;have hsm:=h.small;have aK:OB=4398046511104:=rfl;have aH:=LG l a;refine AI (λst w'=> ∃k:Nat,st.2.1=(k:Int)/\posn l a<=k/\k<=l.length/\st.1=cnt (l.take k) a b/\Ext AQ w w') (λst _=>(l.length-st.2.1).toNat)
    ⟨posn l a,rfl,Nat.le_refl _,aH,(Rp PK).symm,Y⟩ ?_
  rintro⟨n,i,u⟩ _ w2 ⟨k,hk,aF,aU,hn,aA⟩;simp only at hk hn⊢;subst hk;have d:=h.FE aA;simp only[AG];have fin:(∀q,l[k]? =some q->b<=q.1)->K n w2:=by
    intro C;have:cnt l a b=cnt (l.take k) a b:=by
      conv=>lhs;rw[<-List.take_append_drop k l]
      rw[Su];have:cnt (l.drop k) a b=0:=by
        refine Sv λq hq=> ?_;obtain⟨i,hi,rfl⟩:=List.mem_iff_getElem.1 hq;rw[List.getElem_drop];simp only[List.length_drop]at hi;have v:k<l.length:=by omega
        have h4:=C _ (List.getElem?_eq_getElem v);rcases Nat.eq_zero_or_pos i with rfl|aT
        . omega
        . have h5:=h.ok.lt (i:=k) (j:=k+i) (by omega) (List.getElem?_eq_getElem v) (List.getElem?_eq_getElem (by omega));have h6:=h.ok.get (List.getElem?_eq_getElem v);omega
      omega
    grind
  refine⟨s,d.c0,AB (λaW=> ?_) (λaR=>fin λq hq=> ?_)⟩
  . have hl:k<l.length:=by omega
    have hg:=List.getElem?_eq_getElem hl;obtain⟨r,hr,O,aI⟩:=d.cells hg;refine⟨s,d.c0,?_⟩;rw[hr];simp only[AG,add_eq,Nat.zero_add,Int.toNat_natCast];refine⟨⟨by omega,by omega⟩,_,O,AB (λaM=> ?_) (λaL=>fin λq hq=> ?_)⟩
    . have T:=d.FE (Ext.drew _ w2);refine⟨s,T.c0,?_⟩;rw[hr];simp only[AG,add_eq,Nat.zero_add,Int.toNat_natCast];refine⟨⟨by omega,by omega⟩,l[k].2,aI,s,T.c0,?_⟩;rw[hr];simp only[AG,add_eq,Nat.zero_add,Int.toNat_natCast];refine⟨⟨by omega,by omega⟩,l[k].1,O,AY λn' J=> ?_⟩;have hq:=h.ok.get hg;have aO:=Kt h.ok a (i:=k) aF hg;have y:cnt (l.take (k+1)) a b=n+(min l[k].2 b-max l[k].1 a):=by
        rw[Et hg,Su,<-hn];simp only[cnt,NA];omega
      have aD:Ok (l.take (k+1)):=by
        have:=h.ok;rw[<-List.take_append_drop (k+1) l,Fi]at this
        grind
      have hle:=FF aD aE;have aG:=DM (l.take (k+1)) a b;have aX:=DM (l.take k) a b;rw[Vl,SC,AM (n:=min l[k].2 b-max l[k].1 a),<-y,AM aG (by omega)]at J;refine⟨⟨k+1,?_,by omega,by omega,J,aA.trans' (Ext.drew _ _)⟩,?_⟩
      . rw[AF];omega
      . rw[AF];omega
    grind
  grind
end
def Gi.KF{E:Env}{w w':World}{b o:Nat}{s:AX}{l:Iv}{C:Nat->Prop}(h:Gi E w ⟨b,o,none⟩ s l)(hu:NP b C w w')(hC: ¬C o):Gi E w' ⟨b,o,none⟩ s l:=
  ⟨by rw[hu.C5 o hC];exact h.c0,by rw[hu.nP o];exact h.f0,h.own.ext hu.ext λg d e=>h.apart _ d e,h.ok,h.oQ,h.apart⟩
def NQ{w:World}{b n t:Nat}{l:List Value}{f:Nat×Nat}(h:w.heap[b]? =some (.cells ⟨l⟩ t f))(d:l.length=n):rowAt w (some ⟨b,0,none⟩) n l:=
  ⟨d,λj v y=>by rw[add_eq,Nat.zero_add,AW h];grind⟩
def KP(s:AX):Nat->Prop:=λk=> ∃a,s.base=some a/\k=a.block
def Ie.GR{w:World}{B t z:Nat}{s:AX}{vs:List Value}(h:Ie w B t z s vs){k:Nat}(hk:KP s k):B<=k/\k<w.heap.size:=by
  obtain⟨a,d,rfl⟩:=hk;exact⟨(h.lt d).1,(h.lt d).2.1⟩
def XY{l:Iv}{a b:Int}(h:Ok l)(d:a<b)(y: ∀q∈l,q.2<=OB):((Dk l a b).length:Int)<=OB:=
  length_le (GX h d) OB (by decide) λq j=>by
    obtain⟨p,hp,h1,h2,v⟩:=ND h d j
    grind
def kE{l:Iv}{a b:Int}(h:Ok l)(d:a<b)(y: ∀q∈l,q.2<=OB): ∀q∈Dk l a b,q.2<=OB:=λq j=>by
  obtain⟨p,hp,h1,h2,v⟩:=ND h d j
  grind
def SM{E:Env}{w:World}{B g:Nat}{s:AX}{m:Iv}{q:Int×Int}{K:AX->World->Prop}(d:Ie w B E.AE 2 s (flat m))(T:w.heap[g]? =some (.cells ⟨[.int .u64 q.1,.int .u64 q.2]⟩ E.AE))
    (C:B<=w.heap.size)(hm:(m.length:Int)<=OB+1)
    (J: ∀s' w',Ie w' B E.AE 2 s' (flat (m++[q]))->Ext (KP s) w w'->(s'.base=s.base∨ ∃b,s'.base=some ⟨b,0,none⟩/\w.heap.size<=b)->K s' w'):
    APP E.AE 2 16 #[.int .u64 0,.int .u64 0] s ⟨some ⟨g,0,none⟩,1,1⟩ w K:=by
  have Y:=d.len;rw[FA]at Y;have j:OB=4398046511104:=rfl;refine PI (news:=[.int .u64 q.1,.int .u64 q.2]) rfl d (NQ T rfl) rfl (by intro v y;simp at y;rcases y with rfl|rfl<;>rfl) C (by grind) (by grind) ?_;intro s' w' ho aA he O;refine J s' w' ?_ he O;rw[NN];exact ho
def Pc{E:Env}{w:World}{B:Nat}{s x:AX}{m n:Iv}{K:AX->World->Prop}(d:Ie w B E.AE 2 s (flat m))(Y:rowAt w x.base (x.len*2) (flat n))(j:x.len=n.length)
    (y:B<=w.heap.size)(hm:((m.length+n.length:Nat):Int)<=OB+1)
    (C: ∀s' w',Ie w' B E.AE 2 s' (flat (m++n))->Ext (KP s) w w'->(s'.base=s.base∨ ∃b,s'.base=some ⟨b,0,none⟩/\w.heap.size<=b)->K s' w'):
    APP E.AE 2 16 #[.int .u64 0,.int .u64 0] s x w K:=by
  have O:=d.len;rw[FA]at O;have v:OB=4398046511104:=rfl;refine PI rfl d Y (by rw[FA,j]) (XX n) y (by omega) (by omega) ?_;intro s' w' ho T he J;refine C s' w' ?_ he J;rw[NN];omega
def HB{w0 w w':World}{B t z:Nat}{s:AX}{vs:List Value}(h:Ext AQ w0 w)(j:Ie w B t z s vs)(v:w0.heap.size<=B)(he:Ext (KP s) w w'):Ext AQ w0 w':=
  h.trans he (λ_ _ f=>f) λi y d=>by have:=j.GR d;omega
section
variable{E:Env}(hE:EnvS E){w:World}{b o:Nat}{s:AX}{l:Iv}
include hE
theorem NR(h:JW E w b o s l){a c:Int}(ha:0<=a)(Y:a<c)(hc:c<18446744073709551616){K:World->Prop}
    (hK: ∀w' s',JW E w' b o s' (Dk l a c)->NP b (Wv o) w w'->TK w s s'->K w'):F.Cm E (some ⟨b,o,none⟩) a c K w:=by
  unfold F.Cm T0.Cm;refine AB (λbA=>by omega) (λ_=> ?_);simp only[AG,add_eq];have hd:Ext AQ w w.drew:=Ext.drew _ _;refine⟨Ig l,h.c1,It hE (h.row.FE hd) ha (by omega) hc λw4 cU=> ?_⟩;have bL:Ext AQ w w4:=hd.trans' cU;have bV:b<w.heap.size:=h.row.lt;have h4:=h.ext bL (λf=>f) λ_ _ f=>f;refine⟨h4.c1,Lb h4.c1 h4.f1 rfl λw6 aD=> ?_⟩;have a1:NP b (Wv o) w w6:=(NP.Zj bL bV).trans (NP.Hw aD (.inr rfl));have bZ:Gi E w6 ⟨b,o,none⟩ s l:=h4.row.KF (C:=λj=>j=o+1) (NP.Hw aD rfl) (by omega);have b4:u64 (Ig l-cnt l a c)=Ig (Dk l a c):=by
    rw[Sr h.row.ok Y];have h1:=Ss (GX h.row.ok Y);have h2:=bY (GX h.row.ok Y);rw[Sr h.row.ok Y]at h1 h2;exact AM h1 h2
  rw[b4]at aD;refine SL hE bZ ha λw8 aX=> ?_;have hlen:=h.row.len;have hsm:=h.row.small;have c5:OB=4398046511104:=rfl;have cM:=LG l a;have b0:=bZ.FE aX;have dA: ∀k,k<=l.length->posn l a<=k->((Dk ((l.take k).drop (posn l a)) a c).length:Int)<=OB:=by
    intro k _ _;have cB:Ok ((l.take k).drop (posn l a)):=by
      have h1:=h.row.ok;rw[<-List.take_append_drop k l,Fi]at h1;have h2:=h1.1;rw[<-List.take_append_drop (posn l a) (l.take k),Fi]at h2
      grind
    exact XY cB Y λq hq=>h.row.oQ q (List.mem_of_mem_take (List.mem_of_mem_drop hq))
  refine AV (λst w'=> ∃k:Nat,st.1=(k:Int)/\posn l a<=k/\k<=l.length/\(∀q,l[k]? =some q->c<=q.1)/\
      Ie w' w8.heap.size E.AE 2 st.2.1 (flat (Dk ((l.take k).drop (posn l a)) a c))/\Ext AQ w8 w') ?_ ?_
  . refine AI (λst w'=> ∃k:Nat,st.1=(k:Int)/\posn l a<=k/\k<=l.length/\
      Ie w' w8.heap.size E.AE 2 st.2.1 (flat (Dk ((l.take k).drop (posn l a)) a c))/\Ext AQ w8 w') (λst _=>(l.length-st.1).toNat)
      ⟨posn l a,rfl,Nat.le_refl _,cM,?_,Ext.refl _ _⟩ ?_
    . have:(l.take (posn l a)).drop (posn l a)=[]:=List.drop_eq_nil_of_le (by grind);rw[this];exact Ie.nil _ _ _ _
    . rintro⟨i,rest,u⟩ _ aE ⟨k,hk,aZ,bU,d,aL⟩;simp only at hk d⊢;subst hk;have aK:=b0.FE aL;have out:(∀q,l[k]? =some q->c<=q.1)-> ∃k':Nat,(k:Int)=(k':Int)/\posn l a<=k'/\k'<=l.length/\(∀q,l[k']? =some q->c<=q.1)/\
          Ie aE w8.heap.size E.AE 2 rest (flat (Dk ((l.take k').drop (posn l a)) a c))/\Ext AQ w8 aE:=
        λhq=>⟨k,rfl,aZ,bU,hq,d,aL⟩
      refine⟨s,aK.c0,AB (λc8=> ?_) (λc6=>out λq hq=> ?_)⟩
      . have hl:k<l.length:=by omega
        have hg:=List.getElem?_eq_getElem hl;obtain⟨r,hr,bX,cO⟩:=aK.cells hg;refine⟨s,aK.c0,?_⟩;rw[hr];simp only[AG,add_eq,Nat.zero_add,Int.toNat_natCast];refine⟨⟨by omega,by omega⟩,_,bX,AB (λc9=> ?_) (λc7=>out λq hq=> ?_)⟩
        . refine⟨s,aK.c0,?_⟩;rw[hr];simp only[AG,add_eq,Nat.zero_add,Int.toNat_natCast,Nat.add_zero];refine⟨⟨by omega,by omega⟩,l[k].1,bX,l[k].2,cO,?_⟩;have hq:=h.row.ok.get hg;have dD:=Kt h.row.ok a (i:=k) aZ hg;obtain⟨M,hM⟩: ∃M,M=Dk ((l.take k).drop (posn l a)) a c:=⟨_,rfl⟩;rw[<-hM]at d;have dI:(M.length:Int)<=OB:=by grind
          have cL:Dk ((l.take (k+1)).drop (posn l a)) a c=M++PJ l[k] a c:=by
            rw[Et hg,List.drop_append_of_le_length (by grind),NF,<-hM];simp[Dk]
          refine BV λdN bG cP a3=> ?_;have b5:=aL.trans' a3;refine JH _ _ _ _ _ _ _ bG (by simp) (by intro v hv;simp at hv;rcases hv with rfl|rfl<;>rfl) λb9 a4 cQ aF=> ?_;simp at aF;have cV:=aL.size;have b6:Ext AQ w8 b9:=b5.trans a4 (λ_ _ f=>f) λi hi cJ=>by have:i=aE.heap.size:=cJ;omega
          have aH:Ie b9 w8.heap.size E.AE 2 rest (flat M):=(d.ext a3 λ_ _ f=>f).ext a4 λg cH e=>by
            have:=(d.lt cH).2.1;have:g=aE.heap.size:=e;grind
          have aQ: ¬KP rest aE.heap.size:=λhb=>by have:=(d.GR hb).2;omega
          refine AV (λst w'=>Ie w' w8.heap.size E.AE 2 st.1 (flat (M++if l[k].1<a then [(l[k].1,a)]else []))/\Ext AQ w8 w'/\
              w'.heap[aE.heap.size]? =some (.cells ⟨[.int .u64 l[k].1,.int .u64 l[k].2]⟩ E.AE)/\ ¬KP st.1 aE.heap.size) ?_ ?_
          . refine⟨l[k].1,by rw[AW aF];rfl,AB (λbW=> ?_) (λbT=> ?_)⟩
            . refine⟨l[k].1,by rw[AW aF];rfl,BV λdP bH cR aG=> ?_⟩;refine SM (q:=(l[k].1,a)) (aH.ext aG λ_ _ f=>f) bH (by omega) (by omega) λPZ dQ dB a5 a8=> ?_;refine⟨by grind,HB (b6.trans' aG) (aH.ext aG λ_ _ f=>f) (Nat.le_refl _) a5,a5.obj (aG.obj aF λf=>f) aQ,?_⟩;rintro⟨x,hx,he⟩;rcases a8 with a8|⟨y,hy,dM⟩
              . exact aQ ⟨x,by grind,he⟩
              grind
            grind
          . rintro⟨nR,u⟩ _ dO ⟨aR,b7,a2,bB⟩;simp only at aR bB⊢;have cI:i64 ((k:Int)+1)=((k+1:Nat):Int):=by rw[AF];omega
            have cG:PJ l[k] a c=(if l[k].1<a then [(l[k].1,a)]else [])++if c<l[k].2 then [(c,l[k].2)]else []:=by
              unfold PJ
              grind
            refine⟨l[k].2,by rw[AW a2];rfl,AB (λbW=> ?_) (λbT=> ?_)⟩
            . refine⟨l[k].2,by rw[AW a2];rfl,BV λdS bI cS aP=> ?_⟩;have a0:((M++if l[k].1<a then [(l[k].1,a)]else []).length:Int)<=OB+1:=by grind
              refine SM (q:=(c,l[k].2)) (aR.ext aP λ_ _ f=>f) bI (by grind) a0 λXW dT dC bM a8=> ?_;refine⟨⟨k+1,cI,by omega,by omega,?_,HB (b7.trans' aP) (aR.ext aP λ_ _ f=>f) (Nat.le_refl _) bM⟩,by omega⟩
              grind
            grind
        grind
      grind
  . rintro⟨i,rest,u⟩ _ aA ⟨k,hk,aZ,bU,bR,d,T⟩;simp only at hk d⊢;subst hk;have O:=b0.FE T;have bK:Ext AQ aA aA.drew:=Ext.drew _ _;simp only[AG,Ll];have a9:s.len<=s.cap:=O.own.cap;refine⟨s,O.c0,⟨by omega,by omega⟩,s,O.c0,⟨by omega,by omega⟩,BV λbC bJ cT bN=> ?_⟩;have aM:Ext AQ aA bC:=bK.trans' bN;have aU:=O.FE aM;refine⟨aU.c0,aU.c0,?_⟩;have c2:w8.heap.size<=bC.heap.size:=Nat.le_trans T.size aM.size;have aI:Ie bC aA.heap.size E.AE 2 ⟨some ⟨aA.heap.size,0,none⟩,0,0⟩ (flat []):=Vk (w:=aA.drew) bJ rfl (Nat.le_refl _) (by decide);have b1:=d.ext aM λ_ _ f=>f;have b3:=aU.own.rowAt;have bS:(flat l).length=s.len*2:=by rw[FA,hlen]
    have cN:Int.toNat ((posn l a:Nat):Int)=posn l a:=Int.toNat_natCast _;have cK:Int.toNat ((k:Nat):Int)=k:=Int.toNat_natCast _;rw[cN,cK];have aJ:=ZY h.row.ok Y aZ bR;have cF:=XY h.row.ok Y h.row.oQ;rw[aJ,List.length_append,List.length_append]at cF;refine Pc (x:=⟨s.base,posn l a,s.cap⟩) (n:=l.take (posn l a)) aI (by
        have:=Kr (m:=posn l a*2) b3 (by omega) bS;rwa[Qc]at this) (by grind) (by simp_all) (by grind) λxV cX aS bO cC=> ?_
    have aN:Ext AQ aA cX:=HB aM aI (Nat.le_refl _) bO;have a7:=O.FE aN;refine⟨a7.c0,a7.c0,?_⟩;have aC:=d.ext aN λ_ _ f=>f;simp only[List.nil_append]at aS;refine Pc (x:=rest) (n:=Dk ((l.take k).drop (posn l a)) a c) aS aC.rowAt (by have:=aC.len;rw[FA]at this;omega) (by have:=aN.size;omega)
      (by omega) λZF cY a6 bP cD=> ?_
    have aW:Ext AQ aA cY:=HB aN aS (Nat.le_refl _) bP;have aV:=O.FE aW;refine⟨aV.c0,aV.c0,?_⟩;refine Pc (x:=⟨GN s.base s.cap k 2,s.len-k,s.cap-k⟩) (n:=l.drop k) a6 (by
        have:=Ip (k:=k) (z:=2) (cap:=s.cap) aV.own.rowAt rfl (by omega) a9 bS;rwa[Qd]at this) (by grind) (by have:=aW.size;omega) (by grind) λnQ cZ aT bQ cE=> ?_
    have aO:Ext AQ aA cZ:=HB aW a6 (Nat.le_refl _) bQ;have aB:=O.FE aO;refine⟨aB.c0,aB.c0,Lb aB.c0 aB.f0 rfl λcA J=> ?_⟩;rw[<-aJ]at aT;have hu:NP b (Wv o) w cA:=(a1.trans (NP.Zj ((aX.trans' T).trans' aO) (Nat.lt_of_lt_of_le bV a1.ext.size))).trans (NP.Hw J (.inl rfl));have bA: ∀x,nQ.base=some x->w.heap.size<=x.block:=λx hx=>by
      have h1:=(aT.lt hx).1;have h2:=a1.ext.size;have h3:=aX.size;have h4:=T.size;omega
    refine hK cA nQ ⟨⟨J.same,by rw[J.frozen];exact aB.f0,?_,GX h.row.ok Y,kE h.row.ok Y h.row.oQ,λx hx e=>by grind⟩,?_,?_⟩ hu (.inr bA)
    . refine(aT.lower (Nat.zero_le _)).ext J.ext λg hg e=> ?_;have:=bA _ hg;have:g=b:=e
      grind
    . rw[J.other _ (by simp)];exact((aX.trans' T).trans' aO).cell aD.same (λf=>f)
    . rw[J.frozen,((aX.trans' T).trans' aO).frozen (p:=⟨b,o+1,none⟩) (by have:=a1.ext.size;grind) (λf=>f),aD.frozen];exact h4.f1
end
def TL{E:Env}{w0 w:World}{b o g:Nat}{s s1:AX}{l:Iv}{i k:Nat}{q:Int×Int}{K:World->Prop}
    (hr:Gi E w0 ⟨b,o,none⟩ s l)(J:Ext AQ w0 w)(aC:Ie w w0.heap.size E.AE 2 s1 (flat (l.take i)))(hg:w.heap[g]? =some (.cells ⟨[.int .u64 q.1,.int .u64 q.2]⟩ E.AE))
    (hi:i<=k)(hk:k<=l.length)
    (hK: ∀w' aE s',Ie w' w0.heap.size E.AE 2 s' (flat (l.take i++[q]++l.drop k))->Ext AQ w0 w'->M8 ⟨b,o,none⟩ (.slice s'.base s'.len s'.cap) w' aE->K aE):
    APP E.AE 2 16 #[.int .u64 0,.int .u64 0] s1 ⟨some ⟨g,0,none⟩,1,1⟩ w λUv C=>
      C.cell? ⟨b,o,none⟩=some (.slice s.base s.len s.cap)/\C.cell? ⟨b,o,none⟩=some (.slice s.base s.len s.cap)/\
      APP E.AE 2 16 #[.int .u64 0,.int .u64 0] Uv ⟨GN s.base s.cap k 2,s.len-k,s.cap-k⟩ C λPX v=>
      v.cell? ⟨b,o,none⟩=some (.slice s.base s.len s.cap)/\v.cell? ⟨b,o,none⟩=some (.slice s.base s.len s.cap)/\
      stCells ⟨b,o,none⟩ 0 [.slice PX.base PX.len PX.cap] v λY=>K Y:=by
  have hlen:=hr.len;have hsm:=hr.small;have aK:OB=4398046511104:=rfl;have aG:(flat l).length=s.len*2:=by rw[FA,hlen]
  refine SM aC hg J.size (by grind) λUv C O aA aI=> ?_;have y:Ext AQ w0 C:=HB J aC (Nat.le_refl _) aA;have d:=hr.FE y;refine⟨d.c0,d.c0,?_⟩;refine Pc (x:=⟨GN s.base s.cap k 2,s.len-k,s.cap-k⟩) (n:=l.drop k) O (by
      have:=Ip (k:=k) (z:=2) (cap:=s.cap) d.own.rowAt rfl (by omega) d.own.cap aG;rwa[Qd]at this) (by grind) y.size (by grind) λPX v aD aB aJ=> ?_
  have T:Ext AQ w0 v:=HB y O (Nat.le_refl _) aB;have j:=hr.FE T;exact⟨j.c0,j.c0,Lb j.c0 j.f0 rfl λY aH=>hK v Y PX aD T aH⟩
def TM{E:Env}{w0 w:World}{b o g:Nat}{s:AX}{l:Iv}{i:Nat}{K:AX->World->Prop}
    (C:Gi E w0 ⟨b,o,none⟩ s l)(d:Ext AQ w0 w)(hg:w.heap[g]? =some (.cells ⟨[]⟩ E.AE))(y:w0.heap.size<=g)(T:i<=l.length)
    (Y: ∀s' w',Ie w' w0.heap.size E.AE 2 s' (flat (l.take i))->Ext AQ w0 w'->Ext (Jq g) w w'->K s' w'):
    APP E.AE 2 16 #[.int .u64 0,.int .u64 0] ⟨some ⟨g,0,none⟩,0,0⟩ ⟨s.base,i,s.cap⟩ w K:=by
  have hlen:=C.len;have hsm:=C.small;have O:OB=4398046511104:=rfl;have v:(flat l).length=s.len*2:=by rw[FA,hlen]
  have j:Ie w w0.heap.size E.AE 2 ⟨some ⟨g,0,none⟩,0,0⟩ (flat []):=⟨rfl,Nat.le_refl _,(by decide:(0:Nat)<9223372036854775808),.inr ⟨g,_,rfl,y,hg,rfl,rfl⟩⟩;have J:=C.FE d;refine Pc (n:=l.take i) j (by
    have:=Kr (m:=i*2) J.own.rowAt (by omega) v;rwa[Qc]at this) (by grind) d.size (by grind) λs' w' ho he hb=> ?_
  exact Y s' w' ho (HB d j (Nat.le_refl _) he) (he.mono λi _ T=>by obtain⟨a,ha,rfl⟩:=T;cases ha;rfl)
def kF(l:Iv)(i:Nat)(a:Int):(addLo l i a).2<=i:=by
  unfold addLo
  grind
def kG(l:Iv)(i:Nat)(b:Int)(d:i<=l.length):i<=(addHi l i b).2/\(addHi l i b).2<=l.length:=by
  unfold addHi
  grind
section
variable{E:Env}(hE:EnvS E){w:World}{b o:Nat}{s:AX}{l:Iv}
include hE
theorem Kv(h:JW E w b o s l){a c:Int}(ha:0<=a)(bJ:a<c)(hc:c<=OB){K:World->Prop}
    (hK: ∀w' s',JW E w' b o s' (Dl l a c)->NP b (Wv o) w w'->TK w s s'->K w'):F.BW E (some ⟨b,o,none⟩) a c K w:=by
  have c9:OB=4398046511104:=rfl;unfold F.BW T0.BW;refine AB (λaK=>by omega) (λ_=> ?_);refine NR hE h ha bJ (by omega) λw1 s1 h1 c5 dI=> ?_;simp only[AG,add_eq,Nat.zero_add,Nat.add_zero,Ll];obtain⟨l1,bP⟩: ∃l1,l1=Dk l a c:=⟨_,rfl⟩;rw[<-bP]at h1;have aP:Clear l1 a c:=by rw[bP];exact Sw h.row.ok bJ
  obtain⟨aD,bR,bU⟩:=Uu h1.row.ok bJ ha (by omega) aP;have bK:Dl l a c=Ro l1 a c:=by rw[Dl,bP]
  refine⟨Ig l1,h1.c1,Lb h1.c1 h1.f1 rfl λw5 Y=> ?_⟩;have hT:u64 (Ig l1+u64 (c-a))=Ig (Ro l1 a c):=by
    have h2:=Ss aD;have h3:=bY aD;rw[bU]at h2 h3⊢;rw[AM (n:=c-a),AM]
  rw[hT]at Y;have aU:NP b (Wv o) w w5:=c5.trans (NP.Hw Y (.inr rfl));have aT:Gi E w5 ⟨b,o,none⟩ s1 l1:=h1.row.KF (C:=λj=>j=o+1) (NP.Hw Y rfl) (by omega);refine SL hE aT ha λw7 bV=> ?_;have aB:=aT.FE bV;obtain⟨i,hi⟩: ∃i,i=posn l1 a:=⟨_,rfl⟩;rw[<-hi];have cP:i<=l1.length:=by rw[hi];exact LG l1 a
  have hlen:=aB.len;have hsm:=aB.small;obtain⟨cO,aQ⟩:=kG l1 i c cP;have cS:=kF l1 i a;refine BV λw9 b4 dC cM=> ?_;obtain⟨g,hg⟩: ∃g,g=w7.heap.size:=⟨_,rfl⟩;rw[<-hg]at b4⊢;refine JH _ _ _ _ _ _ _ b4 (by simp) (by intro v hv;simp at hv;rcases hv with rfl|rfl<;>rfl) λcG b5 cW aV=> ?_;simp at aV;have aH: ∀{w1 w2:World},Ext AQ w7 w1->Ext (Jq g) w1 w2->Ext AQ w7 w2:=λh1 h2=>h1.trans h2 (λ_ _ f=>f) λi hi e=>by have:i=g:=e;omega
  have aM:Ext AQ w7 cG:=aH cM b5;refine AV (λst w'=>st.1=((addHi l1 i c).2:Int)/\w'.heap[g]? =some (.cells ⟨[.int .u64 a,.int .u64 (addHi l1 i c).1]⟩ E.AE)/\Ext AQ w7 w') ?_ ?_
  . refine AV (λst w'=>w'=cG/\(st.1=true↔ ∃q,l1[i]? =some q/\q.1=c)) ?_ ?_
    . have O:=aB.FE aM;refine⟨s1,O.c0,AB (λbQ=> ?_) (λaK=>⟨rfl,?_⟩)⟩
      . have hl:i<l1.length:=by omega
        have bN:=List.getElem?_eq_getElem hl;obtain⟨r,hr,aR,aS⟩:=O.cells bN;refine⟨s1,O.c0,?_⟩;rw[hr];simp only[AG,add_eq,Nat.zero_add,Int.toNat_natCast]
        grind
      grind
    . rintro⟨bt,u⟩ _ dL ⟨rfl,aJ⟩;simp only at aJ⊢;have O:=aB.FE aM;refine AS (λht=> ?_) (λhf=> ?_)
      . obtain⟨q,hq,dK⟩:=aJ.1 ht;have hl:=(List.getElem?_eq_some_iff.1 hq).1;obtain⟨r,hr,aR,aS⟩:=O.cells hq;refine⟨s1,O.c0,?_⟩;rw[hr];simp only[AG,add_eq,Nat.zero_add,Int.toNat_natCast];refine⟨⟨by omega,by omega⟩,_,aS,?_⟩;refine JH _ _ _ _ _ _ _ aV (by simp) (by intro v hv;simp at hv;subst hv;rfl) λc7 aX bT aE=> ?_;simp at aE;have hH:addHi l1 i c=(q.2,i+1):=by unfold addHi;grind
        rw[hH];refine⟨by rw[AF];simp,aE,aH aM aX⟩
      . have hH:addHi l1 i c=(c,i):=by
          unfold addHi
          grind
        grind
  . rintro⟨k,u⟩ _ c6 ⟨hk,bX,bC⟩;simp only at hk⊢;subst hk;refine AV (λst w'=>st.1=((addLo l1 i a).2:Int)/\w'.heap[g]? =some (.cells ⟨[.int .u64 (addLo l1 i a).1,.int .u64 (addHi l1 i c).1]⟩ E.AE)/\Ext AQ w7 w') ?_ ?_
    . refine AV (λst w'=>w'=c6/\(st.1=true↔ ∃j q,i=j+1/\l1[j]? =some q/\q.2=a)) ?_ ?_
      . have T:=aB.FE bC;refine AB (λbQ=> ?_) (λaK=>⟨rfl,?_⟩)
        . obtain⟨j,rfl⟩: ∃j,i=j+1:=⟨i-1,by omega⟩;have hl:j<l1.length:=by omega
          have bN:=List.getElem?_eq_getElem hl;obtain⟨r,hr,aR,aS⟩:=T.cells bN;refine⟨s1,T.c0,?_⟩;rw[hr];have hm:i64 (((j+1:Nat):Int)-1)=(j:Int):=by rw[AF];omega
          rw[hm];simp only[AG,add_eq,Nat.zero_add,Int.toNat_natCast]
          grind
        grind
      . rintro⟨bt,u⟩ _ dM ⟨rfl,aJ⟩;simp only at aJ⊢;have T:=aB.FE bC;refine AS (λht=> ?_) (λhf=> ?_)
        . obtain⟨j,q,rfl,hq,dJ⟩:=aJ.1 ht;have hl:=(List.getElem?_eq_some_iff.1 hq).1;obtain⟨r,hr,aR,aS⟩:=T.cells hq;refine⟨s1,T.c0,?_⟩;rw[hr];have hm:i64 (((j+1:Nat):Int)-1)=(j:Int):=by rw[AF];omega
          rw[hm];simp only[AG,add_eq,Nat.zero_add,Int.toNat_natCast];refine⟨⟨by omega,by omega⟩,_,aR,?_⟩;refine JH _ _ _ _ _ _ _ bX (by simp) (by intro v hv;simp at hv;subst hv;rfl) λc7 aX bT aE=> ?_;simp at aE;have hH:addLo l1 (j+1) a=(q.1,j):=by unfold addLo;grind
          grind
        . have hH:addLo l1 i a=(a,i):=by
            unfold addLo
            grind
          grind
    . rintro⟨k2,u⟩ _ J ⟨cA,aI,aN⟩;simp only at cA⊢;subst cA;have a1:Ro l1 a c=l1.take (addLo l1 i a).2++[((addLo l1 i a).1,(addHi l1 i c).1)]++l1.drop (addHi l1 i c).2:=by rw[hi];rfl
      obtain⟨x,hx⟩: ∃x,x=(addLo l1 i a).1:=⟨_,rfl⟩;obtain⟨y,hy⟩: ∃y,y=(addHi l1 i c).1:=⟨_,rfl⟩;obtain⟨i1,aL⟩: ∃i1,i1=(addLo l1 i a).2:=⟨_,rfl⟩;obtain⟨k,bO⟩: ∃k,k=(addHi l1 i c).2:=⟨_,rfl⟩;rw[<-hx,<-hy]at aI;rw[<-hx,<-hy,<-aL,<-bO]at a1;rw[<-bO]at cO aQ;rw[<-aL]at cS;rw[<-bO,<-aL];have d:=aB.FE aN;have dA:=d.own.cap;have fin: ∀w' aO s',Ie w' J.heap.size E.AE 2 s' (flat (l1.take i1++[(x,y)]++l1.drop k))->Ext AQ J w'->M8 ⟨b,o,none⟩ (.slice s'.base s'.len s'.cap) w' aO->K aO:=by
        intro w' aO s' ho he aG;rw[<-a1]at ho;have bQ:b<w.heap.size:=h.row.lt;have aC:Ext AQ w5 w':=(bV.trans' aN).trans' he;have hu:NP b (Wv o) w aO:=(aU.trans (NP.Zj aC (Nat.lt_of_lt_of_le bQ aU.ext.size))).trans (NP.Hw aG (.inl rfl));have aK: ∀x,s'.base=some x->w.heap.size<=x.block:=λx hx=>by
          have h1:=(ho.lt hx).1;have h2:=aU.ext.size;have h3:=(bV.trans' aN).size;omega
        have cU:=aT.FE aC;refine hK aO s' ?_ hu (.inr aK);rw[bK];refine⟨⟨aG.same,by rw[aG.frozen];exact cU.f0,?_,aD,?_,λx hx e=>by grind⟩,?_,?_⟩
        . refine(ho.lower (Nat.zero_le _)).ext aG.ext λg hg e=> ?_;have h1:=aK _ hg;have h2:g=b:=e
          grind
        . intro q hq;have hm:=(aD.mem hq);have h2:=(bR (q.2-1)).1 ⟨q,hq,by omega,by omega⟩;rcases h2 with ⟨p,hp,h3,h4⟩|h2
          . have:=aT.oQ p hp;omega
          omega
        . rw[aG.other _ (by simp)];exact aC.cell Y.same (λf=>f)
        . rw[aG.frozen,aC.frozen (p:=⟨b,o+1,none⟩) (by have:=aU.ext.size;grind) (λf=>f),Y.frozen];exact h1.f1
      have hd:Ext AQ J J.drew:=Ext.drew _ _;have bL:J.cell? ⟨g,0,none⟩=some (.int .u64 x):=by rw[AW aI];rfl
      have bM:J.cell? ⟨g,1,none⟩=some (.int .u64 y):=by rw[AW aI];rfl
      have cR:Int.toNat ((k:Nat):Int)=k:=Int.toNat_natCast _;have cQ:Int.toNat ((i1:Nat):Int)=i1:=Int.toNat_natCast _;rw[cR,cQ];refine⟨s1,d.c0,⟨by omega,by omega⟩,x,bL,y,bM,s1,d.c0,⟨by omega,by omega⟩,?_,?_⟩
      . refine BV λcH aW cX b6=> ?_;have aA:Ext AQ J cH:=hd.trans' b6;have a3:=d.FE aA;have cV:J.drew.heap.size=J.heap.size:=rfl;refine⟨a3.c0,⟨aA.cell bL (λf=>f),aA.cell bM (λf=>f),trivial⟩,a3.c0,?_,?_⟩
        . refine TM d aA aW (by omega) (by omega) λQR dN cC aF dB=> ?_;have a4:=d.FE aF;refine⟨a4.c0,⟨aF.cell bL (λf=>f),aF.cell bM (λf=>f),trivial⟩,a4.c0,BV λdO bZ cY aY=> ?_⟩;have bD:=aF.trans' aY;have a5:=d.FE bD;exact⟨a5.c0,a5.c0,TL (q:=(x,y)) d bD (cC.ext aY λ_ _ f=>f) bZ (by omega) aQ fin⟩
        . refine BV λdP b0 cZ aZ=> ?_;have bE:=aA.trans' aZ;have a6:=d.FE bE;refine⟨a6.c0,a6.c0,TM d bE (aZ.obj aW λf=>f) (by omega) (by omega) λZa dQ cD bF b7=> ?_⟩;have a7:=d.FE bF;exact⟨a7.c0,a7.c0,TL (q:=(x,y)) d bF cD (b7.obj b0 λe=>by have:cH.heap.size=J.drew.heap.size:=e;omega) (by omega) aQ fin⟩
      . refine BV λcI b1 c2 b8=> ?_;have bG:Ext AQ J cI:=hd.trans' b8;have a8:=d.FE bG;have cV:J.drew.heap.size=J.heap.size:=rfl;refine⟨a8.c0,a8.c0,BV λdR b3 c3 a0=> ?_⟩;have bH:=bG.trans' a0;have a9:=d.FE bH;refine⟨a9.c0,a9.c0,TM d bH b3 (by omega) (by omega) λoP dS cE bI b9=> ?_⟩;have bA:=d.FE bI;exact⟨bA.c0,bA.c0,TL (q:=(x,y)) d bI cE (b9.obj (a0.obj b1 λf=>f) λe=>by have:J.drew.heap.size=cI.heap.size:=e;omega) (by omega) aQ fin⟩
end
def TN{w:World}{k:Nat}{es:Array MapEntry}{c:Nat}{i:Nat}{v:Value}(hm:w.heap[k]? =some (.map es c))(d:w.cell? ⟨k,i,none⟩=some v):False:=by
 simp[World.cell?,hm]at d
def Ie.V3{w:World}{B t z:Nat}{s:AX}{vs:List Value}{k:Nat}{es:Array MapEntry}{c:Nat}(h:Ie w B t z s vs)(hm:w.heap[k]? =some (.map es c)): ¬KP s k:=by
 rintro⟨a,j,rfl⟩;rcases h.row with ⟨h1,_⟩|⟨b,cs,h1,_,d,_⟩
 .grind
 grind
def JW.KF{E:Env}{w w':World}{b o:Nat}{s:AX}{l:Iv}{C:Nat->Prop}(h:JW E w b o s l)(hu:NP b C w w')(h0: ¬C o)(h1: ¬C (o+1)):JW E w' b o s l:=
 ⟨h.row.KF hu h0,by rw[hu.C5 _ h1];exact h.c1,by rw[hu.nP];exact h.f1⟩
def J0(p:Int×Int)(a b:Int):Iv:=if p.2<=a∨b<=p.1 then []else [(max p.1 a,min p.2 b)]
def withinL:Iv->Int->Int->Iv
 | [],_,_=>[]
 | p::r,a,b=>J0 p a b++withinL r a b
def NS(l m:Iv)(a b:Int):withinL (l++m) a b=withinL l a b++withinL m a b:=by
 induction l with
 | nil=>rfl
 | cons p r ih=>simp[withinL,ih]
def RE{l:Iv}{a b:Int}(h: ∀p∈l,p.2<=a∨b<=p.1):withinL l a b=[]:=by
 induction l with
 | nil=>rfl
 | cons p r ih=>
  simp only[withinL,ih λq d=>h q (List.mem_cons_of_mem _ d),List.append_nil];unfold J0
  grind
def XZ(l:Iv)(a b:Int):(withinL l a b).length<=l.length:=by
 induction l with
 | nil=>exact Nat.le_refl _
 | cons p r ih=>
  simp only[withinL,List.length_append,List.length_cons];have:(J0 p a b).length<=1:=by unfold J0;grind
  omega
def Og{l:Iv}(h:Ok l){a b:Int}(j:a<b): ∀q∈withinL l a b,a<=q.1/\q.1<q.2/\q.2<=b:=by
 induction l with
 | nil=>intro q d;cases d
 | cons p r ih=>
  intro q d;have hp:=h.mem (List.mem_cons_self:p∈p::r);rcases List.mem_append.1 d with d|d
  .unfold J0 at d
   grind
  .exact ih h.tail q d
def Ie.cells2{w:World}{B t:Nat}{s:AX}{l:Iv}(h:Ie w B t 2 s (flat l)){i:Nat}{q:Int×Int}(j:l[i]? =some q):
  ∃b,s.base=some ⟨b,0,none⟩/\w.cell? ⟨b,i*2,none⟩=some (.int .u64 q.1)/\w.cell? ⟨b,i*2+1,none⟩=some (.int .u64 q.2):=by
 have d:=h.rowAt;obtain⟨g1,g2⟩:=NO l i q j;rcases h.row with ⟨h1,h2⟩|⟨b,cs,h1,_⟩
 .rw[h1]at d;have:flat l=[]:=d
  grind
 .rw[h1]at d;refine⟨b,h1,?_,?_⟩
  .have:=d.2 _ _ g1;rwa[add_eq,Nat.zero_add]at this
  .have:=d.2 _ _ g2;rwa[add_eq,Nat.zero_add]at this
section
variable{E:Env}(hE:EnvS E){w:World}{p:Addr}{s:AX}{l:Iv}
include hE
theorem Xa(h:Gi E w p s l){a b:Int}(ha:0<=a)(hb:b<18446744073709551616){K:AX->World->Prop}
  (hK: ∀s' w',Ie w' w.heap.size E.AE 2 s' (flat (withinL l a b))->Ext AQ w w'->K s' w'):F.B9 E (some p) a b K w:=by
 unfold F.B9 T0.B9;refine SL hE h ha λw2 aT=> ?_;have hlen:=h.len;have hsm:=h.small;have aV:OB=4398046511104:=rfl;have aI:=LG l a;simp only[AG,add_eq,Nat.zero_add];have C:withinL (l.take (posn l a)) a b=[]:=RE λq hq=>.inl (PK q hq);refine AI (λst w'=> ∃k:Nat,st.2.1=(k:Int)/\posn l a<=k/\k<=l.length/\Ie w' w.heap.size E.AE 2 st.1 (flat (withinL (l.take k) a b))/\Ext AQ w w')
  (λst _=>(l.length-st.2.1).toNat) ⟨posn l a,rfl,Nat.le_refl _,aI,by rw[C];exact Ie.nil _ _ _ _,aT⟩ ?_
 rintro⟨s3,i,u⟩ _ w4 ⟨k,hk,aQ,a6,Y,J⟩;simp only at hk Y⊢;subst hk;have h4:=h.FE J;have fin:(∀q,l[k]? =some q->b<=q.1)->K s3 w4:=λO=>by
  refine hK s3 w4 ?_ J;have:withinL l a b=withinL (l.take k) a b:=by
   have e:l=l.take k++l.drop k:=(List.take_append_drop k l).symm
   conv=>lhs;rw[e]
   rw[NS];rw[RE (l:=l.drop k),List.append_nil];intro q hq;right;obtain⟨j,hj⟩:=List.mem_iff_getElem?.1 hq;rw[List.getElem?_drop]at hj;by_cases hj0:j=0
   .subst hj0;exact O q hj
   .have aC:k<l.length:=by have:=(List.getElem?_eq_some_iff.1 hj).1;omega
    have:=O _ (List.getElem?_eq_getElem aC);have h2:=h.ok.lt (i:=k) (j:=k+j) (by omega) (List.getElem?_eq_getElem aC) hj;have h3:=h.ok.get (List.getElem?_eq_getElem aC);omega
  grind
 refine⟨s,h4.c0,AB (λa8=> ?_) (λa4=>fin λq hq=>by have:=(List.getElem?_eq_some_iff.1 hq).1;omega)⟩;have hl:k<l.length:=by omega
 have T:=List.getElem?_eq_getElem hl;obtain⟨r,hr,aD,aK⟩:=h4.cells T;generalize hq:l[k]=q at T aD aK;have bA:=h.ok.get T;have a9:=h.oQ q (List.mem_of_getElem? T);refine⟨s,h4.c0,?_⟩;rw[hr];simp only[AG,add_eq,Nat.zero_add,Int.toNat_natCast,Nat.add_zero];refine⟨⟨by omega,by omega⟩,q.1,aD,AB (λa5=> ?_) (λaX=>fin λq' aJ=>by rw[T]at aJ;cases aJ;omega)⟩;have hd:Ext AQ w4 w4.drew:=Ext.drew _ _;have y: ∀{w'},Ext AQ w4 w'->w'.cell? p=some (.slice s.base s.len s.cap)/\w'.cell? ⟨r,k*2,none⟩=some (.int .u64 q.1)/\w'.cell? ⟨r,k*2+1,none⟩=some (.int .u64 q.2):=λhe=>
  ⟨he.cell h4.c0 λf=>f,he.cell aD λf=>f,he.cell aK λf=>f⟩
 obtain⟨c1,c2,c3⟩:=y hd;refine⟨s,c1,?_⟩;rw[hr];simp only[AG,add_eq,Nat.zero_add];refine⟨⟨by omega,by omega⟩,q.1,c2,s,c1,?_⟩;rw[hr];simp only[AG,add_eq,Nat.zero_add];refine⟨⟨by omega,by omega⟩,q.2,c3,BV λaU aG aR d=> ?_⟩;obtain⟨d1,d2,d3⟩:=y (hd.trans' d);refine⟨d3,by grind,d2,by grind,?_⟩;have v:=Y.ext (hd.trans' d) λ_ _ f=>f;have bC:=XZ (l.take k) a b;have bB:(l.take k).length=k:=by simp;omega
 refine SM (q:=(Rm q.1 a,VX q.2 b)) v aG (by have:=J.size;have:=(hd.trans' d).size;omega) (by omega) λZI bD aW aH a3=> ?_;have aM:Ext AQ w aU:=J.trans' (hd.trans' d);have aA:=HB aM v (Nat.le_refl _) aH;have aB:=h.FE aA;obtain⟨r',aL,e1,e2⟩:=aB.cells T;rw[hr]at aL;cases aL;refine⟨e2,by rw[<-hr];exact aB.c0,e1,by rw[<-hr];exact aB.c0,?_⟩;rw[AF];refine⟨⟨k+1,by omega,by omega,by omega,?_,aA⟩,by omega⟩;have aS:l.take (k+1)=l.take k++[q]:=Et T;have a2:=Kt h.ok a (i:=k) (p:=q) aQ T;rw[aS,NS];have:withinL [q] a b=[(Rm q.1 a,VX q.2 b)]:=by
  simp only[withinL,List.append_nil,J0];rw[if_neg (by omega),SC,Vl]
 grind
end
def ML(E:Env)(s:AX)(l:Iv):Pr:=Jj (Ok l/\ ∀q∈l,q.2<=OB) (Row E.AE 2 s (flat l))
section
variable{E:Env}{R:List Pr}{w w':World}{b t o:Nat}{vs:List Value}{s s':AX}{l l':Iv}
def Sat.setAt(H:Sat (Cells b t vs::ML E s l::R) w)(h0:vs[o]? =some (.slice s.base s.len s.cap))(h1:vs[o+1]? =some (.int .u64 (Ig l))):JW E w b o s l:=by
 obtain⟨D,v,J,d,⟨K,O,⟨A6,j⟩,_,_,y⟩,hd,_⟩:=H;refine⟨⟨(d.2.2 o _ h0).1,(d.2.2 o _ h0).2,j.2,A6.1,A6.2,λa C e=> ?_⟩,(d.2.2 _ _ h1).1,(d.2.2 _ _ h1).2⟩;have h1:v a.block:=(d.1 _).2 e;exact hd _ h1 ((y _).2 (.inl ((j.1 _).2 ⟨a,C,rfl⟩)))
def Sat.cR(H:Sat (Cells b t vs::ML E s l::R) w)(ho:o+1<vs.length)(hs:JW E w' b o s' l')(hu:NP b (Wv o) w w')(hf:TK w s s'):
  Sat (Cells b t ((vs.set o (.slice s'.base s'.len s'.cap)).set (o+1) (.int .u64 (Ig l')))::ML E s' l'::R) w':=by
 obtain⟨D,D1,D2,y,⟨D3,K,⟨A6,hr⟩,Y,O,C⟩,hd,hD⟩:=H;have J: ∀k,PN s' k->PN s k∨w.heap.size<=k:=by
  rintro k ⟨a,ha,rfl⟩;rcases hf with e|e
  .exact .inl ⟨a,by grind,rfl⟩
  grind
 have hb:b<w.heap.size:=y.2.1;have aB: ∀k,PN s' k->k≠b:=by
  rintro k ⟨a,ha,rfl⟩;exact hs.row.apart a ha
 refine⟨λk=>k=b∨PN s' k∨K k,λk=>k=b,λk=>PN s' k∨K k,⟨λ_=>Iff.rfl,by have:=hu.ext.size;omega,λj v d=> ?_⟩,⟨PN s',K,⟨⟨hs.row.ok,hs.row.oQ⟩,λ_=>Iff.rfl,hs.row.own⟩,?_,?_,λ_=>Iff.rfl⟩,?_,λ_=>Iff.rfl⟩
 .rw[List.getElem?_set,List.getElem?_set]at d;rw[hu.nP];by_cases e1:o+1=j
  .subst e1;rw[if_pos rfl,if_pos (by grind)]at d;cases d;exact⟨hs.c1,(y.2.2 (o+1) _ (List.getElem?_eq_getElem ho)).2⟩
  .rw[if_neg e1]at d;by_cases e2:o=j
   .subst e2;rw[if_pos rfl,if_pos (by omega)]at d;cases d;exact⟨hs.row.c0,(y.2.2 o _ (List.getElem?_eq_getElem (by omega))).2⟩
   .rw[if_neg e2]at d;rw[hu.C5 j (by unfold Wv;omega)];exact y.2.2 j v d
 .exact Y.loc hu.ext λk hk e=>by
   have e:k=b:=e;subst e;exact hd _ ((y.1 _).2 rfl) ((C _).2 (.inr hk))
 .intro k hk T;rcases J k hk with e|e
  .exact O k ((hr.1 k).2 e) T
  .have:=Y.lt T;omega
 .rintro k rfl (h|h)
  .grind
  .exact hd _ ((y.1 _).2 rfl) ((C _).2 (.inr h))
variable(hE:EnvS E)
include hE
theorem TO(H:Sat (Cells b t vs::ML E s l::R) w)(h0:vs[o]? =some (.slice s.base s.len s.cap))(h1:vs[o+1]? =some (.int .u64 (Ig l))){x y:Int}(v:0<=x)(d:x<=y)(C:y<18446744073709551616)
  {K:Int->World->Prop}(j: ∀w',Ext AQ w w'->K (cnt l x y) w'):F.BG E (some ⟨b,o,none⟩) x y K w:=It hE (H.setAt h0 h1).row v d C j
theorem uH(H:Sat (Cells b t vs::ML E s l::R) w)(h0:vs[o]? =some (.slice s.base s.len s.cap))(h1:vs[o+1]? =some (.int .u64 (Ig l))){x y:Int}(v:0<=x)(d:x<y)(C:y<18446744073709551616){K:World->Prop}
  (j: ∀w' s',Sat (Cells b t ((vs.set o (.slice s'.base s'.len s'.cap)).set (o+1) (.int .u64 (Ig (Dk l x y))))::ML E s' (Dk l x y)::R) w'->K w'):F.Cm E (some ⟨b,o,none⟩) x y K w:=
 NR hE (H.setAt h0 h1) v d C λw' s' hs hu hf=>j w' s' (H.cR (List.getElem?_eq_some_iff.1 h1).1 hs hu hf)
theorem kH(H:Sat (Cells b t vs::ML E s l::R) w)(h0:vs[o]? =some (.slice s.base s.len s.cap))(h1:vs[o+1]? =some (.int .u64 (Ig l))){x y:Int}(v:0<=x)(d:x<y)(C:y<=OB){K:World->Prop}
  (j: ∀w' s',Sat (Cells b t ((vs.set o (.slice s'.base s'.len s'.cap)).set (o+1) (.int .u64 (Ig (Dl l x y))))::ML E s' (Dl l x y)::R) w'->K w'):F.BW E (some ⟨b,o,none⟩) x y K w:=
 Kv hE (H.setAt h0 h1) v d C λw' s' hs hu hf=>j w' s' (H.cR (List.getElem?_eq_some_iff.1 h1).1 hs hu hf)
end
def ML.ok{E:Env}{s:AX}{l:Iv}{R:List Pr}{w:World}(H:Sat (ML E s l::R) w):Ok l/\ ∀q∈l,q.2<=OB:=(Sat.where.1 H).1
def Sat.Zk{E:Env}{R:List Pr}{w:World}(H:Sat R w):Sat (ML E ⟨none,0,0⟩ []::R) w:=
 Sat.where.2 ⟨⟨trivial,by simp⟩,H.nil E.AE 2⟩
end Go.Sh

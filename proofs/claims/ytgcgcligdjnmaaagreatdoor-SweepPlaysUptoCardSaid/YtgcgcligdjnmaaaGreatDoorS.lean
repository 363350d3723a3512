/- The sets of stretches do what their lists say. No further condition. -/
import Derived.Test.YtgcgcligdjnmaaaGreatDoorF
import Derived.Test.YtgcgcligdjnmaaaGreatDoorM
set_option linter.all false
set_option maxRecDepth 50000
namespace Go.Sh
def flat:Iv->List Value
  | []=>[]
  | p::r=>.int .u64 p.1:: .int .u64 p.2::flat r
def FM: ∀l:Iv,(flat l).length=l.length*2
  | []=>rfl
  | p::r=>by simp[flat,FM r];omega
def Nm: ∀l m:Iv,flat (l++m)=flat l++flat m
  | [],_=>rfl
  | p::r,m=>by simp[flat,Nm r m]
def Q7: ∀(l:Iv) (i:Nat),(flat l).take (i*2)=flat (l.take i)
  | [],i=>by simp[flat]
  | p::r,0=>by rfl
  | p::r,i+1=>by
    rw[show(i+1)*2=i*2+1+1 from by omega];simp[flat,Q7 r i]
def Q8: ∀(l:Iv) (i:Nat),(flat l).drop (i*2)=flat (l.drop i)
  | [],i=>by simp[flat]
  | p::r,0=>by rfl
  | p::r,i+1=>by
    rw[show(i+1)*2=i*2+1+1 from by omega];simp[flat,Q8 r i]
def Nn: ∀(l:Iv) (i:Nat) (p:Int×Int),l[i]? =some p->(flat l)[i*2]? =some (.int .u64 p.1)/\(flat l)[i*2+1]? =some (.int .u64 p.2)
  | [],i,p,h=>by grind
  | q::r,0,p,h=>by simp at h;subst h;simp[flat]
  | q::r,i+1,p,h=>by
    have:=Nn r i p (by grind);rw[show(i+1)*2=i*2+1+1 from by omega];simpa[flat]using this
def YM: ∀(l:Iv) (v:Value),v∈flat l->v.oneCell'=true
  | [],v,h=>by cases h
  | p::r,v,h=>by
    simp only[flat,List.mem_cons]at h;rcases h with rfl|rfl|h
    . rfl
    . rfl
    . exact YM r v h
abbrev OX:Int:=4398046511104
def length_le: ∀{l:Iv},Ok l-> ∀B:Int,0<=B->(∀p∈l,p.2<=B)->(l.length:Int)<=B:=by
  have key: ∀{l:Iv},Ok l-> ∀A B:Int,A<=B->(∀p∈l,A<=p.1)->(∀p∈l,p.2<=B)->(l.length:Int)<=B-A:=by
    intro l
    induction l with
    | nil=>simp
    | cons p r ih=>
      intro h A B y v d;have h1:=v p (by simp);have h2:=d p (by simp);have J:=h.2.1;have:=ih h.tail p.2 B h2 (λq j=>by have:=h.2.2.2.1 q j;omega) (λq j=>d q (by grind))
      grind
  intro l h B h0 d;have:=key h 0 B h0 (λp hp=>(h.mem hp).1) d;omega
structure G7(E:Env)(w:World)(p:Addr)(s:Aa)(l:Iv):Prop where
  c0:w.cell? p=some (.slice s.base s.len s.cap)
  f0:w.frozen? p=false
  own:I0 w 0 E.AD 2 s (flat l)
  ok:Ok l
  sH: ∀q∈l,q.2<=OX
  apart: ∀a,s.base=some a->a.block≠p.block
section
variable{E:Env}{w w':World}{p:Addr}{s:Aa}{l:Iv}
def G7.len(h:G7 E w p s l):s.len=l.length:=by
  have:=h.own.len;rw[FM]at this;omega
def G7.small(h:G7 E w p s l):(l.length:Int)<=OX:=length_le h.ok OX (by decide) h.sH
def G7.ext{S:Nat->Prop}(h:G7 E w p s l)(he:Ext S w w')(hp: ¬S p.block)(hs: ∀a,s.base=some a-> ¬S a.block):G7 E w' p s l:=
  ⟨he.cell h.c0 hp,by rw[he.frozen (World.block_lt_of_cell? w p h.c0) hp];exact h.f0,
   h.own.ext he λb d=>hs _ d,h.ok,h.sH,h.apart⟩
def G7.FP(h:G7 E w p s l)(he:Ext AP w w'):G7 E w' p s l:=h.ext he (λf=>f) λ_ _ f=>f
def G7.cells(h:G7 E w p s l){i:Nat}{q:Int×Int}(j:l[i]? =some q):
    ∃b,s.base=some ⟨b,0,none⟩/\w.cell? ⟨b,i*2,none⟩=some (.int .u64 q.1)/\w.cell? ⟨b,i*2+1,none⟩=some (.int .u64 q.2):=by
  have d:=h.own.rowAt;obtain⟨g1,g2⟩:=Nn l i q j;rcases h.own.row with ⟨h1,h2⟩|⟨b,cs,h1,_⟩
  . rw[h1]at d;have:flat l=[]:=d
    grind
  . rw[h1]at d;refine⟨b,h1,?_,?_⟩
    . have:=d.2 _ _ g1;rwa[add_eq,Nat.zero_add]at this
    . have:=d.2 _ _ g2;rwa[add_eq,Nat.zero_add]at this
def G7.lt(h:G7 E w p s l):p.block<w.heap.size:=World.block_lt_of_cell? w p h.c0
end
structure Jn(E:Env)(w:World)(b o:Nat)(s:Aa)(l:Iv):Prop where
  row:G7 E w ⟨b,o,none⟩ s l
  c1:w.cell? ⟨b,o+1,none⟩=some (.int .u64 (Gn l))
  f1:w.frozen? ⟨b,o+1,none⟩=false
def Jn.ext{E:Env}{w w':World}{b o:Nat}{s:Aa}{l:Iv}{S:Nat->Prop}(h:Jn E w b o s l)(he:Ext S w w')(hp: ¬S b)(hs: ∀a,s.base=some a-> ¬S a.block):Jn E w' b o s l:=
  ⟨h.row.ext he hp hs,he.cell h.c1 hp,by rw[he.frozen (p:=⟨b,o+1,none⟩) h.row.lt hp];exact h.f1⟩
structure No(b:Nat)(C:Nat->Prop)(w w':World):Prop where
  ext:Ext (KF b) w w'
  Cv: ∀j,¬C j->w'.cell? ⟨b,j,none⟩=w.cell? ⟨b,j,none⟩
  qV: ∀j,w'.frozen? ⟨b,j,none⟩=w.frozen? ⟨b,j,none⟩
def No.bL{b:Nat}{C:Nat->Prop}{w w':World}(h:Ext AP w w')(d:b<w.heap.size):No b C w w':=
  ⟨h.any,λj _=>World.cell?_of_block (h.block b d λf=>f),λj=>World.frozen?_of_block (h.block b d λf=>f)⟩
def No.IV{b j:Nat}{C:Nat->Prop}{w w':World}{v:Value}(h:NX ⟨b,j,none⟩ v w w')(y:C j):No b C w w':=
  ⟨h.ext,λi d=>h.other _ (by grind),λi=>h.frozen _⟩
def No.trans{b:Nat}{C:Nat->Prop}{w w1 v:World}(h:No b C w w1)(k:No b C w1 v):No b C w v:=
  ⟨h.ext.trans' k.ext,λj d=>(k.Cv j d).trans (h.Cv j d),λj=>(k.qV j).trans (h.qV j)⟩
def Xm(o:Nat):Nat->Prop:=λj=>j=o∨j=o+1
def Tv(w:World)(s s':Aa):Prop:=s'.base=s.base∨ ∀a,s'.base=some a->w.heap.size<=a.block
structure EnvS(E:Env):Prop where
  at1: ∀i p1 p2 K w,F.EP E i p1 p2 K w->E.call E.JE #[.int .i64 i,.pointer p1,.pointer p2] w (λr w'=> ∃b,r= .bool b/\K b w') NI
  mono: ∀g args w (K K':Value->World->Prop),(∀v w',K v w'->K' v w')->E.call g args w K NI->E.call g args w K' NI
def half(a b:Int)(v:0<=a)(y:0<=b)(hs:a+b<9223372036854775808):
    i64 (Int.fdiv (u64 (i64 (a+b))) (2^(min (Int.toNat 1) (IntKind.bits .u64))))=(a+b)/2:=by
  have d:i64 (a+b)=a+b:=AE;have j:u64 (a+b)=a+b:=AK;rw[d,j];have:(2:Int)^(min (Int.toNat 1) (IntKind.bits .u64))=2:=by decide
  rw[this,Int.fdiv_eq_ediv_of_nonneg _ (by omega),AE]
def Ri{E:Env}{n:Int}{v:Value}{w0:World}{K:Int->World->Prop}(t:Int->Bool)(hn:0<=n)(aF:n<4611686018427387904)
    (hf: ∀i w,0<=i->i<n->Ext AP w0 w-> ∀d:Value->World->Prop,(∀w',Ext AP w0 w'->d (.bool (t i)) w')->DYN E.call v #[.int .i64 i] w d)
    (m:Int)(aD:0<=m)(aE:m<=n)(aB: ∀i,0<=i->i<m->t i=false)(aA: ∀i,m<=i->i<n->t i=true)
    (hK: ∀w',Ext AP w0 w'->K m w'):F.KU E n v K w0:=by
  unfold F.KU;refine AH (λs w=>0<=s.1/\s.1<=m/\m<=s.2.1/\s.2.1<=n/\Ext AP w0 w) (λs _=>(s.2.1-s.1).toNat) ⟨by simp,by omega,by omega,by simp,Ext.refl _ _⟩ ?_;rintro⟨i,j,u⟩ _ w ⟨h1,h2,y,J,hw⟩;simp only at h1 h2 y J⊢;refine AB (λaC=>⟨by decide,AY λh Y=> ?_⟩) (λT=> ?_)
  . rw[half i j h1 (by omega) (by omega)]at Y;refine hf h w (by omega) (by omega) hw _ λw' aH=>⟨_,rfl,AQ (λht=> ?_) (λht=> ?_)⟩
    . have O:t h=false:=by grind
      have:h<m:=by grind
      rw[AE]
      grind
    grind
  grind
def E8{α:Type}{l:List α}{k:Nat}{x:α}(h:l[k]? =some x):l.take (k+1)=l.take k++[x]:=by
  obtain⟨d,rfl⟩:=List.getElem?_eq_some_iff.1 h;simp
section
variable{E:Env}(hE:EnvS E){w:World}{p:Addr}{s:Aa}{l:Iv}
include hE
theorem S4(h:G7 E w p s l){x:Int}(aR:0<=x){K:Int->World->Prop}(hK: ∀w',Ext AP w w'->K (posn l x) w'):F.Dc E (some p) x K w:=by
  unfold F.Dc T0.Dc;refine BS λw1 h1 aP aE=>BS λw2 h2 aQ aB=> ?_;have y:Ext AP w w2:=aE.trans' aB;have aA:w2.cell? ⟨w.heap.size,0,none⟩=some (.pointer (some p)):=aB.cell (by rw[AW h1];rfl) (λf=>f);have aD:w2.cell? ⟨w1.heap.size,0,none⟩=some (.int .u64 x):=by rw[AW h2];rfl
  have O:=h.FP y;refine⟨some p,aA,?_⟩;simp only[AG];refine⟨s,O.c0,?_⟩;have hlen:=h.len;have aC:=h.small;have aI:OX=4398046511104:=rfl;refine Ri (λi=>match l[i.toNat]? with|some q=>decide (q.2>x)|none=>true) (by omega) (by omega) ?_ (posn l x) (by omega) ?_ ?_ ?_ λw' d=>hK w' (y.trans' d)
  . intro i w' T aN d K' Y;have j:i.toNat<l.length:=by omega
    have J:=List.getElem?_eq_getElem j;simp only[J]at Y;have v:=O.FP d;obtain⟨b,hb,aO,aF⟩:=v.cells J;refine hE.mono _ _ _ _ _ ?_ (hE.at1 i (some ⟨w.heap.size,0,none⟩) (some ⟨w1.heap.size,0,none⟩) (λr aG=>K' (.bool r) aG) w' ?_)
    . grind
    . unfold F.EP;simp only[AG];refine⟨some p,d.cell aA (λf=>f),?_⟩;simp only[AG];refine⟨s,v.c0,?_⟩;rw[hb];simp only[AG,add_eq,Nat.zero_add];exact⟨⟨T,by omega⟩,l[i.toNat].2,aF,x,d.cell aD (λf=>f),Y _ (d.trans' (Ext.drew _ _))⟩
  . have:=LU l x;omega
  . intro i T hi;have j:i.toNat<l.length:=by have:=LU l x;omega
    have J:=List.getElem?_eq_getElem j;simp only[J];have:=Na l x i.toNat _ (by omega) J
    grind
  . intro i T hi;have j:i.toNat<l.length:=by omega
    have J:=List.getElem?_eq_getElem j;simp only[J];have:=K9 h.ok x (i:=i.toNat) (by omega) J
    grind
theorem JH(h:G7 E w p s l){a b:Int}(ha:0<=a)(aF:a<=b)(hb:b<18446744073709551616){K:Int->World->Prop}(hK: ∀w',Ext AP w w'->K (cnt l a b) w'):
    F.BA E (some p) a b K w:=by
  unfold F.BA T0.BA;refine S4 hE h ha λw1 aA=> ?_;have aZ:=h.FP aA;have hlen:=h.len;have hsm:=h.small;have aL:OX=4398046511104:=rfl;have aI:=LU l a;refine AH (λst w'=> ∃k:Nat,st.2.1=(k:Int)/\posn l a<=k/\k<=l.length/\st.1=cnt (l.take k) a b/\Ext AP w w') (λst _=>(l.length-st.2.1).toNat)
    ⟨posn l a,rfl,Nat.le_refl _,aI,(Sa Pk).symm,aA⟩ ?_
  rintro⟨n,i,u⟩ _ w2 ⟨k,hk,aG,aV,hn,aB⟩;simp only at hk hn⊢;subst hk;have d:=h.FP aB;simp only[AG];have fin:(∀q,l[k]? =some q->b<=q.1)->K n w2:=by
    intro J;have:cnt l a b=cnt (l.take k) a b:=by
      conv=>lhs;rw[<-List.take_append_drop k l]
      rw[Ta];have:cnt (l.drop k) a b=0:=by
        refine Tb λq hq=> ?_;obtain⟨i,hi,rfl⟩:=List.mem_iff_getElem.1 hq;rw[List.getElem_drop];simp only[List.length_drop]at hi;have v:k<l.length:=by omega
        have h4:=J _ (List.getElem?_eq_getElem v);rcases Nat.eq_zero_or_pos i with rfl|aU
        . omega
        . have h5:=h.ok.lt (i:=k) (j:=k+i) (by omega) (List.getElem?_eq_getElem v) (List.getElem?_eq_getElem (by omega));have h6:=h.ok.get (List.getElem?_eq_getElem v);omega
      omega
    grind
  refine⟨s,d.c0,AB (λaX=> ?_) (λaS=>fin λq hq=> ?_)⟩
  . have hl:k<l.length:=by omega
    have hg:=List.getElem?_eq_getElem hl;obtain⟨r,hr,T,aJ⟩:=d.cells hg;refine⟨s,d.c0,?_⟩;rw[hr];simp only[AG,add_eq,Nat.zero_add,Int.toNat_natCast];refine⟨⟨by omega,by omega⟩,_,T,AB (λaN=> ?_) (λaM=>fin λq hq=> ?_)⟩
    . have Y:=d.FP (Ext.drew _ w2);refine⟨s,Y.c0,?_⟩;rw[hr];simp only[AG,add_eq,Nat.zero_add,Int.toNat_natCast];refine⟨⟨by omega,by omega⟩,l[k].2,aJ,s,Y.c0,?_⟩;rw[hr];simp only[AG,add_eq,Nat.zero_add,Int.toNat_natCast];refine⟨⟨by omega,by omega⟩,l[k].1,T,AY λn' O=> ?_⟩;have hq:=h.ok.get hg;have aP:=K9 h.ok a (i:=k) aG hg;have y:cnt (l.take (k+1)) a b=n+(min l[k].2 b-max l[k].1 a):=by
        rw[E8 hg,Ta,<-hn];simp only[cnt,NZ];omega
      have aE:Ok (l.take (k+1)):=by
        have:=h.ok;rw[<-List.take_append_drop (k+1) l,Fx]at this
        grind
      have hle:=E0 aE aF;have aH:=DL (l.take (k+1)) a b;have aY:=DL (l.take k) a b;rw[WY,Sq,AK (n:=min l[k].2 b-max l[k].1 a),<-y,AK aH (by omega)]at O;refine⟨⟨k+1,?_,by omega,by omega,O,aB.trans' (Ext.drew _ _)⟩,?_⟩
      . rw[AE];omega
      . rw[AE];omega
    grind
  grind
end
def G7.KV{E:Env}{w w':World}{b o:Nat}{s:Aa}{l:Iv}{C:Nat->Prop}(h:G7 E w ⟨b,o,none⟩ s l)(hu:No b C w w')(hC: ¬C o):G7 E w' ⟨b,o,none⟩ s l:=
  ⟨by rw[hu.Cv o hC];exact h.c0,by rw[hu.qV o];exact h.f0,h.own.ext hu.ext λg d e=>h.apart _ d e,h.ok,h.sH,h.apart⟩
def Np{w:World}{b n t:Nat}{l:List Value}{f:Nat×Nat}(h:w.heap[b]? =some (.cells ⟨l⟩ t f))(d:l.length=n):rowAt w (some ⟨b,0,none⟩) n l:=
  ⟨d,λj v y=>by rw[add_eq,Nat.zero_add,AW h];grind⟩
def Ke(s:Aa):Nat->Prop:=λk=> ∃a,s.base=some a/\k=a.block
def I0.Fz{w:World}{B t z:Nat}{s:Aa}{vs:List Value}(h:I0 w B t z s vs){k:Nat}(hk:Ke s k):B<=k/\k<w.heap.size:=by
  obtain⟨a,d,rfl⟩:=hk;exact⟨(h.lt d).1,(h.lt d).2.1⟩
def YN{l:Iv}{a b:Int}(h:Ok l)(d:a<b)(y: ∀q∈l,q.2<=OX):((Dz l a b).length:Int)<=OX:=
  length_le (Gl h d) OX (by decide) λq j=>by
    obtain⟨p,hp,h1,h2,v⟩:=Nb h d j
    grind
def nK{l:Iv}{a b:Int}(h:Ok l)(d:a<b)(y: ∀q∈l,q.2<=OX): ∀q∈Dz l a b,q.2<=OX:=λq j=>by
  obtain⟨p,hp,h1,h2,v⟩:=Nb h d j
  grind
def S5{E:Env}{w:World}{B g:Nat}{s:Aa}{m:Iv}{q:Int×Int}{K:Aa->World->Prop}(d:I0 w B E.AD 2 s (flat m))(Y:w.heap[g]? =some (.cells ⟨[.int .u64 q.1,.int .u64 q.2]⟩ E.AD))
    (J:B<=w.heap.size)(hm:(m.length:Int)<=OX+1)
    (O: ∀s' w',I0 w' B E.AD 2 s' (flat (m++[q]))->Ext (Ke s) w w'->(s'.base=s.base∨ ∃b,s'.base=some ⟨b,0,none⟩/\w.heap.size<=b)->K s' w'):
    APP E.AD 2 16 #[.int .u64 0,.int .u64 0] s ⟨some ⟨g,0,none⟩,1,1⟩ w K:=by
  have hl:=d.len;rw[FM]at hl;have j:OX=4398046511104:=rfl;refine Pg (news:=[.int .u64 q.1,.int .u64 q.2]) rfl d (Np Y rfl) rfl (by intro v y;simp at y;rcases y with rfl|rfl<;>rfl) J (by grind) (by grind) ?_;intro s' w' ho aB he T;refine O s' w' ?_ he T;rw[Nm];exact ho
def P6{E:Env}{w:World}{B:Nat}{s x:Aa}{m n:Iv}{K:Aa->World->Prop}(d:I0 w B E.AD 2 s (flat m))(hx:rowAt w x.base (x.len*2) (flat n))(j:x.len=n.length)
    (y:B<=w.heap.size)(hm:((m.length+n.length:Nat):Int)<=OX+1)
    (J: ∀s' w',I0 w' B E.AD 2 s' (flat (m++n))->Ext (Ke s) w w'->(s'.base=s.base∨ ∃b,s'.base=some ⟨b,0,none⟩/\w.heap.size<=b)->K s' w'):
    APP E.AD 2 16 #[.int .u64 0,.int .u64 0] s x w K:=by
  have T:=d.len;rw[FM]at T;have v:OX=4398046511104:=rfl;refine Pg rfl d hx (by rw[FM,j]) (YM n) y (by omega) (by omega) ?_;intro s' w' ho Y he O;refine J s' w' ?_ he O;rw[Nm];omega
def Hf{w0 w w':World}{B t z:Nat}{s:Aa}{vs:List Value}(h:Ext AP w0 w)(j:I0 w B t z s vs)(v:w0.heap.size<=B)(he:Ext (Ke s) w w'):Ext AP w0 w':=
  h.trans he (λ_ _ f=>f) λi y d=>by have:=j.Fz d;omega
section
variable{E:Env}(hE:EnvS E){w:World}{b o:Nat}{s:Aa}{l:Iv}
include hE
theorem Nq(h:Jn E w b o s l){a c:Int}(ha:0<=a)(Y:a<c)(hc:c<18446744073709551616){K:World->Prop}
    (hK: ∀w' s',Jn E w' b o s' (Dz l a c)->No b (Xm o) w w'->Tv w s s'->K w'):F.Co E (some ⟨b,o,none⟩) a c K w:=by
  unfold F.Co T0.Co;refine AB (λbC=>by omega) (λ_=> ?_);simp only[AG,add_eq];have hd:Ext AP w w.drew:=Ext.drew _ _;refine⟨Gn l,h.c1,JH hE (h.row.FP hd) ha (by omega) hc λw4 cX=> ?_⟩;have bP:Ext AP w w4:=hd.trans' cX;have bZ:b<w.heap.size:=h.row.lt;have h4:=h.ext bP (λf=>f) λ_ _ f=>f;refine⟨h4.c1,Ln h4.c1 h4.f1 rfl λw6 aD=> ?_⟩;have a3:No b (Xm o) w w6:=(No.bL bP bZ).trans (No.IV aD (.inr rfl));have b3:G7 E w6 ⟨b,o,none⟩ s l:=h4.row.KV (C:=λj=>j=o+1) (No.IV aD rfl) (by omega);have b7:u64 (Gn l-cnt l a c)=Gn (Dz l a c):=by
    rw[TZ h.row.ok Y];have h1:=MS (Gl h.row.ok Y);have h2:=fB (Gl h.row.ok Y);rw[TZ h.row.ok Y]at h1 h2;exact AK h1 h2
  rw[b7]at aD;refine S4 hE b3 ha λw8 aZ=> ?_;have hlen:=h.row.len;have hsm:=h.row.small;have c8:OX=4398046511104:=rfl;have cP:=LU l a;have b4:=b3.FP aZ;have dD: ∀k,k<=l.length->posn l a<=k->((Dz ((l.take k).drop (posn l a)) a c).length:Int)<=OX:=by
    intro k _ _;have cE:Ok ((l.take k).drop (posn l a)):=by
      have h1:=h.row.ok;rw[<-List.take_append_drop k l,Fx]at h1;have h2:=h1.1;rw[<-List.take_append_drop (posn l a) (l.take k),Fx]at h2
      grind
    exact YN cE Y λq hq=>h.row.sH q (List.mem_of_mem_take (List.mem_of_mem_drop hq))
  refine AX (λst w'=> ∃k:Nat,st.1=(k:Int)/\posn l a<=k/\k<=l.length/\(∀q,l[k]? =some q->c<=q.1)/\
      I0 w' w8.heap.size E.AD 2 st.2.1 (flat (Dz ((l.take k).drop (posn l a)) a c))/\Ext AP w8 w') ?_ ?_
  . refine AH (λst w'=> ∃k:Nat,st.1=(k:Int)/\posn l a<=k/\k<=l.length/\
      I0 w' w8.heap.size E.AD 2 st.2.1 (flat (Dz ((l.take k).drop (posn l a)) a c))/\Ext AP w8 w') (λst _=>(l.length-st.1).toNat)
      ⟨posn l a,rfl,Nat.le_refl _,cP,?_,Ext.refl _ _⟩ ?_
    . have:(l.take (posn l a)).drop (posn l a)=[]:=List.drop_eq_nil_of_le (by grind);rw[this];exact I0.nil _ _ _ _
    . rintro⟨i,rest,u⟩ _ aE ⟨k,hk,a1,bY,d,aM⟩;simp only at hk d⊢;subst hk;have aL:=b4.FP aM;have out:(∀q,l[k]? =some q->c<=q.1)-> ∃k':Nat,(k:Int)=(k':Int)/\posn l a<=k'/\k'<=l.length/\(∀q,l[k']? =some q->c<=q.1)/\
          I0 aE w8.heap.size E.AD 2 rest (flat (Dz ((l.take k').drop (posn l a)) a c))/\Ext AP w8 aE:=
        λhq=>⟨k,rfl,a1,bY,hq,d,aM⟩
      refine⟨s,aL.c0,AB (λdB=> ?_) (λc9=>out λq hq=> ?_)⟩
      . have hl:k<l.length:=by omega
        have hg:=List.getElem?_eq_getElem hl;obtain⟨r,hr,b1,cR⟩:=aL.cells hg;refine⟨s,aL.c0,?_⟩;rw[hr];simp only[AG,add_eq,Nat.zero_add,Int.toNat_natCast];refine⟨⟨by omega,by omega⟩,_,b1,AB (λdC=> ?_) (λdA=>out λq hq=> ?_)⟩
        . refine⟨s,aL.c0,?_⟩;rw[hr];simp only[AG,add_eq,Nat.zero_add,Int.toNat_natCast,Nat.add_zero];refine⟨⟨by omega,by omega⟩,l[k].1,b1,l[k].2,cR,?_⟩;have hq:=h.row.ok.get hg;have dG:=K9 h.row.ok a (i:=k) a1 hg;obtain⟨M,hM⟩: ∃M,M=Dz ((l.take k).drop (posn l a)) a c:=⟨_,rfl⟩;rw[<-hM]at d;have dL:(M.length:Int)<=OX:=by grind
          have cO:Dz ((l.take (k+1)).drop (posn l a)) a c=M++Pj l[k] a c:=by
            rw[E8 hg,List.drop_append_of_le_length (by grind),Nc,<-hM];simp[Dz]
          refine BS λdQ bJ cS a5=> ?_;have b8:=aM.trans' a5;refine Jc _ _ _ _ _ _ _ bJ (by simp) (by intro v hv;simp at hv;rcases hv with rfl|rfl<;>rfl) λcC a6 cT aG=> ?_;simp at aG;have cY:=aM.size;have b9:Ext AP w8 cC:=b8.trans a6 (λ_ _ f=>f) λi hi cM=>by have:i=aE.heap.size:=cM;omega
          have aI:I0 cC w8.heap.size E.AD 2 rest (flat M):=(d.ext a5 λ_ _ f=>f).ext a6 λg cK e=>by
            have:=(d.lt cK).2.1;have:g=aE.heap.size:=e;grind
          have aR: ¬Ke rest aE.heap.size:=λhb=>by have:=(d.Fz hb).2;omega
          refine AX (λst w'=>I0 w' w8.heap.size E.AD 2 st.1 (flat (M++if l[k].1<a then [(l[k].1,a)]else []))/\Ext AP w8 w'/\
              w'.heap[aE.heap.size]? =some (.cells ⟨[.int .u64 l[k].1,.int .u64 l[k].2]⟩ E.AD)/\ ¬Ke st.1 aE.heap.size) ?_ ?_
          . refine⟨l[k].1,by rw[AW aG];rfl,AB (λb0=> ?_) (λbX=> ?_)⟩
            . refine⟨l[k].1,by rw[AW aG];rfl,BS λdS bK cU aH=> ?_⟩;refine S5 (q:=(l[k].1,a)) (aI.ext aH λ_ _ f=>f) bK (by omega) (by omega) λPz dT dE a7 bA=> ?_;refine⟨by grind,Hf (b9.trans' aH) (aI.ext aH λ_ _ f=>f) (Nat.le_refl _) a7,a7.obj (aH.obj aG λf=>f) aR,?_⟩;rintro⟨x,hx,he⟩;rcases bA with bA|⟨y,hy,dP⟩
              . exact aR ⟨x,by grind,he⟩
              grind
            grind
          . rintro⟨rD,u⟩ _ dR ⟨aS,cA,a4,bD⟩;simp only at aS bD⊢;have cL:i64 ((k:Int)+1)=((k+1:Nat):Int):=by rw[AE];omega
            have cJ:Pj l[k] a c=(if l[k].1<a then [(l[k].1,a)]else [])++if c<l[k].2 then [(c,l[k].2)]else []:=by
              unfold Pj
              grind
            refine⟨l[k].2,by rw[AW a4];rfl,AB (λb0=> ?_) (λbX=> ?_)⟩
            . refine⟨l[k].2,by rw[AW a4];rfl,BS λdV bM cV aQ=> ?_⟩;have a2:((M++if l[k].1<a then [(l[k].1,a)]else []).length:Int)<=OX+1:=by grind
              refine S5 (q:=(c,l[k].2)) (aS.ext aQ λ_ _ f=>f) bM (by grind) a2 λbI dW dF bQ bA=> ?_;refine⟨⟨k+1,cL,by omega,by omega,?_,Hf (cA.trans' aQ) (aS.ext aQ λ_ _ f=>f) (Nat.le_refl _) bQ⟩,by omega⟩
              grind
            grind
        grind
      grind
  . rintro⟨i,rest,u⟩ _ aA ⟨k,hk,a1,bY,bV,d,T⟩;simp only at hk d⊢;subst hk;have O:=b4.FP T;have bO:Ext AP aA aA.drew:=Ext.drew _ _;simp only[AG,KR];have bB:s.len<=s.cap:=O.own.cap;refine⟨s,O.c0,⟨by omega,by omega⟩,s,O.c0,⟨by omega,by omega⟩,BS λbE bN cW bR=> ?_⟩;have aN:Ext AP aA bE:=bO.trans' bR;have aV:=O.FP aN;refine⟨aV.c0,aV.c0,?_⟩;have c5:w8.heap.size<=bE.heap.size:=Nat.le_trans T.size aN.size;have aJ:I0 bE aA.heap.size E.AD 2 ⟨some ⟨aA.heap.size,0,none⟩,0,0⟩ (flat []):=WX (w:=aA.drew) bN rfl (Nat.le_refl _) (by decide);have b5:=d.ext aN λ_ _ f=>f;have b6:=aV.own.rowAt;have bW:(flat l).length=s.len*2:=by rw[FM,hlen]
    have cQ:Int.toNat ((posn l a:Nat):Int)=posn l a:=Int.toNat_natCast _;have cN:Int.toNat ((k:Nat):Int)=k:=Int.toNat_natCast _;rw[cQ,cN];have aK:=aY h.row.ok Y a1 bV;have cI:=YN h.row.ok Y h.row.sH;rw[aK,List.length_append,List.length_append]at cI;refine P6 (x:=⟨s.base,posn l a,s.cap⟩) (n:=l.take (posn l a)) aJ (by
        have:=KG (m:=posn l a*2) b6 (by omega) bW;rwa[Q7]at this) (by grind) (by simp_all) (by grind) λz3 c2 aT bS cF=> ?_
    have aO:Ext AP aA c2:=Hf aN aJ (Nat.le_refl _) bS;have a9:=O.FP aO;refine⟨a9.c0,a9.c0,?_⟩;have aC:=d.ext aO λ_ _ f=>f;simp only[List.nil_append]at aT;refine P6 (x:=rest) (n:=Dz ((l.take k).drop (posn l a)) a c) aT aC.rowAt (by have:=aC.len;rw[FM]at this;omega) (by have:=aO.size;omega)
      (by omega) λSb c3 a8 bT cG=> ?_
    have aX:Ext AP aA c3:=Hf aO aT (Nat.le_refl _) bT;have aW:=O.FP aX;refine⟨aW.c0,aW.c0,?_⟩;refine P6 (x:=⟨F2 s.base s.cap k 2,s.len-k,s.cap-k⟩) (n:=l.drop k) a8 (by
        have:=JC (k:=k) (z:=2) (cap:=s.cap) aW.own.rowAt rfl (by omega) bB bW;rwa[Q8]at this) (by grind) (by have:=aX.size;omega) (by grind) λaF c4 aU bU cH=> ?_
    have aP:Ext AP aA c4:=Hf aX a8 (Nat.le_refl _) bU;have aB:=O.FP aP;refine⟨aB.c0,aB.c0,Ln aB.c0 aB.f0 rfl λcD J=> ?_⟩;rw[<-aK]at aU;have hu:No b (Xm o) w cD:=(a3.trans (No.bL ((aZ.trans' T).trans' aP) (Nat.lt_of_lt_of_le bZ a3.ext.size))).trans (No.IV J (.inl rfl));have bC: ∀x,aF.base=some x->w.heap.size<=x.block:=λx hx=>by
      have h1:=(aU.lt hx).1;have h2:=a3.ext.size;have h3:=aZ.size;have h4:=T.size;omega
    refine hK cD aF ⟨⟨J.same,by rw[J.frozen];exact aB.f0,?_,Gl h.row.ok Y,nK h.row.ok Y h.row.sH,λx hx e=>by grind⟩,?_,?_⟩ hu (.inr bC)
    . refine(aU.lower (Nat.zero_le _)).ext J.ext λg hg e=> ?_;have:=bC _ hg;have:g=b:=e
      grind
    . rw[J.other _ (by simp)];exact((aZ.trans' T).trans' aP).cell aD.same (λf=>f)
    . rw[J.frozen,((aZ.trans' T).trans' aP).frozen (p:=⟨b,o+1,none⟩) (by have:=a3.ext.size;grind) (λf=>f),aD.frozen];exact h4.f1
end
def Tw{E:Env}{w0 w:World}{b o g:Nat}{s s1:Aa}{l:Iv}{i k:Nat}{q:Int×Int}{K:World->Prop}
    (hr:G7 E w0 ⟨b,o,none⟩ s l)(O:Ext AP w0 w)(aD:I0 w w0.heap.size E.AD 2 s1 (flat (l.take i)))(hg:w.heap[g]? =some (.cells ⟨[.int .u64 q.1,.int .u64 q.2]⟩ E.AD))
    (hi:i<=k)(hk:k<=l.length)
    (hK: ∀w' aF s',I0 w' w0.heap.size E.AD 2 s' (flat (l.take i++[q]++l.drop k))->Ext AP w0 w'->NX ⟨b,o,none⟩ (.slice s'.base s'.len s'.cap) w' aF->K aF):
    APP E.AD 2 16 #[.int .u64 0,.int .u64 0] s1 ⟨some ⟨g,0,none⟩,1,1⟩ w λaG J=>
      J.cell? ⟨b,o,none⟩=some (.slice s.base s.len s.cap)/\J.cell? ⟨b,o,none⟩=some (.slice s.base s.len s.cap)/\
      APP E.AD 2 16 #[.int .u64 0,.int .u64 0] aG ⟨F2 s.base s.cap k 2,s.len-k,s.cap-k⟩ J λQ3 v=>
      v.cell? ⟨b,o,none⟩=some (.slice s.base s.len s.cap)/\v.cell? ⟨b,o,none⟩=some (.slice s.base s.len s.cap)/\
      stCells ⟨b,o,none⟩ 0 [.slice Q3.base Q3.len Q3.cap] v λaA=>K aA:=by
  have hlen:=hr.len;have hsm:=hr.small;have aM:OX=4398046511104:=rfl;have aI:(flat l).length=s.len*2:=by rw[FM,hlen]
  refine S5 aD hg O.size (by grind) λaG J T aB aK=> ?_;have y:Ext AP w0 J:=Hf O aD (Nat.le_refl _) aB;have d:=hr.FP y;refine⟨d.c0,d.c0,?_⟩;refine P6 (x:=⟨F2 s.base s.cap k 2,s.len-k,s.cap-k⟩) (n:=l.drop k) T (by
      have:=JC (k:=k) (z:=2) (cap:=s.cap) d.own.rowAt rfl (by omega) d.own.cap aI;rwa[Q8]at this) (by grind) y.size (by grind) λQ3 v aE aC aL=> ?_
  have Y:Ext AP w0 v:=Hf y T (Nat.le_refl _) aC;have j:=hr.FP Y;exact⟨j.c0,j.c0,Ln j.c0 j.f0 rfl λaA aJ=>hK v aA Q3 aE Y aJ⟩
def Tx{E:Env}{w0 w:World}{b o g:Nat}{s:Aa}{l:Iv}{i:Nat}{K:Aa->World->Prop}
    (J:G7 E w0 ⟨b,o,none⟩ s l)(d:Ext AP w0 w)(hg:w.heap[g]? =some (.cells ⟨[]⟩ E.AD))(y:w0.heap.size<=g)(Y:i<=l.length)
    (hK: ∀s' w',I0 w' w0.heap.size E.AD 2 s' (flat (l.take i))->Ext AP w0 w'->Ext (KF g) w w'->K s' w'):
    APP E.AD 2 16 #[.int .u64 0,.int .u64 0] ⟨some ⟨g,0,none⟩,0,0⟩ ⟨s.base,i,s.cap⟩ w K:=by
  have hlen:=J.len;have hsm:=J.small;have T:OX=4398046511104:=rfl;have v:(flat l).length=s.len*2:=by rw[FM,hlen]
  have j:I0 w w0.heap.size E.AD 2 ⟨some ⟨g,0,none⟩,0,0⟩ (flat []):=⟨rfl,Nat.le_refl _,(by decide:(0:Nat)<9223372036854775808),.inr ⟨g,_,rfl,y,hg,rfl,rfl⟩⟩;have O:=J.FP d;refine P6 (n:=l.take i) j (by
    have:=KG (m:=i*2) O.own.rowAt (by omega) v;rwa[Q7]at this) (by grind) d.size (by grind) λs' w' ho he hb=> ?_
  exact hK s' w' ho (Hf d j (Nat.le_refl _) he) (he.mono λi _ Y=>by obtain⟨a,ha,rfl⟩:=Y;cases ha;rfl)
def nL(l:Iv)(i:Nat)(a:Int):(addLo l i a).2<=i:=by
  unfold addLo
  grind
def nM(l:Iv)(i:Nat)(b:Int)(d:i<=l.length):i<=(addHi l i b).2/\(addHi l i b).2<=l.length:=by
  unfold addHi
  grind
section
variable{E:Env}(hE:EnvS E){w:World}{b o:Nat}{s:Aa}{l:Iv}
include hE
theorem LC(h:Jn E w b o s l){a c:Int}(ha:0<=a)(bJ:a<c)(hc:c<=OX){K:World->Prop}
    (hK: ∀w' s',Jn E w' b o s' (Dt l a c)->No b (Xm o) w w'->Tv w s s'->K w'):F.BT E (some ⟨b,o,none⟩) a c K w:=by
  have c9:OX=4398046511104:=rfl;unfold F.BT T0.BT;refine AB (λaK=>by omega) (λ_=> ?_);refine Nq hE h ha bJ (by omega) λw1 s1 h1 c5 dI=> ?_;simp only[AG,add_eq,Nat.zero_add,Nat.add_zero,KR];obtain⟨l1,bQ⟩: ∃l1,l1=Dz l a c:=⟨_,rfl⟩;rw[<-bQ]at h1;have aP:Clear l1 a c:=by rw[bQ];exact Tc h.row.ok bJ
  obtain⟨aD,bS,bV⟩:=Vi h1.row.ok bJ ha (by omega) aP;have bK:Dt l a c=SZ l1 a c:=by rw[Dt,bQ]
  refine⟨Gn l1,h1.c1,Ln h1.c1 h1.f1 rfl λw5 Y=> ?_⟩;have hT:u64 (Gn l1+u64 (c-a))=Gn (SZ l1 a c):=by
    have h2:=MS aD;have h3:=fB aD;rw[bV]at h2 h3⊢;rw[AK (n:=c-a),AK]
  rw[hT]at Y;have aU:No b (Xm o) w w5:=c5.trans (No.IV Y (.inr rfl));have aT:G7 E w5 ⟨b,o,none⟩ s1 l1:=h1.row.KV (C:=λj=>j=o+1) (No.IV Y rfl) (by omega);refine S4 hE aT ha λw7 bW=> ?_;have aB:=aT.FP bW;obtain⟨i,hi⟩: ∃i,i=posn l1 a:=⟨_,rfl⟩;rw[<-hi];have cP:i<=l1.length:=by rw[hi];exact LU l1 a
  have hlen:=aB.len;have hsm:=aB.small;obtain⟨cO,aQ⟩:=nM l1 i c cP;have cS:=nL l1 i a;refine BS λw9 b4 dC cM=> ?_;obtain⟨g,hg⟩: ∃g,g=w7.heap.size:=⟨_,rfl⟩;rw[<-hg]at b4⊢;refine Jc _ _ _ _ _ _ _ b4 (by simp) (by intro v hv;simp at hv;rcases hv with rfl|rfl<;>rfl) λcG b5 cW aV=> ?_;simp at aV;have aH: ∀{w1 w2:World},Ext AP w7 w1->Ext (KF g) w1 w2->Ext AP w7 w2:=λh1 h2=>h1.trans h2 (λ_ _ f=>f) λi hi e=>by have:i=g:=e;omega
  have aM:Ext AP w7 cG:=aH cM b5;refine AX (λst w'=>st.1=((addHi l1 i c).2:Int)/\w'.heap[g]? =some (.cells ⟨[.int .u64 a,.int .u64 (addHi l1 i c).1]⟩ E.AD)/\Ext AP w7 w') ?_ ?_
  . refine AX (λst w'=>w'=cG/\(st.1=true↔ ∃q,l1[i]? =some q/\q.1=c)) ?_ ?_
    . have O:=aB.FP aM;refine⟨s1,O.c0,AB (λbR=> ?_) (λaK=>⟨rfl,?_⟩)⟩
      . have hl:i<l1.length:=by omega
        have bO:=List.getElem?_eq_getElem hl;obtain⟨r,hr,aR,aS⟩:=O.cells bO;refine⟨s1,O.c0,?_⟩;rw[hr];simp only[AG,add_eq,Nat.zero_add,Int.toNat_natCast]
        grind
      grind
    . rintro⟨bt,u⟩ _ dL ⟨rfl,aJ⟩;simp only at aJ⊢;have O:=aB.FP aM;refine AQ (λht=> ?_) (λhf=> ?_)
      . obtain⟨q,hq,dK⟩:=aJ.1 ht;have hl:=(List.getElem?_eq_some_iff.1 hq).1;obtain⟨r,hr,aR,aS⟩:=O.cells hq;refine⟨s1,O.c0,?_⟩;rw[hr];simp only[AG,add_eq,Nat.zero_add,Int.toNat_natCast];refine⟨⟨by omega,by omega⟩,_,aS,?_⟩;refine Jc _ _ _ _ _ _ _ aV (by simp) (by intro v hv;simp at hv;subst hv;rfl) λc7 aX bU aE=> ?_;simp at aE;have hH:addHi l1 i c=(q.2,i+1):=by unfold addHi;grind
        rw[hH];refine⟨by rw[AE];simp,aE,aH aM aX⟩
      . have hH:addHi l1 i c=(c,i):=by
          unfold addHi
          grind
        grind
  . rintro⟨k,u⟩ _ c6 ⟨hk,bY,bC⟩;simp only at hk⊢;subst hk;refine AX (λst w'=>st.1=((addLo l1 i a).2:Int)/\w'.heap[g]? =some (.cells ⟨[.int .u64 (addLo l1 i a).1,.int .u64 (addHi l1 i c).1]⟩ E.AD)/\Ext AP w7 w') ?_ ?_
    . refine AX (λst w'=>w'=c6/\(st.1=true↔ ∃j q,i=j+1/\l1[j]? =some q/\q.2=a)) ?_ ?_
      . have T:=aB.FP bC;refine AB (λbR=> ?_) (λaK=>⟨rfl,?_⟩)
        . obtain⟨j,rfl⟩: ∃j,i=j+1:=⟨i-1,by omega⟩;have hl:j<l1.length:=by omega
          have bO:=List.getElem?_eq_getElem hl;obtain⟨r,hr,aR,aS⟩:=T.cells bO;refine⟨s1,T.c0,?_⟩;rw[hr];have hm:i64 (((j+1:Nat):Int)-1)=(j:Int):=by rw[AE];omega
          rw[hm];simp only[AG,add_eq,Nat.zero_add,Int.toNat_natCast]
          grind
        grind
      . rintro⟨bt,u⟩ _ dM ⟨rfl,aJ⟩;simp only at aJ⊢;have T:=aB.FP bC;refine AQ (λht=> ?_) (λhf=> ?_)
        . obtain⟨j,q,rfl,hq,dJ⟩:=aJ.1 ht;have hl:=(List.getElem?_eq_some_iff.1 hq).1;obtain⟨r,hr,aR,aS⟩:=T.cells hq;refine⟨s1,T.c0,?_⟩;rw[hr];have hm:i64 (((j+1:Nat):Int)-1)=(j:Int):=by rw[AE];omega
          rw[hm];simp only[AG,add_eq,Nat.zero_add,Int.toNat_natCast];refine⟨⟨by omega,by omega⟩,_,aR,?_⟩;refine Jc _ _ _ _ _ _ _ bY (by simp) (by intro v hv;simp at hv;subst hv;rfl) λc7 aX bU aE=> ?_;simp at aE;have hH:addLo l1 (j+1) a=(q.1,j):=by unfold addLo;grind
          grind
        . have hH:addLo l1 i a=(a,i):=by
            unfold addLo
            grind
          grind
    . rintro⟨k2,u⟩ _ J ⟨cA,aI,aN⟩;simp only at cA⊢;subst cA;have a1:SZ l1 a c=l1.take (addLo l1 i a).2++[((addLo l1 i a).1,(addHi l1 i c).1)]++l1.drop (addHi l1 i c).2:=by rw[hi];rfl
      obtain⟨x,hx⟩: ∃x,x=(addLo l1 i a).1:=⟨_,rfl⟩;obtain⟨y,hy⟩: ∃y,y=(addHi l1 i c).1:=⟨_,rfl⟩;obtain⟨i1,aL⟩: ∃i1,i1=(addLo l1 i a).2:=⟨_,rfl⟩;obtain⟨k,bP⟩: ∃k,k=(addHi l1 i c).2:=⟨_,rfl⟩;rw[<-hx,<-hy]at aI;rw[<-hx,<-hy,<-aL,<-bP]at a1;rw[<-bP]at cO aQ;rw[<-aL]at cS;rw[<-bP,<-aL];have d:=aB.FP aN;have dA:=d.own.cap;have fin: ∀w' aO s',I0 w' J.heap.size E.AD 2 s' (flat (l1.take i1++[(x,y)]++l1.drop k))->Ext AP J w'->NX ⟨b,o,none⟩ (.slice s'.base s'.len s'.cap) w' aO->K aO:=by
        intro w' aO s' ho he aG;rw[<-a1]at ho;have bR:b<w.heap.size:=h.row.lt;have aC:Ext AP w5 w':=(bW.trans' aN).trans' he;have hu:No b (Xm o) w aO:=(aU.trans (No.bL aC (Nat.lt_of_lt_of_le bR aU.ext.size))).trans (No.IV aG (.inl rfl));have aK: ∀x,s'.base=some x->w.heap.size<=x.block:=λx hx=>by
          have h1:=(ho.lt hx).1;have h2:=aU.ext.size;have h3:=(bW.trans' aN).size;omega
        have cU:=aT.FP aC;refine hK aO s' ?_ hu (.inr aK);rw[bK];refine⟨⟨aG.same,by rw[aG.frozen];exact cU.f0,?_,aD,?_,λx hx e=>by grind⟩,?_,?_⟩
        . refine(ho.lower (Nat.zero_le _)).ext aG.ext λg hg e=> ?_;have h1:=aK _ hg;have h2:g=b:=e
          grind
        . intro q hq;have hm:=(aD.mem hq);have h2:=(bS (q.2-1)).1 ⟨q,hq,by omega,by omega⟩;rcases h2 with ⟨p,hp,h3,h4⟩|h2
          . have:=aT.sH p hp;omega
          omega
        . rw[aG.other _ (by simp)];exact aC.cell Y.same (λf=>f)
        . rw[aG.frozen,aC.frozen (p:=⟨b,o+1,none⟩) (by have:=aU.ext.size;grind) (λf=>f),Y.frozen];exact h1.f1
      have hd:Ext AP J J.drew:=Ext.drew _ _;have bM:J.cell? ⟨g,0,none⟩=some (.int .u64 x):=by rw[AW aI];rfl
      have bN:J.cell? ⟨g,1,none⟩=some (.int .u64 y):=by rw[AW aI];rfl
      have cR:Int.toNat ((k:Nat):Int)=k:=Int.toNat_natCast _;have cQ:Int.toNat ((i1:Nat):Int)=i1:=Int.toNat_natCast _;rw[cR,cQ];refine⟨s1,d.c0,⟨by omega,by omega⟩,x,bM,y,bN,s1,d.c0,⟨by omega,by omega⟩,?_,?_⟩
      . refine BS λcH aW cX b6=> ?_;have aA:Ext AP J cH:=hd.trans' b6;have a3:=d.FP aA;have cV:J.drew.heap.size=J.heap.size:=rfl;refine⟨a3.c0,⟨aA.cell bM (λf=>f),aA.cell bN (λf=>f),trivial⟩,a3.c0,?_,?_⟩
        . refine Tx d aA aW (by omega) (by omega) λP5 dN cC aF dB=> ?_;have a4:=d.FP aF;refine⟨a4.c0,⟨aF.cell bM (λf=>f),aF.cell bN (λf=>f),trivial⟩,a4.c0,BS λdO bZ cY aY=> ?_⟩;have bD:=aF.trans' aY;have a5:=d.FP bD;exact⟨a5.c0,a5.c0,Tw (q:=(x,y)) d bD (cC.ext aY λ_ _ f=>f) bZ (by omega) aQ fin⟩
        . refine BS λdP b0 cZ aZ=> ?_;have bE:=aA.trans' aZ;have a6:=d.FP bE;refine⟨a6.c0,a6.c0,Tx d bE (aZ.obj aW λf=>f) (by omega) (by omega) λzE dQ cD bF b7=> ?_⟩;have a7:=d.FP bF;exact⟨a7.c0,a7.c0,Tw (q:=(x,y)) d bF cD (b7.obj b0 λe=>by have:cH.heap.size=J.drew.heap.size:=e;omega) (by omega) aQ fin⟩
      . refine BS λcI b1 c2 b8=> ?_;have bG:Ext AP J cI:=hd.trans' b8;have a8:=d.FP bG;have cV:J.drew.heap.size=J.heap.size:=rfl;refine⟨a8.c0,a8.c0,BS λdR b3 c3 a0=> ?_⟩;have bH:=bG.trans' a0;have a9:=d.FP bH;refine⟨a9.c0,a9.c0,Tx d bH b3 (by omega) (by omega) λsB dS cE bI b9=> ?_⟩;have bA:=d.FP bI;exact⟨bA.c0,bA.c0,Tw (q:=(x,y)) d bI cE (b9.obj (a0.obj b1 λf=>f) λe=>by have:J.drew.heap.size=cI.heap.size:=e;omega) (by omega) aQ fin⟩
end
def Tz{w:World}{k:Nat}{es:Array MapEntry}{c:Nat}{i:Nat}{v:Value}(hm:w.heap[k]? =some (.map es c))(d:w.cell? ⟨k,i,none⟩=some v):False:=by
 simp[World.cell?,hm]at d
def I0.Ws{w:World}{B t z:Nat}{s:Aa}{vs:List Value}{k:Nat}{es:Array MapEntry}{c:Nat}(h:I0 w B t z s vs)(hm:w.heap[k]? =some (.map es c)): ¬Ke s k:=by
 rintro⟨a,j,rfl⟩;rcases h.row with ⟨h1,_⟩|⟨b,cs,h1,_,d,_⟩
 .grind
 grind
def Jn.KV{E:Env}{w w':World}{b o:Nat}{s:Aa}{l:Iv}{C:Nat->Prop}(h:Jn E w b o s l)(hu:No b C w w')(h0: ¬C o)(h1: ¬C (o+1)):Jn E w' b o s l:=
 ⟨h.row.KV hu h0,by rw[hu.Cv _ h1];exact h.c1,by rw[hu.qV];exact h.f1⟩
def KP(p:Int×Int)(a b:Int):Iv:=if p.2<=a∨b<=p.1 then []else [(max p.1 a,min p.2 b)]
def withinL:Iv->Int->Int->Iv
 | [],_,_=>[]
 | p::r,a,b=>KP p a b++withinL r a b
def Nr(l m:Iv)(a b:Int):withinL (l++m) a b=withinL l a b++withinL m a b:=by
 induction l with
 | nil=>rfl
 | cons p r ih=>simp[withinL,ih]
def Rj{l:Iv}{a b:Int}(h: ∀p∈l,p.2<=a∨b<=p.1):withinL l a b=[]:=by
 induction l with
 | nil=>rfl
 | cons p r ih=>
  simp only[withinL,ih λq d=>h q (List.mem_cons_of_mem _ d),List.append_nil];unfold KP
  grind
def YO(l:Iv)(a b:Int):(withinL l a b).length<=l.length:=by
 induction l with
 | nil=>exact Nat.le_refl _
 | cons p r ih=>
  simp only[withinL,List.length_append,List.length_cons];have:(KP p a b).length<=1:=by unfold KP;grind
  omega
def O8{l:Iv}(h:Ok l){a b:Int}(j:a<b): ∀q∈withinL l a b,a<=q.1/\q.1<q.2/\q.2<=b:=by
 induction l with
 | nil=>intro q d;cases d
 | cons p r ih=>
  intro q d;have hp:=h.mem (List.mem_cons_self:p∈p::r);rcases List.mem_append.1 d with d|d
  .unfold KP at d
   grind
  .exact ih h.tail q d
def I0.cells2{w:World}{B t:Nat}{s:Aa}{l:Iv}(h:I0 w B t 2 s (flat l)){i:Nat}{q:Int×Int}(j:l[i]? =some q):
  ∃b,s.base=some ⟨b,0,none⟩/\w.cell? ⟨b,i*2,none⟩=some (.int .u64 q.1)/\w.cell? ⟨b,i*2+1,none⟩=some (.int .u64 q.2):=by
 have d:=h.rowAt;obtain⟨g1,g2⟩:=Nn l i q j;rcases h.row with ⟨h1,h2⟩|⟨b,cs,h1,_⟩
 .rw[h1]at d;have:flat l=[]:=d
  grind
 .rw[h1]at d;refine⟨b,h1,?_,?_⟩
  .have:=d.2 _ _ g1;rwa[add_eq,Nat.zero_add]at this
  .have:=d.2 _ _ g2;rwa[add_eq,Nat.zero_add]at this
section
variable{E:Env}(hE:EnvS E){w:World}{p:Addr}{s:Aa}{l:Iv}
include hE
theorem YP(h:G7 E w p s l){a b:Int}(ha:0<=a)(hb:b<18446744073709551616){K:Aa->World->Prop}
  (hK: ∀s' w',I0 w' w.heap.size E.AD 2 s' (flat (withinL l a b))->Ext AP w w'->K s' w'):F.B6 E (some p) a b K w:=by
 unfold F.B6 T0.B6;refine S4 hE h ha λw2 aU=> ?_;have hlen:=h.len;have hsm:=h.small;have aW:OX=4398046511104:=rfl;have aJ:=LU l a;simp only[AG,add_eq,Nat.zero_add];have J:withinL (l.take (posn l a)) a b=[]:=Rj λq hq=>.inl (Pk q hq);refine AH (λst w'=> ∃k:Nat,st.2.1=(k:Int)/\posn l a<=k/\k<=l.length/\I0 w' w.heap.size E.AD 2 st.1 (flat (withinL (l.take k) a b))/\Ext AP w w')
  (λst _=>(l.length-st.2.1).toNat) ⟨posn l a,rfl,Nat.le_refl _,aJ,by rw[J];exact I0.nil _ _ _ _,aU⟩ ?_
 rintro⟨s3,i,u⟩ _ w4 ⟨k,hk,aR,a7,aA,O⟩;simp only at hk aA⊢;subst hk;have h4:=h.FP O;have fin:(∀q,l[k]? =some q->b<=q.1)->K s3 w4:=λT=>by
  refine hK s3 w4 ?_ O;have:withinL l a b=withinL (l.take k) a b:=by
   have e:l=l.take k++l.drop k:=(List.take_append_drop k l).symm
   conv=>lhs;rw[e]
   rw[Nr];rw[Rj (l:=l.drop k),List.append_nil];intro q hq;right;obtain⟨j,hj⟩:=List.mem_iff_getElem?.1 hq;rw[List.getElem?_drop]at hj;by_cases hj0:j=0
   .subst hj0;exact T q hj
   .have aD:k<l.length:=by have:=(List.getElem?_eq_some_iff.1 hj).1;omega
    have:=T _ (List.getElem?_eq_getElem aD);have h2:=h.ok.lt (i:=k) (j:=k+j) (by omega) (List.getElem?_eq_getElem aD) hj;have h3:=h.ok.get (List.getElem?_eq_getElem aD);omega
  grind
 refine⟨s,h4.c0,AB (λa9=> ?_) (λa5=>fin λq hq=>by have:=(List.getElem?_eq_some_iff.1 hq).1;omega)⟩;have hl:k<l.length:=by omega
 have Y:=List.getElem?_eq_getElem hl;obtain⟨r,hr,aE,aL⟩:=h4.cells Y;generalize hq:l[k]=q at Y aE aL;have bB:=h.ok.get Y;have bA:=h.sH q (List.mem_of_getElem? Y);refine⟨s,h4.c0,?_⟩;rw[hr];simp only[AG,add_eq,Nat.zero_add,Int.toNat_natCast,Nat.add_zero];refine⟨⟨by omega,by omega⟩,q.1,aE,AB (λa6=> ?_) (λaY=>fin λq' aK=>by rw[Y]at aK;cases aK;omega)⟩;have hd:Ext AP w4 w4.drew:=Ext.drew _ _;have y: ∀{w'},Ext AP w4 w'->w'.cell? p=some (.slice s.base s.len s.cap)/\w'.cell? ⟨r,k*2,none⟩=some (.int .u64 q.1)/\w'.cell? ⟨r,k*2+1,none⟩=some (.int .u64 q.2):=λhe=>
  ⟨he.cell h4.c0 λf=>f,he.cell aE λf=>f,he.cell aL λf=>f⟩
 obtain⟨c1,c2,c3⟩:=y hd;refine⟨s,c1,?_⟩;rw[hr];simp only[AG,add_eq,Nat.zero_add];refine⟨⟨by omega,by omega⟩,q.1,c2,s,c1,?_⟩;rw[hr];simp only[AG,add_eq,Nat.zero_add];refine⟨⟨by omega,by omega⟩,q.2,c3,BS λaV aH aS d=> ?_⟩;obtain⟨d1,d2,d3⟩:=y (hd.trans' d);refine⟨d3,by grind,d2,by grind,?_⟩;have v:=aA.ext (hd.trans' d) λ_ _ f=>f;have bD:=YO (l.take k) a b;have bC:(l.take k).length=k:=by simp;omega
 refine S5 (q:=(SV q.1 a,WI q.2 b)) v aH (by have:=O.size;have:=(hd.trans' d).size;omega) (by omega) λbH bE aX aI a4=> ?_;have aN:Ext AP w aV:=O.trans' (hd.trans' d);have aB:=Hf aN v (Nat.le_refl _) aI;have aC:=h.FP aB;obtain⟨r',aM,e1,e2⟩:=aC.cells Y;rw[hr]at aM;cases aM;refine⟨e2,by rw[<-hr];exact aC.c0,e1,by rw[<-hr];exact aC.c0,?_⟩;rw[AE];refine⟨⟨k+1,by omega,by omega,by omega,?_,aB⟩,by omega⟩;have aT:l.take (k+1)=l.take k++[q]:=E8 Y;have a3:=K9 h.ok a (i:=k) (p:=q) aR Y;rw[aT,Nr];have:withinL [q] a b=[(SV q.1 a,WI q.2 b)]:=by
  simp only[withinL,List.append_nil,KP];rw[if_neg (by omega),Sq,WY]
 grind
end
def Mb(E:Env)(s:Aa)(l:Iv):Pr:=Jx (Ok l/\ ∀q∈l,q.2<=OX) (Row E.AD 2 s (flat l))
section
variable{E:Env}{R:List Pr}{w w':World}{b t o:Nat}{vs:List Value}{s s':Aa}{l l':Iv}
def Sat.setAt(H:Sat (Cells b t vs::Mb E s l::R) w)(h0:vs[o]? =some (.slice s.base s.len s.cap))(h1:vs[o+1]? =some (.int .u64 (Gn l))):Jn E w b o s l:=by
 obtain⟨D,v,K,d,⟨O,T,⟨A2,j⟩,_,_,y⟩,hd,_⟩:=H;refine⟨⟨(d.2.2 o _ h0).1,(d.2.2 o _ h0).2,j.2,A2.1,A2.2,λa J e=> ?_⟩,(d.2.2 _ _ h1).1,(d.2.2 _ _ h1).2⟩;have h1:v a.block:=(d.1 _).2 e;exact hd _ h1 ((y _).2 (.inl ((j.1 _).2 ⟨a,J,rfl⟩)))
def Sat.fN(H:Sat (Cells b t vs::Mb E s l::R) w)(ho:o+1<vs.length)(hs:Jn E w' b o s' l')(hu:No b (Xm o) w w')(hf:Tv w s s'):
  Sat (Cells b t ((vs.set o (.slice s'.base s'.len s'.cap)).set (o+1) (.int .u64 (Gn l')))::Mb E s' l'::R) w':=by
 obtain⟨D,D1,D2,y,⟨D3,O,⟨A2,hr⟩,hF,T,J⟩,hd,hD⟩:=H;have K: ∀k,Po s' k->Po s k∨w.heap.size<=k:=by
  rintro k ⟨a,ha,rfl⟩;rcases hf with e|e
  .exact .inl ⟨a,by grind,rfl⟩
  grind
 have hb:b<w.heap.size:=y.2.1;have aC: ∀k,Po s' k->k≠b:=by
  rintro k ⟨a,ha,rfl⟩;exact hs.row.apart a ha
 refine⟨λk=>k=b∨Po s' k∨O k,λk=>k=b,λk=>Po s' k∨O k,⟨λ_=>Iff.rfl,by have:=hu.ext.size;omega,λj v d=> ?_⟩,⟨Po s',O,⟨⟨hs.row.ok,hs.row.sH⟩,λ_=>Iff.rfl,hs.row.own⟩,?_,?_,λ_=>Iff.rfl⟩,?_,λ_=>Iff.rfl⟩
 .rw[List.getElem?_set,List.getElem?_set]at d;rw[hu.qV];by_cases e1:o+1=j
  .subst e1;rw[if_pos rfl,if_pos (by grind)]at d;cases d;exact⟨hs.c1,(y.2.2 (o+1) _ (List.getElem?_eq_getElem ho)).2⟩
  .rw[if_neg e1]at d;by_cases e2:o=j
   .subst e2;rw[if_pos rfl,if_pos (by omega)]at d;cases d;exact⟨hs.row.c0,(y.2.2 o _ (List.getElem?_eq_getElem (by omega))).2⟩
   .rw[if_neg e2]at d;rw[hu.Cv j (by unfold Xm;omega)];exact y.2.2 j v d
 .exact hF.loc hu.ext λk hk e=>by
   have e:k=b:=e;subst e;exact hd _ ((y.1 _).2 rfl) ((J _).2 (.inr hk))
 .intro k hk Y;rcases K k hk with e|e
  .exact T k ((hr.1 k).2 e) Y
  .have:=hF.lt Y;omega
 .rintro k rfl (h|h)
  .grind
  .exact hd _ ((y.1 _).2 rfl) ((J _).2 (.inr h))
variable(hE:EnvS E)
include hE
theorem T3(H:Sat (Cells b t vs::Mb E s l::R) w)(h0:vs[o]? =some (.slice s.base s.len s.cap))(h1:vs[o+1]? =some (.int .u64 (Gn l))){x y:Int}(v:0<=x)(d:x<=y)(J:y<18446744073709551616)
  {K:Int->World->Prop}(j: ∀w',Ext AP w w'->K (cnt l x y) w'):F.BA E (some ⟨b,o,none⟩) x y K w:=JH hE (H.setAt h0 h1).row v d J j
theorem xF(H:Sat (Cells b t vs::Mb E s l::R) w)(h0:vs[o]? =some (.slice s.base s.len s.cap))(h1:vs[o+1]? =some (.int .u64 (Gn l))){x y:Int}(v:0<=x)(d:x<y)(J:y<18446744073709551616){K:World->Prop}
  (j: ∀w' s',Sat (Cells b t ((vs.set o (.slice s'.base s'.len s'.cap)).set (o+1) (.int .u64 (Gn (Dz l x y))))::Mb E s' (Dz l x y)::R) w'->K w'):F.Co E (some ⟨b,o,none⟩) x y K w:=
 Nq hE (H.setAt h0 h1) v d J λw' s' hs hu hf=>j w' s' (H.fN (List.getElem?_eq_some_iff.1 h1).1 hs hu hf)
theorem nN(H:Sat (Cells b t vs::Mb E s l::R) w)(h0:vs[o]? =some (.slice s.base s.len s.cap))(h1:vs[o+1]? =some (.int .u64 (Gn l))){x y:Int}(v:0<=x)(d:x<y)(J:y<=OX){K:World->Prop}
  (j: ∀w' s',Sat (Cells b t ((vs.set o (.slice s'.base s'.len s'.cap)).set (o+1) (.int .u64 (Gn (Dt l x y))))::Mb E s' (Dt l x y)::R) w'->K w'):F.BT E (some ⟨b,o,none⟩) x y K w:=
 LC hE (H.setAt h0 h1) v d J λw' s' hs hu hf=>j w' s' (H.fN (List.getElem?_eq_some_iff.1 h1).1 hs hu hf)
end
def Mb.ok{E:Env}{s:Aa}{l:Iv}{R:List Pr}{w:World}(H:Sat (Mb E s l::R) w):Ok l/\ ∀q∈l,q.2<=OX:=(Sat.where.1 H).1
def Sat.bM{E:Env}{R:List Pr}{w:World}(H:Sat R w):Sat (Mb E ⟨none,0,0⟩ []::R) w:=
 Sat.where.2 ⟨⟨trivial,by simp⟩,H.nil E.AD 2⟩
end Go.Sh

/- The sets of stretches do what their lists say. No further condition. -/
import Derived.Test.YtgeilojialbgdaaGreatDoorF
import Derived.Test.YtgeilojialbgdaaGreatDoorM
set_option linter.all false
set_option maxRecDepth 50000
namespace Go.Sh
def flat:Iv->List Value
  | []=>[]
  | p::r=>.int .u64 p.1:: .int .u64 p.2::flat r
def D7: ∀l:Iv,(flat l).length=l.length*2
  | []=>rfl
  | p::r=>by simp[flat,D7 r];omega
def OS: ∀l m:Iv,flat (l++m)=flat l++flat m
  | [],_=>rfl
  | p::r,m=>by simp[flat,OS r m]
def SD: ∀(l:Iv) (i:Nat),(flat l).take (i*2)=flat (l.take i)
  | [],i=>by simp[flat]
  | p::r,0=>by rfl
  | p::r,i+1=>by
    rw[show(i+1)*2=i*2+1+1 from by omega];simp[flat,SD r i]
def SE: ∀(l:Iv) (i:Nat),(flat l).drop (i*2)=flat (l.drop i)
  | [],i=>by simp[flat]
  | p::r,0=>by rfl
  | p::r,i+1=>by
    rw[show(i+1)*2=i*2+1+1 from by omega];simp[flat,SE r i]
def Mt: ∀(l:Iv) (i:Nat) (p:Int×Int),l[i]? =some p->(flat l)[i*2]? =some (.int .u64 p.1)/\(flat l)[i*2+1]? =some (.int .u64 p.2)
  | [],i,p,h=>by grind
  | q::r,0,p,h=>by simp at h;subst h;simp[flat]
  | q::r,i+1,p,h=>by
    have:=Mt r i p (by grind);rw[show(i+1)*2=i*2+1+1 from by omega];simpa[flat]using this
def Zg: ∀(l:Iv) (v:Value),v∈flat l->v.oneCell'=true
  | [],v,h=>by cases h
  | p::r,v,h=>by
    simp only[flat,List.mem_cons]at h;rcases h with rfl|rfl|h
    . rfl
    . rfl
    . exact Zg r v h
abbrev OT:Int:=4398046511104
def length_le: ∀{l:Iv},Ok l-> ∀B:Int,0<=B->(∀p∈l,p.2<=B)->(l.length:Int)<=B:=by
  have key: ∀{l:Iv},Ok l-> ∀A B:Int,A<=B->(∀p∈l,A<=p.1)->(∀p∈l,p.2<=B)->(l.length:Int)<=B-A:=by
    intro l
    induction l with
    | nil=>simp
    | cons p r ih=>
      intro h A B v u a;have h1:=u p (by simp);have j:=a p (by simp);have K:=h.2.1;have:=ih h.tail p.2 B j (λq e=>by have:=h.2.2.2.1 q e;omega) (λq e=>a q (by grind))
      grind
  intro l h B h0 a;have:=key h 0 B h0 (λp J=>(h.mem J).1) a;omega
structure Gt(E:Env)(w:World)(p:Addr)(s:AY)(l:Iv):Prop where
  c0:w.cell? p=some (.slice s.base s.len s.cap)
  f0:w.frozen? p=false
  own:I2 w 0 E.AB 2 s (flat l)
  ok:Ok l
  Wq: ∀q∈l,q.2<=OT
  apart: ∀a,s.base=some a->a.block≠p.block
section
variable{E:Env}{w w':World}{p:Addr}{s:AY}{l:Iv}
def Gt.len(h:Gt E w p s l):s.len=l.length:=by
  have:=h.own.len;rw[D7]at this;omega
def Gt.small(h:Gt E w p s l):(l.length:Int)<=OT:=length_le h.ok OT (by decide) h.Wq
def Gt.ext{S:Nat->Prop}(h:Gt E w p s l)(he:Ext S w w')(e: ¬S p.block)(u: ∀a,s.base=some a-> ¬S a.block):Gt E w' p s l:=
  ⟨he.cell h.c0 e,by rw[he.frozen (World.block_lt_of_cell? w p h.c0) e];exact h.f0,
   h.own.ext he λb j=>u _ j,h.ok,h.Wq,h.apart⟩
def Gt.E9(h:Gt E w p s l)(he:Ext AN w w'):Gt E w' p s l:=h.ext he (λf=>f) λ_ _ f=>f
def Gt.cells(h:Gt E w p s l){i:Nat}{q:Int×Int}(hi:l[i]? =some q):
    ∃b,s.base=some ⟨b,0,none⟩/\w.cell? ⟨b,i*2,none⟩=some (.int .u64 q.1)/\w.cell? ⟨b,i*2+1,none⟩=some (.int .u64 q.2):=by
  have a:=h.own.rowAt;obtain⟨g1,g2⟩:=Mt l i q hi;rcases h.own.row with ⟨h1,e⟩|⟨b,cs,h1,_⟩
  . rw[h1]at a;have:flat l=[]:=a
    grind
  . rw[h1]at a;refine⟨b,h1,?_,?_⟩
    . have:=a.2 _ _ g1;rwa[add_eq,Nat.zero_add]at this
    . have:=a.2 _ _ g2;rwa[add_eq,Nat.zero_add]at this
def Gt.lt(h:Gt E w p s l):p.block<w.heap.size:=World.block_lt_of_cell? w p h.c0
end
structure Jk(E:Env)(w:World)(b o:Nat)(s:AY)(l:Iv):Prop where
  row:Gt E w ⟨b,o,none⟩ s l
  c1:w.cell? ⟨b,o+1,none⟩=some (.int .u64 (Hm l))
  f1:w.frozen? ⟨b,o+1,none⟩=false
def Jk.ext{E:Env}{w w':World}{b o:Nat}{s:AY}{l:Iv}{S:Nat->Prop}(h:Jk E w b o s l)(he:Ext S w w')(e: ¬S b)(j: ∀a,s.base=some a-> ¬S a.block):Jk E w' b o s l:=
  ⟨h.row.ext he e j,he.cell h.c1 e,by rw[he.frozen (p:=⟨b,o+1,none⟩) h.row.lt e];exact h.f1⟩
structure OU(b:Nat)(C:Nat->Prop)(w w':World):Prop where
  ext:Ext (Ja b) w w'
  EB: ∀j,¬C j->w'.cell? ⟨b,j,none⟩=w.cell? ⟨b,j,none⟩
  uZ: ∀j,w'.frozen? ⟨b,j,none⟩=w.frozen? ⟨b,j,none⟩
def OU.dI{b:Nat}{C:Nat->Prop}{w w':World}(h:Ext AN w w')(a:b<w.heap.size):OU b C w w':=
  ⟨h.any,λj _=>World.cell?_of_block (h.block b a λf=>f),λj=>World.frozen?_of_block (h.block b a λf=>f)⟩
def OU.IX{b j:Nat}{C:Nat->Prop}{w w':World}{v:Value}(h:N9 ⟨b,j,none⟩ v w w')(a:C j):OU b C w w':=
  ⟨h.ext,λi hi=>h.other _ (by grind),λi=>h.frozen _⟩
def OU.trans{b:Nat}{C:Nat->Prop}{w w1 e:World}(h:OU b C w w1)(k:OU b C w1 e):OU b C w e:=
  ⟨h.ext.trans' k.ext,λj a=>(k.EB j a).trans (h.EB j a),λj=>(k.uZ j).trans (h.uZ j)⟩
def Yx(o:Nat):Nat->Prop:=λj=>j=o∨j=o+1
def Uo(w:World)(s s':AY):Prop:=s'.base=s.base∨ ∀a,s'.base=some a->w.heap.size<=a.block
structure EnvS(E:Env):Prop where
  at1: ∀i p1 p2 K w,F.D6 E i p1 p2 K w->E.call E.JC #[.int .i64 i,.pointer p1,.pointer p2] w (λr w'=> ∃b,r= .bool b/\K b w') Fi
  mono: ∀g args w (K K':Value->World->Prop),(∀v w',K v w'->K' v w')->E.call g args w K Fi->E.call g args w K' Fi
def half(a b:Int)(e:0<=a)(j:0<=b)(u:a+b<9223372036854775808):
    i64 (Int.fdiv (u64 (i64 (a+b))) (2^(min (Int.toNat 1) (IntKind.bits .u64))))=(a+b)/2:=by
  have e1:i64 (a+b)=a+b:=AI;have e2:u64 (a+b)=a+b:=AP;rw[e1,e2];have:(2:Int)^(min (Int.toNat 1) (IntKind.bits .u64))=2:=by decide
  rw[this,Int.fdiv_eq_ediv_of_nonneg _ (by omega),AI]
def L9{E:Env}{n:Int}{e:Value}{w0:World}{K:Int->World->Prop}(t:Int->Bool)(hn:0<=n)(aH:n<4611686018427387904)
    (T: ∀i w,0<=i->i<n->Ext AN w0 w-> ∀a:Value->World->Prop,(∀w',Ext AN w0 w'->a (.bool (t i)) w')->DYN E.call e #[.int .i64 i] w a)
    (m:Int)(aF:0<=m)(aG:m<=n)(aD: ∀i,0<=i->i<m->t i=false)(aC: ∀i,m<=i->i<n->t i=true)
    (hK: ∀w',Ext AN w0 w'->K m w'):F.IE E n e K w0:=by
  unfold F.IE;refine AM (λs w=>0<=s.1/\s.1<=m/\m<=s.2.1/\s.2.1<=n/\Ext AN w0 w) (λs _=>(s.2.1-s.1).toNat) ⟨by simp,by omega,by omega,by simp,Ext.refl _ _⟩ ?_;rintro⟨i,j,u⟩ _ w ⟨h1,v,J,O,hw⟩;simp only at h1 v J O⊢;refine AE (λaE=>⟨by decide,AZ λh hh=> ?_⟩) (λaA=> ?_)
  . rw[half i j h1 (by omega) (by omega)]at hh;refine T h w (by omega) (by omega) hw _ λw' aJ=>⟨_,rfl,AX (λht=> ?_) (λht=> ?_)⟩
    . have Y:t h=false:=by grind
      have:h<m:=by grind
      rw[AI]
      grind
    grind
  grind
def Gb{α:Type}{l:List α}{k:Nat}{x:α}(h:l[k]? =some x):l.take (k+1)=l.take k++[x]:=by
  obtain⟨a,rfl⟩:=List.getElem?_eq_some_iff.1 h;simp
section
variable{E:Env}(hE:EnvS E){w:World}{p:Addr}{s:AY}{l:Iv}
include hE
theorem Tt(h:Gt E w p s l){x:Int}(aQ:0<=x){K:Int->World->Prop}(hK: ∀w',Ext AN w w'->K (posn l x) w'):F.DD E (some p) x K w:=by
  unfold F.DD T0.DD;refine A4 λw1 h1 aO aD=>A4 λw2 h2 aP aA=> ?_;have u:Ext AN w w2:=aD.trans' aA;have Y:w2.cell? ⟨w.heap.size,0,none⟩=some (.pointer (some p)):=aA.cell (by rw[AS h1];rfl) (λf=>f);have aC:w2.cell? ⟨w1.heap.size,0,none⟩=some (.int .u64 x):=by rw[AS h2];rfl
  have J:=h.E9 u;refine⟨some p,Y,?_⟩;simp only[AK];refine⟨s,J.c0,?_⟩;have hlen:=h.len;have aB:=h.small;have aH:OT=4398046511104:=rfl;refine L9 (λi=>match l[i.toNat]? with|some q=>decide (q.2>x)|none=>true) (by omega) (by omega) ?_ (posn l x) (by omega) ?_ ?_ ?_ λw' a=>hK w' (u.trans' a)
  . intro i w' O aM a K' T;have e:i.toNat<l.length:=by omega
    have v:=List.getElem?_eq_getElem e;simp only[v]at T;have j:=J.E9 a;obtain⟨b,hb,aN,aE⟩:=j.cells v;refine hE.mono _ _ _ _ _ ?_ (hE.at1 i (sM w.heap.size) (sM w1.heap.size) (λr aF=>K' (.bool r) aF) w' ?_)
    . grind
    . unfold F.D6;simp only[AK];refine⟨some p,a.cell Y (λf=>f),?_⟩;simp only[AK];refine⟨s,j.c0,?_⟩;rw[hb];simp only[AK,add_eq,Nat.zero_add];exact⟨⟨O,by omega⟩,l[i.toNat].2,aE,x,a.cell aC (λf=>f),T _ (a.trans' (Ext.drew _ _))⟩
  . have:=L3 l x;omega
  . intro i O hi;have e:i.toNat<l.length:=by have:=L3 l x;omega
    have v:=List.getElem?_eq_getElem e;simp only[v];have:=OC l x i.toNat _ (by omega) v
    grind
  . intro i O hi;have e:i.toNat<l.length:=by omega
    have v:=List.getElem?_eq_getElem e;simp only[v];have:=LO h.ok x (i:=i.toNat) (by omega) v
    grind
theorem JI(h:Gt E w p s l){a b:Int}(ha:0<=a)(aG:a<=b)(hb:b<18446744073709551616){K:Int->World->Prop}(hK: ∀w',Ext AN w w'->K (cnt l a b) w'):
    F.Ay E (some p) a b K w:=by
  unfold F.Ay T0.Ay;refine Tt hE h ha λw1 aB=> ?_;have a0:=h.E9 aB;have hlen:=h.len;have hsm:=h.small;have aM:OT=4398046511104:=rfl;have aJ:=L3 l a;refine AM (λst w'=> ∃k:Nat,st.2.1=(k:Int)/\posn l a<=k/\k<=l.length/\st.1=cnt (l.take k) a b/\Ext AN w w') (λst _=>(l.length-st.2.1).toNat)
    ⟨posn l a,rfl,Nat.le_refl _,aJ,(Tb Qn).symm,aB⟩ ?_
  rintro⟨n,i,u⟩ _ w2 ⟨k,hk,aH,aW,hn,aC⟩;simp only at hk hn⊢;subst hk;have e:=h.E9 aC;simp only[AK];have fin:(∀q,l[k]? =some q->b<=q.1)->K n w2:=by
    intro O;have:cnt l a b=cnt (l.take k) a b:=by
      conv=>lhs;rw[<-List.take_append_drop k l]
      rw[UN];have:cnt (l.drop k) a b=0:=by
        refine UO λq hq=> ?_;obtain⟨i,hi,rfl⟩:=List.mem_iff_getElem.1 hq;rw[List.getElem_drop];simp only[List.length_drop]at hi;have v:k<l.length:=by omega
        have h4:=O _ (List.getElem?_eq_getElem v);rcases Nat.eq_zero_or_pos i with rfl|aV
        . omega
        . have h5:=h.ok.lt (i:=k) (j:=k+i) (by omega) (List.getElem?_eq_getElem v) (List.getElem?_eq_getElem (by omega));have h6:=h.ok.get (List.getElem?_eq_getElem v);omega
      omega
    grind
  refine⟨s,e.c0,AE (λaY=> ?_) (λaU=>fin λq hq=> ?_)⟩
  . have hl:k<l.length:=by omega
    have hg:=List.getElem?_eq_getElem hl;obtain⟨r,hr,Y,aK⟩:=e.cells hg;refine⟨s,e.c0,?_⟩;rw[hr];simp only[AK,add_eq,Nat.zero_add,Int.toNat_natCast];refine⟨⟨by omega,by omega⟩,_,Y,AE (λaP=> ?_) (λaN=>fin λq hq=> ?_)⟩
    . have aA:=e.E9 (Ext.drew _ w2);refine⟨s,aA.c0,?_⟩;rw[hr];simp only[AK,add_eq,Nat.zero_add,Int.toNat_natCast];refine⟨⟨by omega,by omega⟩,l[k].2,aK,s,aA.c0,?_⟩;rw[hr];simp only[AK,add_eq,Nat.zero_add,Int.toNat_natCast];refine⟨⟨by omega,by omega⟩,l[k].1,Y,AZ λn' T=> ?_⟩;have hq:=h.ok.get hg;have aR:=LO h.ok a (i:=k) aH hg;have J:cnt (l.take (k+1)) a b=n+(min l[k].2 b-max l[k].1 a):=by
        rw[Gb hg,UN,<-hn];simp only[cnt,OB];omega
      have aF:Ok (l.take (k+1)):=by
        have:=h.ok;rw[<-List.take_append_drop (k+1) l,FB]at this
        grind
      have hle:=Gl aF aG;have aI:=Ed (l.take (k+1)) a b;have aZ:=Ed (l.take k) a b;rw[Tm,Ql,AP (n:=min l[k].2 b-max l[k].1 a),<-J,AP aI (by omega)]at T;refine⟨⟨k+1,?_,by omega,by omega,T,aC.trans' (Ext.drew _ _)⟩,?_⟩
      . rw[AI];omega
      . rw[AI];omega
    grind
  grind
end
def Gt.Fk{E:Env}{w w':World}{b o:Nat}{s:AY}{l:Iv}{C:Nat->Prop}(h:Gt E w ⟨b,o,none⟩ s l)(hu:OU b C w w')(hC: ¬C o):Gt E w' ⟨b,o,none⟩ s l:=
  ⟨by rw[hu.EB o hC];exact h.c0,by rw[hu.uZ o];exact h.f0,h.own.ext hu.ext λg a e=>h.apart _ a e,h.ok,h.Wq,h.apart⟩
def OV{w:World}{b n t:Nat}{l:List Value}{f:Nat×Nat}(h:w.heap[b]? =some (.cells ⟨l⟩ t f))(a:l.length=n):rowAt w (sM b) n l:=
  ⟨a,λj v e=>by rw[add_eq,Nat.zero_add,AS h];grind⟩
def KY(s:AY):Nat->Prop:=λk=> ∃a,s.base=some a/\k=a.block
def I2.EC{w:World}{B t z:Nat}{s:AY}{vs:List Value}(h:I2 w B t z s vs){k:Nat}(j:KY s k):B<=k/\k<w.heap.size:=by
  obtain⟨a,e,rfl⟩:=j;exact⟨(h.lt e).1,(h.lt e).2.1⟩
def Zh{l:Iv}{a b:Int}(h:Ok l)(e:a<b)(J: ∀q∈l,q.2<=OT):((DO l a b).length:Int)<=OT:=
  length_le (ND h e) OT (by decide) λq j=>by
    obtain⟨p,K,h1,u,v⟩:=OD h e j
    grind
def pX{l:Iv}{a b:Int}(h:Ok l)(e:a<b)(J: ∀q∈l,q.2<=OT): ∀q∈DO l a b,q.2<=OT:=λq j=>by
  obtain⟨p,K,h1,u,v⟩:=OD h e j
  grind
def Tu{E:Env}{w:World}{B g:Nat}{s:AY}{m:Iv}{q:Int×Int}{K:AY->World->Prop}(a:I2 w B E.AB 2 s (flat m))(T:w.heap[g]? =some (.cells ⟨[.int .u64 q.1,.int .u64 q.2]⟩ E.AB))
    (u:B<=w.heap.size)(hm:(m.length:Int)<=OT+1)
    (J: ∀s' w',I2 w' B E.AB 2 s' (flat (m++[q]))->Ext (KY s) w w'->(s'.base=s.base∨ ∃b,s'.base=some ⟨b,0,none⟩/\w.heap.size<=b)->K s' w'):
    APP E.AB 2 16 #[.int .u64 0,.int .u64 0] s ⟨some ⟨g,0,none⟩,1,1⟩ w K:=by
  have Y:=a.len;rw[D7]at Y;have e:OT=4398046511104:=rfl;refine Qj (news:=[.int .u64 q.1,.int .u64 q.2]) rfl a (OV T rfl) rfl (by intro v j;simp at j;rcases j with rfl|rfl<;>rfl) u (by grind) (by grind) ?_;intro s' w' ho aA he O;refine J s' w' ?_ he O;rw[OS];exact ho
def Q7{E:Env}{w:World}{B:Nat}{s x:AY}{m n:Iv}{K:AY->World->Prop}(a:I2 w B E.AB 2 s (flat m))(Y:rowAt w x.base (x.len*2) (flat n))(e:x.len=n.length)
    (u:B<=w.heap.size)(hm:((m.length+n.length:Nat):Int)<=OT+1)
    (v: ∀s' w',I2 w' B E.AB 2 s' (flat (m++n))->Ext (KY s) w w'->(s'.base=s.base∨ ∃b,s'.base=some ⟨b,0,none⟩/\w.heap.size<=b)->K s' w'):
    APP E.AB 2 16 #[.int .u64 0,.int .u64 0] s x w K:=by
  have O:=a.len;rw[D7]at O;have j:OT=4398046511104:=rfl;refine Qj rfl a Y (by rw[D7,e]) (Zg n) u (by omega) (by omega) ?_;intro s' w' ho T he J;refine v s' w' ?_ he J;rw[OS];omega
def HU{w0 w w':World}{B t z:Nat}{s:AY}{vs:List Value}(h:Ext AN w0 w)(ho:I2 w B t z s vs)(e:w0.heap.size<=B)(he:Ext (KY s) w w'):Ext AN w0 w':=
  h.trans he (λ_ _ f=>f) λi hi a=>by have:=ho.EC a;omega
section
variable{E:Env}(hE:EnvS E){w:World}{b o:Nat}{s:AY}{l:Iv}
include hE
theorem Mu(h:Jk E w b o s l){a c:Int}(ha:0<=a)(aA:a<c)(hc:c<18446744073709551616){K:World->Prop}
    (hK: ∀w' s',Jk E w' b o s' (DO l a c)->OU b (Yx o) w w'->Uo w s s'->K w'):F.BW E (some ⟨b,o,none⟩) a c K w:=by
  unfold F.BW T0.BW;refine AE (λbB=>by omega) (λ_=> ?_);simp only[AK,add_eq];have hd:Ext AN w w.drew:=Ext.drew _ _;refine⟨Hm l,h.c1,JI hE (h.row.E9 hd) ha (by omega) hc λw4 cV=> ?_⟩;have bN:Ext AN w w4:=hd.trans' cV;have bY:b<w.heap.size:=h.row.lt;have h4:=h.ext bN (λf=>f) λ_ _ f=>f;refine⟨h4.c1,MU h4.c1 h4.f1 rfl λw6 aE=> ?_⟩;have a2:OU b (Yx o) w w6:=(OU.dI bN bY).trans (OU.IX aE (.inr rfl));have b1:Gt E w6 ⟨b,o,none⟩ s l:=h4.row.Fk (C:=λj=>j=o+1) (OU.IX aE rfl) (by omega);have b5:u64 (Hm l-cnt l a c)=Hm (DO l a c):=by
    rw[UM h.row.ok aA];have h1:=Py (ND h.row.ok aA);have h2:=iQ (ND h.row.ok aA);rw[UM h.row.ok aA]at h1 h2;exact AP h1 h2
  rw[b5]at aE;refine Tt hE b1 ha λw8 aY=> ?_;have hlen:=h.row.len;have hsm:=h.row.small;have c7:OT=4398046511104:=rfl;have cN:=L3 l a;have b2:=b1.E9 aY;have dC: ∀k,k<=l.length->posn l a<=k->((DO ((l.take k).drop (posn l a)) a c).length:Int)<=OT:=by
    intro k _ _;have cC:Ok ((l.take k).drop (posn l a)):=by
      have h1:=h.row.ok;rw[<-List.take_append_drop k l,FB]at h1;have h2:=h1.1;rw[<-List.take_append_drop (posn l a) (l.take k),FB]at h2
      grind
    exact Zh cC aA λq hq=>h.row.Wq q (List.mem_of_mem_take (List.mem_of_mem_drop hq))
  refine AV (λst w'=> ∃k:Nat,st.1=(k:Int)/\posn l a<=k/\k<=l.length/\(∀q,l[k]? =some q->c<=q.1)/\
      I2 w' w8.heap.size E.AB 2 st.2.1 (flat (DO ((l.take k).drop (posn l a)) a c))/\Ext AN w8 w') ?_ ?_
  . refine AM (λst w'=> ∃k:Nat,st.1=(k:Int)/\posn l a<=k/\k<=l.length/\
      I2 w' w8.heap.size E.AB 2 st.2.1 (flat (DO ((l.take k).drop (posn l a)) a c))/\Ext AN w8 w') (λst _=>(l.length-st.1).toNat)
      ⟨posn l a,rfl,Nat.le_refl _,cN,?_,Ext.refl _ _⟩ ?_
    . have:(l.take (posn l a)).drop (posn l a)=[]:=List.drop_eq_nil_of_le (by grind);rw[this];exact I2.nil _ _ _ _
    . rintro⟨i,rest,u⟩ _ aF ⟨k,hk,a0,bX,J,aM⟩;simp only at hk J⊢;subst hk;have aL:=b2.E9 aM;have out:(∀q,l[k]? =some q->c<=q.1)-> ∃k':Nat,(k:Int)=(k':Int)/\posn l a<=k'/\k'<=l.length/\(∀q,l[k']? =some q->c<=q.1)/\
          I2 aF w8.heap.size E.AB 2 rest (flat (DO ((l.take k').drop (posn l a)) a c))/\Ext AN w8 aF:=
        λhq=>⟨k,rfl,a0,bX,hq,J,aM⟩
      refine⟨s,aL.c0,AE (λdA=> ?_) (λc8=>out λq hq=> ?_)⟩
      . have hl:k<l.length:=by omega
        have hg:=List.getElem?_eq_getElem hl;obtain⟨r,hr,b0,cP⟩:=aL.cells hg;refine⟨s,aL.c0,?_⟩;rw[hr];simp only[AK,add_eq,Nat.zero_add,Int.toNat_natCast];refine⟨⟨by omega,by omega⟩,_,b0,AE (λdB=> ?_) (λc9=>out λq hq=> ?_)⟩
        . refine⟨s,aL.c0,?_⟩;rw[hr];simp only[AK,add_eq,Nat.zero_add,Int.toNat_natCast,Nat.add_zero];refine⟨⟨by omega,by omega⟩,l[k].1,b0,l[k].2,cP,?_⟩;have hq:=h.row.ok.get hg;have dF:=LO h.row.ok a (i:=k) a0 hg;obtain⟨M,hM⟩: ∃M,M=DO ((l.take k).drop (posn l a)) a c:=⟨_,rfl⟩;rw[<-hM]at J;have dL:(M.length:Int)<=OT:=by grind
          have cM:DO ((l.take (k+1)).drop (posn l a)) a c=M++Qm l[k] a c:=by
            rw[Gb hg,List.drop_append_of_le_length (by grind),OE,<-hM];simp[DO]
          refine A4 λdQ bI cQ a4=> ?_;have b6:=aM.trans' a4;refine HL _ _ _ _ _ _ _ bI (by simp) (by intro v hv;simp at hv;rcases hv with rfl|rfl<;>rfl) λcA a5 cR aG=> ?_;simp at aG;have cW:=aM.size;have b7:Ext AN w8 cA:=b6.trans a5 (λ_ _ f=>f) λi hi cK=>by have:i=aF.heap.size:=cK;omega
          have aI:I2 cA w8.heap.size E.AB 2 rest (flat M):=(J.ext a4 λ_ _ f=>f).ext a5 λg cI e=>by
            have:=(J.lt cI).2.1;have:g=aF.heap.size:=e;grind
          have aR: ¬KY rest aF.heap.size:=λhb=>by have:=(J.EC hb).2;omega
          refine AV (λst w'=>I2 w' w8.heap.size E.AB 2 st.1 (flat (M++if l[k].1<a then [(l[k].1,a)]else []))/\Ext AN w8 w'/\
              w'.heap[aF.heap.size]? =some (.cells ⟨[.int .u64 l[k].1,.int .u64 l[k].2]⟩ E.AB)/\ ¬KY st.1 aF.heap.size) ?_ ?_
          . refine⟨l[k].1,by rw[AS aG];rfl,AE (λbZ=> ?_) (λbV=> ?_)⟩
            . refine⟨l[k].1,by rw[AS aG];rfl,A4 λdS bJ cS aH=> ?_⟩;refine Tu (q:=(l[k].1,a)) (aI.ext aH λ_ _ f=>f) bJ (by omega) (by omega) λWo dT dD a6 a9=> ?_;refine⟨by grind,HU (b7.trans' aH) (aI.ext aH λ_ _ f=>f) (Nat.le_refl _) a6,a6.obj (aH.obj aG λf=>f) aR,?_⟩;rintro⟨x,hx,he⟩;rcases a9 with a9|⟨y,hy,dP⟩
              . exact aR ⟨x,by grind,he⟩
              grind
            grind
          . rintro⟨oE,u⟩ _ dR ⟨aS,b8,a3,bC⟩;simp only at aS bC⊢;have cJ:i64 ((k:Int)+1)=((k+1:Nat):Int):=by rw[AI];omega
            have cH:Qm l[k] a c=(if l[k].1<a then [(l[k].1,a)]else [])++if c<l[k].2 then [(c,l[k].2)]else []:=by
              unfold Qm
              grind
            refine⟨l[k].2,by rw[AS a3];rfl,AE (λbZ=> ?_) (λbV=> ?_)⟩
            . refine⟨l[k].2,by rw[AS a3];rfl,A4 λdV bK cT aQ=> ?_⟩;have a1:((M++if l[k].1<a then [(l[k].1,a)]else []).length:Int)<=OT+1:=by grind
              refine Tu (q:=(c,l[k].2)) (aS.ext aQ λ_ _ f=>f) bK (by grind) a1 λoG dW dE bO a9=> ?_;refine⟨⟨k+1,cJ,by omega,by omega,?_,HU (b8.trans' aQ) (aS.ext aQ λ_ _ f=>f) (Nat.le_refl _) bO⟩,by omega⟩
              grind
            grind
        grind
      grind
  . rintro⟨i,rest,u⟩ _ aB ⟨k,hk,a0,bX,bT,J,Y⟩;simp only at hk J⊢;subst hk;have T:=b2.E9 Y;have bM:Ext AN aB aB.drew:=Ext.drew _ _;simp only[AK,UL];have bA:s.len<=s.cap:=T.own.cap;refine⟨s,T.c0,⟨by omega,by omega⟩,s,T.c0,⟨by omega,by omega⟩,A4 λbD bL cU bP=> ?_⟩;have aN:Ext AN aB bD:=bM.trans' bP;have aV:=T.E9 aN;refine⟨aV.c0,aV.c0,?_⟩;have c4:w8.heap.size<=bD.heap.size:=Nat.le_trans Y.size aN.size;have aJ:I2 bD aB.heap.size E.AB 2 ⟨some ⟨aB.heap.size,0,none⟩,0,0⟩ (flat []):=Xe (w:=aB.drew) bL rfl (Nat.le_refl _) (by decide);have b3:=J.ext aN λ_ _ f=>f;have b4:=aV.own.rowAt;have bU:(flat l).length=s.len*2:=by rw[D7,hlen]
    have cO:Int.toNat ((posn l a:Nat):Int)=posn l a:=Int.toNat_natCast _;have cL:Int.toNat ((k:Nat):Int)=k:=Int.toNat_natCast _;rw[cO,cL];have aK:=cX h.row.ok aA a0 bT;have cG:=Zh h.row.ok aA h.row.Wq;rw[aK,List.length_append,List.length_append]at cG;refine Q7 (x:=⟨s.base,posn l a,s.cap⟩) (n:=l.take (posn l a)) aJ (by
        have:=Px (m:=posn l a*2) b4 (by omega) bU;rwa[SD]at this) (by grind) (by simp_all) (by grind) λwD cZ aT bQ cD=> ?_
    have aO:Ext AN aB cZ:=HU aN aJ (Nat.le_refl _) bQ;have a8:=T.E9 aO;refine⟨a8.c0,a8.c0,?_⟩;have aD:=J.ext aO λ_ _ f=>f;simp only[List.nil_append]at aT;refine Q7 (x:=rest) (n:=DO ((l.take k).drop (posn l a)) a c) aT aD.rowAt (by have:=aD.len;rw[D7]at this;omega) (by have:=aO.size;omega)
      (by omega) λvN c2 a7 bR cE=> ?_
    have aX:Ext AN aB c2:=HU aO aT (Nat.le_refl _) bR;have aW:=T.E9 aX;refine⟨aW.c0,aW.c0,?_⟩;refine Q7 (x:=⟨KE s.base s.cap k 2,s.len-k,s.cap-k⟩) (n:=l.drop k) a7 (by
        have:=LN (k:=k) (z:=2) (cap:=s.cap) aW.own.rowAt rfl (by omega) bA bU;rwa[SE]at this) (by grind) (by have:=aX.size;omega) (by grind) λvA c3 aU bS cF=> ?_
    have aP:Ext AN aB c3:=HU aX a7 (Nat.le_refl _) bS;have aC:=T.E9 aP;refine⟨aC.c0,aC.c0,MU aC.c0 aC.f0 rfl λcB O=> ?_⟩;rw[<-aK]at aU;have hu:OU b (Yx o) w cB:=(a2.trans (OU.dI ((aY.trans' Y).trans' aP) (Nat.lt_of_lt_of_le bY a2.ext.size))).trans (OU.IX O (.inl rfl));have bB: ∀x,vA.base=some x->w.heap.size<=x.block:=λx hx=>by
      have h1:=(aU.lt hx).1;have h2:=a2.ext.size;have h3:=aY.size;have h4:=Y.size;omega
    refine hK cB vA ⟨⟨O.same,by rw[O.frozen];exact aC.f0,?_,ND h.row.ok aA,pX h.row.ok aA h.row.Wq,λx hx e=>by grind⟩,?_,?_⟩ hu (.inr bB)
    . refine(aU.lower (Nat.zero_le _)).ext O.ext λg hg e=> ?_;have:=bB _ hg;have:g=b:=e
      grind
    . rw[O.other _ (by simp)];exact((aY.trans' Y).trans' aP).cell aE.same (λf=>f)
    . rw[O.frozen,((aY.trans' Y).trans' aP).frozen (p:=⟨b,o+1,none⟩) (by have:=a2.ext.size;grind) (λf=>f),aE.frozen];exact h4.f1
end
def Up{E:Env}{w0 w:World}{b o g:Nat}{s s1:AY}{l:Iv}{i k:Nat}{q:Int×Int}{K:World->Prop}
    (hr:Gt E w0 ⟨b,o,none⟩ s l)(J:Ext AN w0 w)(aC:I2 w w0.heap.size E.AB 2 s1 (flat (l.take i)))(hg:w.heap[g]? =some (.cells ⟨[.int .u64 q.1,.int .u64 q.2]⟩ E.AB))
    (hi:i<=k)(hk:k<=l.length)
    (hK: ∀w' aE s',I2 w' w0.heap.size E.AB 2 s' (flat (l.take i++[q]++l.drop k))->Ext AN w0 w'->N9 ⟨b,o,none⟩ (.slice s'.base s'.len s'.cap) w' aE->K aE):
    APP E.AB 2 16 #[.int .u64 0,.int .u64 0] s1 ⟨some ⟨g,0,none⟩,1,1⟩ w λjA v=>
      v.cell? ⟨b,o,none⟩=some (.slice s.base s.len s.cap)/\v.cell? ⟨b,o,none⟩=some (.slice s.base s.len s.cap)/\
      APP E.AB 2 16 #[.int .u64 0,.int .u64 0] jA ⟨KE s.base s.cap k 2,s.len-k,s.cap-k⟩ v λUj j=>
      j.cell? ⟨b,o,none⟩=some (.slice s.base s.len s.cap)/\j.cell? ⟨b,o,none⟩=some (.slice s.base s.len s.cap)/\
      stCells ⟨b,o,none⟩ 0 [.slice Uj.base Uj.len Uj.cap] j λY=>K Y:=by
  have hlen:=hr.len;have hsm:=hr.small;have aK:OT=4398046511104:=rfl;have aG:(flat l).length=s.len*2:=by rw[D7,hlen]
  refine Tu aC hg J.size (by grind) λjA v O aA aI=> ?_;have u:Ext AN w0 v:=HU J aC (Nat.le_refl _) aA;have a:=hr.E9 u;refine⟨a.c0,a.c0,?_⟩;refine Q7 (x:=⟨KE s.base s.cap k 2,s.len-k,s.cap-k⟩) (n:=l.drop k) O (by
      have:=LN (k:=k) (z:=2) (cap:=s.cap) a.own.rowAt rfl (by omega) a.own.cap aG;rwa[SE]at this) (by grind) u.size (by grind) λUj j aD aB aJ=> ?_
  have T:Ext AN w0 j:=HU u O (Nat.le_refl _) aB;have e:=hr.E9 T;exact⟨e.c0,e.c0,MU e.c0 e.f0 rfl λY aH=>hK j Y Uj aD T aH⟩
def Uq{E:Env}{w0 w:World}{b o g:Nat}{s:AY}{l:Iv}{i:Nat}{K:AY->World->Prop}
    (J:Gt E w0 ⟨b,o,none⟩ s l)(e:Ext AN w0 w)(hg:w.heap[g]? =some (.cells ⟨[]⟩ E.AB))(v:w0.heap.size<=g)(hi:i<=l.length)
    (Y: ∀s' w',I2 w' w0.heap.size E.AB 2 s' (flat (l.take i))->Ext AN w0 w'->Ext (Ja g) w w'->K s' w'):
    APP E.AB 2 16 #[.int .u64 0,.int .u64 0] ⟨some ⟨g,0,none⟩,0,0⟩ ⟨s.base,i,s.cap⟩ w K:=by
  have hlen:=J.len;have hsm:=J.small;have T:OT=4398046511104:=rfl;have u:(flat l).length=s.len*2:=by rw[D7,hlen]
  have j:I2 w w0.heap.size E.AB 2 ⟨some ⟨g,0,none⟩,0,0⟩ (flat []):=⟨rfl,Nat.le_refl _,(by decide:(0:Nat)<9223372036854775808),.inr ⟨g,_,rfl,v,hg,rfl,rfl⟩⟩;have O:=J.E9 e;refine Q7 (n:=l.take i) j (by
    have:=Px (m:=i*2) O.own.rowAt (by omega) u;rwa[SD]at this) (by grind) e.size (by grind) λs' w' ho he hb=> ?_
  exact Y s' w' ho (HU e j (Nat.le_refl _) he) (he.mono λi _ hi=>by obtain⟨a,ha,rfl⟩:=hi;cases ha;rfl)
def pY(l:Iv)(i:Nat)(a:Int):(addLo l i a).2<=i:=by
  unfold addLo
  grind
def pZ(l:Iv)(i:Nat)(b:Int)(hi:i<=l.length):i<=(addHi l i b).2/\(addHi l i b).2<=l.length:=by
  unfold addHi
  grind
section
variable{E:Env}(hE:EnvS E){w:World}{b o:Nat}{s:AY}{l:Iv}
include hE
theorem KZ(h:Jk E w b o s l){a c:Int}(ha:0<=a)(bL:a<c)(hc:c<=OT){K:World->Prop}
    (hK: ∀w' s',Jk E w' b o s' (DZ l a c)->OU b (Yx o) w w'->Uo w s s'->K w'):F.A3 E (some ⟨b,o,none⟩) a c K w:=by
  have c7:OT=4398046511104:=rfl;unfold F.A3 T0.A3;refine AE (λaL=>by omega) (λ_=> ?_);refine Mu hE h ha bL (by omega) λw1 s1 h1 c3 dH=> ?_;simp only[AK,add_eq,Nat.zero_add,Nat.add_zero,UL];obtain⟨l1,bR⟩: ∃l1,l1=DO l a c:=⟨_,rfl⟩;rw[<-bR]at h1;have aQ:Clear l1 a c:=by rw[bR];exact UP h.row.ok bL
  obtain⟨aE,bT,bW⟩:=Wi h1.row.ok bL ha (by omega) aQ;have bM:DZ l a c=Ta l1 a c:=by rw[DZ,bR]
  refine⟨Hm l1,h1.c1,MU h1.c1 h1.f1 rfl λw5 aA=> ?_⟩;have hT:u64 (Hm l1+u64 (c-a))=Hm (Ta l1 a c):=by
    have h2:=Py aE;have h3:=iQ aE;rw[bW]at h2 h3⊢;rw[AP (n:=c-a),AP]
  rw[hT]at aA;have aV:OU b (Yx o) w w5:=c3.trans (OU.IX aA (.inr rfl));have aU:Gt E w5 ⟨b,o,none⟩ s1 l1:=h1.row.Fk (C:=λj=>j=o+1) (OU.IX aA rfl) (by omega);refine Tt hE aU ha λw7 bX=> ?_;have aC:=aU.E9 bX;obtain⟨i,hi⟩: ∃i,i=posn l1 a:=⟨_,rfl⟩;rw[<-hi];have cO:i<=l1.length:=by rw[hi];exact L3 l1 a
  have hlen:=aC.len;have hsm:=aC.small;obtain⟨cN,aR⟩:=pZ l1 i c cO;have cR:=pY l1 i a;refine A4 λw9 b4 dB cL=> ?_;obtain⟨g,hg⟩: ∃g,g=w7.heap.size:=⟨_,rfl⟩;rw[<-hg]at b4⊢;refine HL _ _ _ _ _ _ _ b4 (by simp) (by intro v hv;simp at hv;rcases hv with rfl|rfl<;>rfl) λcG b5 cU aX=> ?_;simp at aX;have aI: ∀{w1 w2:World},Ext AN w7 w1->Ext (Ja g) w1 w2->Ext AN w7 w2:=λh1 h2=>h1.trans h2 (λ_ _ f=>f) λi hi e=>by have:i=g:=e;omega
  have aN:Ext AN w7 cG:=aI cL b5;refine AV (λst w'=>st.1=((addHi l1 i c).2:Int)/\w'.heap[g]? =some (.cells ⟨[.int .u64 a,.int .u64 (addHi l1 i c).1]⟩ E.AB)/\Ext AN w7 w') ?_ ?_
  . refine AV (λst w'=>w'=cG/\(st.1=true↔ ∃q,l1[i]? =some q/\q.1=c)) ?_ ?_
    . have T:=aC.E9 aN;refine⟨s1,T.c0,AE (λbS=> ?_) (λaL=>⟨rfl,?_⟩)⟩
      . have hl:i<l1.length:=by omega
        have bP:=List.getElem?_eq_getElem hl;obtain⟨r,hr,aS,aT⟩:=T.cells bP;refine⟨s1,T.c0,?_⟩;rw[hr];simp only[AK,add_eq,Nat.zero_add,Int.toNat_natCast]
        grind
      grind
    . rintro⟨bt,u⟩ _ dM ⟨rfl,aK⟩;simp only at aK⊢;have T:=aC.E9 aN;refine AX (λht=> ?_) (λhf=> ?_)
      . obtain⟨q,hq,dL⟩:=aK.1 ht;have hl:=(List.getElem?_eq_some_iff.1 hq).1;obtain⟨r,hr,aS,aT⟩:=T.cells hq;refine⟨s1,T.c0,?_⟩;rw[hr];simp only[AK,add_eq,Nat.zero_add,Int.toNat_natCast];refine⟨⟨by omega,by omega⟩,_,aT,?_⟩;refine HL _ _ _ _ _ _ _ aX (by simp) (by intro v hv;simp at hv;subst hv;rfl) λc5 aZ bV aF=> ?_;simp at aF;have hH:addHi l1 i c=(q.2,i+1):=by unfold addHi;grind
        rw[hH];refine⟨by rw[AI];simp,aF,aI aN aZ⟩
      . have hH:addHi l1 i c=(c,i):=by
          unfold addHi
          grind
        grind
  . rintro⟨k,u⟩ _ c4 ⟨hk,bZ,bE⟩;simp only at hk⊢;subst hk;refine AV (λst w'=>st.1=((addLo l1 i a).2:Int)/\w'.heap[g]? =some (.cells ⟨[.int .u64 (addLo l1 i a).1,.int .u64 (addHi l1 i c).1]⟩ E.AB)/\Ext AN w7 w') ?_ ?_
    . refine AV (λst w'=>w'=c4/\(st.1=true↔ ∃j q,i=j+1/\l1[j]? =some q/\q.2=a)) ?_ ?_
      . have Y:=aC.E9 bE;refine AE (λbS=> ?_) (λaL=>⟨rfl,?_⟩)
        . obtain⟨j,rfl⟩: ∃j,i=j+1:=⟨i-1,by omega⟩;have hl:j<l1.length:=by omega
          have bP:=List.getElem?_eq_getElem hl;obtain⟨r,hr,aS,aT⟩:=Y.cells bP;refine⟨s1,Y.c0,?_⟩;rw[hr];have hm:i64 (((j+1:Nat):Int)-1)=(j:Int):=by rw[AI];omega
          rw[hm];simp only[AK,add_eq,Nat.zero_add,Int.toNat_natCast]
          grind
        grind
      . rintro⟨bt,u⟩ _ dN ⟨rfl,aK⟩;simp only at aK⊢;have Y:=aC.E9 bE;refine AX (λht=> ?_) (λhf=> ?_)
        . obtain⟨j,q,rfl,hq,dK⟩:=aK.1 ht;have hl:=(List.getElem?_eq_some_iff.1 hq).1;obtain⟨r,hr,aS,aT⟩:=Y.cells hq;refine⟨s1,Y.c0,?_⟩;rw[hr];have hm:i64 (((j+1:Nat):Int)-1)=(j:Int):=by rw[AI];omega
          rw[hm];simp only[AK,add_eq,Nat.zero_add,Int.toNat_natCast];refine⟨⟨by omega,by omega⟩,_,aS,?_⟩;refine HL _ _ _ _ _ _ _ bZ (by simp) (by intro v hv;simp at hv;subst hv;rfl) λc5 aZ bV aF=> ?_;simp at aF;have hH:addLo l1 (j+1) a=(q.1,j):=by unfold addLo;grind
          grind
        . have hH:addLo l1 i a=(a,i):=by
            unfold addLo
            grind
          grind
    . rintro⟨k2,u⟩ _ O ⟨cA,aJ,aO⟩;simp only at cA⊢;subst cA;have a3:Ta l1 a c=l1.take (addLo l1 i a).2++[((addLo l1 i a).1,(addHi l1 i c).1)]++l1.drop (addHi l1 i c).2:=by rw[hi];rfl
      obtain⟨x,hx⟩: ∃x,x=(addLo l1 i a).1:=⟨_,rfl⟩;obtain⟨y,hy⟩: ∃y,y=(addHi l1 i c).1:=⟨_,rfl⟩;obtain⟨i1,aM⟩: ∃i1,i1=(addLo l1 i a).2:=⟨_,rfl⟩;obtain⟨k,bQ⟩: ∃k,k=(addHi l1 i c).2:=⟨_,rfl⟩;rw[<-hx,<-hy]at aJ;rw[<-hx,<-hy,<-aM,<-bQ]at a3;rw[<-bQ]at cN aR;rw[<-aM]at cR;rw[<-bQ,<-aM];have J:=aC.E9 aO;have c8:=J.own.cap;have fin: ∀w' aP s',I2 w' O.heap.size E.AB 2 s' (flat (l1.take i1++[(x,y)]++l1.drop k))->Ext AN O w'->N9 ⟨b,o,none⟩ (.slice s'.base s'.len s'.cap) w' aP->K aP:=by
        intro w' aP s' ho he aH;rw[<-a3]at ho;have bS:b<w.heap.size:=h.row.lt;have aD:Ext AN w5 w':=(bX.trans' aO).trans' he;have hu:OU b (Yx o) w aP:=(aV.trans (OU.dI aD (Nat.lt_of_lt_of_le bS aV.ext.size))).trans (OU.IX aH (.inl rfl));have aL: ∀x,s'.base=some x->w.heap.size<=x.block:=λx hx=>by
          have h1:=(ho.lt hx).1;have h2:=aV.ext.size;have h3:=(bX.trans' aO).size;omega
        have cS:=aU.E9 aD;refine hK aP s' ?_ hu (.inr aL);rw[bM];refine⟨⟨aH.same,by rw[aH.frozen];exact cS.f0,?_,aE,?_,λx hx e=>by grind⟩,?_,?_⟩
        . refine(ho.lower (Nat.zero_le _)).ext aH.ext λg hg e=> ?_;have h1:=aL _ hg;have h2:g=b:=e
          grind
        . intro q hq;have hm:=(aE.mem hq);have h2:=(bT (q.2-1)).1 ⟨q,hq,by omega,by omega⟩;rcases h2 with ⟨p,hp,h3,h4⟩|h2
          . have:=aU.Wq p hp;omega
          omega
        . rw[aH.other _ (by simp)];exact aD.cell aA.same (λf=>f)
        . rw[aH.frozen,aD.frozen (p:=⟨b,o+1,none⟩) (by have:=aV.ext.size;grind) (λf=>f),aA.frozen];exact h1.f1
      have hd:Ext AN O O.drew:=Ext.drew _ _;have bN:O.cell? ⟨g,0,none⟩=some (.int .u64 x):=by rw[AS aJ];rfl
      have bO:O.cell? ⟨g,1,none⟩=some (.int .u64 y):=by rw[AS aJ];rfl
      have cQ:Int.toNat ((k:Nat):Int)=k:=Int.toNat_natCast _;have cP:Int.toNat ((i1:Nat):Int)=i1:=Int.toNat_natCast _;rw[cQ,cP];refine⟨s1,J.c0,⟨by omega,by omega⟩,x,bN,y,bO,s1,J.c0,⟨by omega,by omega⟩,?_,?_⟩
      . refine A4 λcH aY cV b6=> ?_;have aB:Ext AN O cH:=hd.trans' b6;have a5:=J.E9 aB;have cT:O.drew.heap.size=O.heap.size:=rfl;refine⟨a5.c0,⟨aB.cell bN (λf=>f),aB.cell bO (λf=>f),trivial⟩,a5.c0,?_,?_⟩
        . refine Uq J aB aY (by omega) (by omega) λQW dO cC aG c9=> ?_;have a6:=J.E9 aG;refine⟨a6.c0,⟨aG.cell bN (λf=>f),aG.cell bO (λf=>f),trivial⟩,a6.c0,A4 λdP b0 cW a0=> ?_⟩;have bF:=aG.trans' a0;have a7:=J.E9 bF;exact⟨a7.c0,a7.c0,Up (q:=(x,y)) J bF (cC.ext a0 λ_ _ f=>f) b0 (by omega) aR fin⟩
        . refine A4 λdQ b1 cX a1=> ?_;have bG:=aB.trans' a1;have a8:=J.E9 bG;refine⟨a8.c0,a8.c0,Uq J bG (a1.obj aY λf=>f) (by omega) (by omega) λs63 dR cD bH b7=> ?_⟩;have a9:=J.E9 bH;exact⟨a9.c0,a9.c0,Up (q:=(x,y)) J bH cD (b7.obj b1 λe=>by have:cH.heap.size=O.drew.heap.size:=e;omega) (by omega) aR fin⟩
      . refine A4 λcI b2 cY b8=> ?_;have bI:Ext AN O cI:=hd.trans' b8;have bA:=J.E9 bI;have cT:O.drew.heap.size=O.heap.size:=rfl;refine⟨bA.c0,bA.c0,A4 λdS b3 cZ a2=> ?_⟩;have bJ:=bI.trans' a2;have bB:=J.E9 bJ;refine⟨bB.c0,bB.c0,Uq J bJ b3 (by omega) (by omega) λs75 dT cE bK b9=> ?_⟩;have bC:=J.E9 bK;exact⟨bC.c0,bC.c0,Up (q:=(x,y)) J bK cE (b9.obj (a2.obj b2 λf=>f) λe=>by have:O.drew.heap.size=cI.heap.size:=e;omega) (by omega) aR fin⟩
end
def Q8{w:World}{k:Nat}{es:Array MapEntry}{c:Nat}{i:Nat}{v:Value}(hm:w.heap[k]? =some (.map es c))(a:w.cell? ⟨k,i,none⟩=some v):False:=by
 simp[World.cell?,hm]at a
def I2.Xu{w:World}{B t z:Nat}{s:AY}{vs:List Value}{k:Nat}{es:Array MapEntry}{c:Nat}(h:I2 w B t z s vs)(hm:w.heap[k]? =some (.map es c)): ¬KY s k:=by
 rintro⟨a,j,rfl⟩;rcases h.row with ⟨h1,_⟩|⟨b,cs,h1,_,e,_⟩
 .grind
 grind
def Jk.Fk{E:Env}{w w':World}{b o:Nat}{s:AY}{l:Iv}{C:Nat->Prop}(h:Jk E w b o s l)(hu:OU b C w w')(h0: ¬C o)(h1: ¬C (o+1)):Jk E w' b o s l:=
 ⟨h.row.Fk hu h0,by rw[hu.EB _ h1];exact h.c1,by rw[hu.uZ];exact h.f1⟩
def KN(p:Int×Int)(a b:Int):Iv:=if p.2<=a∨b<=p.1 then []else [(max p.1 a,min p.2 b)]
def withinL:Iv->Int->Int->Iv
 | [],_,_=>[]
 | p::r,a,b=>KN p a b++withinL r a b
def OW(l m:Iv)(a b:Int):withinL (l++m) a b=withinL l a b++withinL m a b:=by
 induction l with
 | nil=>rfl
 | cons p r ih=>simp[withinL,ih]
def Ss{l:Iv}{a b:Int}(h: ∀p∈l,p.2<=a∨b<=p.1):withinL l a b=[]:=by
 induction l with
 | nil=>rfl
 | cons p r ih=>
  simp only[withinL,ih λq e=>h q (List.mem_cons_of_mem _ e),List.append_nil];unfold KN
  grind
def Zi(l:Iv)(a b:Int):(withinL l a b).length<=l.length:=by
 induction l with
 | nil=>exact Nat.le_refl _
 | cons p r ih=>
  simp only[withinL,List.length_append,List.length_cons];have:(KN p a b).length<=1:=by unfold KN;grind
  omega
def P6{l:Iv}(h:Ok l){a b:Int}(j:a<b): ∀q∈withinL l a b,a<=q.1/\q.1<q.2/\q.2<=b:=by
 induction l with
 | nil=>intro q e;cases e
 | cons p r ih=>
  intro q e;have u:=h.mem (List.mem_cons_self:p∈p::r);rcases List.mem_append.1 e with e|e
  .unfold KN at e
   grind
  .exact ih h.tail q e
def I2.cells2{w:World}{B t:Nat}{s:AY}{l:Iv}(h:I2 w B t 2 s (flat l)){i:Nat}{q:Int×Int}(hi:l[i]? =some q):
  ∃b,s.base=some ⟨b,0,none⟩/\w.cell? ⟨b,i*2,none⟩=some (.int .u64 q.1)/\w.cell? ⟨b,i*2+1,none⟩=some (.int .u64 q.2):=by
 have a:=h.rowAt;obtain⟨g1,g2⟩:=Mt l i q hi;rcases h.row with ⟨h1,e⟩|⟨b,cs,h1,_⟩
 .rw[h1]at a;have:flat l=[]:=a
  grind
 .rw[h1]at a;refine⟨b,h1,?_,?_⟩
  .have:=a.2 _ _ g1;rwa[add_eq,Nat.zero_add]at this
  .have:=a.2 _ _ g2;rwa[add_eq,Nat.zero_add]at this
section
variable{E:Env}(hE:EnvS E){w:World}{p:Addr}{s:AY}{l:Iv}
include hE
theorem Zj(h:Gt E w p s l){a b:Int}(ha:0<=a)(hb:b<18446744073709551616){K:AY->World->Prop}
  (hK: ∀s' w',I2 w' w.heap.size E.AB 2 s' (flat (withinL l a b))->Ext AN w w'->K s' w'):F.BX E (some p) a b K w:=by
 unfold F.BX T0.BX;refine Tt hE h ha λw2 aW=> ?_;have hlen:=h.len;have hsm:=h.small;have aY:OT=4398046511104:=rfl;have aL:=L3 l a;simp only[AK,add_eq,Nat.zero_add];have T:withinL (l.take (posn l a)) a b=[]:=Ss λq hq=>.inl (Qn q hq);refine AM (λst w'=> ∃k:Nat,st.2.1=(k:Int)/\posn l a<=k/\k<=l.length/\I2 w' w.heap.size E.AB 2 st.1 (flat (withinL (l.take k) a b))/\Ext AN w w')
  (λst _=>(l.length-st.2.1).toNat) ⟨posn l a,rfl,Nat.le_refl _,aL,by rw[T];exact I2.nil _ _ _ _,aW⟩ ?_
 rintro⟨s3,i,u⟩ _ w4 ⟨k,hk,aT,a8,aC,Y⟩;simp only at hk aC⊢;subst hk;have h4:=h.E9 Y;have fin:(∀q,l[k]? =some q->b<=q.1)->K s3 w4:=λaA=>by
  refine hK s3 w4 ?_ Y;have:withinL l a b=withinL (l.take k) a b:=by
   have e:l=l.take k++l.drop k:=(List.take_append_drop k l).symm
   conv=>lhs;rw[e]
   rw[OW];rw[Ss (l:=l.drop k),List.append_nil];intro q hq;right;obtain⟨j,hj⟩:=List.mem_iff_getElem?.1 hq;rw[List.getElem?_drop]at hj;by_cases hj0:j=0
   .subst hj0;exact aA q hj
   .have aF:k<l.length:=by have:=(List.getElem?_eq_some_iff.1 hj).1;omega
    have:=aA _ (List.getElem?_eq_getElem aF);have h2:=h.ok.lt (i:=k) (j:=k+j) (by omega) (List.getElem?_eq_getElem aF) hj;have h3:=h.ok.get (List.getElem?_eq_getElem aF);omega
  grind
 refine⟨s,h4.c0,AE (λbA=> ?_) (λa6=>fin λq hq=>by have:=(List.getElem?_eq_some_iff.1 hq).1;omega)⟩;have hl:k<l.length:=by omega
 have hg:=List.getElem?_eq_getElem hl;obtain⟨r,hr,aG,aN⟩:=h4.cells hg;generalize hq:l[k]=q at hg aG aN;have bC:=h.ok.get hg;have bB:=h.Wq q (List.mem_of_getElem? hg);refine⟨s,h4.c0,?_⟩;rw[hr];simp only[AK,add_eq,Nat.zero_add,Int.toNat_natCast,Nat.add_zero];refine⟨⟨by omega,by omega⟩,q.1,aG,AE (λa7=> ?_) (λa1=>fin λq' aM=>by rw[hg]at aM;cases aM;omega)⟩;have hd:Ext AN w4 w4.drew:=Ext.drew _ _;have O: ∀{w'},Ext AN w4 w'->w'.cell? p=some (.slice s.base s.len s.cap)/\w'.cell? ⟨r,k*2,none⟩=some (.int .u64 q.1)/\w'.cell? ⟨r,k*2+1,none⟩=some (.int .u64 q.2):=λhe=>
  ⟨he.cell h4.c0 λf=>f,he.cell aG λf=>f,he.cell aN λf=>f⟩
 obtain⟨c1,c2,c3⟩:=O hd;refine⟨s,c1,?_⟩;rw[hr];simp only[AK,add_eq,Nat.zero_add];refine⟨⟨by omega,by omega⟩,q.1,c2,s,c1,?_⟩;rw[hr];simp only[AK,add_eq,Nat.zero_add];refine⟨⟨by omega,by omega⟩,q.2,c3,A4 λaX aJ aU v=> ?_⟩;obtain⟨d1,d2,d3⟩:=O (hd.trans' v);refine⟨d3,by grind,d2,by grind,?_⟩;have J:=aC.ext (hd.trans' v) λ_ _ f=>f;have bE:=Zi (l.take k) a b;have bD:(l.take k).length=k:=by simp;omega
 refine Tu (q:=(LI q.1 a,PR q.2 b)) J aJ (by have:=Y.size;have:=(hd.trans' v).size;omega) (by omega) λwH bF a0 aK a5=> ?_;have aP:Ext AN w aX:=Y.trans' (hd.trans' v);have aD:=HU aP J (Nat.le_refl _) aK;have aE:=h.E9 aD;obtain⟨r',aO,e1,e2⟩:=aE.cells hg;rw[hr]at aO;cases aO;refine⟨e2,by rw[<-hr];exact aE.c0,e1,by rw[<-hr];exact aE.c0,?_⟩;rw[AI];refine⟨⟨k+1,by omega,by omega,by omega,?_,aD⟩,by omega⟩;have aV:l.take (k+1)=l.take k++[q]:=Gb hg;have a4:=LO h.ok a (i:=k) (p:=q) aT hg;rw[aV,OW];have:withinL [q] a b=[(LI q.1 a,PR q.2 b)]:=by
  simp only[withinL,List.append_nil,KN];rw[if_neg (by omega),Ql,Tm]
 grind
end
def NP(E:Env)(s:AY)(l:Iv):Pr:=Jt (Ok l/\ ∀q∈l,q.2<=OT) (Row E.AB 2 s (flat l))
section
variable{E:Env}{R:List Pr}{w w':World}{b t o:Nat}{vs:List Value}{s s':AY}{l l':Iv}
def Sat.setAt(H:Sat (Cells b t vs::NP E s l::R) w)(h0:vs[o]? =some (.slice s.base s.len s.cap))(h1:vs[o+1]? =some (.int .u64 (Hm l))):Jk E w b o s l:=by
 obtain⟨D,v,O,j,⟨T,Y,⟨Bl,u⟩,_,_,J⟩,hd,_⟩:=H;refine⟨⟨(j.2.2 o _ h0).1,(j.2.2 o _ h0).2,u.2,Bl.1,Bl.2,λa K e=> ?_⟩,(j.2.2 _ _ h1).1,(j.2.2 _ _ h1).2⟩;have h1:v a.block:=(j.1 _).2 e;exact hd _ h1 ((J _).2 (.inl ((u.1 _).2 ⟨a,K,rfl⟩)))
def Sat.jB(H:Sat (Cells b t vs::NP E s l::R) w)(ho:o+1<vs.length)(K:Jk E w' b o s' l')(hu:OU b (Yx o) w w')(hf:Uo w s s'):
  Sat (Cells b t ((vs.set o (.slice s'.base s'.len s'.cap)).set (o+1) (.int .u64 (Hm l')))::NP E s' l'::R) w':=by
 obtain⟨D,D1,D2,J,⟨D3,Y,⟨Bl,hr⟩,hF,aA,O⟩,hd,hD⟩:=H;have T: ∀k,PS s' k->PS s k∨w.heap.size<=k:=by
  rintro k ⟨a,ha,rfl⟩;rcases hf with e|e
  .exact .inl ⟨a,by grind,rfl⟩
  grind
 have hb:b<w.heap.size:=J.2.1;have aF: ∀k,PS s' k->k≠b:=by
  rintro k ⟨a,ha,rfl⟩;exact K.row.apart a ha
 refine⟨λk=>k=b∨PS s' k∨Y k,λk=>k=b,λk=>PS s' k∨Y k,⟨λ_=>Iff.rfl,by have:=hu.ext.size;omega,λj v u=> ?_⟩,⟨PS s',Y,⟨⟨K.row.ok,K.row.Wq⟩,λ_=>Iff.rfl,K.row.own⟩,?_,?_,λ_=>Iff.rfl⟩,?_,λ_=>Iff.rfl⟩
 .rw[List.getElem?_set,List.getElem?_set]at u;rw[hu.uZ];by_cases e1:o+1=j
  .subst e1;rw[if_pos rfl,if_pos (by grind)]at u;cases u;exact⟨K.c1,(J.2.2 (o+1) _ (List.getElem?_eq_getElem ho)).2⟩
  .rw[if_neg e1]at u;by_cases e2:o=j
   .subst e2;rw[if_pos rfl,if_pos (by omega)]at u;cases u;exact⟨K.row.c0,(J.2.2 o _ (List.getElem?_eq_getElem (by omega))).2⟩
   .rw[if_neg e2]at u;rw[hu.EB j (by unfold Yx;omega)];exact J.2.2 j v u
 .exact hF.loc hu.ext λk hk e=>by
   have e:k=b:=e;subst e;exact hd _ ((J.1 _).2 rfl) ((O _).2 (.inr hk))
 .intro k hk h4;rcases T k hk with e|e
  .exact aA k ((hr.1 k).2 e) h4
  .have:=hF.lt h4;omega
 .rintro k rfl (h|h)
  .grind
  .exact hd _ ((J.1 _).2 rfl) ((O _).2 (.inr h))
variable(hE:EnvS E)
include hE
theorem Q9(H:Sat (Cells b t vs::NP E s l::R) w)(h0:vs[o]? =some (.slice s.base s.len s.cap))(h1:vs[o+1]? =some (.int .u64 (Hm l))){x y:Int}(j:0<=x)(a:x<=y)(u:y<18446744073709551616)
  {K:Int->World->Prop}(e: ∀w',Ext AN w w'->K (cnt l x y) w'):F.Ay E (some ⟨b,o,none⟩) x y K w:=JI hE (H.setAt h0 h1).row j a u e
theorem qA(H:Sat (Cells b t vs::NP E s l::R) w)(h0:vs[o]? =some (.slice s.base s.len s.cap))(h1:vs[o+1]? =some (.int .u64 (Hm l))){x y:Int}(j:0<=x)(a:x<y)(u:y<18446744073709551616){K:World->Prop}
  (e: ∀w' s',Sat (Cells b t ((vs.set o (.slice s'.base s'.len s'.cap)).set (o+1) (.int .u64 (Hm (DO l x y))))::NP E s' (DO l x y)::R) w'->K w'):F.BW E (some ⟨b,o,none⟩) x y K w:=
 Mu hE (H.setAt h0 h1) j a u λw' s' J hu v=>e w' s' (H.jB (List.getElem?_eq_some_iff.1 h1).1 J hu v)
theorem dJ(H:Sat (Cells b t vs::NP E s l::R) w)(h0:vs[o]? =some (.slice s.base s.len s.cap))(h1:vs[o+1]? =some (.int .u64 (Hm l))){x y:Int}(j:0<=x)(a:x<y)(u:y<=OT){K:World->Prop}
  (e: ∀w' s',Sat (Cells b t ((vs.set o (.slice s'.base s'.len s'.cap)).set (o+1) (.int .u64 (Hm (DZ l x y))))::NP E s' (DZ l x y)::R) w'->K w'):F.A3 E (some ⟨b,o,none⟩) x y K w:=
 KZ hE (H.setAt h0 h1) j a u λw' s' J hu v=>e w' s' (H.jB (List.getElem?_eq_some_iff.1 h1).1 J hu v)
end
def NP.ok{E:Env}{s:AY}{l:Iv}{R:List Pr}{w:World}(H:Sat (NP E s l::R) w):Ok l/\ ∀q∈l,q.2<=OT:=(Sat.where.1 H).1
def Sat.dK{E:Env}{R:List Pr}{w:World}(H:Sat R w):Sat (NP E ⟨none,0,0⟩ []::R) w:=
 Sat.where.2 ⟨⟨trivial,by simp⟩,H.nil E.AB 2⟩
end Go.Sh

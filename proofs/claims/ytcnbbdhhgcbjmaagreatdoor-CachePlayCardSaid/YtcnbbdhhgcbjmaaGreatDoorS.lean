/- The sets of stretches do what their lists say. No further condition. -/
import Derived.Test.YtcnbbdhhgcbjmaaGreatDoorF
import Derived.Test.YtcnbbdhhgcbjmaaGreatDoorM
set_option linter.all false
set_option maxRecDepth 50000
namespace Go.Sh
def flat:Iv->List Value
  | []=>[]
  | p::r=>.int .u64 p.1:: .int .u64 p.2::flat r
def Fo: ∀l:Iv,(flat l).length=l.length*2
  | []=>rfl
  | p::r=>by simp[flat,Fo r];omega
def Om: ∀l m:Iv,flat (l++m)=flat l++flat m
  | [],_=>rfl
  | p::r,m=>by simp[flat,Om r m]
def SC: ∀(l:Iv) (i:Nat),(flat l).take (i*2)=flat (l.take i)
  | [],i=>by simp[flat]
  | p::r,0=>by rfl
  | p::r,i+1=>by
    rw[show(i+1)*2=i*2+1+1 from by omega];simp[flat,SC r i]
def SD: ∀(l:Iv) (i:Nat),(flat l).drop (i*2)=flat (l.drop i)
  | [],i=>by simp[flat]
  | p::r,0=>by rfl
  | p::r,i+1=>by
    rw[show(i+1)*2=i*2+1+1 from by omega];simp[flat,SD r i]
def On: ∀(l:Iv) (i:Nat) (p:Int×Int),l[i]? =some p->(flat l)[i*2]? =some (.int .u64 p.1)/\(flat l)[i*2+1]? =some (.int .u64 p.2)
  | [],i,p,h=>by grind
  | q::r,0,p,h=>by simp at h;subst h;simp[flat]
  | q::r,i+1,p,h=>by
    have:=On r i p (by grind);rw[show(i+1)*2=i*2+1+1 from by omega];simpa[flat]using this
def Zk: ∀(l:Iv) (v:Value),v∈flat l->v.oneCell'=true
  | [],v,h=>by cases h
  | p::r,v,h=>by
    simp only[flat,List.mem_cons]at h;rcases h with rfl|rfl|h
    . rfl
    . rfl
    . exact Zk r v h
abbrev Pb:Int:=4398046511104
def length_le: ∀{l:Iv},Ok l-> ∀B:Int,0<=B->(∀p∈l,p.2<=B)->(l.length:Int)<=B:=by
  have key: ∀{l:Iv},Ok l-> ∀A B:Int,A<=B->(∀p∈l,A<=p.1)->(∀p∈l,p.2<=B)->(l.length:Int)<=B-A:=by
    intro l
    induction l with
    | nil=>simp
    | cons p r ih=>
      intro h A B J y j;have h1:=y p (by simp);have h2:=j p (by simp);have K:=h.2.1;have:=ih h.tail p.2 B h2 (λq v=>by have:=h.2.2.2.1 q v;omega) (λq v=>j q (by grind))
      grind
  intro l h B h0 j;have:=key h 0 B h0 (λp hp=>(h.mem hp).1) j;omega
structure Ha(E:Env)(w:World)(p:Addr)(s:Ac)(l:Iv):Prop where
  c0:w.cell? p=some (.slice s.base s.len s.cap)
  f0:w.frozen? p=false
  own:JX w 0 E.AE 2 s (flat l)
  ok:Ok l
  uY: ∀q∈l,q.2<=Pb
  apart: ∀a,s.base=some a->a.block≠p.block
section
variable{E:Env}{w w':World}{p:Addr}{s:Ac}{l:Iv}
def Ha.len(h:Ha E w p s l):s.len=l.length:=by
  have:=h.own.len;rw[Fo]at this;omega
def Ha.small(h:Ha E w p s l):(l.length:Int)<=Pb:=length_le h.ok Pb (by decide) h.uY
def Ha.ext{S:Nat->Prop}(h:Ha E w p s l)(he:Ext S w w')(hp: ¬S p.block)(hs: ∀a,s.base=some a-> ¬S a.block):Ha E w' p s l:=
  ⟨he.cell h.c0 hp,by rw[he.frozen (World.block_lt_of_cell? w p h.c0) hp];exact h.f0,
   h.own.ext he λb j=>hs _ j,h.ok,h.uY,h.apart⟩
def Ha.Fs(h:Ha E w p s l)(he:Ext AR w w'):Ha E w' p s l:=h.ext he (λf=>f) λ_ _ f=>f
def Ha.cells(h:Ha E w p s l){i:Nat}{q:Int×Int}(v:l[i]? =some q):
    ∃b,s.base=some ⟨b,0,none⟩/\w.cell? ⟨b,i*2,none⟩=some (.int .u64 q.1)/\w.cell? ⟨b,i*2+1,none⟩=some (.int .u64 q.2):=by
  have j:=h.own.rowAt;obtain⟨g1,g2⟩:=On l i q v;rcases h.own.row with ⟨h1,h2⟩|⟨b,cs,h1,_⟩
  . rw[h1]at j;have:flat l=[]:=j
    grind
  . rw[h1]at j;refine⟨b,h1,?_,?_⟩
    . have:=j.2 _ _ g1;rwa[add_eq,Nat.zero_add]at this
    . have:=j.2 _ _ g2;rwa[add_eq,Nat.zero_add]at this
def Ha.lt(h:Ha E w p s l):p.block<w.heap.size:=World.block_lt_of_cell? w p h.c0
end
structure KX(E:Env)(w:World)(b o:Nat)(s:Ac)(l:Iv):Prop where
  row:Ha E w ⟨b,o,none⟩ s l
  c1:w.cell? ⟨b,o+1,none⟩=some (.int .u64 (HE l))
  f1:w.frozen? ⟨b,o+1,none⟩=false
def KX.ext{E:Env}{w w':World}{b o:Nat}{s:Ac}{l:Iv}{S:Nat->Prop}(h:KX E w b o s l)(he:Ext S w w')(hp: ¬S b)(hs: ∀a,s.base=some a-> ¬S a.block):KX E w' b o s l:=
  ⟨h.row.ext he hp hs,he.cell h.c1 hp,by rw[he.frozen (p:=⟨b,o+1,none⟩) h.row.lt hp];exact h.f1⟩
structure Oo(b:Nat)(C:Nat->Prop)(w w':World):Prop where
  ext:Ext (K0 b) w w'
  Cr: ∀j,¬C j->w'.cell? ⟨b,j,none⟩=w.cell? ⟨b,j,none⟩
  tH: ∀j,w'.frozen? ⟨b,j,none⟩=w.frozen? ⟨b,j,none⟩
def Oo.eG{b:Nat}{C:Nat->Prop}{w w':World}(h:Ext AR w w')(v:b<w.heap.size):Oo b C w w':=
  ⟨h.any,λj _=>World.cell?_of_block (h.block b v λf=>f),λj=>World.frozen?_of_block (h.block b v λf=>f)⟩
def Oo.I8{b j:Nat}{C:Nat->Prop}{w w':World}{v:Value}(h:OW ⟨b,j,none⟩ v w w')(J:C j):Oo b C w w':=
  ⟨h.ext,λi y=>h.other _ (by grind),λi=>h.frozen _⟩
def Oo.trans{b:Nat}{C:Nat->Prop}{w w1 y:World}(h:Oo b C w w1)(k:Oo b C w1 y):Oo b C w y:=
  ⟨h.ext.trans' k.ext,λj v=>(k.Cr j v).trans (h.Cr j v),λj=>(k.tH j).trans (h.tH j)⟩
def Yx(o:Nat):Nat->Prop:=λj=>j=o∨j=o+1
def Um(w:World)(s s':Ac):Prop:=s'.base=s.base∨ ∀a,s'.base=some a->w.heap.size<=a.block
structure EnvS(E:Env):Prop where
  at1: ∀i p1 p2 K w,F.Eh E i p1 p2 K w->E.call E.Ji #[.int .i64 i,.pointer p1,.pointer p2] w (λr w'=> ∃b,r= .bool b/\K b w') Lp
  mono: ∀g args w (K K':Value->World->Prop),(∀v w',K v w'->K' v w')->E.call g args w K Lp->E.call g args w K' Lp
def half(a b:Int)(y:0<=a)(J:0<=b)(hs:a+b<9223372036854775808):
    i64 (Int.fdiv (u64 (i64 (a+b))) (2^(min (Int.toNat 1) (IntKind.bits .u64))))=(a+b)/2:=by
  have j:i64 (a+b)=a+b:=AM;have v:u64 (a+b)=a+b:=AI;rw[j,v];have:(2:Int)^(min (Int.toNat 1) (IntKind.bits .u64))=2:=by decide
  rw[this,Int.fdiv_eq_ediv_of_nonneg _ (by omega),AM]
def Sl{E:Env}{n:Int}{y:Value}{w0:World}{K:Int->World->Prop}(t:Int->Bool)(hn:0<=n)(aG:n<4611686018427387904)
    (hf: ∀i w,0<=i->i<n->Ext AR w0 w-> ∀v:Value->World->Prop,(∀w',Ext AR w0 w'->v (.bool (t i)) w')->DYN E.call y #[.int .i64 i] w v)
    (m:Int)(aE:0<=m)(aF:m<=n)(aC: ∀i,0<=i->i<m->t i=false)(aB: ∀i,m<=i->i<n->t i=true)
    (hK: ∀w',Ext AR w0 w'->K m w'):F.LJ E n y K w0:=by
  unfold F.LJ;refine AJ (λs w=>0<=s.1/\s.1<=m/\m<=s.2.1/\s.2.1<=n/\Ext AR w0 w) (λs _=>(s.2.1-s.1).toNat) ⟨by simp,by omega,by omega,by simp,Ext.refl _ _⟩ ?_;rintro⟨i,j,u⟩ _ w ⟨h1,h2,J,O,hw⟩;simp only at h1 h2 J O⊢;refine AB (λaD=>⟨by decide,Am λh hh=> ?_⟩) (λY=> ?_)
  . rw[half i j h1 (by omega) (by omega)]at hh;refine hf h w (by omega) (by omega) hw _ λw' aI=>⟨_,rfl,AP (λht=> ?_) (λht=> ?_)⟩
    . have T:t h=false:=by grind
      have:h<m:=by grind
      rw[AM]
      grind
    grind
  grind
def FW{α:Type}{l:List α}{k:Nat}{x:α}(h:l[k]? =some x):l.take (k+1)=l.take k++[x]:=by
  obtain⟨j,rfl⟩:=List.getElem?_eq_some_iff.1 h;simp
section
variable{E:Env}(hE:EnvS E){w:World}{p:Addr}{s:Ac}{l:Iv}
include hE
theorem Tr(h:Ha E w p s l){x:Int}(aS:0<=x){K:Int->World->Prop}(hK: ∀w',Ext AR w w'->K (posn l x) w'):F.Dp E (some p) x K w:=by
  unfold F.Dp T0.Dp;refine BZ λw1 h1 aQ aF=>BZ λw2 h2 aR aC=> ?_;have J:Ext AR w w2:=aF.trans' aC;have aB:w2.cell? ⟨w.heap.size,0,none⟩=some (.pointer (some p)):=aC.cell (by rw[AW h1];rfl) (λf=>f);have aE:w2.cell? ⟨w1.heap.size,0,none⟩=some (.int .u64 x):=by rw[AW h2];rfl
  have T:=h.Fs J;refine⟨some p,aB,?_⟩;simp only[AH];refine⟨s,T.c0,?_⟩;have hlen:=h.len;have aD:=h.small;have aJ:Pb=4398046511104:=rfl;refine Sl (λi=>match l[i.toNat]? with|some q=>decide (q.2>x)|none=>true) (by omega) (by omega) ?_ (posn l x) (by omega) ?_ ?_ ?_ λw' j=>hK w' (J.trans' j)
  . intro i w' Y aO j K' aA;have v:i.toNat<l.length:=by omega
    have O:=List.getElem?_eq_getElem v;simp only[O]at aA;have y:=T.Fs j;obtain⟨b,hb,aP,aG⟩:=y.cells O;refine hE.mono _ _ _ _ _ ?_ (hE.at1 i (some ⟨w.heap.size,0,none⟩) (some ⟨w1.heap.size,0,none⟩) (λr aH=>K' (.bool r) aH) w' ?_)
    . grind
    . unfold F.Eh;simp only[AH];refine⟨some p,j.cell aB (λf=>f),?_⟩;simp only[AH];refine⟨s,y.c0,?_⟩;rw[hb];simp only[AH,add_eq,Nat.zero_add];exact⟨⟨Y,by omega⟩,l[i.toNat].2,aG,x,j.cell aE (λf=>f),aA _ (j.trans' (Ext.drew _ _))⟩
  . have:=MN l x;omega
  . intro i Y hi;have v:i.toNat<l.length:=by have:=MN l x;omega
    have O:=List.getElem?_eq_getElem v;simp only[O];have:=OZ l x i.toNat _ (by omega) O
    grind
  . intro i Y hi;have v:i.toNat<l.length:=by omega
    have O:=List.getElem?_eq_getElem v;simp only[O];have:=Lx h.ok x (i:=i.toNat) (by omega) O
    grind
theorem Jk(h:Ha E w p s l){a b:Int}(ha:0<=a)(aG:a<=b)(hb:b<18446744073709551616){K:Int->World->Prop}(hK: ∀w',Ext AR w w'->K (cnt l a b) w'):
    F.BE E (some p) a b K w:=by
  unfold F.BE T0.BE;refine Tr hE h ha λw1 aB=> ?_;have a0:=h.Fs aB;have hlen:=h.len;have hsm:=h.small;have aM:Pb=4398046511104:=rfl;have aJ:=MN l a;refine AJ (λst w'=> ∃k:Nat,st.2.1=(k:Int)/\posn l a<=k/\k<=l.length/\st.1=cnt (l.take k) a b/\Ext AR w w') (λst _=>(l.length-st.2.1).toNat)
    ⟨posn l a,rfl,Nat.le_refl _,aJ,(TT Qj).symm,aB⟩ ?_
  rintro⟨n,i,u⟩ _ w2 ⟨k,hk,aH,aW,hn,aC⟩;simp only at hk hn⊢;subst hk;have v:=h.Fs aC;simp only[AH];have fin:(∀q,l[k]? =some q->b<=q.1)->K n w2:=by
    intro O;have:cnt l a b=cnt (l.take k) a b:=by
      conv=>lhs;rw[<-List.take_append_drop k l]
      rw[UR];have:cnt (l.drop k) a b=0:=by
        refine US λq hq=> ?_;obtain⟨i,hi,rfl⟩:=List.mem_iff_getElem.1 hq;rw[List.getElem_drop];simp only[List.length_drop]at hi;have y:k<l.length:=by omega
        have h4:=O _ (List.getElem?_eq_getElem y);rcases Nat.eq_zero_or_pos i with rfl|aV
        . omega
        . have h5:=h.ok.lt (i:=k) (j:=k+i) (by omega) (List.getElem?_eq_getElem y) (List.getElem?_eq_getElem (by omega));have h6:=h.ok.get (List.getElem?_eq_getElem y);omega
      omega
    grind
  refine⟨s,v.c0,AB (λaY=> ?_) (λaT=>fin λq hq=> ?_)⟩
  . have hl:k<l.length:=by omega
    have hg:=List.getElem?_eq_getElem hl;obtain⟨r,hr,Y,aK⟩:=v.cells hg;refine⟨s,v.c0,?_⟩;rw[hr];simp only[AH,add_eq,Nat.zero_add,Int.toNat_natCast];refine⟨⟨by omega,by omega⟩,_,Y,AB (λaO=> ?_) (λaN=>fin λq hq=> ?_)⟩
    . have aA:=v.Fs (Ext.drew _ w2);refine⟨s,aA.c0,?_⟩;rw[hr];simp only[AH,add_eq,Nat.zero_add,Int.toNat_natCast];refine⟨⟨by omega,by omega⟩,l[k].2,aK,s,aA.c0,?_⟩;rw[hr];simp only[AH,add_eq,Nat.zero_add,Int.toNat_natCast];refine⟨⟨by omega,by omega⟩,l[k].1,Y,Am λn' T=> ?_⟩;have hq:=h.ok.get hg;have aQ:=Lx h.ok a (i:=k) aH hg;have J:cnt (l.take (k+1)) a b=n+(min l[k].2 b-max l[k].1 a):=by
        rw[FW hg,UR,<-hn];simp only[cnt,OY];omega
      have aF:Ok (l.take (k+1)):=by
        have:=h.ok;rw[<-List.take_append_drop (k+1) l,GR]at this
        grind
      have hle:=FO aF aG;have aI:=DU (l.take (k+1)) a b;have aZ:=DU (l.take k) a b;rw[Xf,Tk,AI (n:=min l[k].2 b-max l[k].1 a),<-J,AI aI (by omega)]at T;refine⟨⟨k+1,?_,by omega,by omega,T,aC.trans' (Ext.drew _ _)⟩,?_⟩
      . rw[AM];omega
      . rw[AM];omega
    grind
  grind
end
def Ha.LL{E:Env}{w w':World}{b o:Nat}{s:Ac}{l:Iv}{C:Nat->Prop}(h:Ha E w ⟨b,o,none⟩ s l)(hu:Oo b C w w')(hC: ¬C o):Ha E w' ⟨b,o,none⟩ s l:=
  ⟨by rw[hu.Cr o hC];exact h.c0,by rw[hu.tH o];exact h.f0,h.own.ext hu.ext λg j e=>h.apart _ j e,h.ok,h.uY,h.apart⟩
def Oq{w:World}{b n t:Nat}{l:List Value}{f:Nat×Nat}(h:w.heap[b]? =some (.cells ⟨l⟩ t f))(y:l.length=n):rowAt w (some ⟨b,0,none⟩) n l:=
  ⟨y,λj v J=>by rw[add_eq,Nat.zero_add,AW h];grind⟩
def LZ(s:Ac):Nat->Prop:=λk=> ∃a,s.base=some a/\k=a.block
def JX.Gk{w:World}{B t z:Nat}{s:Ac}{vs:List Value}(h:JX w B t z s vs){k:Nat}(hk:LZ s k):B<=k/\k<w.heap.size:=by
  obtain⟨a,j,rfl⟩:=hk;exact⟨(h.lt j).1,(h.lt j).2.1⟩
def Zl{l:Iv}{a b:Int}(h:Ok l)(j:a<b)(J: ∀q∈l,q.2<=Pb):((EI l a b).length:Int)<=Pb:=
  length_le (G8 h j) Pb (by decide) λq v=>by
    obtain⟨p,hp,h1,h2,y⟩:=Oa h j v
    grind
def pF{l:Iv}{a b:Int}(h:Ok l)(j:a<b)(J: ∀q∈l,q.2<=Pb): ∀q∈EI l a b,q.2<=Pb:=λq v=>by
  obtain⟨p,hp,h1,h2,y⟩:=Oa h j v
  grind
def Ts{E:Env}{w:World}{B g:Nat}{s:Ac}{m:Iv}{q:Int×Int}{K:Ac->World->Prop}(j:JX w B E.AE 2 s (flat m))(hg:w.heap[g]? =some (.cells ⟨[.int .u64 q.1,.int .u64 q.2]⟩ E.AE))
    (O:B<=w.heap.size)(hm:(m.length:Int)<=Pb+1)
    (T: ∀s' w',JX w' B E.AE 2 s' (flat (m++[q]))->Ext (LZ s) w w'->(s'.base=s.base∨ ∃b,s'.base=some ⟨b,0,none⟩/\w.heap.size<=b)->K s' w'):
    APP E.AE 2 16 #[.int .u64 0,.int .u64 0] s ⟨some ⟨g,0,none⟩,1,1⟩ w K:=by
  have hl:=j.len;rw[Fo]at hl;have y:Pb=4398046511104:=rfl;refine Qg (news:=[.int .u64 q.1,.int .u64 q.2]) rfl j (Oq hg rfl) rfl (by intro v J;simp at J;rcases J with rfl|rfl<;>rfl) O (by grind) (by grind) ?_;intro s' w' ho aC he Y;refine T s' w' ?_ he Y;rw[Om];exact ho
def Qy{E:Env}{w:World}{B:Nat}{s x:Ac}{m n:Iv}{K:Ac->World->Prop}(j:JX w B E.AE 2 s (flat m))(hx:rowAt w x.base (x.len*2) (flat n))(v:x.len=n.length)
    (J:B<=w.heap.size)(hm:((m.length+n.length:Nat):Int)<=Pb+1)
    (O: ∀s' w',JX w' B E.AE 2 s' (flat (m++n))->Ext (LZ s) w w'->(s'.base=s.base∨ ∃b,s'.base=some ⟨b,0,none⟩/\w.heap.size<=b)->K s' w'):
    APP E.AE 2 16 #[.int .u64 0,.int .u64 0] s x w K:=by
  have Y:=j.len;rw[Fo]at Y;have y:Pb=4398046511104:=rfl;refine Qg rfl j hx (by rw[Fo,v]) (Zk n) J (by omega) (by omega) ?_;intro s' w' ho aA he T;refine O s' w' ?_ he T;rw[Om];omega
def IB{w0 w w':World}{B t z:Nat}{s:Ac}{vs:List Value}(h:Ext AR w0 w)(v:JX w B t z s vs)(y:w0.heap.size<=B)(he:Ext (LZ s) w w'):Ext AR w0 w':=
  h.trans he (λ_ _ f=>f) λi J j=>by have:=v.Gk j;omega
section
variable{E:Env}(hE:EnvS E){w:World}{b o:Nat}{s:Ac}{l:Iv}
include hE
theorem Ot(h:KX E w b o s l){a c:Int}(ha:0<=a)(aA:a<c)(hc:c<18446744073709551616){K:World->Prop}
    (hK: ∀w' s',KX E w' b o s' (EI l a c)->Oo b (Yx o) w w'->Um w s s'->K w'):F.Cu E (some ⟨b,o,none⟩) a c K w:=by
  unfold F.Cu T0.Cu;refine AB (λbB=>by omega) (λ_=> ?_);simp only[AH,add_eq];have hd:Ext AR w w.drew:=Ext.drew _ _;refine⟨HE l,h.c1,Jk hE (h.row.Fs hd) ha (by omega) hc λw4 cU=> ?_⟩;have bM:Ext AR w w4:=hd.trans' cU;have bW:b<w.heap.size:=h.row.lt;have h4:=h.ext bM (λf=>f) λ_ _ f=>f;refine⟨h4.c1,Mi h4.c1 h4.f1 rfl λw6 aE=> ?_⟩;have a2:Oo b (Yx o) w w6:=(Oo.eG bM bW).trans (Oo.I8 aE (.inr rfl));have bZ:Ha E w6 ⟨b,o,none⟩ s l:=h4.row.LL (C:=λj=>j=o+1) (Oo.I8 aE rfl) (by omega);have b4:u64 (HE l-cnt l a c)=HE (EI l a c):=by
    rw[UQ h.row.ok aA];have h1:=NQ (G8 h.row.ok aA);have h2:=iL (G8 h.row.ok aA);rw[UQ h.row.ok aA]at h1 h2;exact AI h1 h2
  rw[b4]at aE;refine Tr hE bZ ha λw8 aY=> ?_;have hlen:=h.row.len;have hsm:=h.row.small;have c5:Pb=4398046511104:=rfl;have cM:=MN l a;have b0:=bZ.Fs aY;have dA: ∀k,k<=l.length->posn l a<=k->((EI ((l.take k).drop (posn l a)) a c).length:Int)<=Pb:=by
    intro k _ _;have cB:Ok ((l.take k).drop (posn l a)):=by
      have h1:=h.row.ok;rw[<-List.take_append_drop k l,GR]at h1;have h2:=h1.1;rw[<-List.take_append_drop (posn l a) (l.take k),GR]at h2
      grind
    exact Zl cB aA λq hq=>h.row.uY q (List.mem_of_mem_take (List.mem_of_mem_drop hq))
  refine Aj (λst w'=> ∃k:Nat,st.1=(k:Int)/\posn l a<=k/\k<=l.length/\(∀q,l[k]? =some q->c<=q.1)/\
      JX w' w8.heap.size E.AE 2 st.2.1 (flat (EI ((l.take k).drop (posn l a)) a c))/\Ext AR w8 w') ?_ ?_
  . refine AJ (λst w'=> ∃k:Nat,st.1=(k:Int)/\posn l a<=k/\k<=l.length/\
      JX w' w8.heap.size E.AE 2 st.2.1 (flat (EI ((l.take k).drop (posn l a)) a c))/\Ext AR w8 w') (λst _=>(l.length-st.1).toNat)
      ⟨posn l a,rfl,Nat.le_refl _,cM,?_,Ext.refl _ _⟩ ?_
    . have:(l.take (posn l a)).drop (posn l a)=[]:=List.drop_eq_nil_of_le (by grind);rw[this];exact JX.nil _ _ _ _
    . rintro⟨i,rest,u⟩ _ aF ⟨k,hk,a0,bV,J,aM⟩;simp only at hk J⊢;subst hk;have aL:=b0.Fs aM;have out:(∀q,l[k]? =some q->c<=q.1)-> ∃k':Nat,(k:Int)=(k':Int)/\posn l a<=k'/\k'<=l.length/\(∀q,l[k']? =some q->c<=q.1)/\
          JX aF w8.heap.size E.AE 2 rest (flat (EI ((l.take k').drop (posn l a)) a c))/\Ext AR w8 aF:=
        λhq=>⟨k,rfl,a0,bV,hq,J,aM⟩
      refine⟨s,aL.c0,AB (λc8=> ?_) (λc6=>out λq hq=> ?_)⟩
      . have hl:k<l.length:=by omega
        have hg:=List.getElem?_eq_getElem hl;obtain⟨r,hr,bY,cO⟩:=aL.cells hg;refine⟨s,aL.c0,?_⟩;rw[hr];simp only[AH,add_eq,Nat.zero_add,Int.toNat_natCast];refine⟨⟨by omega,by omega⟩,_,bY,AB (λc9=> ?_) (λc7=>out λq hq=> ?_)⟩
        . refine⟨s,aL.c0,?_⟩;rw[hr];simp only[AH,add_eq,Nat.zero_add,Int.toNat_natCast,Nat.add_zero];refine⟨⟨by omega,by omega⟩,l[k].1,bY,l[k].2,cO,?_⟩;have hq:=h.row.ok.get hg;have dE:=Lx h.row.ok a (i:=k) a0 hg;obtain⟨M,hM⟩: ∃M,M=EI ((l.take k).drop (posn l a)) a c:=⟨_,rfl⟩;rw[<-hM]at J;have dJ:(M.length:Int)<=Pb:=by grind
          have cL:EI ((l.take (k+1)).drop (posn l a)) a c=M++Qi l[k] a c:=by
            rw[FW hg,List.drop_append_of_le_length (by grind),Ob,<-hM];simp[EI]
          refine BZ λdO bH cP a4=> ?_;have b5:=aM.trans' a4;refine KL _ _ _ _ _ _ _ bH (by simp) (by intro v hv;simp at hv;rcases hv with rfl|rfl<;>rfl) λb9 a5 cQ aG=> ?_;simp at aG;have cV:=aM.size;have b6:Ext AR w8 b9:=b5.trans a5 (λ_ _ f=>f) λi hi cJ=>by have:i=aF.heap.size:=cJ;omega
          have aI:JX b9 w8.heap.size E.AE 2 rest (flat M):=(J.ext a4 λ_ _ f=>f).ext a5 λg cH e=>by
            have:=(J.lt cH).2.1;have:g=aF.heap.size:=e;grind
          have aR: ¬LZ rest aF.heap.size:=λhb=>by have:=(J.Gk hb).2;omega
          refine Aj (λst w'=>JX w' w8.heap.size E.AE 2 st.1 (flat (M++if l[k].1<a then [(l[k].1,a)]else []))/\Ext AR w8 w'/\
              w'.heap[aF.heap.size]? =some (.cells ⟨[.int .u64 l[k].1,.int .u64 l[k].2]⟩ E.AE)/\ ¬LZ st.1 aF.heap.size) ?_ ?_
          . refine⟨l[k].1,by rw[AW aG];rfl,AB (λbX=> ?_) (λbU=> ?_)⟩
            . refine⟨l[k].1,by rw[AW aG];rfl,BZ λdQ bI cR aH=> ?_⟩;refine Ts (q:=(l[k].1,a)) (aI.ext aH λ_ _ f=>f) bI (by omega) (by omega) λQv dR dB a6 a9=> ?_;refine⟨by grind,IB (b6.trans' aH) (aI.ext aH λ_ _ f=>f) (Nat.le_refl _) a6,a6.obj (aH.obj aG λf=>f) aR,?_⟩;rintro⟨x,hx,he⟩;rcases a9 with a9|⟨y,hy,dN⟩
              . exact aR ⟨x,by grind,he⟩
              grind
            grind
          . rintro⟨uW,u⟩ _ dP ⟨aS,b7,a3,bC⟩;simp only at aS bC⊢;have cI:i64 ((k:Int)+1)=((k+1:Nat):Int):=by rw[AM];omega
            have cG:Qi l[k] a c=(if l[k].1<a then [(l[k].1,a)]else [])++if c<l[k].2 then [(c,l[k].2)]else []:=by
              unfold Qi
              grind
            refine⟨l[k].2,by rw[AW a3];rfl,AB (λbX=> ?_) (λbU=> ?_)⟩
            . refine⟨l[k].2,by rw[AW a3];rfl,BZ λdT bJ cS aQ=> ?_⟩;have a1:((M++if l[k].1<a then [(l[k].1,a)]else []).length:Int)<=Pb+1:=by grind
              refine Ts (q:=(c,l[k].2)) (aS.ext aQ λ_ _ f=>f) bJ (by grind) a1 λLb dU dD bN a9=> ?_;refine⟨⟨k+1,cI,by omega,by omega,?_,IB (b7.trans' aQ) (aS.ext aQ λ_ _ f=>f) (Nat.le_refl _) bN⟩,by omega⟩
              grind
            grind
        grind
      grind
  . rintro⟨i,rest,u⟩ _ aB ⟨k,hk,a0,bV,bS,J,Y⟩;simp only at hk J⊢;subst hk;have T:=b0.Fs Y;have bL:Ext AR aB aB.drew:=Ext.drew _ _;simp only[AH,Mr];have bA:s.len<=s.cap:=T.own.cap;refine⟨s,T.c0,⟨by omega,by omega⟩,s,T.c0,⟨by omega,by omega⟩,BZ λbD bK cT bO=> ?_⟩;have aN:Ext AR aB bD:=bL.trans' bO;have aV:=T.Fs aN;refine⟨aV.c0,aV.c0,?_⟩;have c2:w8.heap.size<=bD.heap.size:=Nat.le_trans Y.size aN.size;have aJ:JX bD aB.heap.size E.AE 2 ⟨some ⟨aB.heap.size,0,none⟩,0,0⟩ (flat []):=Xe (w:=aB.drew) bK rfl (Nat.le_refl _) (by decide);have b1:=J.ext aN λ_ _ f=>f;have b3:=aV.own.rowAt;have bT:(flat l).length=s.len*2:=by rw[Fo,hlen]
    have cN:Int.toNat ((posn l a:Nat):Int)=posn l a:=Int.toNat_natCast _;have cK:Int.toNat ((k:Nat):Int)=k:=Int.toNat_natCast _;rw[cN,cK];have aK:=dX h.row.ok aA a0 bS;have cF:=Zl h.row.ok aA h.row.uY;rw[aK,List.length_append,List.length_append]at cF;refine Qy (x:=⟨s.base,posn l a,s.cap⟩) (n:=l.take (posn l a)) aJ (by
        have:=Lw (m:=posn l a*2) b3 (by omega) bT;rwa[SC]at this) (by grind) (by simp_all) (by grind) λs50 cX aT bP cC=> ?_
    have aO:Ext AR aB cX:=IB aN aJ (Nat.le_refl _) bP;have a8:=T.Fs aO;refine⟨a8.c0,a8.c0,?_⟩;have aD:=J.ext aO λ_ _ f=>f;simp only[List.nil_append]at aT;refine Qy (x:=rest) (n:=EI ((l.take k).drop (posn l a)) a c) aT aD.rowAt (by have:=aD.len;rw[Fo]at this;omega) (by have:=aO.size;omega)
      (by omega) λdC cY a7 bQ cD=> ?_
    have aX:Ext AR aB cY:=IB aO aT (Nat.le_refl _) bQ;have aW:=T.Fs aX;refine⟨aW.c0,aW.c0,?_⟩;refine Qy (x:=⟨HU s.base s.cap k 2,s.len-k,s.cap-k⟩) (n:=l.drop k) a7 (by
        have:=Jf (k:=k) (z:=2) (cap:=s.cap) aW.own.rowAt rfl (by omega) bA bT;rwa[SD]at this) (by grind) (by have:=aX.size;omega) (by grind) λtM cZ aU bR cE=> ?_
    have aP:Ext AR aB cZ:=IB aX a7 (Nat.le_refl _) bR;have aC:=T.Fs aP;refine⟨aC.c0,aC.c0,Mi aC.c0 aC.f0 rfl λcA O=> ?_⟩;rw[<-aK]at aU;have hu:Oo b (Yx o) w cA:=(a2.trans (Oo.eG ((aY.trans' Y).trans' aP) (Nat.lt_of_lt_of_le bW a2.ext.size))).trans (Oo.I8 O (.inl rfl));have bB: ∀x,tM.base=some x->w.heap.size<=x.block:=λx hx=>by
      have h1:=(aU.lt hx).1;have h2:=a2.ext.size;have h3:=aY.size;have h4:=Y.size;omega
    refine hK cA tM ⟨⟨O.same,by rw[O.frozen];exact aC.f0,?_,G8 h.row.ok aA,pF h.row.ok aA h.row.uY,λx hx e=>by grind⟩,?_,?_⟩ hu (.inr bB)
    . refine(aU.lower (Nat.zero_le _)).ext O.ext λg hg e=> ?_;have:=bB _ hg;have:g=b:=e
      grind
    . rw[O.other _ (by simp)];exact((aY.trans' Y).trans' aP).cell aE.same (λf=>f)
    . rw[O.frozen,((aY.trans' Y).trans' aP).frozen (p:=⟨b,o+1,none⟩) (by have:=a2.ext.size;grind) (λf=>f),aE.frozen];exact h4.f1
end
def Un{E:Env}{w0 w:World}{b o g:Nat}{s s1:Ac}{l:Iv}{i k:Nat}{q:Int×Int}{K:World->Prop}
    (hr:Ha E w0 ⟨b,o,none⟩ s l)(T:Ext AR w0 w)(aE:JX w w0.heap.size E.AE 2 s1 (flat (l.take i)))(hg:w.heap[g]? =some (.cells ⟨[.int .u64 q.1,.int .u64 q.2]⟩ E.AE))
    (hi:i<=k)(hk:k<=l.length)
    (hK: ∀w' aG s',JX w' w0.heap.size E.AE 2 s' (flat (l.take i++[q]++l.drop k))->Ext AR w0 w'->OW ⟨b,o,none⟩ (.slice s'.base s'.len s'.cap) w' aG->K aG):
    APP E.AE 2 16 #[.int .u64 0,.int .u64 0] s1 ⟨some ⟨g,0,none⟩,1,1⟩ w λxU O=>
      O.cell? ⟨b,o,none⟩=some (.slice s.base s.len s.cap)/\O.cell? ⟨b,o,none⟩=some (.slice s.base s.len s.cap)/\
      APP E.AE 2 16 #[.int .u64 0,.int .u64 0] xU ⟨HU s.base s.cap k 2,s.len-k,s.cap-k⟩ O λRp y=>
      y.cell? ⟨b,o,none⟩=some (.slice s.base s.len s.cap)/\y.cell? ⟨b,o,none⟩=some (.slice s.base s.len s.cap)/\
      stCells ⟨b,o,none⟩ 0 [.slice Rp.base Rp.len Rp.cap] y λaB=>K aB:=by
  have hlen:=hr.len;have hsm:=hr.small;have aM:Pb=4398046511104:=rfl;have aI:(flat l).length=s.len*2:=by rw[Fo,hlen]
  refine Ts aE hg T.size (by grind) λxU O Y aC aK=> ?_;have J:Ext AR w0 O:=IB T aE (Nat.le_refl _) aC;have j:=hr.Fs J;refine⟨j.c0,j.c0,?_⟩;refine Qy (x:=⟨HU s.base s.cap k 2,s.len-k,s.cap-k⟩) (n:=l.drop k) Y (by
      have:=Jf (k:=k) (z:=2) (cap:=s.cap) j.own.rowAt rfl (by omega) j.own.cap aI;rwa[SD]at this) (by grind) J.size (by grind) λRp y aF aD aL=> ?_
  have aA:Ext AR w0 y:=IB J Y (Nat.le_refl _) aD;have v:=hr.Fs aA;exact⟨v.c0,v.c0,Mi v.c0 v.f0 rfl λaB aJ=>hK y aB Rp aF aA aJ⟩
def Uo{E:Env}{w0 w:World}{b o g:Nat}{s:Ac}{l:Iv}{i:Nat}{K:Ac->World->Prop}
    (O:Ha E w0 ⟨b,o,none⟩ s l)(j:Ext AR w0 w)(hg:w.heap[g]? =some (.cells ⟨[]⟩ E.AE))(J:w0.heap.size<=g)(hi:i<=l.length)
    (hK: ∀s' w',JX w' w0.heap.size E.AE 2 s' (flat (l.take i))->Ext AR w0 w'->Ext (K0 g) w w'->K s' w'):
    APP E.AE 2 16 #[.int .u64 0,.int .u64 0] ⟨some ⟨g,0,none⟩,0,0⟩ ⟨s.base,i,s.cap⟩ w K:=by
  have hlen:=O.len;have hsm:=O.small;have Y:Pb=4398046511104:=rfl;have y:(flat l).length=s.len*2:=by rw[Fo,hlen]
  have v:JX w w0.heap.size E.AE 2 ⟨some ⟨g,0,none⟩,0,0⟩ (flat []):=⟨rfl,Nat.le_refl _,(by decide:(0:Nat)<9223372036854775808),.inr ⟨g,_,rfl,J,hg,rfl,rfl⟩⟩;have T:=O.Fs j;refine Qy (n:=l.take i) v (by
    have:=Lw (m:=i*2) T.own.rowAt (by omega) y;rwa[SC]at this) (by grind) j.size (by grind) λs' w' ho he hb=> ?_
  exact hK s' w' ho (IB j v (Nat.le_refl _) he) (he.mono λi _ hi=>by obtain⟨a,ha,rfl⟩:=hi;cases ha;rfl)
def pG(l:Iv)(i:Nat)(a:Int):(addLo l i a).2<=i:=by
  unfold addLo
  grind
def pH(l:Iv)(i:Nat)(b:Int)(j:i<=l.length):i<=(addHi l i b).2/\(addHi l i b).2<=l.length:=by
  unfold addHi
  grind
section
variable{E:Env}(hE:EnvS E){w:World}{b o:Nat}{s:Ac}{l:Iv}
include hE
theorem L1(h:KX E w b o s l){a c:Int}(ha:0<=a)(bK:a<c)(hc:c<=Pb){K:World->Prop}
    (hK: ∀w' s',KX E w' b o s' (D9 l a c)->Oo b (Yx o) w w'->Um w s s'->K w'):F.BT E (some ⟨b,o,none⟩) a c K w:=by
  have dA:Pb=4398046511104:=rfl;unfold F.BT T0.BT;refine AB (λaL=>by omega) (λ_=> ?_);refine Ot hE h ha bK (by omega) λw1 s1 h1 c6 dJ=> ?_;simp only[AH,add_eq,Nat.zero_add,Nat.add_zero,Mr];obtain⟨l1,bQ⟩: ∃l1,l1=EI l a c:=⟨_,rfl⟩;rw[<-bQ]at h1;have aQ:Clear l1 a c:=by rw[bQ];exact UT h.row.ok bK
  obtain⟨aE,bS,bV⟩:=Wl h1.row.ok bK ha (by omega) aQ;have bL:D9 l a c=TS l1 a c:=by rw[D9,bQ]
  refine⟨HE l1,h1.c1,Mi h1.c1 h1.f1 rfl λw5 aA=> ?_⟩;have hT:u64 (HE l1+u64 (c-a))=HE (TS l1 a c):=by
    have h2:=NQ aE;have h3:=iL aE;rw[bV]at h2 h3⊢;rw[AI (n:=c-a),AI]
  rw[hT]at aA;have aV:Oo b (Yx o) w w5:=c6.trans (Oo.I8 aA (.inr rfl));have aU:Ha E w5 ⟨b,o,none⟩ s1 l1:=h1.row.LL (C:=λj=>j=o+1) (Oo.I8 aA rfl) (by omega);refine Tr hE aU ha λw7 bW=> ?_;have aC:=aU.Fs bW;obtain⟨i,hi⟩: ∃i,i=posn l1 a:=⟨_,rfl⟩;rw[<-hi];have cQ:i<=l1.length:=by rw[hi];exact MN l1 a
  have hlen:=aC.len;have hsm:=aC.small;obtain⟨cP,aR⟩:=pH l1 i c cQ;have cT:=pG l1 i a;refine BZ λw9 b4 dD cN=> ?_;obtain⟨g,hg⟩: ∃g,g=w7.heap.size:=⟨_,rfl⟩;rw[<-hg]at b4⊢;refine KL _ _ _ _ _ _ _ b4 (by simp) (by intro v hv;simp at hv;rcases hv with rfl|rfl<;>rfl) λcG b5 cX aW=> ?_;simp at aW;have aI: ∀{w1 w2:World},Ext AR w7 w1->Ext (K0 g) w1 w2->Ext AR w7 w2:=λh1 h2=>h1.trans h2 (λ_ _ f=>f) λi hi e=>by have:i=g:=e;omega
  have aN:Ext AR w7 cG:=aI cN b5;refine Aj (λst w'=>st.1=((addHi l1 i c).2:Int)/\w'.heap[g]? =some (.cells ⟨[.int .u64 a,.int .u64 (addHi l1 i c).1]⟩ E.AE)/\Ext AR w7 w') ?_ ?_
  . refine Aj (λst w'=>w'=cG/\(st.1=true↔ ∃q,l1[i]? =some q/\q.1=c)) ?_ ?_
    . have T:=aC.Fs aN;refine⟨s1,T.c0,AB (λbR=> ?_) (λaL=>⟨rfl,?_⟩)⟩
      . have hl:i<l1.length:=by omega
        have bO:=List.getElem?_eq_getElem hl;obtain⟨r,hr,aS,aT⟩:=T.cells bO;refine⟨s1,T.c0,?_⟩;rw[hr];simp only[AH,add_eq,Nat.zero_add,Int.toNat_natCast]
        grind
      grind
    . rintro⟨bt,u⟩ _ dM ⟨rfl,aK⟩;simp only at aK⊢;have T:=aC.Fs aN;refine AP (λht=> ?_) (λhf=> ?_)
      . obtain⟨q,hq,dL⟩:=aK.1 ht;have hl:=(List.getElem?_eq_some_iff.1 hq).1;obtain⟨r,hr,aS,aT⟩:=T.cells hq;refine⟨s1,T.c0,?_⟩;rw[hr];simp only[AH,add_eq,Nat.zero_add,Int.toNat_natCast];refine⟨⟨by omega,by omega⟩,_,aT,?_⟩;refine KL _ _ _ _ _ _ _ aW (by simp) (by intro v hv;simp at hv;subst hv;rfl) λc8 aY bU aF=> ?_;simp at aF;have hH:addHi l1 i c=(q.2,i+1):=by unfold addHi;grind
        rw[hH];refine⟨by rw[AM];simp,aF,aI aN aY⟩
      . have hH:addHi l1 i c=(c,i):=by
          unfold addHi
          grind
        grind
  . rintro⟨k,u⟩ _ c7 ⟨hk,bY,bD⟩;simp only at hk⊢;subst hk;refine Aj (λst w'=>st.1=((addLo l1 i a).2:Int)/\w'.heap[g]? =some (.cells ⟨[.int .u64 (addLo l1 i a).1,.int .u64 (addHi l1 i c).1]⟩ E.AE)/\Ext AR w7 w') ?_ ?_
    . refine Aj (λst w'=>w'=c7/\(st.1=true↔ ∃j q,i=j+1/\l1[j]? =some q/\q.2=a)) ?_ ?_
      . have Y:=aC.Fs bD;refine AB (λbR=> ?_) (λaL=>⟨rfl,?_⟩)
        . obtain⟨j,rfl⟩: ∃j,i=j+1:=⟨i-1,by omega⟩;have hl:j<l1.length:=by omega
          have bO:=List.getElem?_eq_getElem hl;obtain⟨r,hr,aS,aT⟩:=Y.cells bO;refine⟨s1,Y.c0,?_⟩;rw[hr];have hm:i64 (((j+1:Nat):Int)-1)=(j:Int):=by rw[AM];omega
          rw[hm];simp only[AH,add_eq,Nat.zero_add,Int.toNat_natCast]
          grind
        grind
      . rintro⟨bt,u⟩ _ dN ⟨rfl,aK⟩;simp only at aK⊢;have Y:=aC.Fs bD;refine AP (λht=> ?_) (λhf=> ?_)
        . obtain⟨j,q,rfl,hq,dK⟩:=aK.1 ht;have hl:=(List.getElem?_eq_some_iff.1 hq).1;obtain⟨r,hr,aS,aT⟩:=Y.cells hq;refine⟨s1,Y.c0,?_⟩;rw[hr];have hm:i64 (((j+1:Nat):Int)-1)=(j:Int):=by rw[AM];omega
          rw[hm];simp only[AH,add_eq,Nat.zero_add,Int.toNat_natCast];refine⟨⟨by omega,by omega⟩,_,aS,?_⟩;refine KL _ _ _ _ _ _ _ bY (by simp) (by intro v hv;simp at hv;subst hv;rfl) λc8 aY bU aF=> ?_;simp at aF;have hH:addLo l1 (j+1) a=(q.1,j):=by unfold addLo;grind
          grind
        . have hH:addLo l1 i a=(a,i):=by
            unfold addLo
            grind
          grind
    . rintro⟨k2,u⟩ _ O ⟨cA,aJ,aO⟩;simp only at cA⊢;subst cA;have a2:TS l1 a c=l1.take (addLo l1 i a).2++[((addLo l1 i a).1,(addHi l1 i c).1)]++l1.drop (addHi l1 i c).2:=by rw[hi];rfl
      obtain⟨x,hx⟩: ∃x,x=(addLo l1 i a).1:=⟨_,rfl⟩;obtain⟨y,hy⟩: ∃y,y=(addHi l1 i c).1:=⟨_,rfl⟩;obtain⟨i1,aM⟩: ∃i1,i1=(addLo l1 i a).2:=⟨_,rfl⟩;obtain⟨k,bP⟩: ∃k,k=(addHi l1 i c).2:=⟨_,rfl⟩;rw[<-hx,<-hy]at aJ;rw[<-hx,<-hy,<-aM,<-bP]at a2;rw[<-bP]at cP aR;rw[<-aM]at cT;rw[<-bP,<-aM];have J:=aC.Fs aO;have dB:=J.own.cap;have fin: ∀w' aP s',JX w' O.heap.size E.AE 2 s' (flat (l1.take i1++[(x,y)]++l1.drop k))->Ext AR O w'->OW ⟨b,o,none⟩ (.slice s'.base s'.len s'.cap) w' aP->K aP:=by
        intro w' aP s' ho he aH;rw[<-a2]at ho;have bR:b<w.heap.size:=h.row.lt;have aD:Ext AR w5 w':=(bW.trans' aO).trans' he;have hu:Oo b (Yx o) w aP:=(aV.trans (Oo.eG aD (Nat.lt_of_lt_of_le bR aV.ext.size))).trans (Oo.I8 aH (.inl rfl));have aL: ∀x,s'.base=some x->w.heap.size<=x.block:=λx hx=>by
          have h1:=(ho.lt hx).1;have h2:=aV.ext.size;have h3:=(bW.trans' aO).size;omega
        have cV:=aU.Fs aD;refine hK aP s' ?_ hu (.inr aL);rw[bL];refine⟨⟨aH.same,by rw[aH.frozen];exact cV.f0,?_,aE,?_,λx hx e=>by grind⟩,?_,?_⟩
        . refine(ho.lower (Nat.zero_le _)).ext aH.ext λg hg e=> ?_;have h1:=aL _ hg;have h2:g=b:=e
          grind
        . intro q hq;have hm:=(aE.mem hq);have h2:=(bS (q.2-1)).1 ⟨q,hq,by omega,by omega⟩;rcases h2 with ⟨p,hp,h3,h4⟩|h2
          . have:=aU.uY p hp;omega
          omega
        . rw[aH.other _ (by simp)];exact aD.cell aA.same (λf=>f)
        . rw[aH.frozen,aD.frozen (p:=⟨b,o+1,none⟩) (by have:=aV.ext.size;grind) (λf=>f),aA.frozen];exact h1.f1
      have hd:Ext AR O O.drew:=Ext.drew _ _;have bM:O.cell? ⟨g,0,none⟩=some (.int .u64 x):=by rw[AW aJ];rfl
      have bN:O.cell? ⟨g,1,none⟩=some (.int .u64 y):=by rw[AW aJ];rfl
      have cS:Int.toNat ((k:Nat):Int)=k:=Int.toNat_natCast _;have cR:Int.toNat ((i1:Nat):Int)=i1:=Int.toNat_natCast _;rw[cS,cR];refine⟨s1,J.c0,⟨by omega,by omega⟩,x,bM,y,bN,s1,J.c0,⟨by omega,by omega⟩,?_,?_⟩
      . refine BZ λcH aX cY b6=> ?_;have aB:Ext AR O cH:=hd.trans' b6;have a4:=J.Fs aB;have cW:O.drew.heap.size=O.heap.size:=rfl;refine⟨a4.c0,⟨aB.cell bM (λf=>f),aB.cell bN (λf=>f),trivial⟩,a4.c0,?_,?_⟩
        . refine Uo J aB aX (by omega) (by omega) λSB dO cC aG dC=> ?_;have a5:=J.Fs aG;refine⟨a5.c0,⟨aG.cell bM (λf=>f),aG.cell bN (λf=>f),trivial⟩,a5.c0,BZ λdP bZ cZ aZ=> ?_⟩;have bE:=aG.trans' aZ;have a6:=J.Fs bE;exact⟨a6.c0,a6.c0,Un (q:=(x,y)) J bE (cC.ext aZ λ_ _ f=>f) bZ (by omega) aR fin⟩
        . refine BZ λdQ b0 c2 a0=> ?_;have bF:=aB.trans' a0;have a7:=J.Fs bF;refine⟨a7.c0,a7.c0,Uo J bF (a0.obj aX λf=>f) (by omega) (by omega) λxN dR cD bG b7=> ?_⟩;have a8:=J.Fs bG;exact⟨a8.c0,a8.c0,Un (q:=(x,y)) J bG cD (b7.obj b0 λe=>by have:cH.heap.size=O.drew.heap.size:=e;omega) (by omega) aR fin⟩
      . refine BZ λcI b1 c3 b8=> ?_;have bH:Ext AR O cI:=hd.trans' b8;have a9:=J.Fs bH;have cW:O.drew.heap.size=O.heap.size:=rfl;refine⟨a9.c0,a9.c0,BZ λdS b3 c4 a1=> ?_⟩;have bI:=bH.trans' a1;have bA:=J.Fs bI;refine⟨bA.c0,bA.c0,Uo J bI b3 (by omega) (by omega) λxW dT cE bJ b9=> ?_⟩;have bB:=J.Fs bJ;exact⟨bB.c0,bB.c0,Un (q:=(x,y)) J bJ cE (b9.obj (a1.obj b1 λf=>f) λe=>by have:O.drew.heap.size=cI.heap.size:=e;omega) (by omega) aR fin⟩
end
def Up{w:World}{k:Nat}{es:Array MapEntry}{c:Nat}{i:Nat}{v:Value}(hm:w.heap[k]? =some (.map es c))(j:w.cell? ⟨k,i,none⟩=some v):False:=by
 simp[World.cell?,hm]at j
def JX.Xx{w:World}{B t z:Nat}{s:Ac}{vs:List Value}{k:Nat}{es:Array MapEntry}{c:Nat}(h:JX w B t z s vs)(hm:w.heap[k]? =some (.map es c)): ¬LZ s k:=by
 rintro⟨a,v,rfl⟩;rcases h.row with ⟨h1,_⟩|⟨b,cs,h1,_,j,_⟩
 .grind
 grind
def KX.LL{E:Env}{w w':World}{b o:Nat}{s:Ac}{l:Iv}{C:Nat->Prop}(h:KX E w b o s l)(hu:Oo b C w w')(h0: ¬C o)(h1: ¬C (o+1)):KX E w' b o s l:=
 ⟨h.row.LL hu h0,by rw[hu.Cr _ h1];exact h.c1,by rw[hu.tH];exact h.f1⟩
def LC(p:Int×Int)(a b:Int):Iv:=if p.2<=a∨b<=p.1 then []else [(max p.1 a,min p.2 b)]
def withinL:Iv->Int->Int->Iv
 | [],_,_=>[]
 | p::r,a,b=>LC p a b++withinL r a b
def Ou(l m:Iv)(a b:Int):withinL (l++m) a b=withinL l a b++withinL m a b:=by
 induction l with
 | nil=>rfl
 | cons p r ih=>simp[withinL,ih]
def Sm{l:Iv}{a b:Int}(h: ∀p∈l,p.2<=a∨b<=p.1):withinL l a b=[]:=by
 induction l with
 | nil=>rfl
 | cons p r ih=>
  simp only[withinL,ih λq j=>h q (List.mem_cons_of_mem _ j),List.append_nil];unfold LC
  grind
def Zm(l:Iv)(a b:Int):(withinL l a b).length<=l.length:=by
 induction l with
 | nil=>exact Nat.le_refl _
 | cons p r ih=>
  simp only[withinL,List.length_append,List.length_cons];have:(LC p a b).length<=1:=by unfold LC;grind
  omega
def QD{l:Iv}(h:Ok l){a b:Int}(v:a<b): ∀q∈withinL l a b,a<=q.1/\q.1<q.2/\q.2<=b:=by
 induction l with
 | nil=>intro q j;cases j
 | cons p r ih=>
  intro q j;have hp:=h.mem (List.mem_cons_self:p∈p::r);rcases List.mem_append.1 j with j|j
  .unfold LC at j
   grind
  .exact ih h.tail q j
def JX.cells2{w:World}{B t:Nat}{s:Ac}{l:Iv}(h:JX w B t 2 s (flat l)){i:Nat}{q:Int×Int}(v:l[i]? =some q):
  ∃b,s.base=some ⟨b,0,none⟩/\w.cell? ⟨b,i*2,none⟩=some (.int .u64 q.1)/\w.cell? ⟨b,i*2+1,none⟩=some (.int .u64 q.2):=by
 have j:=h.rowAt;obtain⟨g1,g2⟩:=On l i q v;rcases h.row with ⟨h1,h2⟩|⟨b,cs,h1,_⟩
 .rw[h1]at j;have:flat l=[]:=j
  grind
 .rw[h1]at j;refine⟨b,h1,?_,?_⟩
  .have:=j.2 _ _ g1;rwa[add_eq,Nat.zero_add]at this
  .have:=j.2 _ _ g2;rwa[add_eq,Nat.zero_add]at this
section
variable{E:Env}(hE:EnvS E){w:World}{p:Addr}{s:Ac}{l:Iv}
include hE
theorem Zn(h:Ha E w p s l){a b:Int}(ha:0<=a)(hb:b<18446744073709551616){K:Ac->World->Prop}
  (hK: ∀s' w',JX w' w.heap.size E.AE 2 s' (flat (withinL l a b))->Ext AR w w'->K s' w'):F.B5 E (some p) a b K w:=by
 unfold F.B5 T0.B5;refine Tr hE h ha λw2 aV=> ?_;have hlen:=h.len;have hsm:=h.small;have aX:Pb=4398046511104:=rfl;have aK:=MN l a;simp only[AH,add_eq,Nat.zero_add];have O:withinL (l.take (posn l a)) a b=[]:=Sm λq hq=>.inl (Qj q hq);refine AJ (λst w'=> ∃k:Nat,st.2.1=(k:Int)/\posn l a<=k/\k<=l.length/\JX w' w.heap.size E.AE 2 st.1 (flat (withinL (l.take k) a b))/\Ext AR w w')
  (λst _=>(l.length-st.2.1).toNat) ⟨posn l a,rfl,Nat.le_refl _,aK,by rw[O];exact JX.nil _ _ _ _,aV⟩ ?_
 rintro⟨s3,i,u⟩ _ w4 ⟨k,hk,aS,a8,aB,T⟩;simp only at hk aB⊢;subst hk;have h4:=h.Fs T;have fin:(∀q,l[k]? =some q->b<=q.1)->K s3 w4:=λY=>by
  refine hK s3 w4 ?_ T;have:withinL l a b=withinL (l.take k) a b:=by
   have e:l=l.take k++l.drop k:=(List.take_append_drop k l).symm
   conv=>lhs;rw[e]
   rw[Ou];rw[Sm (l:=l.drop k),List.append_nil];intro q hq;right;obtain⟨j,hj⟩:=List.mem_iff_getElem?.1 hq;rw[List.getElem?_drop]at hj;by_cases hj0:j=0
   .subst hj0;exact Y q hj
   .have aE:k<l.length:=by have:=(List.getElem?_eq_some_iff.1 hj).1;omega
    have:=Y _ (List.getElem?_eq_getElem aE);have h2:=h.ok.lt (i:=k) (j:=k+j) (by omega) (List.getElem?_eq_getElem aE) hj;have h3:=h.ok.get (List.getElem?_eq_getElem aE);omega
  grind
 refine⟨s,h4.c0,AB (λbA=> ?_) (λa6=>fin λq hq=>by have:=(List.getElem?_eq_some_iff.1 hq).1;omega)⟩;have hl:k<l.length:=by omega
 have hg:=List.getElem?_eq_getElem hl;obtain⟨r,hr,aF,aM⟩:=h4.cells hg;generalize hq:l[k]=q at hg aF aM;have bC:=h.ok.get hg;have bB:=h.uY q (List.mem_of_getElem? hg);refine⟨s,h4.c0,?_⟩;rw[hr];simp only[AH,add_eq,Nat.zero_add,Int.toNat_natCast,Nat.add_zero];refine⟨⟨by omega,by omega⟩,q.1,aF,AB (λa7=> ?_) (λaZ=>fin λq' aL=>by rw[hg]at aL;cases aL;omega)⟩;have hd:Ext AR w4 w4.drew:=Ext.drew _ _;have J: ∀{w'},Ext AR w4 w'->w'.cell? p=some (.slice s.base s.len s.cap)/\w'.cell? ⟨r,k*2,none⟩=some (.int .u64 q.1)/\w'.cell? ⟨r,k*2+1,none⟩=some (.int .u64 q.2):=λhe=>
  ⟨he.cell h4.c0 λf=>f,he.cell aF λf=>f,he.cell aM λf=>f⟩
 obtain⟨c1,c2,c3⟩:=J hd;refine⟨s,c1,?_⟩;rw[hr];simp only[AH,add_eq,Nat.zero_add];refine⟨⟨by omega,by omega⟩,q.1,c2,s,c1,?_⟩;rw[hr];simp only[AH,add_eq,Nat.zero_add];refine⟨⟨by omega,by omega⟩,q.2,c3,BZ λaW aI aT v=> ?_⟩;obtain⟨d1,d2,d3⟩:=J (hd.trans' v);refine⟨d3,by grind,d2,by grind,?_⟩;have y:=aB.ext (hd.trans' v) λ_ _ f=>f;have bE:=Zm (l.take k) a b;have bD:(l.take k).length=k:=by simp;omega
 refine Ts (q:=(TQ q.1 a,XR q.2 b)) y aI (by have:=T.size;have:=(hd.trans' v).size;omega) (by omega) λlG bF aY aJ a5=> ?_;have aO:Ext AR w aW:=T.trans' (hd.trans' v);have aC:=IB aO y (Nat.le_refl _) aJ;have aD:=h.Fs aC;obtain⟨r',aN,e1,e2⟩:=aD.cells hg;rw[hr]at aN;cases aN;refine⟨e2,by rw[<-hr];exact aD.c0,e1,by rw[<-hr];exact aD.c0,?_⟩;rw[AM];refine⟨⟨k+1,by omega,by omega,by omega,?_,aC⟩,by omega⟩;have aU:l.take (k+1)=l.take k++[q]:=FW hg;have a4:=Lx h.ok a (i:=k) (p:=q) aS hg;rw[aU,Ou];have:withinL [q] a b=[(TQ q.1 a,XR q.2 b)]:=by
  simp only[withinL,List.append_nil,LC];rw[if_neg (by omega),Tk,Xf]
 grind
end
def Nb(E:Env)(s:Ac)(l:Iv):Pr:=Kk (Ok l/\ ∀q∈l,q.2<=Pb) (Row E.AE 2 s (flat l))
section
variable{E:Env}{R:List Pr}{w w':World}{b t o:Nat}{vs:List Value}{s s':Ac}{l l':Iv}
def Sat.setAt(H:Sat (Cells b t vs::Nb E s l::R) w)(h0:vs[o]? =some (.slice s.base s.len s.cap))(h1:vs[o+1]? =some (.int .u64 (HE l))):KX E w b o s l:=by
 obtain⟨D,y,O,j,⟨T,Y,⟨Au,v⟩,_,_,J⟩,hd,_⟩:=H;refine⟨⟨(j.2.2 o _ h0).1,(j.2.2 o _ h0).2,v.2,Au.1,Au.2,λa K e=> ?_⟩,(j.2.2 _ _ h1).1,(j.2.2 _ _ h1).2⟩;have h1:y a.block:=(j.1 _).2 e;exact hd _ h1 ((J _).2 (.inl ((v.1 _).2 ⟨a,K,rfl⟩)))
def Sat.iX(H:Sat (Cells b t vs::Nb E s l::R) w)(ho:o+1<vs.length)(hs:KX E w' b o s' l')(hu:Oo b (Yx o) w w')(hf:Um w s s'):
  Sat (Cells b t ((vs.set o (.slice s'.base s'.len s'.cap)).set (o+1) (.int .u64 (HE l')))::Nb E s' l'::R) w':=by
 obtain⟨D,D1,D2,J,⟨D3,T,⟨Au,hr⟩,hF,Y,K⟩,hd,hD⟩:=H;have O: ∀k,Qm s' k->Qm s k∨w.heap.size<=k:=by
  rintro k ⟨a,ha,rfl⟩;rcases hf with e|e
  .exact .inl ⟨a,by grind,rfl⟩
  grind
 have hb:b<w.heap.size:=J.2.1;have aD: ∀k,Qm s' k->k≠b:=by
  rintro k ⟨a,ha,rfl⟩;exact hs.row.apart a ha
 refine⟨λk=>k=b∨Qm s' k∨T k,λk=>k=b,λk=>Qm s' k∨T k,⟨λ_=>Iff.rfl,by have:=hu.ext.size;omega,λj v y=> ?_⟩,⟨Qm s',T,⟨⟨hs.row.ok,hs.row.uY⟩,λ_=>Iff.rfl,hs.row.own⟩,?_,?_,λ_=>Iff.rfl⟩,?_,λ_=>Iff.rfl⟩
 .rw[List.getElem?_set,List.getElem?_set]at y;rw[hu.tH];by_cases e1:o+1=j
  .subst e1;rw[if_pos rfl,if_pos (by grind)]at y;cases y;exact⟨hs.c1,(J.2.2 (o+1) _ (List.getElem?_eq_getElem ho)).2⟩
  .rw[if_neg e1]at y;by_cases e2:o=j
   .subst e2;rw[if_pos rfl,if_pos (by omega)]at y;cases y;exact⟨hs.row.c0,(J.2.2 o _ (List.getElem?_eq_getElem (by omega))).2⟩
   .rw[if_neg e2]at y;rw[hu.Cr j (by unfold Yx;omega)];exact J.2.2 j v y
 .exact hF.loc hu.ext λk hk e=>by
   have e:k=b:=e;subst e;exact hd _ ((J.1 _).2 rfl) ((K _).2 (.inr hk))
 .intro k hk h4;rcases O k hk with e|e
  .exact Y k ((hr.1 k).2 e) h4
  .have:=hF.lt h4;omega
 .rintro k rfl (h|h)
  .grind
  .exact hd _ ((J.1 _).2 rfl) ((K _).2 (.inr h))
variable(hE:EnvS E)
include hE
theorem Uq(H:Sat (Cells b t vs::Nb E s l::R) w)(h0:vs[o]? =some (.slice s.base s.len s.cap))(h1:vs[o+1]? =some (.int .u64 (HE l))){x y:Int}(J:0<=x)(j:x<=y)(O:y<18446744073709551616)
  {K:Int->World->Prop}(v: ∀w',Ext AR w w'->K (cnt l x y) w'):F.BE E (some ⟨b,o,none⟩) x y K w:=Jk hE (H.setAt h0 h1).row J j O v
theorem zX(H:Sat (Cells b t vs::Nb E s l::R) w)(h0:vs[o]? =some (.slice s.base s.len s.cap))(h1:vs[o+1]? =some (.int .u64 (HE l))){x y:Int}(J:0<=x)(j:x<y)(O:y<18446744073709551616){K:World->Prop}
  (v: ∀w' s',Sat (Cells b t ((vs.set o (.slice s'.base s'.len s'.cap)).set (o+1) (.int .u64 (HE (EI l x y))))::Nb E s' (EI l x y)::R) w'->K w'):F.Cu E (some ⟨b,o,none⟩) x y K w:=
 Ot hE (H.setAt h0 h1) J j O λw' s' hs hu hf=>v w' s' (H.iX (List.getElem?_eq_some_iff.1 h1).1 hs hu hf)
theorem pI(H:Sat (Cells b t vs::Nb E s l::R) w)(h0:vs[o]? =some (.slice s.base s.len s.cap))(h1:vs[o+1]? =some (.int .u64 (HE l))){x y:Int}(J:0<=x)(j:x<y)(O:y<=Pb){K:World->Prop}
  (v: ∀w' s',Sat (Cells b t ((vs.set o (.slice s'.base s'.len s'.cap)).set (o+1) (.int .u64 (HE (D9 l x y))))::Nb E s' (D9 l x y)::R) w'->K w'):F.BT E (some ⟨b,o,none⟩) x y K w:=
 L1 hE (H.setAt h0 h1) J j O λw' s' hs hu hf=>v w' s' (H.iX (List.getElem?_eq_some_iff.1 h1).1 hs hu hf)
end
def Nb.ok{E:Env}{s:Ac}{l:Iv}{R:List Pr}{w:World}(H:Sat (Nb E s l::R) w):Ok l/\ ∀q∈l,q.2<=Pb:=(Sat.where.1 H).1
def Sat.eH{E:Env}{R:List Pr}{w:World}(H:Sat R w):Sat (Nb E ⟨none,0,0⟩ []::R) w:=
 Sat.where.2 ⟨⟨trivial,by simp⟩,H.nil E.AE 2⟩
end Go.Sh

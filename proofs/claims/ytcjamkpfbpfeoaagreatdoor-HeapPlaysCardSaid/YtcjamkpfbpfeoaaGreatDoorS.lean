/- The sets of stretches do what their lists say. No further condition. -/
import Derived.Test.YtcjamkpfbpfeoaaGreatDoorF
import Derived.Test.YtcjamkpfbpfeoaaGreatDoorM
set_option linter.all false
namespace Go.Sh
def flat:Iv->List Value
  | []=>[]
  | p::r=>.int .u64 p.1:: .int .u64 p.2::flat r
theorem Ez: ∀l:Iv,(flat l).length=l.length*2
  | []=>rfl
  | p::r=>by simp[flat,Ez r];omega
theorem Lx: ∀l m:Iv,flat (l++m)=flat l++flat m
  | [],_=>rfl
  | p::r,m=>by simp[flat,Lx r m]
theorem Oj: ∀(l:Iv) (i:Nat),(flat l).take (i*2)=flat (l.take i)
  | [],i=>by simp[flat]
  | p::r,0=>by simp[flat]
  | p::r,i+1=>by
    rw[show(i+1)*2=i*2+1+1 from by omega];simp[flat,Oj r i]
theorem Ol: ∀(l:Iv) (i:Nat),(flat l).drop (i*2)=flat (l.drop i)
  | [],i=>by simp[flat]
  | p::r,0=>by simp[flat]
  | p::r,i+1=>by
    rw[show(i+1)*2=i*2+1+1 from by omega];simp[flat,Ol r i]
theorem Ly: ∀(l:Iv) (i:Nat) (p:Int×Int),l[i]? =some p->(flat l)[i*2]? =some (.int .u64 p.1)/\(flat l)[i*2+1]? =some (.int .u64 p.2)
  | [],i,p,h=>by simp at h
  | q::r,0,p,h=>by simp at h;subst h;simp[flat]
  | q::r,i+1,p,h=>by
    have:=Ly r i p (by simpa using h);rw[show(i+1)*2=i*2+1+1 from by omega];simpa[flat]using this
theorem U6: ∀(l:Iv) (v:Value),v∈flat l->v.oneCell'=true
  | [],v,h=>by cases h
  | p::r,v,h=>by
    simp only[flat,List.mem_cons]at h;rcases h with rfl|rfl|h
    · rfl
    · rfl
    · exact U6 r v h
abbrev Lz:Int:=4398046511104
theorem length_le: ∀{l:Iv},Ok l-> ∀B:Int,0<=B->(∀p∈l,p.2<=B)->(l.length:Int)<=B:=by
  have key: ∀{l:Iv},Ok l-> ∀A B:Int,A<=B->(∀p∈l,A<=p.1)->(∀p∈l,p.2<=B)->(l.length:Int)<=B-A:=by
    intro l
    induction l with
    | nil=>intro _ A B h _ _;simp;omega
    | cons p r ih=>
      intro h A B y C d;have h1:=C p (by simp);have v:=d p (by simp);have J:=h.2.1;have:=ih h.tail p.2 B v (fun q j=>by have:=h.2.2.2.1 q j;omega) (fun q j=>d q (by simp[j]));simp only[List.length_cons];omega
  intro l h B h0 d;have:=key h 0 B h0 (fun p hp=>(h.mem hp).1) d;omega
structure F2(E:Env)(w:World)(p:Addr)(s:AZ)(l:Iv):Prop where
  c0:w.cell? p=some (.slice s.base s.len s.cap)
  f0:w.frozen? p=false
  own:Hp w 0 E.AF 2 s (flat l)
  ok:Ok l
  iL: ∀q∈l,q.2<=Lz
  apart: ∀a,s.base=some a->a.block≠p.block
section
variable{E:Env}{w w':World}{p:Addr}{s:AZ}{l:Iv}
theorem F2.len(h:F2 E w p s l):s.len=l.length:=by
  have:=h.own.len;rw[Ez]at this;omega
theorem F2.small(h:F2 E w p s l):(l.length:Int)<=Lz:=length_le h.ok Lz (by decide) h.iL
theorem F2.ext{S:Nat->Prop}(h:F2 E w p s l)(he:Ext S w w')(hp: ¬S p.block)(hs: ∀a,s.base=some a-> ¬S a.block):F2 E w' p s l:=
  ⟨he.cell h.c0 hp,by rw[he.frozen (World.block_lt_of_cell? w p h.c0) hp];exact h.f0,
   h.own.ext he fun b d=>hs _ d,h.ok,h.iL,h.apart⟩
theorem F2.E0(h:F2 E w p s l)(he:Ext AN w w'):F2 E w' p s l:=h.ext he (fun f=>f) fun _ _ f=>f
theorem F2.cells(h:F2 E w p s l){i:Nat}{q:Int×Int}(hi:l[i]? =some q):
    ∃b,s.base=some ⟨b,0,none⟩/\w.cell? ⟨b,i*2,none⟩=some (.int .u64 q.1)/\w.cell? ⟨b,i*2+1,none⟩=some (.int .u64 q.2):=by
  have d:=h.own.rowAt;obtain⟨j,v⟩:=Ly l i q hi;rcases h.own.row with ⟨h1,y⟩|⟨b,cs,h1,_⟩
  · rw[h1]at d;have:flat l=[]:=d;rw[this]at j;simp at j
  · rw[h1]at d;refine⟨b,h1,?_,?_⟩
    · have:=d.2 _ _ j;rwa[add_eq,Nat.zero_add]at this
    · have:=d.2 _ _ v;rwa[add_eq,Nat.zero_add]at this
theorem F2.lt(h:F2 E w p s l):p.block<w.heap.size:=World.block_lt_of_cell? w p h.c0
end
structure IT(E:Env)(w:World)(b o:Nat)(s:AZ)(l:Iv):Prop where
  row:F2 E w ⟨b,o,none⟩ s l
  c1:w.cell? ⟨b,o+1,none⟩=some (.int .u64 (DE l))
  f1:w.frozen? ⟨b,o+1,none⟩=false
theorem IT.ext{E:Env}{w w':World}{b o:Nat}{s:AZ}{l:Iv}{S:Nat->Prop}(h:IT E w b o s l)(he:Ext S w w')(hp: ¬S b)(hs: ∀a,s.base=some a-> ¬S a.block):IT E w' b o s l:=
  ⟨h.row.ext he hp hs,he.cell h.c1 hp,by rw[he.frozen (p:=⟨b,o+1,none⟩) h.row.lt hp];exact h.f1⟩
structure L0(b:Nat)(C:Nat->Prop)(w w':World):Prop where
  ext:Ext (Ix b) w w'
  DP: ∀j,¬C j->w'.cell? ⟨b,j,none⟩=w.cell? ⟨b,j,none⟩
  gZ: ∀j,w'.frozen? ⟨b,j,none⟩=w.frozen? ⟨b,j,none⟩
theorem L0.Wt{b:Nat}{C:Nat->Prop}{w w':World}(h:Ext AN w w')(d:b<w.heap.size):L0 b C w w':=
  ⟨h.any,fun j _=>World.cell?_of_block (h.block b d fun f=>f),fun j=>World.frozen?_of_block (h.block b d fun f=>f)⟩
theorem L0.HI{b j:Nat}{C:Nat->Prop}{w w':World}{v:Value}(h:Li ⟨b,j,none⟩ v w w')(d:C j):L0 b C w w':=
  ⟨h.ext,fun i hi=>h.other _ (by intro e;injection e with _ e;subst e;exact hi d),fun i=>h.frozen _⟩
theorem L0.trans{b:Nat}{C:Nat->Prop}{w w1 d:World}(h:L0 b C w w1)(k:L0 b C w1 d):L0 b C w d:=
  ⟨h.ext.trans' k.ext,fun j v=>(k.DP j v).trans (h.DP j v),fun j=>(k.gZ j).trans (h.gZ j)⟩
def UY(o:Nat):Nat->Prop:=fun j=>j=o∨j=o+1
def Qn(w:World)(s s':AZ):Prop:=s'.base=s.base∨ ∀a,s'.base=some a->w.heap.size<=a.block
structure EnvS(E:Env):Prop where
  at1: ∀i p1 p2 K w,F.D5 E i p1 p2 K w->E.call E.Hz #[.int .i64 i,.pointer p1,.pointer p2] w (fun r w'=> ∃b,r= .bool b/\K b w') LU
  mono: ∀g args w (K K':Value->World->Prop),(∀v w',K v w'->K' v w')->E.call g args w K LU->E.call g args w K' LU
theorem half(a b:Int)(v:0<=a)(y:0<=b)(hs:a+b<9223372036854775808):
    i64 (Int.fdiv (u64 (i64 (a+b))) (2^(min (Int.toNat 1) (IntKind.bits .u64))))=(a+b)/2:=by
  have d:i64 (a+b)=a+b:=AH;have j:u64 (a+b)=a+b:=AM;rw[d,j];have:(2:Int)^(min (Int.toNat 1) (IntKind.bits .u64))=2:=by decide
  rw[this,Int.fdiv_eq_ediv_of_nonneg _ (by omega),AH]
theorem U7{E:Env}{n:Int}{fv:Value}{w0:World}{K:Int->World->Prop}(t:Int->Bool)(hn:0<=n)(aH:n<4611686018427387904)
    (hf: ∀i w,0<=i->i<n->Ext AN w0 w-> ∀K':Value->World->Prop,(∀w',Ext AN w0 w'->K' (.bool (t i)) w')->DYN E.call fv #[.int .i64 i] w K')
    (m:Int)(O:0<=m)(C:m<=n)(J: ∀i,0<=i->i<m->t i=false)(T: ∀i,m<=i->i<n->t i=true)
    (hK: ∀w',Ext AN w0 w'->K m w'):F.I2 E n fv K w0:=by
  unfold F.I2;refine AK (fun s w=>0<=s.1/\s.1<=m/\m<=s.2.1/\s.2.1<=n/\Ext AN w0 w) (fun s _=>(s.2.1-s.1).toNat) ⟨by simp,by simpa using O,by simpa using C,by simp,Ext.refl _ _⟩ ?_;rintro⟨i,j,u⟩ _ w ⟨h1,h2,h3,h4,hw⟩;simp only at h1 h2 h3 h4⊢;refine AD (fun aG=>⟨by decide,AU fun h hh=> ?_⟩) (fun aF=> ?_)
  · rw[half i j h1 (by omega) (by omega)]at hh;refine hf h w (by omega) (by omega) hw _ fun w' y=>⟨_,rfl,AQ (fun Y=> ?_) (fun Y=> ?_)⟩
    · have d:t h=false:=by simpa using Y
      have:h<m:=by
        rcases Int.lt_or_le h m with v|v
        · exact v
        · rw[T h v (by omega)]at d;cases d
      rw[AH];exact⟨⟨by omega,by omega,h3,h4,y⟩,by omega⟩
    · have d:t h=true:=by simpa using Y
      have:m<=h:=by
        rcases Int.lt_or_le h m with v|v
        · rw[J h (by omega) v]at d;cases d
        · exact v
      exact⟨⟨h1,h2,this,by omega,y⟩,by omega⟩
  · have:i=m:=by omega
    subst this;exact hK w hw
theorem Iu{α:Type}{l:List α}{k:Nat}{x:α}(h:l[k]? =some x):l.take (k+1)=l.take k++[x]:=by
  obtain⟨d,rfl⟩:=List.getElem?_eq_some_iff.1 h;exact List.take_succ_eq_append_getElem d
section
variable{E:Env}(hE:EnvS E){w:World}{p:Addr}{s:AZ}{l:Iv}
include hE
theorem Nl(h:F2 E w p s l){x:Int}(aR:0<=x){K:Int->World->Prop}(hK: ∀w',Ext AN w w'->K (posn l x) w'):F.Cl E (some p) x K w:=by
  unfold F.Cl T0.Cl;refine BK fun w1 h1 aJ aF=>BK fun w2 h2 aM aC=> ?_;have C:Ext AN w w2:=aF.trans' aC;have aB:w2.cell? ⟨w.heap.size,0,none⟩=some (.pointer (some p)):=aC.cell (by rw[AS h1];rfl) (fun f=>f);have aH:w2.cell? ⟨w1.heap.size,0,none⟩=some (.int .u64 x):=by rw[AS h2];rfl
  have O:=h.E0 C;refine⟨some p,aB,?_⟩;simp only[AI];refine⟨s,O.c0,?_⟩;have hlen:=h.len;have aD:=h.small;have aI:Lz=4398046511104:=rfl;refine U7 (fun i=>match l[i.toNat]? with|some q=>decide (q.2>x)|none=>true) (by omega) (by omega) ?_ (posn l x) (by omega) ?_ ?_ ?_ fun w' d=>hK w' (C.trans' d)
  · intro i w' T aL d K' Y;have j:i.toNat<l.length:=by omega
    have J:=List.getElem?_eq_getElem j;simp only[J]at Y;have y:=O.E0 d;obtain⟨b,hb,aO,aE⟩:=y.cells J;refine hE.mono _ _ _ _ _ ?_ (hE.at1 i (some ⟨w.heap.size,0,none⟩) (some ⟨w1.heap.size,0,none⟩) (fun r aA=>K' (.bool r) aA) w' ?_)
    · rintro v aA ⟨r,rfl,hr⟩;exact hr
    · unfold F.D5;simp only[AI];refine⟨some p,d.cell aB (fun f=>f),?_⟩;simp only[AI];refine⟨s,y.c0,?_⟩;rw[hb];simp only[AI,add_eq,Nat.zero_add];exact⟨⟨T,by omega⟩,l[i.toNat].2,aE,x,d.cell aH (fun f=>f),Y _ (d.trans' (Ext.drew _ _))⟩
  · have:=JI l x;omega
  · intro i T hi;have j:i.toNat<l.length:=by have:=JI l x;omega
    have J:=List.getElem?_eq_getElem j;simp only[J];have:=Iy l x i.toNat _ (by omega) J;exact decide_eq_false (by omega)
  · intro i T hi;have j:i.toNat<l.length:=by omega
    have J:=List.getElem?_eq_getElem j;simp only[J];have:=Jb h.ok x (i:=i.toNat) (by omega) J;exact decide_eq_true (by omega)
theorem U8(h:F2 E w p s l){x:Int}(O:0<=x){K:Bool->World->Prop}(Y: ∀w' b,(b=true↔mem l x)->Ext AN w w'->K b w'):F.Cp E (some p) x K w:=by
  unfold F.Cp T0.Cp;refine Nl hE h O fun w' d=> ?_;have j:=h.E0 d;have hlen:=h.len;simp only[AI];refine⟨s,j.c0,AD (fun aE=> ?_) (fun aD=> ?_)⟩
  · have hl:posn l x<l.length:=by omega
    have C:=List.getElem?_eq_getElem hl;obtain⟨b,hb,T,aC⟩:=j.cells C;refine⟨s,j.c0,?_⟩;rw[hb];simp only[AI,add_eq,Nat.zero_add];refine⟨⟨by omega,by omega⟩,_,by simpa using T,Y _ _ ?_ d⟩;rw[decide_eq_true_iff];constructor
    · intro hle;exact⟨_,List.getElem_mem hl,hle,Pw l x _ C⟩
    · rintro⟨q,J,h1,h2⟩;obtain⟨i,hi,rfl⟩:=List.mem_iff_getElem.1 J;have v:=List.getElem?_eq_getElem hi;rcases Nat.lt_trichotomy i (posn l x)with y|y|y
      · have:=Iy l x i _ y v;omega
      · subst y;exact h1
      · have:=h.ok.lt y C v;have:=(h.ok.get C).2.1;omega
  · refine Y _ _ ?_ d;simp only[Bool.false_eq_true,false_iff];rintro⟨q,J,h1,h2⟩;obtain⟨i,hi,rfl⟩:=List.mem_iff_getElem.1 J;have:=JI l x;have:=Iy l x i _ (by omega) (List.getElem?_eq_getElem hi);omega
theorem IB(h:F2 E w p s l){a b:Int}(ha:0<=a)(aL:a<=b)(hb:b<18446744073709551616){K:Int->World->Prop}(hK: ∀w',Ext AN w w'->K (cnt l a b) w'):
    F.A4 E (some p) a b K w:=by
  unfold F.A4 T0.A4;refine Nl hE h ha fun w1 aC=> ?_;have aS:=h.E0 aC;have hlen:=h.len;have hsm:=h.small;have aM:Lz=4398046511104:=rfl;have aD:=JI l a;refine AK (fun st w'=> ∃k:Nat,st.2.1=(k:Int)/\posn l a<=k/\k<=l.length/\st.1=cnt (l.take k) a b/\Ext AN w w') (fun st _=>(l.length-st.2.1).toNat)
    ⟨posn l a,rfl,Nat.le_refl _,aD,(Pl NY).symm,aC⟩ ?_
  rintro⟨n,i,u⟩ _ w2 ⟨k,hk,aH,aZ,hn,v⟩;simp only at hk hn⊢;subst hk;have d:=h.E0 v;simp only[AI];have fin:(∀q,l[k]? =some q->b<=q.1)->K n w2:=by
    intro O;have:cnt l a b=cnt (l.take k) a b:=by
      conv=>lhs;rw[<-List.take_append_drop k l]
      rw[QZ];have:cnt (l.drop k) a b=0:=by
        refine Qa fun q C=> ?_;obtain⟨i,hi,rfl⟩:=List.mem_iff_getElem.1 C;rw[List.getElem_drop];simp only[List.length_drop]at hi;have y:k<l.length:=by omega
        have h4:=O _ (List.getElem?_eq_getElem y);rcases Nat.eq_zero_or_pos i with rfl|aR
        · simpa using h4
        · have h5:=h.ok.lt (i:=k) (j:=k+i) (by omega) (List.getElem?_eq_getElem y) (List.getElem?_eq_getElem (by omega));have h6:=h.ok.get (List.getElem?_eq_getElem y);omega
      omega
    rw[hn,<-this];exact hK w2 v
  refine⟨s,d.c0,AD (fun aT=> ?_) (fun aU=>fin fun q C=> ?_)⟩
  · have hl:k<l.length:=by omega
    have Y:=List.getElem?_eq_getElem hl;obtain⟨r,hr,T,aE⟩:=d.cells Y;refine⟨s,d.c0,?_⟩;rw[hr];simp only[AI,add_eq,Nat.zero_add,Int.toNat_natCast];refine⟨⟨by omega,by omega⟩,_,T,AD (fun aO=> ?_) (fun aP=>fin fun q C=> ?_)⟩
    · have aB:=d.E0 (Ext.drew _ w2);refine⟨s,aB.c0,?_⟩;rw[hr];simp only[AI,add_eq,Nat.zero_add,Int.toNat_natCast];refine⟨⟨by omega,by omega⟩,l[k].2,aE,s,aB.c0,?_⟩;rw[hr];simp only[AI,add_eq,Nat.zero_add,Int.toNat_natCast];refine⟨⟨by omega,by omega⟩,l[k].1,T,AU fun n' J=> ?_⟩;have C:=h.ok.get Y;have aQ:=Jb h.ok a (i:=k) aH Y;have aA:cnt (l.take (k+1)) a b=n+(min l[k].2 b-max l[k].1 a):=by
        rw[Iu Y,QZ,<-hn];simp only[cnt,Ll];omega
      have aI:Ok (l.take (k+1)):=by
        have:=h.ok;rw[<-List.take_append_drop (k+1) l,EJ]at this;exact this.1
      have hle:=Ec aI aL;have aK:=Cg (l.take (k+1)) a b;have aX:=Cg (l.take k) a b;rw[Pv,NW,AM (n:=min l[k].2 b-max l[k].1 a),<-aA,AM aK (by omega)]at J;refine⟨⟨k+1,?_,by omega,by omega,J,v.trans' (Ext.drew _ _)⟩,?_⟩
      · rw[AH];omega
      · rw[AH];omega
    · rw[Y]at C;cases C;omega
  · have:=(List.getElem?_eq_some_iff.1 C).1;omega
end
theorem F2.IF{E:Env}{w w':World}{b o:Nat}{s:AZ}{l:Iv}{C:Nat->Prop}(h:F2 E w ⟨b,o,none⟩ s l)(hu:L0 b C w w')(hC: ¬C o):F2 E w' ⟨b,o,none⟩ s l:=
  ⟨by rw[hu.DP o hC];exact h.c0,by rw[hu.gZ o];exact h.f0,h.own.ext hu.ext fun g d e=>h.apart _ d e,h.ok,h.iL,h.apart⟩
theorem L1{w:World}{b n t:Nat}{l:List Value}{f:Nat×Nat}(h:w.heap[b]? =some (.cells ⟨l⟩ t f))(d:l.length=n):rowAt w (some ⟨b,0,none⟩) n l:=
  ⟨d,fun j v y=>by rw[add_eq,Nat.zero_add,AS h];simpa using y⟩
def I4(s:AZ):Nat->Prop:=fun k=> ∃a,s.base=some a/\k=a.block
theorem Hp.Wu{w:World}{B t z:Nat}{s:AZ}{vs:List Value}(h:Hp w B t z s vs){k:Nat}(j:I4 s k):B<=k/\k<w.heap.size:=by
  obtain⟨a,d,rfl⟩:=j;exact⟨(h.lt d).1,(h.lt d).2.1⟩
theorem U9{l:Iv}{a b:Int}(h:Ok l)(d:a<b)(v: ∀q∈l,q.2<=Lz):((Cs l a b).length:Int)<=Lz:=
  length_le (Fc h d) Lz (by decide) fun q j=>by
    obtain⟨p,hp,h1,C,y⟩:=Lm h d j;have:=v p hp;omega
theorem cR{l:Iv}{a b:Int}(h:Ok l)(d:a<b)(v: ∀q∈l,q.2<=Lz): ∀q∈Cs l a b,q.2<=Lz:=fun q j=>by
  obtain⟨p,hp,h1,C,y⟩:=Lm h d j;have:=v p hp;omega
theorem P5{E:Env}{w:World}{B g:Nat}{s:AZ}{m:Iv}{q:Int×Int}{K:AZ->World->Prop}(d:Hp w B E.AF 2 s (flat m))(C:w.heap[g]? =some (.cells ⟨[.int .u64 q.1,.int .u64 q.2]⟩ E.AF))
    (Y:B<=w.heap.size)(hm:(m.length:Int)<=Lz+1)
    (O: ∀s' w',Hp w' B E.AF 2 s' (flat (m++[q]))->Ext (I4 s) w w'->(s'.base=s.base∨ ∃b,s'.base=some ⟨b,0,none⟩/\w.heap.size<=b)->K s' w'):
    APP E.AF 2 16 #[.int .u64 0,.int .u64 0] s ⟨some ⟨g,0,none⟩,1,1⟩ w K:=by
  have T:=d.len;rw[Ez]at T;have j:Lz=4398046511104:=rfl;refine NV (news:=[.int .u64 q.1,.int .u64 q.2]) rfl d (L1 C rfl) rfl (by intro v y;simp at y;rcases y with rfl|rfl<;>rfl) Y (by simp only;omega) (by simp only;omega) ?_;intro s' w' ho aA he J;refine O s' w' ?_ he J;rw[Lx];exact ho
theorem Nm{E:Env}{w:World}{B:Nat}{s x:AZ}{m n:Iv}{K:AZ->World->Prop}(d:Hp w B E.AF 2 s (flat m))(J:rowAt w x.base (x.len*2) (flat n))(j:x.len=n.length)
    (T:B<=w.heap.size)(hm:((m.length+n.length:Nat):Int)<=Lz+1)
    (C: ∀s' w',Hp w' B E.AF 2 s' (flat (m++n))->Ext (I4 s) w w'->(s'.base=s.base∨ ∃b,s'.base=some ⟨b,0,none⟩/\w.heap.size<=b)->K s' w'):
    APP E.AF 2 16 #[.int .u64 0,.int .u64 0] s x w K:=by
  have O:=d.len;rw[Ez]at O;have v:Lz=4398046511104:=rfl;refine NV rfl d J (by rw[Ez,j]) (U6 n) T (by omega) (by omega) ?_;intro s' w' ho Y he y;refine C s' w' ?_ he y;rw[Lx];exact ho
theorem GZ{w0 w w':World}{B t z:Nat}{s:AZ}{vs:List Value}(h:Ext AN w0 w)(j:Hp w B t z s vs)(v:w0.heap.size<=B)(he:Ext (I4 s) w w'):Ext AN w0 w':=
  h.trans he (fun _ _ f=>f) fun i hi d=>by have:=j.Wu d;omega
section
variable{E:Env}(hE:EnvS E){w:World}{b o:Nat}{s:AZ}{l:Iv}
include hE
theorem Kc(h:IT E w b o s l){a c:Int}(ha:0<=a)(Y:a<c)(hc:c<18446744073709551616){K:World->Prop}
    (hK: ∀w' s',IT E w' b o s' (Cs l a c)->L0 b (UY o) w w'->Qn w s s'->K w'):F.Bk E (some ⟨b,o,none⟩) a c K w:=by
  unfold F.Bk T0.Bk;refine AD (fun a5=>by omega) (fun _=> ?_);simp only[AI,add_eq];have hd:Ext AN w w.drew:=Ext.drew _ _;refine⟨DE l,h.c1,IB hE (h.row.E0 hd) ha (by omega) hc fun w4 cS=> ?_⟩;have b4:Ext AN w w4:=hd.trans' cS;have bV:b<w.heap.size:=h.row.lt;have h4:=h.ext b4 (fun f=>f) fun _ _ f=>f;refine⟨h4.c1,JZ h4.c1 h4.f1 rfl fun w6 aE=> ?_⟩;have a9:L0 b (UY o) w w6:=(L0.Wt b4 bV).trans (L0.HI aE (.inr rfl));have cD:F2 E w6 ⟨b,o,none⟩ s l:=h4.row.IF (C:=fun j=>j=o+1) (L0.HI aE rfl) (by omega);have b8:u64 (DE l-cnt l a c)=DE (Cs l a c):=by
    rw[QY h.row.ok Y];have h1:=Ij (Fc h.row.ok Y);have h2:=TW (Fc h.row.ok Y);rw[QY h.row.ok Y]at h1 h2;exact AM h1 h2
  rw[b8]at aE;refine Nl hE cD ha fun w8 aR=> ?_;have hlen:=h.row.len;have hsm:=h.row.small;have dC:Lz=4398046511104:=rfl;have cZ:=JI l a;have cI:=cD.E0 aR;have bR: ∀k,k<=l.length->posn l a<=k->((Cs ((l.take k).drop (posn l a)) a c).length:Int)<=Lz:=by
    intro k _ _;have cU:Ok ((l.take k).drop (posn l a)):=by
      have h1:=h.row.ok;rw[<-List.take_append_drop k l,EJ]at h1;have h2:=h1.1;rw[<-List.take_append_drop (posn l a) (l.take k),EJ]at h2;exact h2.2.1
    exact U9 cU Y fun q hq=>h.row.iL q (List.mem_of_mem_take (List.mem_of_mem_drop hq))
  refine AX (fun st w'=> ∃k:Nat,st.1=(k:Int)/\posn l a<=k/\k<=l.length/\(∀q,l[k]? =some q->c<=q.1)/\
      Hp w' w8.heap.size E.AF 2 st.2.1 (flat (Cs ((l.take k).drop (posn l a)) a c))/\Ext AN w8 w') ?_ ?_
  · refine AK (fun st w'=> ∃k:Nat,st.1=(k:Int)/\posn l a<=k/\k<=l.length/\
      Hp w' w8.heap.size E.AF 2 st.2.1 (flat (Cs ((l.take k).drop (posn l a)) a c))/\Ext AN w8 w') (fun st _=>(l.length-st.1).toNat)
      ⟨posn l a,rfl,Nat.le_refl _,cZ,?_,Ext.refl _ _⟩ ?_
    · have:(l.take (posn l a)).drop (posn l a)=[]:=List.drop_eq_nil_of_le (by simp;omega);rw[this];exact Hp.nil _ _ _ _
    · rintro⟨i,rest,u⟩ _ aH ⟨k,hk,aT,bJ,d,aJ⟩;simp only at hk d⊢;subst hk;have aN:=cI.E0 aJ;have out:(∀q,l[k]? =some q->c<=q.1)-> ∃k':Nat,(k:Int)=(k':Int)/\posn l a<=k'/\k'<=l.length/\(∀q,l[k']? =some q->c<=q.1)/\
          Hp aH w8.heap.size E.AF 2 rest (flat (Cs ((l.take k').drop (posn l a)) a c))/\Ext AN w8 aH:=
        fun hq=>⟨k,rfl,aT,bJ,hq,d,aJ⟩
      refine⟨s,aN.c0,AD (fun dG=> ?_) (fun dE=>out fun q hq=> ?_)⟩
      · have hl:k<l.length:=by omega
        have hg:=List.getElem?_eq_getElem hl;obtain⟨r,hr,b7,cQ⟩:=aN.cells hg;refine⟨s,aN.c0,?_⟩;rw[hr];simp only[AI,add_eq,Nat.zero_add,Int.toNat_natCast];refine⟨⟨by omega,by omega⟩,_,b7,AD (fun dA=> ?_) (fun dB=>out fun q hq=> ?_)⟩
        · refine⟨s,aN.c0,?_⟩;rw[hr];simp only[AI,add_eq,Nat.zero_add,Int.toNat_natCast,Nat.add_zero];refine⟨⟨by omega,by omega⟩,l[k].1,b7,l[k].2,cQ,?_⟩;have hq:=h.row.ok.get hg;have dI:=Jb h.row.ok a (i:=k) aT hg;obtain⟨M,hM⟩: ∃M,M=Cs ((l.take k).drop (posn l a)) a c:=⟨_,rfl⟩;rw[<-hM]at d;have dX:(M.length:Int)<=Lz:=by rw[hM];exact bR k bJ aT
          have aV:Cs ((l.take (k+1)).drop (posn l a)) a c=M++NX l[k] a c:=by
            rw[Iu hg,List.drop_append_of_le_length (by simp;omega),Ln,<-hM];simp[Cs]
          refine BK fun d0 cE c7 bD=> ?_;have cH:=aJ.trans' bD;refine HZ _ _ _ _ _ _ _ cE (by simp) (by intro v hv;simp at hv;rcases hv with rfl|rfl<;>rfl) fun bU bA cN aF=> ?_;simp at aF;have cP:=aJ.size;have aY:Ext AN w8 bU:=cH.trans bA (fun _ _ f=>f) fun i hi cW=>by have:i=aH.heap.size:=cW;omega
          have aB:Hp bU w8.heap.size E.AF 2 rest (flat M):=(d.ext bD fun _ _ f=>f).ext bA fun g cT e=>by
            have:=(d.lt cT).2.1;have:g=aH.heap.size:=e;simp at *;omega
          have aI: ¬I4 rest aH.heap.size:=fun hb=>by have:=(d.Wu hb).2;omega
          refine AX (fun st w'=>Hp w' w8.heap.size E.AF 2 st.1 (flat (M++if l[k].1<a then [(l[k].1,a)]else []))/\Ext AN w8 w'/\
              w'.heap[aH.heap.size]? =some (.cells ⟨[.int .u64 l[k].1,.int .u64 l[k].2]⟩ E.AF)/\ ¬I4 st.1 aH.heap.size) ?_ ?_
          · refine⟨l[k].1,by rw[AS aF];rfl,AD (fun bG=> ?_) (fun bE=> ?_)⟩
            · refine⟨l[k].1,by rw[AS aF];rfl,BK fun dM b9 cV aP=> ?_⟩;refine P5 (q:=(l[k].1,a)) (aB.ext aP fun _ _ f=>f) b9 (by have:=aY.size;omega) (by omega) fun dR dQ b3 bC a6=> ?_;refine⟨by rw[if_pos bG];exact b3,GZ (aY.trans' aP) (aB.ext aP fun _ _ f=>f) (Nat.le_refl _) bC,bC.obj (aP.obj aF fun f=>f) aI,?_⟩;rintro⟨x,hx,he⟩;rcases a6 with a6|⟨y,hy,dP⟩
              · exact aI ⟨x,by rw[<-a6];exact hx,he⟩
              · rw[hy]at hx;cases hx;simp only at he;omega
            · refine⟨by rw[if_neg bE,List.append_nil];exact aB,aY,aF,aI⟩
          · rintro⟨dZ,u⟩ _ d3 ⟨aM,aZ,bH,bL⟩;simp only at aM bL⊢;have a4:i64 ((k:Int)+1)=((k+1:Nat):Int):=by rw[AH];omega
            have aW:NX l[k] a c=(if l[k].1<a then [(l[k].1,a)]else [])++if c<l[k].2 then [(c,l[k].2)]else []:=by
              unfold NX;have e1:min l[k].2 a=a:=by omega
              have e2:max l[k].1 c=c:=by omega
              rw[e1,e2]
            refine⟨l[k].2,by rw[AS bH];rfl,AD (fun bG=> ?_) (fun bE=> ?_)⟩
            · refine⟨l[k].2,by rw[AS bH];rfl,BK fun dT bY cX aX=> ?_⟩;have a7:((M++if l[k].1<a then [(l[k].1,a)]else []).length:Int)<=Lz+1:=by
                rw[List.length_append];split<;>simp<;>omega
              refine P5 (q:=(c,l[k].2)) (aM.ext aX fun _ _ f=>f) bY (by have:=aZ.size;omega) a7 fun dL dW cF bX a6=> ?_;refine⟨⟨k+1,a4,by omega,by omega,?_,GZ (aZ.trans' aX) (aM.ext aX fun _ _ f=>f) (Nat.le_refl _) bX⟩,by rw[a4];omega⟩;rw[aV,aW,if_pos (by omega:c<l[k].2),<-List.append_assoc];exact cF
            · refine⟨⟨k+1,a4,by omega,by omega,?_,aZ⟩,by rw[a4];omega⟩;rw[aV,aW,if_neg (by omega: ¬c<l[k].2),List.append_nil];exact aM
        · rw[hg]at hq;cases hq;omega
      · have:=(List.getElem?_eq_some_iff.1 hq).1;omega
  · rintro⟨i,rest,u⟩ _ aA ⟨k,hk,aT,bJ,bS,d,T⟩;simp only at hk d⊢;subst hk;have O:=cI.E0 T;have bZ:Ext AN aA aA.drew:=Ext.drew _ _;simp only[AI,Lk];have bO:s.len<=s.cap:=O.own.cap;refine⟨s,O.c0,⟨by omega,by omega⟩,s,O.c0,⟨by omega,by omega⟩,BK fun bI cB cL b6=> ?_⟩;have aG:Ext AN aA bI:=bZ.trans' b6;have a1:=O.E0 aG;refine⟨a1.c0,a1.c0,?_⟩;have dD:w8.heap.size<=bI.heap.size:=Nat.le_trans T.size aG.size;have aL:Hp bI aA.heap.size E.AF 2 ⟨some ⟨aA.heap.size,0,none⟩,0,0⟩ (flat []):=TU (w:=aA.drew) cB rfl (Nat.le_refl _) (by decide);have b2:=d.ext aG fun _ _ f=>f;have b1:=a1.own.rowAt;have cJ:(flat l).length=s.len*2:=by rw[Ez,hlen]
    have c3:Int.toNat ((posn l a:Nat):Int)=posn l a:=Int.toNat_natCast _;have c2:Int.toNat ((k:Nat):Int)=k:=Int.toNat_natCast _;rw[c3,c2];have aO:=Wn h.row.ok Y aT bS;have bN:=U9 h.row.ok Y h.row.iL;rw[aO,List.length_append,List.length_append]at bN;refine Nm (x:=⟨s.base,posn l a,s.cap⟩) (n:=l.take (posn l a)) aL (by
        have:=Kv (m:=posn l a*2) b1 (by omega) cJ;rwa[Oj]at this) (by simp;omega) (by have:=aG.size;omega) (by simp;omega) fun dO cY a2 bW c6=> ?_
    have aQ:Ext AN aA cY:=GZ aG aL (Nat.le_refl _) bW;have bB:=O.E0 aQ;refine⟨bB.c0,bB.c0,?_⟩;have aC:=d.ext aQ fun _ _ f=>f;simp only[List.nil_append]at a2;refine Nm (x:=rest) (n:=Cs ((l.take k).drop (posn l a)) a c) a2 aC.rowAt (by have:=aC.len;rw[Ez]at this;omega) (by have:=aQ.size;omega)
      (by simp at bN⊢;omega) fun dN c4 bF cC cO=> ?_
    have a3:Ext AN aA c4:=GZ aQ a2 (Nat.le_refl _) cC;have aU:=O.E0 a3;refine⟨aU.c0,aU.c0,?_⟩;refine Nm (x:=⟨Gp s.base s.cap k 2,s.len-k,s.cap-k⟩) (n:=l.drop k) bF (by
        have:=Ja (k:=k) (z:=2) (cap:=s.cap) aU.own.rowAt rfl (by omega) bO cJ;rwa[Ol]at this) (by simp;omega) (by have:=a3.size;omega) (by simp at bN⊢;omega) fun b0 cK aS cG cM=> ?_
    have aK:Ext AN aA cK:=GZ a3 bF (Nat.le_refl _) cG;have aD:=O.E0 aK;refine⟨aD.c0,aD.c0,JZ aD.c0 aD.f0 rfl fun bT J=> ?_⟩;rw[<-aO]at aS;have hu:L0 b (UY o) w bT:=(a9.trans (L0.Wt ((aR.trans' T).trans' aK) (Nat.lt_of_lt_of_le bV a9.ext.size))).trans (L0.HI J (.inl rfl));have a5: ∀x,b0.base=some x->w.heap.size<=x.block:=fun x hx=>by
      have h1:=(aS.lt hx).1;have h2:=a9.ext.size;have h3:=aR.size;have h4:=T.size;omega
    refine hK bT b0 ⟨⟨J.same,by rw[J.frozen];exact aD.f0,?_,Fc h.row.ok Y,cR h.row.ok Y h.row.iL,fun x hx e=>by have:=a5 x hx;simp only at e;omega⟩,?_,?_⟩ hu (.inr a5)
    · refine(aS.lower (Nat.zero_le _)).ext J.ext fun g hg e=> ?_;have:=a5 _ hg;have:g=b:=e;simp only at *
      omega
    · rw[J.other _ (by intro e;injection e with _ e;omega)];exact((aR.trans' T).trans' aK).cell aE.same (fun f=>f)
    · rw[J.frozen,((aR.trans' T).trans' aK).frozen (p:=⟨b,o+1,none⟩) (by have:=a9.ext.size;simp only;omega) (fun f=>f),aE.frozen];exact h4.f1
end
theorem Qo{E:Env}{w0 w:World}{b o g:Nat}{s s1:AZ}{l:Iv}{i k:Nat}{q:Int×Int}{K:World->Prop}
    (hr:F2 E w0 ⟨b,o,none⟩ s l)(Y:Ext AN w0 w)(aE:Hp w w0.heap.size E.AF 2 s1 (flat (l.take i)))(hg:w.heap[g]? =some (.cells ⟨[.int .u64 q.1,.int .u64 q.2]⟩ E.AF))
    (hi:i<=k)(hk:k<=l.length)
    (hK: ∀w' aD s',Hp w' w0.heap.size E.AF 2 s' (flat (l.take i++[q]++l.drop k))->Ext AN w0 w'->Li ⟨b,o,none⟩ (.slice s'.base s'.len s'.cap) w' aD->K aD):
    APP E.AF 2 16 #[.int .u64 0,.int .u64 0] s1 ⟨some ⟨g,0,none⟩,1,1⟩ w fun aB y=>
      y.cell? ⟨b,o,none⟩=some (.slice s.base s.len s.cap)/\y.cell? ⟨b,o,none⟩=some (.slice s.base s.len s.cap)/\
      APP E.AF 2 16 #[.int .u64 0,.int .u64 0] aB ⟨Gp s.base s.cap k 2,s.len-k,s.cap-k⟩ y fun J v=>
      v.cell? ⟨b,o,none⟩=some (.slice s.base s.len s.cap)/\v.cell? ⟨b,o,none⟩=some (.slice s.base s.len s.cap)/\
      stCells ⟨b,o,none⟩ 0 [.slice J.base J.len J.cap] v fun aA=>K aA:=by
  have hlen:=hr.len;have hsm:=hr.small;have aK:Lz=4398046511104:=rfl;have aJ:(flat l).length=s.len*2:=by rw[Ez,hlen]
  refine P5 aE hg Y.size (by simp;omega) fun aB y O aF aM=> ?_;have C:Ext AN w0 y:=GZ Y aE (Nat.le_refl _) aF;have d:=hr.E0 C;refine⟨d.c0,d.c0,?_⟩;refine Nm (x:=⟨Gp s.base s.cap k 2,s.len-k,s.cap-k⟩) (n:=l.drop k) O (by
      have:=Ja (k:=k) (z:=2) (cap:=s.cap) d.own.rowAt rfl (by omega) d.own.cap aJ;rwa[Ol]at this) (by simp;omega) C.size (by simp;omega) fun J v aG aC aL=> ?_
  have T:Ext AN w0 v:=GZ C O (Nat.le_refl _) aC;have j:=hr.E0 T;exact⟨j.c0,j.c0,JZ j.c0 j.f0 rfl fun aA aI=>hK v aA J aG T aI⟩
theorem Qq{E:Env}{w0 w:World}{b o g:Nat}{s:AZ}{l:Iv}{i:Nat}{K:AZ->World->Prop}
    (y:F2 E w0 ⟨b,o,none⟩ s l)(d:Ext AN w0 w)(Y:w.heap[g]? =some (.cells ⟨[]⟩ E.AF))(C:w0.heap.size<=g)(hi:i<=l.length)
    (hK: ∀s' w',Hp w' w0.heap.size E.AF 2 s' (flat (l.take i))->Ext AN w0 w'->Ext (Ix g) w w'->K s' w'):
    APP E.AF 2 16 #[.int .u64 0,.int .u64 0] ⟨some ⟨g,0,none⟩,0,0⟩ ⟨s.base,i,s.cap⟩ w K:=by
  have hlen:=y.len;have hsm:=y.small;have O:Lz=4398046511104:=rfl;have J:(flat l).length=s.len*2:=by rw[Ez,hlen]
  have j:Hp w w0.heap.size E.AF 2 ⟨some ⟨g,0,none⟩,0,0⟩ (flat []):=⟨rfl,Nat.le_refl _,(by decide:(0:Nat)<9223372036854775808),.inr ⟨g,_,rfl,C,Y,rfl,rfl⟩⟩;have v:=y.E0 d;refine Nm (n:=l.take i) j (by
    have:=Kv (m:=i*2) v.own.rowAt (by omega) J;rwa[Oj]at this) (by simp;omega) d.size (by simp;omega) fun s' w' ho he hb=> ?_
  exact hK s' w' ho (GZ d j (Nat.le_refl _) he) (he.mono fun i _ hi=>by obtain⟨a,T,rfl⟩:=hi;cases T;rfl)
theorem cS(l:Iv)(i:Nat)(a:Int):(addLo l i a).2<=i:=by
  unfold addLo;cases i with
  | zero=>simp
  | succ j=>
    simp only;split
    · split<;>simp
    · simp
theorem cT(l:Iv)(i:Nat)(b:Int)(hi:i<=l.length):i<=(addHi l i b).2/\(addHi l i b).2<=l.length:=by
  unfold addHi;split
  · rename_i q hq;have:=(List.getElem?_eq_some_iff.1 hq).1;split<;>simp<;>omega
  · simp;omega
section
variable{E:Env}(hE:EnvS E){w:World}{b o:Nat}{s:AZ}{l:Iv}
include hE
theorem I5(h:IT E w b o s l){a c:Int}(ha:0<=a)(bQ:a<c)(hc:c<=Lz){K:World->Prop}
    (hK: ∀w' s',IT E w' b o s' (CX l a c)->L0 b (UY o) w w'->Qn w s s'->K w'):F.A8 E (some ⟨b,o,none⟩) a c K w:=by
  have dE:Lz=4398046511104:=rfl;unfold F.A8 T0.A8;refine AD (fun aL=>by omega) (fun _=> ?_);refine Kc hE h ha bQ (by omega) fun w1 s1 h1 cP dV=> ?_;simp only[AI,add_eq,Nat.zero_add,Nat.add_zero,Lk];obtain⟨l1,bX⟩: ∃l1,l1=Cs l a c:=⟨_,rfl⟩;rw[<-bX]at h1;have aY:Clear l1 a c:=by rw[bX];exact Qb h.row.ok bQ
  obtain⟨aG,bR,bW⟩:=Sa h1.row.ok bQ ha (by omega) aY;have bZ:CX l a c=Pk l1 a c:=by rw[CX,bX]
  refine⟨DE l1,h1.c1,JZ h1.c1 h1.f1 rfl fun w5 Y=> ?_⟩;have hT:u64 (DE l1+u64 (c-a))=DE (Pk l1 a c):=by
    have h2:=Ij aG;have h3:=TW aG;rw[bW]at h2 h3⊢;rw[AM (n:=c-a),AM]
  rw[hT]at Y;have aW:L0 b (UY o) w w5:=cP.trans (L0.HI Y (.inr rfl));have aX:F2 E w5 ⟨b,o,none⟩ s1 l1:=h1.row.IF (C:=fun j=>j=o+1) (L0.HI Y rfl) (by omega);refine Nl hE aX ha fun w7 bM=> ?_;have aE:=aX.E0 bM;obtain⟨i,hi⟩: ∃i,i=posn l1 a:=⟨_,rfl⟩;rw[<-hi];have cY:i<=l1.length:=by rw[hi];exact JI l1 a
  have hlen:=aE.len;have hsm:=aE.small;obtain⟨cL,aZ⟩:=cT l1 i c cY;have c2:=cS l1 i a;refine BK fun w9 b5 dF c3=> ?_;obtain⟨g,hg⟩: ∃g,g=w7.heap.size:=⟨_,rfl⟩;rw[<-hg]at b5⊢;refine HZ _ _ _ _ _ _ _ b5 (by simp) (by intro v hv;simp at hv;rcases hv with rfl|rfl<;>rfl) fun b3 cH cN aS=> ?_;simp at aS;have aF: ∀{w1 w2:World},Ext AN w7 w1->Ext (Ix g) w1 w2->Ext AN w7 w2:=fun h1 h2=>h1.trans h2 (fun _ _ f=>f) fun i hi e=>by have:i=g:=e;omega
  have aJ:Ext AN w7 b3:=aF c3 cH;refine AX (fun st w'=>st.1=((addHi l1 i c).2:Int)/\w'.heap[g]? =some (.cells ⟨[.int .u64 a,.int .u64 (addHi l1 i c).1]⟩ E.AF)/\Ext AN w7 w') ?_ ?_
  · refine AX (fun st w'=>w'=b3/\(st.1=true↔ ∃q,l1[i]? =some q/\q.1=c)) ?_ ?_
    · have O:=aE.E0 aJ;refine⟨s1,O.c0,AD (fun bS=> ?_) (fun aL=>⟨rfl,?_⟩)⟩
      · have hl:i<l1.length:=by omega
        have aM:=List.getElem?_eq_getElem hl;obtain⟨r,hr,aU,aR⟩:=O.cells aM;refine⟨s1,O.c0,?_⟩;rw[hr];simp only[AI,add_eq,Nat.zero_add,Int.toNat_natCast];refine⟨⟨by omega,by omega⟩,_,aU,trivial,?_⟩;rw[aM];simp
      · have:l1[i]? =none:=List.getElem?_eq_none (by omega);simp[this]
    · rintro⟨bt,u⟩ _ dW ⟨rfl,aD⟩;simp only at aD⊢;have O:=aE.E0 aJ;refine AQ (fun ht=> ?_) (fun hf=> ?_)
      · obtain⟨q,hq,cR⟩:=aD.1 ht;have hl:=(List.getElem?_eq_some_iff.1 hq).1;obtain⟨r,hr,aU,aR⟩:=O.cells hq;refine⟨s1,O.c0,?_⟩;rw[hr];simp only[AI,add_eq,Nat.zero_add,Int.toNat_natCast];refine⟨⟨by omega,by omega⟩,_,aR,?_⟩;refine HZ _ _ _ _ _ _ _ aS (by simp) (by intro v hv;simp at hv;subst hv;rfl) fun cW aO bY aC=> ?_;simp at aC;have hH:addHi l1 i c=(q.2,i+1):=by unfold addHi;rw[hq];simp[cR]
        rw[hH];refine⟨by rw[AH];simp,aC,aF aJ aO⟩
      · have hH:addHi l1 i c=(c,i):=by
          unfold addHi;split
          · rename_i q hq;rw[if_neg];intro e;rw[aD.2 ⟨q,hq,e⟩]at hf;cases hf
          · rfl
        rw[hH];exact⟨rfl,aS,aJ⟩
  · rintro⟨k,u⟩ _ cM ⟨hk,bF,aH⟩;simp only at hk⊢;subst hk;refine AX (fun st w'=>st.1=((addLo l1 i a).2:Int)/\w'.heap[g]? =some (.cells ⟨[.int .u64 (addLo l1 i a).1,.int .u64 (addHi l1 i c).1]⟩ E.AF)/\Ext AN w7 w') ?_ ?_
    · refine AX (fun st w'=>w'=cM/\(st.1=true↔ ∃j q,i=j+1/\l1[j]? =some q/\q.2=a)) ?_ ?_
      · have T:=aE.E0 aH;refine AD (fun bS=> ?_) (fun aL=>⟨rfl,?_⟩)
        · obtain⟨j,rfl⟩: ∃j,i=j+1:=⟨i-1,by omega⟩;have hl:j<l1.length:=by omega
          have aM:=List.getElem?_eq_getElem hl;obtain⟨r,hr,aU,aR⟩:=T.cells aM;refine⟨s1,T.c0,?_⟩;rw[hr];have hm:i64 (((j+1:Nat):Int)-1)=(j:Int):=by rw[AH];omega
          rw[hm];simp only[AI,add_eq,Nat.zero_add,Int.toNat_natCast];refine⟨⟨by omega,by omega⟩,_,aR,trivial,?_⟩;constructor
          · intro he;exact⟨j,_,rfl,aM,by simpa using he⟩
          · rintro⟨j',q,hj,hq,bP⟩;have:j'=j:=by omega
            subst this;rw[aM]at hq;cases hq;simpa using bP
        · constructor
          · intro h;cases h
          · rintro⟨j,q,hj,_⟩;omega
      · rintro⟨bt,u⟩ _ dO ⟨rfl,aD⟩;simp only at aD⊢;have T:=aE.E0 aH;refine AQ (fun ht=> ?_) (fun hf=> ?_)
        · obtain⟨j,q,rfl,hq,bP⟩:=aD.1 ht;have hl:=(List.getElem?_eq_some_iff.1 hq).1;obtain⟨r,hr,aU,aR⟩:=T.cells hq;refine⟨s1,T.c0,?_⟩;rw[hr];have hm:i64 (((j+1:Nat):Int)-1)=(j:Int):=by rw[AH];omega
          rw[hm];simp only[AI,add_eq,Nat.zero_add,Int.toNat_natCast];refine⟨⟨by omega,by omega⟩,_,aU,?_⟩;refine HZ _ _ _ _ _ _ _ bF (by simp) (by intro v hv;simp at hv;subst hv;rfl) fun cW aO bY aC=> ?_;simp at aC;have hH:addLo l1 (j+1) a=(q.1,j):=by unfold addLo;simp only[hq];simp[bP]
          rw[hH];exact⟨rfl,aC,aF aH aO⟩
        · have hH:addLo l1 i a=(a,i):=by
            unfold addLo;cases i with
            | zero=>rfl
            | succ j=>
              simp only;split
              · rename_i q hq;rw[if_neg];intro e;rw[aD.2 ⟨j,q,rfl,hq,e⟩]at hf;cases hf
              · rfl
          rw[hH];exact⟨rfl,bF,aH⟩
    · rintro⟨k2,u⟩ _ J ⟨cA,aP,aV⟩;simp only at cA⊢;subst cA;have a3:Pk l1 a c=l1.take (addLo l1 i a).2++[((addLo l1 i a).1,(addHi l1 i c).1)]++l1.drop (addHi l1 i c).2:=by rw[hi];rfl
      obtain⟨x,hx⟩: ∃x,x=(addLo l1 i a).1:=⟨_,rfl⟩;obtain⟨y,hy⟩: ∃y,y=(addHi l1 i c).1:=⟨_,rfl⟩;obtain⟨i1,aQ⟩: ∃i1,i1=(addLo l1 i a).2:=⟨_,rfl⟩;obtain⟨k,bT⟩: ∃k,k=(addHi l1 i c).2:=⟨_,rfl⟩;rw[<-hx,<-hy]at aP;rw[<-hx,<-hy,<-aQ,<-bT]at a3;rw[<-bT]at cL aZ;rw[<-aQ]at c2;rw[<-bT,<-aQ];have d:=aE.E0 aV;have dD:=d.own.cap;have fin: ∀w' aT s',Hp w' J.heap.size E.AF 2 s' (flat (l1.take i1++[(x,y)]++l1.drop k))->Ext AN J w'->Li ⟨b,o,none⟩ (.slice s'.base s'.len s'.cap) w' aT->K aT:=by
        intro w' aT s' ho he aN;rw[<-a3]at ho;have bS:b<w.heap.size:=h.row.lt;have aK:Ext AN w5 w':=(bM.trans' aV).trans' he;have hu:L0 b (UY o) w aT:=(aW.trans (L0.Wt aK (Nat.lt_of_lt_of_le bS aW.ext.size))).trans (L0.HI aN (.inl rfl));have aL: ∀x,s'.base=some x->w.heap.size<=x.block:=fun x hx=>by
          have h1:=(ho.lt hx).1;have h2:=aW.ext.size;have h3:=(bM.trans' aV).size;omega
        have cK:=aX.E0 aK;refine hK aT s' ?_ hu (.inr aL);rw[bZ];refine⟨⟨aN.same,by rw[aN.frozen];exact cK.f0,?_,aG,?_,fun x hx e=>by have:=aL x hx;simp only at e;omega⟩,?_,?_⟩
        · refine(ho.lower (Nat.zero_le _)).ext aN.ext fun g hg e=> ?_;have h1:=aL _ hg;have h2:g=b:=e;simp only at h1;omega
        · intro q hq;have hm:=(aG.mem hq);have h2:=(bR (q.2-1)).1 ⟨q,hq,by omega,by omega⟩;rcases h2 with ⟨p,hp,h3,h4⟩|h2
          · have:=aX.iL p hp;omega
          · omega
        · rw[aN.other _ (by intro e;injection e with _ e;omega)];exact aK.cell Y.same (fun f=>f)
        · rw[aN.frozen,aK.frozen (p:=⟨b,o+1,none⟩) (by have:=aW.ext.size;simp only;omega) (fun f=>f),Y.frozen];exact h1.f1
      have hd:Ext AN J J.drew:=Ext.drew _ _;have bV:J.cell? ⟨g,0,none⟩=some (.int .u64 x):=by rw[AS aP];rfl
      have bU:J.cell? ⟨g,1,none⟩=some (.int .u64 y):=by rw[AS aP];rfl
      have c5:Int.toNat ((k:Nat):Int)=k:=Int.toNat_natCast _;have cX:Int.toNat ((i1:Nat):Int)=i1:=Int.toNat_natCast _;rw[c5,cX];refine⟨s1,d.c0,⟨by omega,by omega⟩,x,bV,y,bU,s1,d.c0,⟨by omega,by omega⟩,?_,?_⟩
      · refine BK fun b8 a0 c9 cF=> ?_;have aA:Ext AN J b8:=hd.trans' cF;have bH:=d.E0 aA;have c7:J.drew.heap.size=J.heap.size:=rfl;refine⟨bH.c0,⟨aA.cell bV (fun f=>f),aA.cell bU (fun f=>f),trivial⟩,bH.c0,?_,?_⟩
        · refine Qq d aA a0 (by omega) (by omega) fun dZ dL cI aI dI=> ?_;have a6:=d.E0 aI;refine⟨a6.c0,⟨aI.cell bV (fun f=>f),aI.cell bU (fun f=>f),trivial⟩,a6.c0,BK fun dK b4 cQ bJ=> ?_⟩;have a7:=aI.trans' bJ;have bG:=d.E0 a7;exact⟨bG.c0,bG.c0,Qo (q:=(x,y)) d a7 (cI.ext bJ fun _ _ f=>f) b4 (by omega) aZ fin⟩
        · refine BK fun dM b2 dA bD=> ?_;have a9:=aA.trans' bD;have bI:=d.E0 a9;refine⟨bI.c0,bI.c0,Qq d a9 (bD.obj a0 fun f=>f) (by omega) (by omega) fun dR d0 cD a4 cC=> ?_⟩;have bA:=d.E0 a4;exact⟨bA.c0,bA.c0,Qo (q:=(x,y)) d a4 cD (cC.obj b2 fun e=>by have:b8.heap.size=J.drew.heap.size:=e;omega) (by omega) aZ fin⟩
      · refine BK fun b6 b7 cU b9=> ?_;have bC:Ext AN J b6:=hd.trans' b9;have a5:=d.E0 bC;have c7:J.drew.heap.size=J.heap.size:=rfl;refine⟨a5.c0,a5.c0,BK fun dP cJ cO bE=> ?_⟩;have bL:=bC.trans' bE;have bB:=d.E0 bL;refine⟨bB.c0,bB.c0,Qq d bL cJ (by omega) (by omega) fun dT dY cG a8 cE=> ?_⟩;have bK:=d.E0 a8;exact⟨bK.c0,bK.c0,Qo (q:=(x,y)) d a8 cG (cE.obj (bE.obj b7 fun f=>f) fun e=>by have:J.drew.heap.size=b6.heap.size:=e;omega) (by omega) aZ fin⟩
end
end Go.Sh
set_option linter.all false
set_option maxRecDepth 4000
namespace Go.Sh
theorem Nn{w:World}{k:Nat}{es:Array MapEntry}{c:Nat}{i:Nat}{v:Value}(hm:w.heap[k]? =some (.map es c))(d:w.cell? ⟨k,i,none⟩=some v):False:=by
 simp[World.cell?,hm]at d
theorem Hp.Tf{w:World}{B t z:Nat}{s:AZ}{vs:List Value}{k:Nat}{es:Array MapEntry}{c:Nat}(h:Hp w B t z s vs)(hm:w.heap[k]? =some (.map es c)): ¬I4 s k:=by
 rintro⟨a,d,rfl⟩;rcases h.row with ⟨h1,_⟩|⟨b,cs,h1,_,j,_⟩
 ·rw[h1]at d;cases d
 ·rw[h1]at d;cases d;rw[hm]at j;cases j
theorem IT.IF{E:Env}{w w':World}{b o:Nat}{s:AZ}{l:Iv}{C:Nat->Prop}(h:IT E w b o s l)(hu:L0 b C w w')(h0: ¬C o)(h1: ¬C (o+1)):IT E w' b o s l:=
 ⟨h.row.IF hu h0,by rw[hu.DP _ h1];exact h.c1,by rw[hu.gZ];exact h.f1⟩
end Go.Sh
set_option linter.all false
set_option maxRecDepth 4000
namespace Go.Sh
def Iw(p:Int×Int)(a b:Int):Iv:=if p.2<=a∨b<=p.1 then []else [(max p.1 a,min p.2 b)]
def withinL:Iv->Int->Int->Iv
 | [],_,_=>[]
 | p::r,a,b=>Iw p a b++withinL r a b
theorem L2(l m:Iv)(a b:Int):withinL (l++m) a b=withinL l a b++withinL m a b:=by
 induction l with
 | nil=>rfl
 | cons p r ih=>simp[withinL,ih]
theorem PG{l:Iv}{a b:Int}(h: ∀p∈l,p.2<=a∨b<=p.1):withinL l a b=[]:=by
 induction l with
 | nil=>rfl
 | cons p r ih=>
  simp only[withinL,ih fun q d=>h q (List.mem_cons_of_mem _ d),List.append_nil];unfold Iw;rw[if_pos (h p List.mem_cons_self)]
theorem VA(l:Iv)(a b:Int):(withinL l a b).length<=l.length:=by
 induction l with
 | nil=>exact Nat.le_refl _
 | cons p r ih=>
  simp only[withinL,List.length_append,List.length_cons];have:(Iw p a b).length<=1:=by unfold Iw;split<;>simp
  omega
theorem M5{l:Iv}(h:Ok l){a b:Int}(j:a<b): ∀q∈withinL l a b,a<=q.1/\q.1<q.2/\q.2<=b:=by
 induction l with
 | nil=>intro q d;cases d
 | cons p r ih=>
  intro q d;have hp:=h.mem (List.mem_cons_self:p∈p::r);rcases List.mem_append.1 d with d|d
  ·unfold Iw at d;split at d
   ·cases d
   ·rw[List.mem_singleton]at d;subst d;simp only;omega
  ·exact ih h.tail q d
theorem Hp.cells2{w:World}{B t:Nat}{s:AZ}{l:Iv}(h:Hp w B t 2 s (flat l)){i:Nat}{q:Int×Int}(hi:l[i]? =some q):
  ∃b,s.base=some ⟨b,0,none⟩/\w.cell? ⟨b,i*2,none⟩=some (.int .u64 q.1)/\w.cell? ⟨b,i*2+1,none⟩=some (.int .u64 q.2):=by
 have d:=h.rowAt;obtain⟨j,v⟩:=Ly l i q hi;rcases h.row with ⟨h1,y⟩|⟨b,cs,h1,_⟩
 ·rw[h1]at d;have:flat l=[]:=d;rw[this]at j;simp at j
 ·rw[h1]at d;refine⟨b,h1,?_,?_⟩
  ·have:=d.2 _ _ j;rwa[add_eq,Nat.zero_add]at this
  ·have:=d.2 _ _ v;rwa[add_eq,Nat.zero_add]at this
end Go.Sh
set_option linter.all false
set_option maxRecDepth 4000
namespace Go.Sh
section
variable{E:Env}(hE:EnvS E){w:World}{p:Addr}{s:AZ}{l:Iv}
include hE
theorem VB(h:F2 E w p s l){a b:Int}(ha:0<=a)(hb:b<18446744073709551616){K:AZ->World->Prop}
  (hK: ∀s' w',Hp w' w.heap.size E.AF 2 s' (flat (withinL l a b))->Ext AN w w'->K s' w'):F.Bl E (some p) a b K w:=by
 unfold F.Bl T0.Bl;refine Nl hE h ha fun w2 aV=> ?_;have hlen:=h.len;have hsm:=h.small;have aY:Lz=4398046511104:=rfl;have aN:=JI l a;simp only[AI,add_eq,Nat.zero_add];have J:withinL (l.take (posn l a)) a b=[]:=PG fun q hq=>.inl (NY q hq);refine AK (fun st w'=> ∃k:Nat,st.2.1=(k:Int)/\posn l a<=k/\k<=l.length/\Hp w' w.heap.size E.AF 2 st.1 (flat (withinL (l.take k) a b))/\Ext AN w w')
  (fun st _=>(l.length-st.2.1).toNat) ⟨posn l a,rfl,Nat.le_refl _,aN,by rw[J];exact Hp.nil _ _ _ _,aV⟩ ?_
 rintro⟨s3,i,u⟩ _ w4 ⟨k,hk,aS,bD,C,O⟩;simp only at hk C⊢;subst hk;have h4:=h.E0 O;have fin:(∀q,l[k]? =some q->b<=q.1)->K s3 w4:=fun Y=>by
  refine hK s3 w4 ?_ O;have:withinL l a b=withinL (l.take k) a b:=by
   have e:l=l.take k++l.drop k:=(List.take_append_drop k l).symm
   conv=>lhs;rw[e]
   rw[L2];rw[PG (l:=l.drop k),List.append_nil];intro q hq;right;obtain⟨j,hj⟩:=List.mem_iff_getElem?.1 hq;rw[List.getElem?_drop]at hj;by_cases hj0:j=0
   ·subst hj0;exact Y q hj
   ·have aE:k<l.length:=by have:=(List.getElem?_eq_some_iff.1 hj).1;omega
    have:=Y _ (List.getElem?_eq_getElem aE);have h2:=h.ok.lt (i:=k) (j:=k+j) (by omega) (List.getElem?_eq_getElem aE) hj;have h3:=h.ok.get (List.getElem?_eq_getElem aE);omega
  rw[this];exact C
 refine⟨s,h4.c0,AD (fun a8=> ?_) (fun a1=>fin fun q hq=>by have:=(List.getElem?_eq_some_iff.1 hq).1;omega)⟩;have hl:k<l.length:=by omega
 have hg:=List.getElem?_eq_getElem hl;obtain⟨r,T,aD,aH⟩:=h4.cells hg;generalize hq:l[k]=q at hg aD aH;have bC:=h.ok.get hg;have a7:=h.iL q (List.mem_of_getElem? hg);refine⟨s,h4.c0,?_⟩;rw[T];simp only[AI,add_eq,Nat.zero_add,Int.toNat_natCast,Nat.add_zero];refine⟨⟨by omega,by omega⟩,q.1,aD,AD (fun a3=> ?_) (fun aZ=>fin fun q' aI=>by rw[hg]at aI;cases aI;omega)⟩;have hd:Ext AN w4 w4.drew:=Ext.drew _ _;have y: ∀{w'},Ext AN w4 w'->w'.cell? p=some (.slice s.base s.len s.cap)/\w'.cell? ⟨r,k*2,none⟩=some (.int .u64 q.1)/\w'.cell? ⟨r,k*2+1,none⟩=some (.int .u64 q.2):=fun he=>
  ⟨he.cell h4.c0 fun f=>f,he.cell aD fun f=>f,he.cell aH fun f=>f⟩
 obtain⟨c1,c2,c3⟩:=y hd;refine⟨s,c1,?_⟩;rw[T];simp only[AI,add_eq,Nat.zero_add];refine⟨⟨by omega,by omega⟩,q.1,c2,s,c1,?_⟩;rw[T];simp only[AI,add_eq,Nat.zero_add];refine⟨⟨by omega,by omega⟩,q.2,c3,BK fun aU aP aW v=> ?_⟩;obtain⟨d1,d2,d3⟩:=y (hd.trans' v);refine⟨d3,by rw[<-T];exact d1,d2,by rw[<-T];exact d1,?_⟩;have d:=C.ext (hd.trans' v) fun _ _ f=>f;have bF:=VA (l.take k) a b;have a2:(l.take k).length=k:=by simp;omega
 refine P5 (q:=(Oa q.1 a,Rz q.2 b)) d aP (by have:=O.size;have:=(hd.trans' v).size;omega) (by omega) fun a9 a6 aK aL bG=> ?_;have aJ:Ext AN w aU:=O.trans' (hd.trans' v);have aA:=GZ aJ d (Nat.le_refl _) aL;have aC:=h.E0 aA;obtain⟨r',aG,e1,e2⟩:=aC.cells hg;rw[T]at aG;cases aG;refine⟨e2,by rw[<-T];exact aC.c0,e1,by rw[<-T];exact aC.c0,?_⟩;rw[AH];refine⟨⟨k+1,by omega,by omega,by omega,?_,aA⟩,by omega⟩;have aT:l.take (k+1)=l.take k++[q]:=Iu hg;have a0:=Jb h.ok a (i:=k) (p:=q) aS hg;rw[aT,L2];have:withinL [q] a b=[(Oa q.1 a,Rz q.2 b)]:=by
  simp only[withinL,List.append_nil,Iw];rw[if_neg (by omega),NW,Pv]
 rw[this];exact aK
end
end Go.Sh
set_option linter.all false
set_option maxRecDepth 4000
namespace Go.Sh
def KN(E:Env)(s:AZ)(l:Iv):Pr:=Jv (Ok l/\ ∀q∈l,q.2<=Lz) (Row E.AF 2 s (flat l))
section
variable{E:Env}{R:List Pr}{w w':World}{b t o:Nat}{vs:List Value}{s s':AZ}{l l':Iv}
theorem Sat.setAt(H:Sat (Cells b t vs::KN E s l::R) w)(h0:vs[o]? =some (.slice s.base s.len s.cap))(h1:vs[o+1]? =some (.int .u64 (DE l))):IT E w b o s l:=by
 obtain⟨D,y,T,d,⟨K,O,⟨Bi,j⟩,_,_,J⟩,C,_⟩:=H;refine⟨⟨(d.2.2 o _ h0).1,(d.2.2 o _ h0).2,j.2,Bi.1,Bi.2,fun a v e=> ?_⟩,(d.2.2 _ _ h1).1,(d.2.2 _ _ h1).2⟩;have h1:y a.block:=(d.1 _).2 e;exact C _ h1 ((J _).2 (.inl ((j.1 _).2 ⟨a,v,rfl⟩)))
theorem Sat.YH(H:Sat (Cells b t vs::KN E s l::R) w)(ho:o+1<vs.length)(hs:IT E w' b o s' l')(hu:L0 b (UY o) w w')(hf:Qn w s s'):
  Sat (Cells b t ((vs.set o (.slice s'.base s'.len s'.cap)).set (o+1) (.int .u64 (DE l')))::KN E s' l'::R) w':=by
 obtain⟨D,D1,D2,y,⟨D3,Y,⟨Bi,hr⟩,hF,O,J⟩,hd,hD⟩:=H;have C: ∀k,Nb s' k->Nb s k∨w.heap.size<=k:=by
  rintro k ⟨a,K,rfl⟩;rcases hf with e|e
  ·exact .inl ⟨a,by rw[<-e];exact K,rfl⟩
  ·exact .inr (e a K)
 have hb:b<w.heap.size:=y.2.1;have aA: ∀k,Nb s' k->k≠b:=by
  rintro k ⟨a,K,rfl⟩;exact hs.row.apart a K
 refine⟨fun k=>k=b∨Nb s' k∨Y k,fun k=>k=b,fun k=>Nb s' k∨Y k,⟨fun _=>Iff.rfl,by have:=hu.ext.size;omega,fun j v d=> ?_⟩,⟨Nb s',Y,⟨⟨hs.row.ok,hs.row.iL⟩,fun _=>Iff.rfl,hs.row.own⟩,?_,?_,fun _=>Iff.rfl⟩,?_,fun _=>Iff.rfl⟩
 ·rw[List.getElem?_set,List.getElem?_set]at d;rw[hu.gZ];by_cases e1:o+1=j
  ·subst e1;rw[if_pos rfl,if_pos (by simpa using ho)]at d;cases d;exact⟨hs.c1,(y.2.2 (o+1) _ (List.getElem?_eq_getElem ho)).2⟩
  ·rw[if_neg e1]at d;by_cases e2:o=j
   ·subst e2;rw[if_pos rfl,if_pos (by omega)]at d;cases d;exact⟨hs.row.c0,(y.2.2 o _ (List.getElem?_eq_getElem (by omega))).2⟩
   ·rw[if_neg e2]at d;rw[hu.DP j (by unfold UY;omega)];exact y.2.2 j v d
 ·exact hF.loc hu.ext fun k T e=>by
   have e:k=b:=e;subst e;exact hd _ ((y.1 _).2 rfl) ((J _).2 (.inr T))
 ·intro k T h4;rcases C k T with e|e
  ·exact O k ((hr.1 k).2 e) h4
  ·have:=hF.lt h4;omega
 ·rintro k rfl (h|h)
  ·exact aA _ h rfl
  ·exact hd _ ((y.1 _).2 rfl) ((J _).2 (.inr h))
variable(hE:EnvS E)
include hE
theorem Tg(H:Sat (Cells b t vs::KN E s l::R) w)(h0:vs[o]? =some (.slice s.base s.len s.cap))(h1:vs[o+1]? =some (.int .u64 (DE l))){x:Int}(d:0<=x){K:Bool->World->Prop}
  (j: ∀w' r,(r=true↔mem l x)->Ext AN w w'->K r w'):F.Cp E (some ⟨b,o,none⟩) x K w:=U8 hE (H.setAt h0 h1).row d j
theorem No(H:Sat (Cells b t vs::KN E s l::R) w)(h0:vs[o]? =some (.slice s.base s.len s.cap))(h1:vs[o+1]? =some (.int .u64 (DE l))){x y:Int}(j:0<=x)(d:x<=y)(C:y<18446744073709551616)
  {K:Int->World->Prop}(v: ∀w',Ext AN w w'->K (cnt l x y) w'):F.A4 E (some ⟨b,o,none⟩) x y K w:=IB hE (H.setAt h0 h1).row j d C v
theorem cU(H:Sat (Cells b t vs::KN E s l::R) w)(h0:vs[o]? =some (.slice s.base s.len s.cap))(h1:vs[o+1]? =some (.int .u64 (DE l))){x y:Int}(j:0<=x)(d:x<y)(v:y<18446744073709551616){K:World->Prop}
  (C: ∀w' s',Sat (Cells b t ((vs.set o (.slice s'.base s'.len s'.cap)).set (o+1) (.int .u64 (DE (Cs l x y))))::KN E s' (Cs l x y)::R) w'->K w'):F.Bk E (some ⟨b,o,none⟩) x y K w:=
 Kc hE (H.setAt h0 h1) j d v fun w' s' hs hu hf=>C w' s' (H.YH (List.getElem?_eq_some_iff.1 h1).1 hs hu hf)
theorem Wv(H:Sat (Cells b t vs::KN E s l::R) w)(h0:vs[o]? =some (.slice s.base s.len s.cap))(h1:vs[o+1]? =some (.int .u64 (DE l))){x y:Int}(j:0<=x)(d:x<y)(v:y<=Lz){K:World->Prop}
  (C: ∀w' s',Sat (Cells b t ((vs.set o (.slice s'.base s'.len s'.cap)).set (o+1) (.int .u64 (DE (CX l x y))))::KN E s' (CX l x y)::R) w'->K w'):F.A8 E (some ⟨b,o,none⟩) x y K w:=
 I5 hE (H.setAt h0 h1) j d v fun w' s' hs hu hf=>C w' s' (H.YH (List.getElem?_eq_some_iff.1 h1).1 hs hu hf)
end
theorem KN.ok{E:Env}{s:AZ}{l:Iv}{R:List Pr}{w:World}(H:Sat (KN E s l::R) w):Ok l/\ ∀q∈l,q.2<=Lz:=(Sat.where.1 H).1
theorem Sat.Ww{E:Env}{R:List Pr}{w:World}(H:Sat R w):Sat (KN E ⟨none,0,0⟩ []::R) w:=
 Sat.where.2 ⟨⟨trivial,by simp⟩,H.nil E.AF 2⟩
end Go.Sh

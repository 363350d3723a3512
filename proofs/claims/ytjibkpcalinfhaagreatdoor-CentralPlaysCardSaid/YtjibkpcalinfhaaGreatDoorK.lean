/- What the law's functions do. No further condition. -/
import Derived.Test.YtjibkpcalinfhaaGreatDoorA
import Derived.Test.YtjibkpcalinfhaaGreatDoorC
import Derived.Test.YtjibkpcalinfhaaGreatDoorS
import Derived.Test.YtjibkpcalinfhaaGreatDoorF
import Derived.Test.YtjibkpcalinfhaaGreatDoorQ
import Derived.Test.YtjibkpcalinfhaaGreatDoorL
import Derived.Test.YtjibkpcalinfhaaGreatDoorY
import Derived.Test.YtjibkpcalinfhaaGreatDoorH
import Derived.Test.YtjibkpcalinfhaaGreatDoorR
set_option linter.all false
set_option maxRecDepth 50000
set_option maxHeartbeats 4000000
namespace Go.Sh
def Sat.gO{F:List Pr}{w:World}{t:Nat}{s:AX}{vs us:List Value}(H:Sat (Row t 1 s (vs++us)::F) w):Sat (Row t 1 ⟨s.base,vs.length,s.cap⟩ vs::F) w:=by
 obtain⟨D,h,hs⟩:=H.step;have d:=h.2;have J:vs.length+us.length=s.len:=by have:=d.len;grind
 refine hs w D _ (Ext.refl _ _) ⟨h.1,⟨by simp,by have:=d.cap;grind,d.top,?_⟩⟩ λ_ hk=>.inl hk;rcases d.row with ⟨h1,h2⟩|⟨b,cs,h1,h2,j,v,y⟩
 .grind
 .refine .inr ⟨b,cs,h1,h2,j,v,?_⟩;have C:((cs.toList.take (s.len*1)).take (vs.length*1))=vs:=by
   rw[y,List.take_left' (by omega)]
  grind
def vK{F:List Pr}{w:World}{t:Nat}{s:AX}{vs:List Value}{v:Value}(H:Sat (Row t 1 s (vs++[v])::F) w)(Y: ∀u∈vs,u.oneCell'=true){i:Nat}(O:i<=vs.length){K:Nat->World->Prop}
  (C: ∀n w' u,Sat (Row t 1 s (vs.take i++u::vs.drop i)::F) w'->K n w'):
  CPY 1 ⟨GN s.base s.cap (i+1) 1,s.len-(i+1),s.cap-(i+1)⟩ ⟨GN s.base s.cap i 1,s.len-i,s.cap-i⟩ w K:=by
 have T:=H.C1;simp at T;have j:=H.own.cap;have y:Nat.min (s.len-i) (s.len-(i+1))=vs.length-i:=by grind
 obtain⟨b,J⟩:=H.own.Ep (by omega);have h1:=Ip (z:=1) H.JJ rfl (k:=i) (by omega) j H.C1;have hd:(vs++[v]).drop (i*1)=vs.drop i++[v]:=by grind
 rw[hd]at h1;have h2:=Kr h1 (m:=vs.length-i) (by omega) (by simp;omega);rw[List.take_left' (by simp)]at h2;unfold CPY;simp only[y];refine⟨vs.drop i,by simpa using h2,?_⟩;have d:GN s.base s.cap (i+1) 1=some (if s.cap=i+1 then(Addr.mk b 0 none)else(Addr.mk b 0 none).add (i+1)):=by
  rw[J];unfold GN
  grind
 rw[d];simp only;by_cases hc:s.cap=i+1
 .have:vs.drop i=[]:=List.drop_eq_nil_iff.2 (by omega);rw[if_pos hc,this];refine C _ w v ?_;have e:vs.take i=vs:=List.take_of_length_le (by omega)
  grind
 .rw[if_neg hc];obtain⟨u,hu⟩: ∃u,(vs++[v])[i]? =some u:=⟨_,List.getElem?_eq_getElem (by simp;omega)⟩;refine SN (vs.drop i) (i+1) 0 H (by simp;omega) (λx hx=>Y x (List.mem_of_mem_drop hx)) J λw' H'=>C _ w' u ?_;have e1:(vs++[v]).take (i+1+0)=vs.take i++[u]:=by
   rw[Nat.add_zero,List.take_succ,hu,List.take_append_of_le_length O];rfl
  have e2:(vs++[v]).drop (i+1+0+(vs.drop i).length)=[]:=List.drop_eq_nil_iff.2 (by simp;omega)
  grind
def qD{F:List Pr}{w:World}{t bytes:Nat}{s:AX}{vs:List Value}{zs:Array Value}(H:Sat (Row t 1 s vs::F) w)(J: ∀u∈vs,u.oneCell'=true){i:Nat}(T:i<vs.length){K:AX->World->Prop}
  (y: ∀s' w',Sat (Row t 1 s' (vs.eraseIdx i)::F) w'->K s' w'):
  APP t 1 bytes zs ⟨GN s.base s.cap 0 1,i,s.cap⟩ ⟨GN s.base s.cap (i+1) 1,s.len-(i+1),s.cap-(i+1)⟩ w K:=by
 have C:=H.C1;simp at C;have d:=H.own.cap;obtain⟨b,j⟩:=H.own.Ep (by omega);have h1:=Ip (z:=1) H.JJ rfl (k:=i+1) (by omega) d H.C1;rw[Ll];refine⟨vs.drop (i+1),by simpa using h1,λ_=> ?_,λg=> ?_⟩
 .rw[j];simp only;rw[show i*1=i by omega];refine SN (vs.drop (i+1)) i 0 H (by simp;omega) (λx O=>J x (List.mem_of_mem_drop O)) j λw' v=> ?_;rw[show i+(s.len-(i+1))=(vs.eraseIdx i).length by grind,<-j];refine y _ w' (Sat.gO (us:=vs.drop (i+0+(vs.drop (i+1)).length)) ?_);rw[List.eraseIdx_eq_take_drop_succ];simpa using v
 grind
structure DF where
 GR:Nat
 id:Int
 base:Int
 kd:Kd
abbrev DF.D0(x:DF):Bool:=x.kd.2.2.2
def Ia(x:DF):Value:=.pointer (some ⟨x.GR,0,none⟩)
def C6(x:DF):List Value:=[.int .i64 x.id,.int .u64 x.base,.int .i64 x.kd.1,.bool x.kd.2.1,.bool x.kd.2.2.1,.bool x.kd.2.2.2]
def YB(E:Env)(x:DF):Pr:=Cells x.GR E.HZ (C6 x)
def F6(f:DF->Int)(L:List DF):Int->Option Value:=λi=>(L.find? λx=>f x==i).map Ia
def Dm(L:List DF)(k:Kd):List DF:=L.filter λx=>decide (x.kd=k)
def IC(L:List DF)(x:DF):List DF:=L.take (pos (·.base) L x.base)++x::L.drop (pos (·.base) L x.base)
def Fk(L:List DF)(id:Int):List DF:=L.filter λx=>decide (x.id≠id)
def IW.ext{α:Type}{key:α->Int}: ∀{A B:List α},IW key A->IW key B->(∀x,x∈A↔x∈B)->A=B
 | [],[],_,_,_=>rfl
 | [],b::s,_,_,h=>by have:=(h b).2 List.mem_cons_self;cases this
 | a::r,[],_,_,h=>by have:=(h a).1 List.mem_cons_self;cases this
 | a::r,b::s,hA,hB,h=>by
  have j:=List.pairwise_cons.1 hA;have d:=List.pairwise_cons.1 hB;have e:a=b:=by
   rcases List.mem_cons.1 ((h a).1 List.mem_cons_self)with e|h1
   .exact e
   .rcases List.mem_cons.1 ((h b).2 List.mem_cons_self)with e|h2
    .exact e.symm
    .have:=d.1 a h1;grind
  subst e;rw[IW.ext j.2 d.2 λx=> ?_]
  grind
def I9(L:List DF)(x:DF):(IC L x).Perm (x::L):=by
 unfold IC;exact List.perm_middle.trans (by rw[List.take_append_drop])
def KI{L:List DF}{x y:DF}:y∈IC L x↔y=x∨y∈L:=by rw[(I9 L x).mem_iff,List.mem_cons]
def Py{L:List DF}{x:DF}(hs:IW (·.base) L)(j: ∀y∈L,y.base≠x.base):IW (·.base) (IC L x):=by
 unfold IC;have:=IW.gA (L:=L.take (pos (·.base) L x.base)) (M:=[x]) (N:=L.drop (pos (·.base) L x.base)) (hs.take _) (by simp[IW]) (hs.drop _) (a:=x.base) (b:=x.base+1) (by omega) (λc d=>(Kb d).2) (λc d=>by grind) λc d=>by
  have h1:=Kc hs d
  grind
 grind
def FB{L:List DF}{id:Int}{y:DF}:y∈Fk L id↔y∈L/\y.id≠id:=by simp[Fk]
def EL{L:List DF}{k:Kd}{y:DF}:y∈Dm L k↔y∈L/\y.kd=k:=by simp[Dm]
def KA{L:List DF}(hs:IW (·.base) L)(k:Kd):IW (·.base) (Dm L k):=hs.filter _
def lU{L:List DF}(hs:IW (·.base) L)(id:Int):IW (·.base) (Fk L id):=hs.filter _
def aK{L:List DF}{x:DF}{k:Kd}(hs:IW (·.base) L)(d: ∀y∈L,y.base≠x.base)(h:x.kd≠k):Dm (IC L x) k=Dm L k:=
 IW.ext (KA (Py hs d) k) (KA hs k) λy=>by
  rw[EL,EL,KI]
  grind
def qE{L:List DF}{x:DF}(hs:IW (·.base) L)(d: ∀y∈L,y.base≠x.base):Dm (IC L x) x.kd=IC (Dm L x.kd) x:=
 IW.ext (KA (Py hs d) _) (Py (KA hs _) λy j=>d y (EL.1 j).1) λy=>by
  rw[EL,KI,KI,EL]
  grind
def MT{α β:Type}{f:α->β}: ∀{L:List α},(L.map f).Nodup->L.Nodup
 | [],_=>.nil
 | x::r,h=>by
  rw[List.map_cons,List.nodup_cons]at h;rw[List.nodup_cons];exact⟨λd=>h.1 (List.mem_map.2 ⟨x,d,rfl⟩),MT h.2⟩
def map_inj{α β:Type}{f:α->β}: ∀{L:List α},(L.map f).Nodup-> ∀{x y},x∈L->y∈L->f x=f y->x=y
 | [],_,x,y,d,_,_=>by cases d
 | a::r,h,x,y,d,j,e=>by
  rw[List.map_cons,List.nodup_cons]at h;rcases List.mem_cons.1 d with h1|d
  .rcases List.mem_cons.1 j with h2|j
   .rw[h1,h2]
   .exact absurd (List.mem_map.2 ⟨y,j,by rw[<-e,h1]⟩) h.1
  .rcases List.mem_cons.1 j with h2|j
   .exact absurd (List.mem_map.2 ⟨x,d,by rw[e,h2]⟩) h.1
   .exact map_inj h.2 d j e
def VI{α:Type}{key:α->Int}{L:List α}(hs:IW key L):(L.map key).Nodup:=List.Pairwise.map _ (λa b h=>by omega) hs
def L0{f:DF->Int}{L:List DF}{i:Int}:F6 f L i=none↔ ∀x∈L,f x≠i:=by
 unfold F6;rw[Option.map_eq_none_iff,List.find?_eq_none];simp
def gP{f:DF->Int}{L:List DF}(d:(L.map f).Nodup){x:DF}(j:x∈L):F6 f L (f x)=some (Ia x):=by
 unfold F6;cases h:L.find? λy=>f y==f x with
 | none=>grind
 | some y=>
  have h1:=List.find?_some h;have h2:=List.mem_of_find?_eq_some h;rw[map_inj d h2 j (by simpa using h1)];rfl
def Pz{f:DF->Int}{L:List DF}{i:Int}{v:Value}(h:F6 f L i=some v): ∃x∈L,f x=i/\v=Ia x:=by
 unfold F6 at h;rw[Option.map_eq_some_iff]at h
 grind
def VJ{f:DF->Int}{L L':List DF}(d:(L.map f).Nodup)(hp:L.Perm L'):F6 f L=F6 f L':=by
 funext i;cases h:F6 f L' i with
 | none=>rw[L0]at h⊢;grind
 | some v=>
  obtain⟨x,j,rfl,rfl⟩:=Pz h;exact gP d (hp.mem_iff.2 j)
def Nz{f:DF->Int}{L:List DF}{x:DF}:F6 f (x::L)=λi=>if i=f x then some (Ia x)else F6 f L i:=by
 funext i;unfold F6
 grind
def YC{f:DF->Int}{L:List DF}{x:DF}(d:(L.map f).Nodup)(j: ∀y∈L,f y≠f x):F6 f (IC L x)=λi=>if i=f x then some (Ia x)else F6 f L i:=by
 rw[<-Nz];refine VJ ?_ (I9 L x);rw[((I9 L x).map f).nodup_iff,List.map_cons,List.nodup_cons]
 grind
def WE: ∀{L:List DF} (d:(L.map (·.id)).Nodup) {j:Nat} {x:DF},L[j]? =some x->Fk L x.id=L.eraseIdx j
 | a::r,d,0,x,h=>by
  have h:a=x:=Option.some.inj h;subst h;rw[List.map_cons,List.nodup_cons]at d;unfold Fk;rw[List.filter_cons,if_neg (by simp),List.eraseIdx_cons_zero];exact List.filter_eq_self.2 λy J=>by grind
 | a::r,d,j+1,x,h=>by
  rw[List.map_cons,List.nodup_cons]at d;have h:r[j]? =some x:=by grind
  have v:=List.mem_of_getElem? h;have ne:a.id≠x.id:=λe=>d.1 (List.mem_map.2 ⟨x,v,e.symm⟩);have C:=WE d.2 h;unfold Fk at C⊢
  grind
def L1{L:List DF}(v:(L.map (·.id)).Nodup){x:DF}(y:x∈L):L.Perm (x::Fk L x.id):=by
 obtain⟨j,d⟩:=List.mem_iff_getElem?.1 y;rw[WE v d];exact C0 d
def YD{f:DF->Int}{L:List DF}{x:DF}(d:(L.map (·.id)).Nodup)(j:(L.map f).Nodup)(v:x∈L):F6 f (Fk L x.id)=λi=>if i=f x then none else F6 f L i:=by
 have hp:=L1 d v;rw[VJ j hp,Nz];funext i;by_cases e:i=f x
 .rw[if_pos e,L0]
  grind
 grind
structure KJ(L:List DF):Prop where
 Ho:IW (·.base) L
 nd:(L.map (·.id)).Nodup
 KV:L.length<=1099511627776
structure iO where
 bi:Nat
 bb:Nat
 bm:Nat
 kinds:List Kd
 sl:Kd->AX
def Qj(ks:List Kd)(sl:Kd->AX):Kd->Option Value:=λk=>if k∈ks then some (FJ (sl k))else none
def UO(E:Env)(sl:Kd->AX)(L:List DF)(k:Kd):Pr:=Row E.DZ 1 (sl k) ((Dm L k).map Ia)
def KB(g:iO):List Value:=[.map (some g.bi),.map (some g.bb),.map (some g.bm)]
def Mj(E:Env)(b:Nat)(L:List DF)(g:iO):List Pr:=
 [Cells b E.Ew (KB g),DY g.bi .i64 (F6 (·.id) L),DY g.bb .u64 (F6 (·.base) L),MapK g.bm (Qj g.kinds g.sl),Aa (UO E g.sl L) g.kinds,Aa (YB E) L]
structure qF(L:List DF)(g:iO):Prop where
 inv:KJ L
 kn:g.kinds.Nodup
 ks: ∀x∈L,x.kd∈g.kinds
def Gf(E:Env)(b:Nat)(L:List DF):Pr:=Ex λg:iO=>Jj (qF L g) (Lo (Mj E b L g))
section
variable{E:Env}{w:World}{Z:List Pr}{b:Nat}{L:List DF}{g:iO}
def Sat.Dt:Sat (Gf E b L::Z) w↔ ∃g,qF L g/\Sat (Mj E b L g++Z) w:=by
 unfold Gf;rw[Sat.ex];constructor
 .rintro⟨g,h⟩;rw[Sat.where,Sat.star]at h
  grind
 .rintro⟨g,h1,h2⟩;refine⟨g,?_⟩;rw[Sat.where,Sat.star]
  grind
def Sat.qG(H:Sat (Gf E b L::Z) w):KJ L:=let⟨_,h,_⟩:=Sat.Dt.1 H;h.inv
def aL(H:Sat Z w){K:Option Addr->World->Prop}(T: ∀b w',Sat (Gf E b []::Z) w'->K (some ⟨b,0,none⟩) w'):F.PV E K w:=by
 unfold F.PV;refine Vp H .i64 λb1 w2 v _=>Vp v .u64 λd w4 y _=>cI y λj w6 C _=> ?_;refine AO (vs:=[.map (some b1),.map (some d),.map (some j)]) C λO Y J _=>T O Y (Sat.Dt.2 ⟨⟨b1,d,j,[],λ_=>⟨none,0,0⟩⟩,⟨⟨.nil,.nil,by decide⟩,.nil,λ_ h=>(by cases h)⟩,?_⟩);have h2:=((J.LH (UO E (λ_=>⟨none,0,0⟩) [])).front 0 rfl).LH (YB E);exact((((h2.front 1 rfl).front 3 rfl).front 4 rfl).front 5 rfl).front 5 rfl
end
structure EnvW(E:Env):Prop extends EnvA E where
 lV: ∀i p1 p2 (R:Value->World->Prop) w,F.HQ E i p1 p2 (λr w'=>R (.bool r) w') w->E.call E.IG #[.int .i64 i,.pointer p1,.pointer p2] w R Kk
section
variable{E:Env}(hE:EnvW E){w:World}
include hE
theorem P5{p:Addr}{bm:Nat}{k:Kd}{a:Int}{s:AX}{l:List DF}{G:Kd->Option Value}{Z:List Pr}(hc:w.cell? (p.add 2)=some (.map (some bm)))(H:Sat (MapK bm G::Z) w)(j:(G k).getD (.slice none 0 0)=FJ s)
  (hr:rowAt w s.base s.len (l.map Ia))(hl:l.length=s.len)(aS:s.len<4611686018427387904)(hi: ∀x∈l,w.cell? ⟨x.GR,1,none⟩=some (.int .u64 x.base))(hs:IW (·.base) l){K:Int->World->Prop}
  (hK: ∀w',Ext AQ w w'->K ((pos (·.base) l a:Nat):Int) w'):F.Dy E (some p) k.1 k.2.1 k.2.2.1 k.2.2.2 a K w:=by
 unfold F.Dy T0.Dy;refine AO (vs:=Mq k) (Sat.start w) λb1 w2 H2 e2=>AO (vs:=[.int .u64 a]) H2 λb3 w4 H4 e4=> ?_;simp only[AG];have H5:=H4.drew;have e5:=H5.N7 2 rfl;have c5:=H5.front 1 rfl;refine⟨some bm,e5.cell hc (λf=>f),k.1,c5.cell rfl,k.2.1,c5.cell rfl,k.2.2.1,c5.cell rfl,k.2.2.2,c5.cell rfl,?_⟩;refine Vv (n:=k) (H.nothing e5) λes Y=>⟨s,j,?_⟩;refine AO (vs:=[.slice none 0 0]) H5 λaF aU J aG=> ?_;have aH:=J.N7 3 rfl;have v:=J.front 2 rfl;obtain⟨c,Y⟩:=Y;refine⟨⟨c,aG.obj Y (λf=>f)⟩,⟨v.cell rfl,v.cell rfl,v.cell rfl,v.cell rfl,trivial⟩,aH.cell hc (λf=>f),?_⟩;refine Fp (news:=[FJ s]) J rfl (by simp[FJ,Value.oneCell']) λaV O=> ?_;refine⟨s,O.Af rfl,?_⟩;have aI:=O.N7 3 rfl;have hp:=MP (key:=λx:DF=>x.base) l a;refine RD (λi=>match l[i.toNat]? with|some x=>decide (x.base≥a)|none=>true) (by omega) (by omega) ?_ (pos (λx:DF=>x.base) l a:Nat) (by omega) (by omega) ?_ ?_ λw' C=>hK w' (aI.trans' C)
 .intro i w' aA aR C K' aC;have d:i.toNat<l.length:=by omega
  have j:=List.getElem?_eq_getElem d;simp only[j]at aC;have T:=(O.nothing C).drew;refine hE.lV i (some ⟨aF,0,none⟩) (some ⟨b3,0,none⟩) K' w' ?_;unfold F.HQ;simp only[AG];refine⟨s,T.Af rfl,?_⟩;have aB:=T.N7 3 rfl;have y:rowAt w'.drew s.base s.len (l.map Ia):=Ut hr aB λ_ _ _ f=>f;cases hb:s.base with
  | none=>rw[hb]at y;have:l.map Ia=[]:=y;simp at this;grind
  | some q=>
   rw[hb]at y;simp only[AG];refine⟨⟨aA,by omega⟩,some ⟨l[i.toNat].GR,0,none⟩,by rw[Nat.mul_one];exact y.2 _ _ (by rw[List.getElem?_map,j];rfl),?_⟩;simp only[AG];refine⟨l[i.toNat].base,?_,a,(T.front 1 rfl).Af rfl,?_⟩
   .rw[add_eq];exact aB.cell (hi _ (List.getElem_mem d)) λf=>f
   .exact aC _ (C.trans' (Ext.drew _ _))
 .intro i aA hi;have d:i.toNat<l.length:=by omega
  have j:=List.getElem?_eq_getElem d;simp only[j];have:=Gv (key:=λx:DF=>x.base) j (n:=a) (by omega)
  grind
 .intro i aA hi;have d:i.toNat<l.length:=by omega
  have j:=List.getElem?_eq_getElem d;simp only[j];have:=Qg hs j (n:=a) (by omega)
  grind
end
def qH(g:iO)(k:Kd):AX:=if k∈g.kinds then g.sl k else⟨none,0,0⟩
def NY(g:iO)(k:Kd):(Qj g.kinds g.sl k).getD (.slice none 0 0)=FJ (qH g k):=by
 unfold Qj qH;split<;>rfl
def YE{L:List DF}{k:Kd}(h: ∀x∈L,x.kd≠k):Dm L k=[]:=by
 unfold Dm;rw[List.filter_eq_nil_iff]
 grind
def WG(L:List DF)(k:Kd):(Dm L k).length<=L.length:=List.length_filter_le _ _
def YF(l:List DF): ∀v∈l.map Ia,v.oneCell'=true:=by
 intro v d;obtain⟨x,_,rfl⟩:=List.mem_map.1 d;rfl
section
variable{E:Env}{w:World}{Z:List Pr}{b:Nat}{L:List DF}{g:iO}
def Hh{Y:List Pr}(H:Sat (Cells b E.Ew (KB g)::Y) w):w.cell? (Addr.mk b 0 none)=some (.map (some g.bi))/\w.cell? ((Addr.mk b 0 none).add 1)=some (.map (some g.bb))/\w.cell? ((Addr.mk b 0 none).add 2)=some (.map (some g.bm)):=
 ⟨H.Af rfl,H.cell rfl,H.cell rfl⟩
def Lf{Y:List Pr}(H:Sat (Aa (YB E) L::Y) w){x:DF}(y:x∈L){j:Nat}{v:Value}(C:(C6 x)[j]? =some v):w.cell? ((Addr.mk x.GR 0 none).add j)=some v:=by
 obtain⟨i,d⟩:=List.mem_iff_getElem?.1 y;exact(H.F0 d).cell (by grind)
def Sat.lX(hI:qF L g)(H:Sat (Mj E b L g++Z) w)(k:Kd):
  Sat (Row E.DZ 1 (qH g k) ((Dm L k).map Ia)::Aa (UO E g.sl L) (g.kinds.erase k)::Cells b E.Ew (KB g)::DY g.bi .i64 (F6 (·.id) L)::DY g.bb .u64 (F6 (·.base) L)::MapK g.bm (Qj g.kinds g.sl)::Aa (YB E) L::Z) w:=by
 by_cases hk:k∈g.kinds
 .have H1:=(H.front 4 rfl).JM (List.perm_cons_erase hk);have d:=Sat.JN.1 H1;have e:UO E g.sl L k=Row E.DZ 1 (qH g k) ((Dm L k).map Ia):=by unfold UO qH;grind
  rw[e]at d;exact d
 .have e:qH g k=⟨none,0,0⟩:=by unfold qH;grind
  rw[e,YE (k:=k) λx j h=>hk (by rw[<-h];exact hI.ks x j),List.erase_of_not_mem hk];exact(H.front 4 rfl).nil E.DZ 1
def Sat.lY{L':List DF}{s:AX}{k:Kd}(hI:qF L g)(J:KJ L')(T: ∀j,j≠k->Dm L' j=Dm L j)(O: ∀x∈L',x.kd=k∨x.kd∈g.kinds)
  (H:Sat (Row E.DZ 1 s ((Dm L' k).map Ia)::Aa (UO E g.sl L) (g.kinds.erase k)::Cells b E.Ew (KB g)::DY g.bi .i64 (F6 (·.id) L')::DY g.bb .u64 (F6 (·.base) L')::MapK g.bm (λi=>if i=k then some (FJ s)else Qj g.kinds g.sl i)::Aa (YB E) L'::Z) w):
  Sat (Gf E b L'::Z) w:=by
 have d:k∉g.kinds.erase k:=λh=>((hI.kn.mem_erase_iff).1 h).1 rfl;refine Sat.Dt.2 ⟨{g with kinds:=k::g.kinds.erase k,sl:=λj=>if j=k then s else g.sl j},⟨J,List.nodup_cons.2 ⟨d,hI.kn.erase k⟩,λx Y=> ?_⟩,?_⟩
 .grind
 .have v:(λi=>if i=k then some (FJ s)else Qj g.kinds g.sl i)=Qj (k::g.kinds.erase k) (λj=>if j=k then s else g.sl j):=by
   funext i;unfold Qj
   grind
  have y:Aa (UO E g.sl L) (g.kinds.erase k)=Aa (UO E (λj=>if j=k then s else g.sl j) L') (g.kinds.erase k):=Aa.congr λj K=>by
   have:j≠k:=λe=>d (e▸K);unfold UO
   grind
  have C:Row E.DZ 1 s ((Dm L' k).map Ia)=UO E (λj=>if j=k then s else g.sl j) L' k:=by unfold UO;grind
  rw[v,y,C]at H;have h2:=Sat.JN.2 H;exact(((h2.front 4 rfl).front 4 rfl).front 4 rfl).front 4 rfl|>.perm (by
   refine List.Perm.refl _)
def lZ{x:DF}(h:KJ L)(h1: ∀y∈L,y.id≠x.id/\y.base≠x.base)(h2:L.length<1099511627776):KJ (IC L x):=by
 refine⟨Py h.Ho λy d=>(h1 y d).2,?_,?_⟩
 .rw[((I9 L x).map _).nodup_iff,List.map_cons,List.nodup_cons];refine⟨λhm=> ?_,h.nd⟩
  grind
 .rw[(I9 L x).length_eq,List.length_cons];omega
def YG(h:KJ L)(id:Int):KJ (Fk L id):=
 ⟨lU h.Ho id,List.Nodup.sublist (List.filter_sublist.map _) h.nd,Nat.le_trans (List.length_filter_le _ _) h.KV⟩
def Mk(id c:Int):Prop:=id<1∨c<0∨68<=c
variable(hE:EnvW E)
include hE
theorem aM(H:Sat (Gf E b L::Z) w){id base c:Int}{np full sw:Bool}(hf:L.length<1099511627776){K:Int->World->Prop}
  (aF:Mk id c->K 1 w)(aP: ¬Mk id c->(∃x∈L,x.id=id∨x.base=base)->K 34 w)
  (a5: ¬Mk id c->(∀x∈L,x.id≠id/\x.base≠base)-> ∀GR w',Sat (Gf E b (IC L ⟨GR,id,base,(c,np,full,sw)⟩)::Z) w'->K 0 w'):
  F.Fe E (some ⟨b,0,none⟩) id base c np full sw K w:=by
 obtain⟨g,hI,H⟩:=Sat.Dt.1 H;unfold F.Fe T0.Fe;simp only[AG,add_add];refine AU (AB (λh j=>AR rfl (aF (.inl h))) λn1=>AB (λh j=>AR rfl (aF (.inr (.inl h)))) λn2 j=>AB (λh=>aF (.inr (.inr h))) λn3=> ?_);have nb: ¬Mk id c:=λh=>by rcases h with h|h|h<;>omega
 have hc:=Hh H;refine AU ⟨_,hc.1,S6 (H.front 1 rfl) λes _=> ?_⟩;cases e1:F6 (·.id) L id with
 | some v=>
  obtain⟨x,J,h1,rfl⟩:=Pz e1;exact⟨some ⟨x.GR,0,none⟩,rfl,AR rfl λj=>AR rfl (aP nb ⟨x,J,.inl h1⟩)⟩
 | none=>
 refine⟨none,rfl,AP rfl ⟨_,hc.2.1,S6 (H.front 2 rfl) λes _=> ?_⟩⟩;cases e2:F6 (·.base) L base with
 | some v=>
  obtain⟨x,J,h1,rfl⟩:=Pz e2;exact⟨some ⟨x.GR,0,none⟩,rfl,λj=>AR rfl (aP nb ⟨x,J,.inr h1⟩)⟩
 | none=>
 refine⟨none,rfl,λj=>AP rfl ?_⟩;have a7: ∀x∈L,x.id≠id/\x.base≠base:=λx J=>⟨L0.1 e1 x J,L0.1 e2 x J⟩;have H0:=H.lX hI (c,np,full,sw);refine AO (vs:=[.int .i64 id,.int .u64 base,.int .i64 c,.bool np,.bool full,.bool sw]) H0 λC bL aT _=> ?_;have aH:=aT.drew;have aO:=Hh (aH.front 3 rfl);refine⟨_,aO.1,_,aO.2.1,?_⟩;refine cJ (aH.front 4 rfl) λbM aI=> ?_;have aA:=Sat.back (Ps:=_::_::_::_::_::_::_::_::Z) 4 aI;refine cJ (aA.front 5 rfl) λbN aJ=> ?_;have d:=Sat.back (Ps:=_::_::_::_::_::_::_::_::Z) 5 aJ;simp only[List.set_cons_succ,List.set_cons_zero]at d;clear aI aA aJ;obtain⟨x,J⟩: ∃x:DF,x=⟨C,id,base,(c,np,full,sw)⟩:=⟨_,rfl⟩;have hk:x.kd=(c,np,full,sw):=by rw[J]
 have m1:(λi=>if i=id then some (Value.pointer (some (Addr.mk C 0 none)))else F6 (·.id) L i)=F6 (·.id) (IC L x):=by
  rw[YC hI.inv.nd (by grind),J];rfl
 have m2:(λi=>if i=base then some (Value.pointer (some (Addr.mk C 0 none)))else F6 (·.base) L i)=F6 (·.base) (IC L x):=by
  rw[YC (VI hI.inv.Ho) (by grind),J];rfl
 rw[m1,m2]at d;refine⟨c,d.cell rfl,np,d.cell rfl,full,d.cell rfl,sw,d.cell rfl,?_⟩;have hlen: ∀{w':World} {Y:List Pr} {s:AX},Sat (Row E.DZ 1 s ((Dm L (c,np,full,sw)).map Ia)::Y) w'->(Dm L (c,np,full,sw)).length=s.len:=λh=>by simpa using h.C1
 have a6:=hlen (d.front 1 rfl);have bI:=WG L (c,np,full,sw);have bB:=(d.front 1 rfl).own.cap;refine P5 (k:=(c,np,full,sw)) hE (Hh (d.front 3 rfl)).2.2 (d.front 6 rfl) (NY _ _) (by simpa using(d.front 1 rfl).JJ) a6 (by omega) (λy hy=> ?_) (KA hI.inv.Ho _) λbO a1=> ?_
 .have:=Lf (d.front 7 rfl) (EL.1 hy).1 (j:=1) rfl;rwa[add_eq]at this
 have hp:=MP (key:=λx:DF=>x.base) (Dm L (c,np,full,sw)) base;generalize hpp:pos (λx:DF=>x.base) (Dm L (c,np,full,sw)) base=i at *
 have T:=(d.nothing a1).drew;have aZ:=Hh (T.front 3 rfl);have d38: ∀{Y:List Pr} {w':World},Sat (Cells C E.HZ [.int .i64 id,.int .u64 base,.int .i64 c,.bool np,.bool full,.bool sw]::Y) w'->w'.cell? ((Addr.mk C 0 none).add (2+0))=some (.int .i64 c)/\w'.cell? ((Addr.mk C 0 none).add (2+1))=some (.bool np)/\w'.cell? ((Addr.mk C 0 none).add (2+2))=some (.bool full)/\w'.cell? ((Addr.mk C 0 none).add (2+3))=some (.bool sw):=
  λh=>⟨h.cell rfl,h.cell rfl,h.cell rfl,h.cell rfl⟩
 obtain⟨d0,d1,d2,d3⟩:=d38 T;refine⟨_,aZ.2.2,c,d0,np,d1,full,d2,sw,d3,Vv (n:=(c,np,full,sw)) (T.front 6 rfl) λes aE=>⟨_,NY _ _,?_⟩⟩;refine AO (vs:=[.pointer none]) T λbE bP aB a2=> ?_;obtain⟨cc,aE⟩:=aE;obtain⟨d0,d1,d2,d3⟩:=d38 (aB.front 1 rfl);refine⟨⟨cc,a2.obj aE λf=>f⟩,⟨d0,d1,d2,d3,trivial⟩,(Hh (aB.front 4 rfl)).2.2,?_⟩;refine Er (aB.EM 1 rfl) rfl rfl (by simp[Value.oneCell']) (by omega) (by omega) λQR bQ O bC=> ?_;obtain⟨d0,d1,d2,d3⟩:=d38 (O.front 1 rfl);have aU:=O.drew;have aR:=O.own.cap;have aS:=O.own.top;rw[show i64 ((i:Int)+1)=((i+1:Nat):Int) by rw[AF];rfl,Int.toNat_natCast,Int.toNat_natCast];refine⟨⟨d0,d1,d2,d3,trivial⟩,(Hh (O.front 3 rfl)).2.2,⟨by omega,by omega⟩,⟨by omega,by omega⟩,?_⟩;refine vK aU (YF _) (by simpa using hp) λbK bR u aL=> ?_;obtain⟨bb,aD⟩:=aL.own.Ep (by omega);rw[aD];simp only[AG];refine⟨⟨by omega,by omega⟩,?_⟩;rw[show i*1=i by omega];refine Gp aL (j:=i) rfl (by simp;omega) aD λbS aV=> ?_;have aC:=aV.drew;have a0:=Hh (aC.front 3 rfl);obtain⟨d0,d1,d2,d3⟩:=d38 (aC.front 1 rfl);refine⟨_,a0.2.2,c,d0,np,d1,full,d2,sw,d3,?_⟩
 try rw[<-aD]
 refine Vw (n:=(c,np,full,sw)) (aC.front 6 rfl) λaG aW=> ?_;have aN:=Sat.back (Ps:=_::_::_::_::_::_::_::_::Z) 6 aW;simp only[List.set_cons_succ,List.set_cons_zero]at aN;refine a5 nb a7 C aG ?_;rw[<-J];have hb: ∀y∈L,y.base≠x.base:=by grind
 have er:(List.take i ((Dm L (c,np,full,sw)).map Ia)++u::List.drop i ((Dm L (c,np,full,sw)).map Ia)).set i (Ia x)=(Dm (IC L x) (c,np,full,sw)).map Ia:=by
  rw[<-hk,qE hI.inv.Ho hb];unfold IC;rw[hk,show x.base=base by rw[J],hpp,List.map_append,List.map_cons,List.map_take,List.map_drop,List.set_append_right _ _ (by simp;omega)];congr 1;rw[show i-(List.take i ((Dm L (c,np,full,sw)).map Ia)).length=0 by simp;omega];rfl
 have aX:Sat (Row E.DZ 1 QR ((Dm (IC L x) (c,np,full,sw)).map Ia)::YB E x::Aa (UO E g.sl L) (g.kinds.erase (c,np,full,sw))::Cells b E.Ew (KB g)::DY g.bi .i64 (F6 (·.id) (IC L x))::DY g.bb .u64 (F6 (·.base) (IC L x))::MapK g.bm (λi=>if i=(c,np,full,sw)then some (FJ QR)else Qj g.kinds g.sl i)::Aa (YB E) L::Z) aG:=by
  have a4:YB E x=Cells C E.HZ [.int .i64 id,.int .u64 base,.int .i64 c,.bool np,.bool full,.bool sw]:=by rw[J];rfl
  have a3:Ia x= .pointer (some ⟨C,0,none⟩):=by rw[J];rfl
  rw[<-er,a4,a3];exact aN
 have aY:Sat (Aa (YB E) (IC L x)::Row E.DZ 1 QR ((Dm (IC L x) (c,np,full,sw)).map Ia)::Aa (UO E g.sl L) (g.kinds.erase (c,np,full,sw))::Cells b E.Ew (KB g)::DY g.bi .i64 (F6 (·.id) (IC L x))::DY g.bb .u64 (F6 (·.base) (IC L x))::MapK g.bm (λi=>if i=(c,np,full,sw)then some (FJ QR)else Qj g.kinds g.sl i)::Z) aG:=
  (Sat.JN.2 ((aX.front 7 rfl).front 2 rfl)).JM (I9 L x).symm
 refine Sat.lY (s:=QR) (k:=(c,np,full,sw)) hI (lZ hI.inv (by grind) hf) (λj hj=>aK hI.inv.Ho hb (by rw[hk];exact Ne.symm hj)) (λy hy=> ?_) (aY.perm ?_)
 .rcases KI.1 hy with rfl|hy
  .grind
  .exact .inr (hI.ks y hy)
 .exact(List.perm_middle (a:=Aa (YB E) (IC L x)) (l₁:=[_,_,_,_,_,_]) (l₂:=Z)).symm
end
def aN{L:List DF}{x:DF}{k:Kd}(j:(L.map (·.id)).Nodup)(v:x∈L)(h:x.kd≠k):Dm (Fk L x.id) k=Dm L k:=by
 unfold Dm Fk;rw[List.filter_filter];refine List.filter_congr λy C=> ?_;by_cases e:y.kd=k
 .have:y.id≠x.id:=λd=>h (by rw[<-e,map_inj j C v d])
  grind
 .simp[e]
def qI{L:List DF}{x:DF}(hs:IW (·.base) L)(d:(L.map (·.id)).Nodup)(j:x∈L):Dm (Fk L x.id) x.kd=(Dm L x.kd).eraseIdx (pos (·.base) (Dm L x.kd) x.base):=by
 have h1:Dm (Fk L x.id) x.kd=Fk (Dm L x.kd) x.id:=by
  unfold Dm Fk;rw[List.filter_filter,List.filter_filter]
  grind
 rw[h1];have hm:x∈Dm L x.kd:=EL.2 ⟨j,rfl⟩;exact WE (List.Nodup.sublist (List.filter_sublist.map _) d) (MQ (KA hs _) hm rfl)
section
variable{E:Env}{w:World}{Z:List Pr}{b:Nat}{L:List DF}{g:iO}(hE:EnvW E)
include hE
theorem Tq(H:Sat (Gf E b L::Z) w){id:Int}{K:Int->World->Prop}(aP:(∀x∈L,x.id≠id)->K 35 w)(aO: ∀x∈L,x.id=id-> ∀w',Sat (Gf E b (Fk L id)::Z) w'->K 0 w'):
  F.Db E (some ⟨b,0,none⟩) id K w:=by
 obtain⟨g,hI,H⟩:=Sat.Dt.1 H;unfold F.Db T0.Db;simp only[AG,add_add];have hc:=Hh H;refine⟨_,hc.1,S6 (H.front 1 rfl) λes _=> ?_⟩;cases e1:F6 (·.id) L id with
 | none=>exact⟨none,rfl,AR rfl (aP (L0.1 e1))⟩
 | some v=>
 obtain⟨x,d,Mf,rfl⟩:=Pz e1;subst Mf;refine⟨some ⟨x.GR,0,none⟩,rfl,AP rfl ⟨_,hc.1,?_⟩⟩;simp only[AG];have H0:=H.lX hI x.kd;refine Vq (H0.front 3 rfl) λw9 H9=> ?_;have O:=(Sat.back (Ps:=_::_::_::_::_::_::_::Z) 3 H9).drew;have ic: ∀{w':World} {Y:List Pr},Sat (Aa (YB E) L::Y) w'->w'.cell? ((Addr.mk x.GR 0 none).add 1)=some (.int .u64 x.base)/\w'.cell? ((Addr.mk x.GR 0 none).add (2+0))=some (.int .i64 x.kd.1)/\w'.cell? ((Addr.mk x.GR 0 none).add (2+1))=some (.bool x.kd.2.1)/\w'.cell? ((Addr.mk x.GR 0 none).add (2+2))=some (.bool x.kd.2.2.1)/\w'.cell? ((Addr.mk x.GR 0 none).add (2+3))=some (.bool x.kd.2.2.2):=
  λh=>⟨Lf h d rfl,Lf h d rfl,Lf h d rfl,Lf h d rfl,Lf h d rfl⟩
 obtain⟨i1,_⟩:=ic (O.front 6 rfl);refine⟨_,(Hh (O.front 2 rfl)).2.1,x.base,i1,Vq (O.front 4 rfl) λa5 aH=> ?_⟩;have C:=Sat.back (Ps:=_::_::_::_::_::_::_::Z) 4 aH;simp only[List.set_cons_succ,List.set_cons_zero]at C;clear H9 O aH i1;have m1:(λi=>if i=x.id then none else F6 (·.id) L i)=F6 (·.id) (Fk L x.id):=(YD (f:=(·.id)) hI.inv.nd hI.inv.nd d).symm;have m2:(λi=>if i=x.base then none else F6 (·.base) L i)=F6 (·.base) (Fk L x.id):=(YD (f:=(·.base)) hI.inv.nd (VI hI.inv.Ho) d).symm;rw[m1,m2]at C;obtain⟨j1,j2,j3,j4,j5⟩:=ic (C.front 6 rfl);refine⟨_,j2,_,j3,_,j4,_,j5,_,j1,?_⟩;have aQ:(Dm L x.kd).length=(qH g x.kd).len:=by simpa using C.C1
 have a2:=WG L x.kd;have aX:=hI.inv.KV;have J:=C.drew;refine P5 (k:=x.kd) hE (Hh (J.front 2 rfl)).2.2 (J.front 5 rfl) (NY _ _) (by simpa using J.JJ) aQ (by omega) (λy hy=> ?_) (KA hI.inv.Ho _) λa6 aL=> ?_
 .have:=Lf (J.front 6 rfl) (EL.1 hy).1 (j:=1) rfl;rwa[add_eq]at this
 have hm:x∈Dm L x.kd:=EL.2 ⟨d,rfl⟩;have aM:=MQ (KA hI.inv.Ho x.kd) hm (n:=x.base) rfl;have hp:=(List.getElem?_eq_some_iff.1 aM).1;have aR:=qI hI.inv.Ho hI.inv.nd d;generalize hpp:pos (λx:DF=>x.base) (Dm L x.kd) x.base=i at *
 have T:=(J.nothing aL).drew;obtain⟨_,j2,j3,j4,j5⟩:=ic (T.front 6 rfl);refine⟨_,(Hh (T.front 2 rfl)).2.2,_,j2,_,j3,_,j4,_,j5,Vv (n:=x.kd) (T.front 5 rfl) λes a0=>⟨_,NY _ _,?_⟩⟩;have aA:=T.drew;obtain⟨_,j2,j3,j4,j5⟩:=ic (aA.front 6 rfl);have aW:=aA.own.cap;rw[show i64 ((i:Int)+1)=((i+1:Nat):Int) by rw[AF];rfl,Int.toNat_natCast,Int.toNat_natCast];refine⟨_,(Hh (aA.front 2 rfl)).2.2,_,j2,_,j3,_,j4,_,j5,⟨by omega,by omega⟩,⟨by omega,by omega⟩,?_⟩;refine qD aA (YF _) (by simpa using hp) λXW a7 aB=> ?_;obtain⟨_,j2,j3,j4,j5⟩:=ic (aB.front 6 rfl);refine⟨⟨j2,j3,j4,j5,trivial⟩,(Hh (aB.front 2 rfl)).2.2,Vw (n:=x.kd) (aB.front 5 rfl) λaT aJ=> ?_⟩;have aC:=Sat.back (Ps:=_::_::_::_::_::_::_::Z) 5 aJ;simp only[List.set_cons_succ,List.set_cons_zero]at aC;refine aO x d rfl aT ?_;have er:((Dm L x.kd).map Ia).eraseIdx i=(Dm (Fk L x.id) x.kd).map Ia:=by rw[aR,IN]
 rw[er]at aC;have aK:=(Sat.JN.1 ((aC.front 6 rfl).JM (L1 hI.inv.nd d))).tail;refine Sat.lY (s:=XW) (k:=x.kd) hI (YG hI.inv x.id) (λj hj=>aN hI.inv.nd d (Ne.symm hj)) (λy hy=>.inr (hI.ks y (FB.1 hy).1)) (aK.perm ?_);exact(List.perm_middle (a:=Aa (YB E) (Fk L x.id)) (l₁:=[_,_,_,_,_,_]) (l₂:=Z)).symm
theorem NZ(H:Sat (Gf E b L::Z) w){k:Kd}{K:Int->Bool->World->Prop}(J:Dm L k=[]->K 0 false w)(O: ∀x r,Dm L k=x::r-> ∀w',Sat (Gf E b (Fk L x.id)::Z) w'->K x.id true w'):
  F.EW E (some ⟨b,0,none⟩) k.1 k.2.1 k.2.2.1 k.2.2.2 K w:=by
 have HS:=H;obtain⟨g,hI,H⟩:=Sat.Dt.1 H;unfold F.EW T0.EW;simp only[AG];have C:=H.lX hI k;have d:(Dm L k).length=(qH g k).len:=by simpa using C.C1
 refine⟨_,(Hh H).2.2,Vv (n:=k) (H.front 3 rfl) λes aC=>⟨_,NY _ _,Bc (λe=> ?_) λe=> ?_⟩⟩
 .exact J (List.eq_nil_of_length_eq_zero (by omega))
 .cases hr:Dm L k with
  | nil=>grind
  | cons x r=>
   have Y:x∈L:=(EL.1 (by rw[hr];exact List.mem_cons_self:x∈Dm L k)).1;rw[hr]at C d;simp at d;refine C.n9 (j:=0) (v:=Ia x) rfl λa ha hc=>⟨⟨by omega,by omega⟩,some ⟨x.GR,0,none⟩,hc,?_⟩;simp only[AG];have T:=Lf (H.front 5 rfl) Y (j:=0) rfl;rw[add_zero]at T;refine⟨x.id,T,Tq hE HS (λh=>absurd rfl (h x Y)) λy hy he w' H'=>O x r hr w' H'⟩
end
def WH{k:Kd}{K:iH (.agg [.int .i64,.bool,.bool,.bool])->Prop}(h:K (k.1,k.2.1,k.2.2.1,k.2.2.2,())):unVT (.agg [.int .i64,.bool,.bool,.bool]) (.agg ⟨Mq k⟩) K:=h
def WI{s:AX}{K:AX->Prop}(h:K s):nV (FJ s) K:=h
def Rw(L:List DF)(sw:Bool)(done:List Kd):Nat:=(done.map λk=>if k.2.2.2=sw then(Dm L k).length else 0).sum
def K0(L:List DF)(sw:Bool):Nat:=(L.filter λx=>x.D0==sw).length
def l9(L:List DF)(sw:Bool)(d:List Kd)(k:Kd):Rw L sw (d++[k])=Rw L sw d+if k.2.2.2=sw then(Dm L k).length else 0:=by simp[Rw]
def Qk(x:DF)(L:List DF)(sw:Bool): ∀(d:List Kd),d.Nodup->Rw (x::L) sw d=Rw L sw d+if x.kd∈d/\x.D0=sw then 1 else 0
 | [],_=>by simp[Rw]
 | k::d,hn=>by
  rw[List.nodup_cons]at hn;have j:=Qk x L sw d hn.2;have e:Dm (x::L) k=if x.kd=k then x::Dm L k else Dm L k:=by
   unfold Dm
   grind
  unfold Rw at j⊢
  grind
def Ql(sw:Bool): ∀d:List Kd,Rw [] sw d=0
 | []=>rfl
 | k::d=>by
  have:=Ql sw d;unfold Rw at this⊢;rw[List.map_cons,List.sum_cons,this];split<;>rfl
def YH: ∀{L:List DF} {sw:Bool} {d:List Kd},d.Nodup->(∀x∈L,x.kd∈d)->Rw L sw d=K0 L sw
 | [],sw,d,_,_=>Ql sw d
 | x::L,sw,d,hn,h=>by
  have v:=YH (L:=L) (sw:=sw) hn λy j=>h y (List.mem_cons_of_mem _ j);rw[Qk x L sw d hn,v];unfold K0
  grind
def qJ(L:List DF)(sw:Bool){d:List Kd}(j:d.Nodup):Rw L sw d<=L.length:=by
 induction L with
 | nil=>rw[Ql];omega
 | cons x L ih=>
  rw[Qk x L sw d j,List.length_cons]
  grind
section
variable{E:Env}{w:World}{Z:List Pr}{b:Nat}{L:List DF}{g:iO}
def MU(H:Sat (Gf E b L::Z) w){sw:Bool}{K:Int->World->Prop}(hK: ∀w',Sat (Gf E b L::Z) w'->K ((K0 L sw:Nat):Int) w'):F.FM E (some ⟨b,0,none⟩) sw K w:=by
 obtain⟨g,hI,H⟩:=Sat.Dt.1 H;unfold F.FM;simp only[AG];have aI:=hI.inv.KV;refine⟨_,(Hh H).2.2,Vx (H.front 3 rfl) λr4 N w5 H5=> ?_⟩;refine AI (λst w'=> ∃cur done N',st.1=(Rw L sw done:Nat)/\Sat (N9 r4 g.bm (Qj g.kinds g.sl) cur done N'::(Mj E b L g++Z).eraseIdx 3) w') (λ_ w'=>MF r4 g.bm w') ⟨none,[],N,rfl,H5⟩ ?_;rintro⟨n,u⟩ _ w7 ⟨cur,done,N',hn,H7⟩;dsimp only at hn⊢;subst hn;rw[H7.Lr];refine AU (Qa H7 (λaE O T j=>AU (AP rfl ?_)) λk v aU N2 aO aQ hN J j=>AU (AR rfl λj2=>TF J λv' S' d=> ?_))
 .rw[YH O.XT.1 λx hx=>(T _).2 (by unfold Qj;rw[if_pos (hI.ks x hx)];grind)];exact hK aE (Sat.Dt.2 ⟨g,hI,Sat.back (Ps:=Mj E b L g++Z) 3 O.cK (by simp[Mj])⟩)
 .have hk:k∈g.kinds:=by
   unfold Qj at d;by_cases h:k∈g.kinds
   .exact h
   .rw[if_neg h]at d;cases d
  have aC:v'=FJ (g.sl k):=by unfold Qj at d;rw[if_pos hk]at d;exact(Option.some.inj d).symm
  subst aC;have hlen:(Dm L k).length=(g.sl k).len:=by
   obtain⟨i,hi⟩:=List.mem_iff_getElem?.1 hk;have:=((H.front 4 rfl).F0 hi).C1
   grind
  refine WH (WI (AO (vs:=[.int .i64 0,.bool false,.bool false,.bool false]) J λaL aV aA _=> ?_));refine Fp (news:=Mq k) aA rfl (by simp[Mq,Value.oneCell']) λaF C=>⟨k.2.2.2,C.cell rfl,?_⟩;have Y:(done++[k]).Nodup:=J.XT.1;have hle:=qJ L sw Y;have y:=l9 L sw done k;have hm:MF r4 g.bm aF<N':=by rw[(C.front 1 rfl).Lr];exact hN
  by_cases e:k.2.2.2=sw
  .rw[if_pos e]at y;refine AR (by simp[e]) (AY λt ht=>⟨⟨some k,done++[k],N2,?_,C.tail⟩,hm⟩);show t=_;rw[ht,y,AF];omega
  .rw[if_neg e]at y;refine AP (by grind) ⟨⟨some k,done++[k],N2,?_,C.tail⟩,hm⟩;omega
end
def KK(k:Kd):Kd:=(k.1,k.2.1,k.2.2.1,false)
def L2(k:Kd):Kd:=(k.1,k.2.1,k.2.2.1,true)
def DF.flip(x:DF):DF:={x with kd:=KK x.kd}
def VK{L:List DF}{sw:Bool}(h:K0 L sw=0): ∀x∈L,x.D0≠sw:=by
 intro x d e;unfold K0 at h;rw[List.length_eq_zero_iff,List.filter_eq_nil_iff]at h
 grind
def WJ(L:List DF)(x:DF):Prop:=x∈L/\x.D0=false/\ ∀y∈L,y.D0=false->x.base<=y.base
def dP(L:List DF)(done:List Kd)(p:Option Addr):Prop:=
 (p=none/\ ∀k∈done,k.2.2.2=false->Dm L k=[])∨ ∃x∈L,p=some ⟨x.GR,0,none⟩/\x.D0=false/\ ∀k∈done,k.2.2.2=false-> ∀y∈Dm L k,x.base<=y.base
section
variable{E:Env}{w:World}{Z:List Pr}{b:Nat}{L:List DF}{g:iO}
def mA{Y:List Pr}(H:Sat (Aa (UO E g.sl L) g.kinds::Y) w){k:Kd}(hk:k∈g.kinds):rowAt w (g.sl k).base (g.sl k).len ((Dm L k).map Ia)/\(Dm L k).length=(g.sl k).len:=by
 obtain⟨i,d⟩:=List.mem_iff_getElem?.1 hk;have h:=H.F0 d;exact⟨by simpa using h.JJ,by simpa using h.C1⟩
def dQ{q:List DF}{s:AX}(h:rowAt w s.base s.len (q.map Ia)){i:Nat}{x:DF}(d:q[i]? =some x): ∃a,s.base=some a/\w.cell? (a.add (i*1))=some (Ia x):=by
 cases hb:s.base with
 | none=>rw[hb]at h;have:q.map Ia=[]:=h;simp at this;grind
 | some a=>rw[hb]at h;exact⟨a,rfl,by rw[Nat.mul_one];exact h.2 i _ (by grind)⟩
def dR{k:Kd}{v:Value}(h:Qj g.kinds g.sl k=some v):k∈g.kinds/\v=FJ (g.sl k):=by
 unfold Qj at h
 grind
def vL{k:Kd}(h:k∈g.kinds):Qj g.kinds g.sl k≠none:=by unfold Qj;grind
def WK(H:Sat (Gf E b L::Z) w){K:Int->Bool->World->Prop}(aQ:(∀x∈L,x.D0=true)-> ∀w',Sat (Gf E b L::Z) w'->K 0 false w')(aR: ∀x,WJ L x-> ∀w',Sat (Gf E b L::Z) w'->K x.id true w'):
  F.Ij E (some ⟨b,0,none⟩) K w:=by
 obtain⟨g,hI,H⟩:=Sat.Dt.1 H;unfold F.Ij;simp only[AG];refine⟨_,(Hh H).2.2,Vx (H.front 3 rfl) λr4 N w5 H5=> ?_⟩;refine AI (λst w'=> ∃cur done N',dP L done st.1/\Sat (N9 r4 g.bm (Qj g.kinds g.sl) cur done N'::(Mj E b L g++Z).eraseIdx 3) w') (λ_ w'=>MF r4 g.bm w') ⟨none,[],N,.inl ⟨rfl,λk hk=>by cases hk⟩,H5⟩ ?_;rintro⟨p,u⟩ _ w7 ⟨cur,done,N',hp,H7⟩;dsimp only at hp⊢;rw[H7.Lr];have aA: ∀{w'} {cur done N},Sat (N9 r4 g.bm (Qj g.kinds g.sl) cur done N::(Mj E b L g++Z).eraseIdx 3) w'-> ∀{x},x∈L->w'.cell? (Addr.mk x.GR 0 none)=some (.int .i64 x.id)/\w'.cell? ((Addr.mk x.GR 0 none).add 1)=some (.int .u64 x.base):=λh x C=>
  ⟨by have:=Lf (h.front 5 rfl) C (j:=0) rfl;rwa[add_zero]at this,Lf (h.front 5 rfl) C (j:=1) rfl⟩
 refine AU (Qa H7 (λaB aE aH j=>AU (AP rfl ?_)) λk v bB N2 a6 a8 hN aF j=>AU (AR rfl λj2=>TF aF λv' S' aT=> ?_))
 .have hb:Sat (Gf E b L::Z) aB:=Sat.Dt.2 ⟨g,hI,Sat.back (Ps:=Mj E b L g++Z) 3 aE.cK (by simp[Mj])⟩;have hd: ∀x∈L,x.kd∈done:=λx C=>(aH _).2 (vL (hI.ks x C));rcases hp with ⟨rfl,h0⟩|⟨x,C,rfl,h1,h2⟩
  .refine AR rfl (aQ (λx C=> ?_) aB hb);cases e:x.D0 with
   | true=>rfl
   | false=>
    have:=h0 _ (hd x C) e;have h3:x∈Dm L x.kd:=EL.2 ⟨C,rfl⟩
    grind
  .refine AP rfl ?_;simp only[AG];exact⟨x.id,(aA aE C).1,aR x ⟨C,h1,λy J e=>h2 _ (hd y J) e y (EL.2 ⟨J,rfl⟩)⟩ aB hb⟩
 .obtain⟨hk,rfl⟩:=dR aT;refine WH (WI (AO (vs:=[.int .i64 0,.bool false,.bool false,.bool false]) aF λa3 bC aM _=> ?_));refine Fp (news:=Mq k) aM rfl (by simp[Mq,Value.oneCell']) λO aN=> ?_;have aG:=aN.drew;have d:=aG.tail;obtain⟨aI,hlen⟩:=mA (d.front 4 rfl) hk;have hm: ∀w',w'=O.drew->MF r4 g.bm w'<N':=λw' e=>by rw[e,d.Lr];exact hN
  refine AU ⟨k.2.2.2,aG.cell rfl,?_⟩;have C5:(k.2.2.2=false->Dm L k=[]∨ ∃x∈L,p=some ⟨x.GR,0,none⟩/\ ∀y∈Dm L k,x.base<=y.base)->dP L (done++[k]) p:=λhq=>by
   rcases hp with ⟨h0,h1⟩|⟨x,C,h0,h1,h2⟩
   .refine .inl ⟨h0,λk' Y e=> ?_⟩
    grind
   .refine .inr ⟨x,C,h0,h1,λk' Y e y J=> ?_⟩
    grind
  cases hs:k.2.2.2 with
  | true=>exact AP rfl λj=>AP rfl ⟨⟨_,_,N2,C5 (λh=>by grind),d⟩,hm _ rfl⟩
  | false=>
  refine AR rfl (AB (λaZ=> ?_) λa9=> ?_)
  .obtain⟨x,r,hr⟩: ∃x r,Dm L k=x::r:=by
    cases h:Dm L k with
    | nil=>grind
    | cons x r=>grind
   have aK:=EL.1 (show x∈Dm L k by rw[hr];exact List.mem_cons_self);have aY: ∀y∈Dm L k,x.base<=y.base:=λy J=>by
    have aJ:=KA hI.inv.Ho k;rw[hr]at J aJ;rcases List.mem_cons.1 J with rfl|J
    .omega
    .exact Int.le_of_lt ((List.pairwise_cons.1 aJ).1 y J)
   obtain⟨a,ha,hc⟩:=dQ aI (i:=0) (x:=x) (by grind);have take:(∀y,p=some (Addr.mk y 0 none)-> ∀z∈L,z.GR=y->x.base<z.base)->dP L (done++[k]) (some ⟨x.GR,0,none⟩):=λhq=>by
    refine .inr ⟨x,aK.1,rfl,by grind,λk' Y e y J=> ?_⟩;rcases List.mem_append.1 Y with h|h
    .rcases hp with ⟨h0,h1⟩|⟨z,hz,h0,h1,h2⟩
     .grind
     grind
    grind
   have T:(∀y,p=some (Addr.mk y 0 none)-> ∀z∈L,z.GR=y->x.base<z.base)-> ∀j:Nat->Value,CND true
     (NC (g.sl k).base λaU=>((0:Int)<=0/\(0:Int)<((g.sl k).len:Nat))/\ ∃aL:Option Addr,O.drew.cell? (aU.add (Int.toNat 0*1))=some (.pointer aL)/\((∃cur done N',dP L done aL/\Sat (N9 r4 g.bm (Qj g.kinds g.sl) cur done N'::(Mj E b L g++Z).eraseIdx 3) O.drew)/\MF r4 g.bm O.drew<N')) False:=λhq j=>by
    refine AR rfl ?_;rw[ha];simp only[AG];exact⟨⟨by decide,by omega⟩,_,hc,⟨_,_,N2,take hq,d⟩,hm _ rfl⟩
   rcases hp with ⟨rfl,h1⟩|⟨z,hz,rfl,h1,h2⟩
   .exact AR rfl λj=>T (λy J=>by cases J) j
   .refine AP rfl ?_;rw[ha];simp only[AG];refine⟨⟨by decide,by omega⟩,_,hc,?_⟩;simp only[AG];refine⟨_,(aA d aK.1).2,_,(aA d hz).2,λj=>AB (λa7=> ?_) λa5=> ?_⟩
    .have:=T (λy J z' bA e=>by grind) j;rw[ha]at this;simpa only[jK,AG]using this
    grind
  .refine λj=>AP rfl ⟨⟨_,_,N2,C5 (λ_=>.inl (List.eq_nil_of_length_eq_zero (by omega))),d⟩,hm _ rfl⟩
end
def YI{α:Type}: ∀{l:List α} {i:Nat} {x:α},l.Nodup->l[i]? =some x->x∉l.eraseIdx i
 | [],i,x,_,h=>by simp at h
 | y::l,0,x,hn,h=>by grind
 | y::l,i+1,x,hn,h=>by
  have h:l[i]? =some x:=by grind
  rw[List.eraseIdx_cons_succ];have h1:=List.nodup_cons.1 hn;intro hm;rcases List.mem_cons.1 hm with e|hm
  .grind
  .exact YI h1.2 h hm
def Hi(L:List DF):List DF:=L.map DF.flip
def ZK(E:Env)(c:DF->Bool)(x:DF):Pr:=YB E (if c x=true then x.flip else x)
def mB{L:List DF}(h:IW (·.base) L):IW (·.base) (Hi L):=List.Pairwise.map _ (λa b h=>h) h
def mC{L:List DF}(h:KJ L):KJ (Hi L):=⟨mB h.Ho,by
 have:(Hi L).map (·.id)=L.map (·.id):=by unfold Hi;rw[List.map_map];rfl
 rw[this];exact h.nd,by unfold Hi;rw[List.length_map];exact h.KV⟩
def Qm{f:DF->Int}(hf: ∀x:DF,f x.flip=f x): ∀L:List DF,F6 f (Hi L)=F6 f L
 | []=>rfl
 | x::L=>by
  show F6 f (x.flip::Hi L)=_;rw[Nz,Nz,Qm hf L,hf];rfl
def Ko{k:Kd}(h:k.2.2.2=true):L2 (KK k)=k:=by
 obtain⟨a,b,c,d⟩:=k;have:d=true:=h;subst this;rfl
def Qn{k:Kd}(h:k.2.2.2=false):KK (L2 k)=k:=by
 obtain⟨a,b,c,d⟩:=k;have:d=false:=h;subst this;rfl
def mD{L:List DF}(hs: ∀x∈L,x.D0=true){k:Kd}(hk:k.2.2.2=false):(Dm (Hi L) k).map Ia=(Dm L (L2 k)).map Ia:=by
 unfold Dm Hi;rw[List.filter_map,List.map_map];have:L.filter ((λx=>decide (x.kd=k))∘DF.flip)=L.filter λx=>decide (x.kd=L2 k):=by
  refine List.filter_congr λx d=> ?_;show decide (KK x.kd=k)=decide (x.kd=L2 k);refine decide_eq_decide.2 ⟨λe=> ?_,λe=> ?_⟩
  .rw[<-e,Ko (hs x d)]
  .rw[e,Qn hk]
 rw[this];rfl
def gQ(L:List DF)(sl:Kd->AX)(done:List Kd):Kd->Option Value:=λk=>if k.2.2.2=false/\L2 k∈done/\Dm L (L2 k)≠ []then some (FJ (sl (L2 k)))else none
def mE{L:List DF}{sl:Kd->AX}{done:List Kd}{k:Kd}(h:k.2.2.2=false∨Dm L k=[]):gQ L sl (done++[k])=gQ L sl done:=by
 funext j;unfold gQ;by_cases e:L2 j=k
 .have: ¬(j.2.2.2=false/\L2 j∈done++[k]/\Dm L (L2 j)≠ []):=λ⟨_,_,q⟩=>by
   rcases h with h|h
   .rw[<-e]at h;cases h
   grind
  grind
 .simp[e]
def qK{L:List DF}{sl:Kd->AX}{done:List Kd}{k:Kd}(h1:k.2.2.2=true)(h2:Dm L k≠ []):(λj=>if j=KK k then some (FJ (sl k))else gQ L sl done j)=gQ L sl (done++[k]):=by
 funext j;unfold gQ;by_cases e:j=KK k
 .rw[if_pos e];have:L2 j=k:=by rw[e,Ko h1]
  rw[this,if_pos ⟨by rw[e];rfl,by simp,h2⟩]
 .rw[if_neg e];by_cases hj:j.2.2.2=false
  .have:L2 j≠k:=λh=>e (by rw[<-h,Qn hj]);simp[this]
  grind
section
variable{E:Env}{w:World}{Z:List Pr}{b:Nat}{L:List DF}{g:iO}
def YJ(H:Sat (Gf E b L::Z) w){K:Int->World->Prop}(a8:0<K0 L false-> ∀w',Sat (Gf E b L::Z) w'->K 33 w')(a7:(∀x∈L,x.D0=true)-> ∀w',Sat (Gf E b (Hi L)::Z) w'->K 0 w'):
  F.E5 E (some ⟨b,0,none⟩) K w:=by
 unfold F.E5 T0.E5;refine MU H λw2 H2=>AB (λh=>a8 (by omega) w2 H2) λh=> ?_;have aE: ∀x∈L,x.D0=true:=λx C=>by
  have:=VK (L:=L) (sw:=false) (by omega) x C
  grind
 obtain⟨g,hI,H⟩:=Sat.Dt.1 H2;refine cI H λb3 w4 H4 _=> ?_;simp only[AG];refine⟨_,(Hh (H4.front 1 rfl)).2.2,Vx (H4.front 4 rfl) λr8 N w9 H9=> ?_⟩;have a3:=MT hI.inv.nd;have e0:gQ L g.sl []=λ_=>none:=by funext k;unfold gQ;simp
 have e1:Aa (YB E) L=Aa (ZK E λx=>decide (x.kd∈([]:List Kd))) L:=Aa.congr λx _=>by simp[ZK]
 refine AI (λ_ w'=> ∃cur done N',Sat (N9 r8 g.bm (Qj g.kinds g.sl) cur done N'::MapK b3 (gQ L g.sl done)::Cells b E.Ew (KB g)::DY g.bi .i64 (F6 (·.id) L)::DY g.bb .u64 (F6 (·.base) L)::Aa (UO E g.sl L) g.kinds::Aa (ZK E λx=>decide (x.kd∈done)) L::Z) w') (λ_ w'=>MF r8 g.bm w') ⟨none,[],N,by rw[e0,<-e1];exact H9⟩ ?_;rintro _ _ cA ⟨cur,done,N',aH⟩;rw[aH.Lr];refine AU (Qa aH (λcB aV aP j=>AU (AP rfl ?_)) λk v cC N2 bY b1 hN aI j=>AU (AR rfl λj2=>TF aI λv' S' bB=> ?_))
 .have hd: ∀k,k∈done↔k∈g.kinds:=λk=>by
   rw[aP k];unfold Qj
   grind
  refine Ab (aV.front 2 rfl) (o:=0) (m:=2) rfl (by simp[KB]) λaU aW=>a7 aE aU ?_
  let P:Kd->Bool:=λk=>k.2.2.2&& !(Dm L k).isEmpty
  have hP: ∀k,P k=true↔k.2.2.2=true/\Dm L k≠ []:=λk=>by simp[P]
  refine Sat.Dt.2 ⟨{g with bm:=b3,kinds:=(g.kinds.filter P).map KK,sl:=λk=>g.sl (L2 k)},⟨mC hI.inv,?_,?_⟩,?_⟩
  .refine List.Pairwise.map _ (λa c a4=> ?_) (List.Pairwise.and_mem.1 (hI.kn.filter P));obtain⟨ha,hc,O⟩:=a4;intro e;have ha:=((hP a).1 (List.mem_filter.1 ha).2).1;have hc:=((hP c).1 (List.mem_filter.1 hc).2).1;exact O (by rw[<-Ko ha,e,Ko hc])
  .intro x C;obtain⟨y,J,rfl⟩:=List.mem_map.1 C;refine List.mem_map.2 ⟨y.kd,List.mem_filter.2 ⟨hI.ks y J,(hP _).2 ⟨aE y J,λh=> ?_⟩⟩,rfl⟩;have:y∈Dm L y.kd:=EL.2 ⟨J,rfl⟩
   grind
  .have q1:gQ L g.sl done=Qj ((g.kinds.filter P).map KK) (λk=>g.sl (L2 k)):=by
    funext k;unfold gQ Qj;have:(k.2.2.2=false/\L2 k∈done/\Dm L (L2 k)≠ [])↔k∈(g.kinds.filter P).map KK:=by
     rw[List.mem_map];constructor
     .rintro⟨h1,h2,h3⟩;exact⟨L2 k,List.mem_filter.2 ⟨(hd _).1 h2,(hP _).2 ⟨rfl,h3⟩⟩,Qn h1⟩
     .rintro⟨k',h1,rfl⟩;obtain⟨h2,h3⟩:=List.mem_filter.1 h1;obtain⟨h3,h4⟩:=(hP _).1 h3;rw[Ko h3];exact⟨rfl,(hd _).2 h2,h4⟩
    grind
   have q2:Aa (ZK E λx=>decide (x.kd∈done)) L=Aa (YB E) (Hi L):=by
    unfold Hi Aa;rw[List.map_map];congr 1;refine List.map_congr_left λx C=> ?_;show YB E _=YB E x.flip;rw[if_pos (by simpa using(hd _).2 (hI.ks x C))]
   have q3:Aa (UO E g.sl L) (g.kinds.filter P)=Aa (UO E (λk=>g.sl (L2 k)) (Hi L)) ((g.kinds.filter P).map KK):=by
    unfold Aa;rw[List.map_map];congr 1;refine List.map_congr_left λk hk=> ?_;have:=((hP k).1 (List.mem_filter.1 hk).2).1;show UO E g.sl L k=UO E (λk=>g.sl (L2 k)) (Hi L) (KK k);unfold UO;rw[mD aE (k:=KK k) rfl];simp only[Ko this]
   have aJ:=Sat.back (Ps:=_::_::_::_::_::_::_::Z) 2 aW;simp only[List.set_cons_succ,List.set_cons_zero]at aJ;have aK:Sat (Aa (UO E g.sl L) (g.kinds.filter P)::MapK b3 (gQ L g.sl done)::Cells b E.Ew ((KB g).set 2 (.map (some b3)))::DY g.bi .i64 (F6 (·.id) L)::DY g.bb .u64 (F6 (·.base) L)::Aa (ZK E λx=>decide (x.kd∈done)) L::Z) aU:=by
    have h1:=(aJ.tail.front 4 rfl).JM (L':=g.kinds.filter P++g.kinds.filter λk=> !P k) (List.filter_append_perm P g.kinds).symm;have h2:=Sat.cE.1 h1;exact(h2.front 1 rfl).tail
   rw[q1,q2,q3]at aK;unfold Mj;rw[Qm (f:=(·.id)) (λ_=>rfl),Qm (f:=(·.base)) (λ_=>rfl)];exact((((aK.front 0 rfl).front 1 rfl).front 4 rfl).front 4 rfl).front 4 rfl
 .obtain⟨hk,rfl⟩:=dR bB;refine WH (WI (AO (vs:=[.int .i64 0,.bool false,.bool false,.bool false]) aI λa1 cF aX _=> ?_));refine Fp (news:=Mq k) aX rfl (by simp[Mq,Value.oneCell']) λcG aY=> ?_;refine Ab aY (o:=0) (m:=3) rfl (by simp[Mq]) λcH aC=> ?_;have hlen:=(mA (aC.front 6 rfl) hk).2;have bA:=WG L k;have bH:=hI.inv.KV;have e2:(λx:DF=>decide (x.kd∈done))=λx=>decide (x.kd∈done)||decide (x.id∈((Dm L k).take 0).map (·.id)):=by grind
  rw[e2]at aC;refine AI (λst w'=> ∃i:Nat,st.1=(i:Int)/\i<=(Dm L k).length/\Sat (Cells a1 E.I6 (Mq (KK k))::N9 r8 g.bm (Qj g.kinds g.sl) (some k) (done++[k]) N2::MapK b3 (gQ L g.sl done)::Cells b E.Ew (KB g)::DY g.bi .i64 (F6 (·.id) L)::DY g.bb .u64 (F6 (·.base) L)::Aa (UO E g.sl L) g.kinds::Aa (ZK E λx=>decide (x.kd∈done)||decide (x.id∈((Dm L k).take i).map (·.id))) L::Z) w') (λst _=>((Dm L k).length-st.1).toNat)
   ⟨0,rfl,Nat.zero_le _,aC⟩ ?_
  rintro⟨i',u⟩ _ cJ ⟨i,hi,bZ,d⟩;dsimp only at hi⊢;subst hi;obtain⟨aS,_⟩:=mA (d.front 6 rfl) hk;refine AB (λb0=> ?_) λbX=> ?_
  .obtain⟨x,C⟩: ∃x,(Dm L k)[i]? =some x:=⟨_,List.getElem?_eq_getElem (by omega)⟩;obtain⟨a,ha,hc⟩:=dQ aS C;have aF:=EL.1 (List.mem_of_getElem? C);rw[ha];simp only[AG];refine⟨⟨by omega,by omega⟩,some ⟨x.GR,0,none⟩,hc,_,d.cell rfl,_,d.cell rfl,_,d.cell rfl,_,d.cell rfl,?_⟩;simp only[AG];obtain⟨jj,hj⟩:=List.mem_iff_getElem?.1 aF.1;have aB:((Dm L k).map (·.id)).Nodup:=List.Nodup.sublist (List.filter_sublist.map _) hI.inv.nd;have bK:x.id∉((Dm L k).take i).map (·.id):=λhm=>by
    obtain⟨y,J,e⟩:=List.mem_map.1 hm;obtain⟨n,hn⟩:=List.mem_iff_getElem?.1 J;rw[List.getElem?_take]at hn;split at hn
    .rename_i hni;have e2:=map_inj aB (List.mem_of_getElem? hn) (List.mem_of_getElem? C) e;subst e2;have n1:=(List.getElem?_eq_some_iff.1 hn);have n2:=(List.getElem?_eq_some_iff.1 C);have:=(List.getElem_inj (h₀:=n1.1) (h₁:=n2.1) (MT aB)).1 (by grind);omega
    .cases hn
   have T:=(d.front 7 rfl).F0 hj;have ei:ZK E (λx=>decide (x.kd∈done)||decide (x.id∈((Dm L k).take i).map (·.id))) x=Cells x.GR E.HZ (C6 x):=by
    unfold ZK;rw[if_neg]
    .rfl
    grind
   rw[ei]at T;rw[add_eq];refine Vn [.int .i64 (KK k).1,.bool (KK k).2.1,.bool (KK k).2.2.1,.bool (KK k).2.2.2] (0+2) 0 T (by simp[C6]) (by simp[Value.oneCell']) λcK aD=> ?_;have ec:List.take (0+2+0) (C6 x)++[.int .i64 (KK k).1,.bool (KK k).2.1,.bool (KK k).2.2.1,.bool (KK k).2.2.2]++List.drop (0+2+0+[Value.int .i64 (KK k).1,.bool (KK k).2.1,.bool (KK k).2.2.1,.bool (KK k).2.2.2].length) (C6 x)=C6 x.flip:=by
    rw[<-aF.2];rfl
   rw[ec]at aD;have e3:Cells x.GR E.HZ (C6 x.flip)=ZK E (λx=>decide (x.kd∈done)||decide (x.id∈((Dm L k).take (i+1)).map (·.id))) x:=by
    unfold ZK;rw[if_pos]
    .rfl
    .rw[Et C];simp
   have e4:Aa (ZK E λx=>decide (x.kd∈done)||decide (x.id∈((Dm L k).take i).map (·.id))) (L.eraseIdx jj)=Aa (ZK E λx=>decide (x.kd∈done)||decide (x.id∈((Dm L k).take (i+1)).map (·.id))) (L.eraseIdx jj):=Aa.congr λy J=>by
    have bC:y∈L:=List.mem_of_mem_eraseIdx J;have O:y.id≠x.id:=λe=>YI a3 hj (map_inj hI.inv.nd bC aF.1 e▸J);unfold ZK;rw[Et C,List.map_append];simp[O]
   rw[e3,e4]at aD;have aL:=Sat.back (Ps:=_::_::_::_::_::_::_::_::Z) 7 (aD.G5 hj);simp only[List.set_cons_succ,List.set_cons_zero]at aL;refine⟨⟨i+1,by rw[AF];rfl,by omega,aL⟩,?_⟩;rw[AF];omega
  .have a5:i=(Dm L k).length:=by omega
   have e5:Aa (ZK E λx=>decide (x.kd∈done)||decide (x.id∈((Dm L k).take i).map (·.id))) L=Aa (ZK E λx=>decide (x.kd∈done++[k])) L:=Aa.congr λx C=>by
    unfold ZK;rw[a5,List.take_length];have:(decide (x.kd∈done)||decide (x.id∈(Dm L k).map (·.id)))=decide (x.kd∈done++[k]):=by
     have bJ:x.id∈(Dm L k).map (·.id)↔x.kd=k:=by
      rw[List.mem_map];constructor
      .rintro⟨y,J,e⟩;have J:=EL.1 J;rw[<-map_inj hI.inv.nd J.1 C e];exact J.2
      .intro e;exact⟨x,EL.2 ⟨C,e⟩,rfl⟩
     grind
    grind
   rw[e5]at d;have hm: ∀{w'} {Y},Sat (N9 r8 g.bm (Qj g.kinds g.sl) (some k) (done++[k]) N2::Y) w'->MF r8 g.bm w'<N':=λh=>by rw[h.Lr];exact hN
   refine AB (λbL=> ?_) λb4=> ?_
   .have O:Dm L k≠ []:=λh=>by grind
    have a9:k.2.2.2=true:=by
     cases hq:Dm L k with
     | nil=>grind
     | cons x r=>
      have C:=EL.1 (show x∈Dm L k by rw[hq];exact List.mem_cons_self)
      grind
    refine⟨_,d.cell rfl,_,d.cell rfl,_,d.cell rfl,_,d.cell rfl,Vw (n:=KK k) (d.front 2 rfl) λcL aZ=> ?_⟩;have aA:=Sat.back (Ps:=_::_::_::_::_::_::_::_::Z) 2 aZ;simp only[List.set_cons_succ,List.set_cons_zero]at aA;have et:=qK (sl:=g.sl) (done:=done) a9 O;unfold FJ at et;rw[et]at aA;exact⟨⟨_,_,_,aA.tail⟩,hm aA.tail⟩
   .have he:Dm L k=[]:=List.eq_nil_of_length_eq_zero (by omega);have T:=d.tail;rw[<-mE (sl:=g.sl) (done:=done) (.inr he)]at T
    grind
end
def AH{a:Addr}{K:Addr->Prop}(h:K a):NC (some a) K:=by rw[AG];exact h
def EY(U:Nat->Bool)(k:Nat):Int:=W λi=>U (64*k+i)
def D7(U:Nat->Bool)(n:Nat):List Int:=(List.range n).map (EY U)
def K1(uw:List Int)(U:Nat->Bool):Prop:=uw=D7 U uw.length/\ ∀i,64*uw.length<=i->U i=false
def FN(U:Nat->Bool)(n:Nat):(D7 U n).length=n:=by simp[D7]
def Ot{U:Nat->Bool}{n k:Nat}(h:k<n):(D7 U n)[k]? =some (EY U k):=by simp[D7,h]
def gR{uw:List Int}{U:Nat->Bool}(h:K1 uw U){k:Nat}(hk:k<uw.length):(ints .u64 uw)[k]? =some (.int .u64 (EY U k)):=by
 rw[h.1];exact JL (Ot hk)
def P6{U:Nat->Bool}{n:Nat}(h: ∀i,64*n<=i->U i=false):K1 (D7 U n) U:=by
 refine⟨by rw[FN],?_⟩;rw[FN];exact h
def Qo{U:Nat->Bool}(h: ∀i,U i=false):K1 [] U:=⟨rfl,λi _=>h i⟩
def WL{U V:Nat->Bool}{n:Nat}(h: ∀i,i<64*n->U i=V i):D7 U n=D7 V n:=by
 unfold D7 EY;refine List.map_congr_left λk hk=> ?_;rw[List.mem_range]at hk;exact Gt λi d=>h _ (by omega)
def Tr{U V:Nat->Bool}{n k:Nat}(h: ∀i,i/64≠k->U i=V i):(D7 U n).set k (EY V k)=D7 V n:=by
 apply List.ext_getElem?;intro j;rw[List.getElem?_set];by_cases hj:j<n
 .rw[Ot hj,Ot hj,FN];by_cases e:k=j
  .grind
  .rw[if_neg e];unfold EY;congr 1;exact Gt λi d=>h _ (by omega)
 .rw[List.getElem?_eq_none (l:=D7 V n) (by rw[FN];omega),List.getElem?_eq_none (l:=D7 U n) (by rw[FN];omega),FN]
  grind
def YK{U:Nat->Bool}{n:Nat}(h: ∀i,64*n<=i->U i=false):D7 U n++[0]=D7 U (n+1):=by
 unfold D7;rw[List.range_succ,List.map_append];congr 1;have:EY U n=0:=by
  unfold EY;exact HF.2 λi _=>h _ (by omega)
 grind
def vM{n:Nat}:Int.fdiv (n:Int) (2^(min (Int.toNat 6) (IntKind.bits .i64)))=((n/64:Nat):Int):=by
 rw[show(2:Int)^(min (Int.toNat 6) (IntKind.bits .i64))=64 by decide,Int.fdiv_eq_ediv_of_nonneg _ (by decide)];omega
def vN{n:Nat}(h:n<9223372036854775808):Dj .i64 0 (n:Int) 63=((n %64:Nat):Int):=by
 show IntKind.wrap .i64 ((BitVec.ofInt 64 (n:Int)&&&BitVec.ofInt 64 63).toNat:Int)=_;have d:(BitVec.ofInt 64 (n:Int)).toNat=n:=by
  rw[BitVec.toNat_ofInt];omega
 have j:(BitVec.ofInt 64 63).toNat=63:=by decide
 rw[BitVec.toNat_and,d,j,show(63:Nat)=2^6-1 from rfl,Nat.and_two_pow_sub_one_eq_mod];have:n %2^6<64:=Nat.mod_lt _ (by decide);exact AF
def vO{n:Nat}(h:n<1099511627776):i64 ((n:Int)*2^(min (Int.toNat 6) (IntKind.bits .i64)))=((64*n:Nat):Int):=by
 rw[show(2:Int)^(min (Int.toNat 6) (IntKind.bits .i64))=64 by decide,AF];omega
section
variable{E:Env}{w:World}{Z:List Pr}{s:AX}{uw:List Int}{U:Nat->Bool}
def Gy(H:Sat (Row E.AD 1 s (ints .u64 uw)::Z) w):uw.length=s.len/\s.len<=s.cap/\s.cap<9223372036854775808:=by
 have d:=H.C1;simp only[ints,List.length_map]at d;exact⟨by omega,H.own.cap,H.own.top⟩
def Ix(H:Sat (Row E.AD 1 s (ints .u64 uw)::Z) w)(j:K1 uw U){k:Nat}(hk:k<uw.length): ∃b,s.base=some ⟨b,0,none⟩/\w.cell? ((Addr.mk b 0 none).add (k*1))=some (.int .u64 (EY U k)):=by
 have h:=Gy H;obtain⟨b,d⟩:=H.own.Ep (by omega);exact⟨b,d,by rw[Nat.mul_one];exact H.own.cell d (gR j hk)⟩
def Ts(H:Sat (Row E.AD 1 s (ints .u64 uw)::Z) w)(j:K1 uw U){n:Nat}(J:n<1099511627776){K:Bool->World->Prop}(d:K (U n) w):F.IS E s n K w:=by
 unfold F.IS;have C:=Gy H;rw[vM,vN (by omega)];refine⟨by decide,AB (λg=>⟨by decide,?_⟩) λg=> ?_⟩
 .obtain⟨b,v,y⟩:=Ix H j (k:=n/64) (by omega);rw[v,Int.toNat_natCast];simp only[AG];refine⟨⟨by omega,by omega⟩,_,y,by omega,?_⟩;unfold EY;rw[xF _ (by omega) (by omega),Int.toNat_natCast,show 64*(n/64)+n %64=n by omega];cases hu:U n
  .rw[hu]at d;exact d
  .rw[hu]at d;exact d
 .rw[j.2 n (by omega)]at d;exact d
def YL(hT:FQ E.AJ w)(H:Sat (Row E.AD 1 s (ints .u64 uw)::Z) w)(J:K1 uw U){n:Nat}(hn:n<1099511627776)(hs:s.len<1099511627776){K:Int->World->Prop}
  (C: ∀r:Nat,n<=r->U r=false->(∀i,n<=i->i<r->U i=true)->K r w):F.E4 E s n K w:=by
 unfold F.E4 T0.E4;have hl:=Gy H;rw[vM,vN (by omega),aG (by omega)];refine⟨by decide,AY λk hk=> ?_⟩;subst hk;refine AI (λst w'=>w'=w/\ ∃k:Nat,st.1=(k:Int)/\n/64<=k/\(k<=uw.length∨k=n/64)/\ ∀i,n<=i->i<64*k->U i=true) (λst _=>((uw.length:Int)-st.1).toNat) ⟨rfl,n/64,rfl,Nat.le_refl _,.inr rfl,λi h1 h2=>by omega⟩ ?_;rintro⟨k',u⟩ _ w3 ⟨rfl,k,hk,k1,k2,Y⟩;dsimp only at hk⊢;subst hk;refine AB (λg=> ?_) λg=>⟨by decide,AY λt v=> ?_⟩
 .obtain⟨b,hb,hc⟩:=Ix H J (k:=k) (by omega);rw[hb];simp only[AG];refine⟨⟨by omega,by omega⟩,_,by rw[Int.toNat_natCast];exact hc,?_⟩;have main: ∀V:Nat->Bool,(∀i,i<64->(V i=true↔U (64*k+i)=true∨64*k+i<n))->CND (W V !=18446744073709551615)
    ((0:Int)<=6/\F.Bq E (Dj .u64 2 18446744073709551615 (W V)) (λaA aB=>HX (i64 ((i64 ((k:Int)*2^(min (Int.toNat 6) (IntKind.bits .i64))))+aA):Int) λt13=>K t13 aB) w3)
    (((w3=w3/\ ∃d:Nat,i64 ((k:Int)+1)=(d:Int)/\n/64<=d/\(d<=uw.length∨d=n/64)/\ ∀i,n<=i->i<64*d->U i=true)/\((uw.length:Int)-i64 ((k:Int)+1)).toNat<((uw.length:Int)-(k:Int)).toNat)):=λV hV=>by
   refine Gq (λO=>⟨by decide,?_⟩) λhe=> ?_
   .rw[zW];refine Qf hT (λy=> ?_) λr hr h1 h2=>AY λt v=> ?_
    .exfalso;refine O ?_;rw[<-Vs];refine Gt λi hi=> ?_;have:=y i hi
     grind
    .have:t=((64*k+r:Nat):Int):=by
      rw[v,vO (by omega),AF];omega
     rw[this];have aF: ¬(U (64*k+r)=true∨64*k+r<n):=λh=>by grind
     have T:U (64*k+r)=false:=by
      cases e:U (64*k+r)with
      | false=>rfl
      | true=>grind
     refine C _ (by omega) T λi i1 i2=> ?_;by_cases e:i<64*k
     .exact Y i i1 e
     .have h4:V (i-64*k)=true:=by
       have:=h2 (i-64*k) (by omega)
       grind
      rcases(hV _ (by omega)).1 h4 with q|q
      .rwa[show 64*k+(i-64*k)=i by omega]at q
      .omega
   .rw[show i64 ((k:Int)+1)=((k+1:Nat):Int) by rw[AF];rfl];refine⟨⟨rfl,k+1,rfl,by omega,.inl (by omega),λi i1 i2=> ?_⟩,by omega⟩;by_cases e:i<64*k
    .exact Y i i1 e
    .rw[<-Vs]at he;have:=rK he (i:=i-64*k) (by omega);rcases(hV _ (by omega)).1 this with q|q
     .rwa[show 64*k+(i-64*k)=i by omega]at q
     .omega
  refine AU ⟨by decide,Bc (λe=>⟨by omega,AY λt v j=> ?_⟩) λe j=> ?_⟩
  .unfold EY at v;rw[jR]at v
   grind
  .refine main (λi=>U (64*k+i)) λi hi=>⟨.inl,λh=> ?_⟩;rcases h with h|h
   .exact h
   .omega
 .rw[<-hl.1,vO (by omega)]at v;unfold Rm at v;by_cases e:64*uw.length<=n
  .have:t=(n:Int):=by rw[v];omega
   rw[this];exact C n (Nat.le_refl _) (J.2 n e) λi i1 i2=>by omega
  .have:t=((64*uw.length:Nat):Int):=by rw[v];omega
   rw[this];exact C _ (by omega) (J.2 _ (Nat.le_refl _)) λi i1 i2=>Y i i1 (by omega)
def rowBt_setS{b t:Nat}{cs:List Value}{o:Nat}(aN:o<cs.length)(H:Sat (Cells b t (cs.set o (FJ s))::Row E.AD 1 s (ints .u64 uw)::Z) w)(hU:K1 uw U)(hs:uw.length<1099511627776){n:Nat}(hn:n<1099511627776){K:World->Prop}
  (hK: ∀s' d w',K1 d (λi=>U i||i==n)->d.length=max uw.length (n/64+1)->Sat (Cells b t (cs.set o (FJ s'))::Row E.AD 1 s' (ints .u64 d)::Z) w'->K w'):F.JT E (some ((Addr.mk b 0 none).add o)) n K w:=by
 unfold F.JT;rw[vM,vN (by omega),rZ (by omega)];refine AI (λ_ w'=> ∃s d,K1 d U/\(d.length=uw.length∨(uw.length<=d.length/\d.length<=n/64+1))/\Sat (Cells b t (cs.set o (FJ s))::Row E.AD 1 s (ints .u64 d)::Z) w') (λ_ w'=>match w'.cell? ((Addr.mk b 0 none).add o)with|some (.slice _ l _)=>n/64+1-l|_=>0) ⟨s,uw,hU,.inl rfl,H⟩ ?_;rintro u _ w2 ⟨s,C,y,hlen,T⟩;have hc: ∀{s:AX},(cs.set o (FJ s))[0+o]? =some (FJ s):=λ{s}=>by grind
 have Cr: ∀{s:AX} {w'} {Y},Sat (Cells b t (cs.set o (FJ s))::Y) w'->w'.cell? ((Addr.mk b 0 none).add o)=some (.slice s.base s.len s.cap):=λh=>h.cell hc;have hl:=Gy (T.front 1 rfl);have hm: ∀{s:AX} {w'} {Y},Sat (Cells b t (cs.set o (FJ s))::Y) w'->(match w'.cell? ((Addr.mk b 0 none).add o)with|some (.slice _ l _)=>n/64+1-l|_=>0:Nat)=n/64+1-s.len:=λh=>by grind
 simp only[AG];refine⟨by decide,s,Cr T,AB (λg=> ?_) λg=> ?_⟩
 .refine⟨s,Cr T,AO (vs:=[.int .u64 0]) T λb8 w9 H9 _=> ?_⟩;refine Er (zs:= #[.int .u64 0]) (bytes:=8) (H9.EM 1 rfl) rfl rfl (by simp[Value.oneCell']) (by omega) (by omega) λD6 aO aA aG=> ?_;refine Ab (aA.front 1 rfl) (v:=FJ D6) (o:=0) (m:=o) rfl (by grind) λaP J=> ?_;rw[Nat.zero_add,List.set_set]at J;have e:ints .u64 C++[.int .u64 0]=ints .u64 (D7 U (C.length+1)):=by
   rw[<-YK y.2,<-y.1];simp[ints]
  rw[e]at J;refine⟨⟨D6,D7 U (C.length+1),P6 λi hi=>y.2 i (by omega),by rw[FN];omega,J⟩,?_⟩
  grind
 .have H3:=T.drew;refine⟨s,Cr H3,by decide,?_⟩;obtain⟨a,ha,aC⟩:=Ix (H3.front 1 rfl) y (k:=n/64) (by omega);rw[ha,Int.toNat_natCast];simp only[AG];refine⟨⟨by omega,by omega⟩,_,aC,by omega,⟨by omega,by omega⟩,?_⟩;have ew:Dj .u64 1 (EY U (n/64)) (W λi=>i==n %64)=EY (λi=>U i||i==n) (n/64):=by
   unfold EY;rw[jR]
   grind
  rw[ew,Nat.mul_one];refine Gp (H3.front 1 rfl) (j:=n/64) rfl (by simp[ints];omega) ha λaE O=> ?_;have e2:(ints .u64 C).set (n/64) (.int .u64 (EY (λi=>U i||i==n) (n/64)))=ints .u64 (D7 (λi=>U i||i==n) C.length):=by
   rw[y.1,FN,<-Tr (U:=U) (k:=n/64) (V:=λi=>U i||i==n) λi hi=>by
    have:(i==n)=false:=by grind
    grind]
   simp only[ints,List.map_set]
  rw[e2]at O;refine hK s _ aE (P6 λi hi=> ?_) (by rw[FN];omega) (O.front 1 rfl);have:(i==n)=false:=by grind
  rw[y.2 i hi,this];rfl
end
def Fg(x:DF):(C6 x).length=6:=rfl
def LQ(x:DF): ∀v∈C6 x,v.oneCell'=true:=by
 intro v d;simp only[C6,List.mem_cons,List.not_mem_nil,or_false]at d;rcases d with rfl|rfl|rfl|rfl|rfl|rfl<;>rfl
def Gj(E:Env)(q:Nat)(L:List DF):Pr:=Ex λx:AX×List DF=>Jj (x.2.Perm L) (Lo [Cells q E.A7 [FJ x.1],Row E.Ah 6 x.1 (Ao C6 x.2)])
section
variable{E:Env}{q:Nat}{L l:List DF}{Z:List Pr}{w:World}{s:AX}
def Sat.OE:Sat (Gj E q L::Z) w↔ ∃s l,l.Perm L/\Sat (Cells q E.A7 [FJ s]::Row E.Ah 6 s (Ao C6 l)::Z) w:=by
 unfold Gj;rw[Sat.ex];constructor
 .rintro⟨⟨s,l⟩,h⟩;rw[Sat.where,Sat.star]at h
  grind
 .rintro⟨s,l,h1,h2⟩;refine⟨⟨s,l⟩,?_⟩;rw[Sat.where,Sat.star]
  grind
def Ub{R:List Pr}(H:Sat (Cells q E.A7 [FJ s]::R) w):w.cell? (Addr.mk q 0 none)=some (.slice s.base s.len s.cap):=H.Af rfl
def zX{s':AX}{R:List Pr}(H:Sat (Cells q E.A7 [FJ s]::R) w){K:World->Prop}(d: ∀w',Sat (Cells q E.A7 [FJ s']::R) w'->K w'):stCells (Addr.mk q 0 none) 0 [.slice s'.base s'.len s'.cap] w K:=
 CN H (o:=0) rfl (Nat.zero_lt_one) d
def Tt(H:Sat (Row E.Ah 6 s (Ao C6 l)::Z) w):l.length=s.len/\s.len<=s.cap/\s.cap<9223372036854775808:=H.F9 (by decide) Fg
def Uc(H:Sat (Row E.Ah 6 s (Ao C6 l)::Z) w){i:Nat}{x:DF}(y:l[i]? =some x): ∃b,s.base=some ⟨b,0,none⟩/\w.cell? ((Addr.mk b 0 none).add (i*6))=some (.int .i64 x.id)/\ ∀j v,(C6 x)[j]? =some v->w.cell? (((Addr.mk b 0 none).add (i*6)).add j)=some v:=by
 obtain⟨b,d⟩:=H.FZ (by decide) Fg (List.getElem?_eq_some_iff.1 y).1;refine⟨b,d,?_,λj v C=> ?_⟩
 .have:=H.Bu Fg d y (j:=0) rfl;omega
 .rw[add_add];exact H.Bu Fg d y C
def aO(H:Sat (Gj E q L::Z) w)(x:DF)(hf:L.length<1099511627776){K:Int->World->Prop}
  (aG:Mk x.id x.kd.1-> ∀w',Sat (Gj E q L::Z) w'->K 1 w')(aH: ¬Mk x.id x.kd.1->(∃y∈L,y.id=x.id∨y.base=x.base)-> ∀w',Sat (Gj E q L::Z) w'->K 34 w')
  (aF: ¬Mk x.id x.kd.1->(∀y∈L,y.id≠x.id/\y.base≠x.base)-> ∀w',Sat (Gj E q (IC L x)::Z) w'->K 0 w'):
  F.GH E (some ⟨q,0,none⟩) x.id x.base x.kd.1 x.kd.2.1 x.kd.2.2.1 x.kd.2.2.2 K w:=by
 unfold F.GH;obtain⟨s,l,hp,H1⟩:=Sat.OE.1 H;have aU:=hp.length_eq;refine AO (vs:=C6 x) H1 λb1 w2 J _=> ?_;have v:Mk x.id x.kd.1->K 1 w2:=λh=>aG h w2 (Sat.OE.2 ⟨s,l,hp,J.tail⟩);refine AU ⟨x.id,J.Af rfl,AB (λg j=>AR rfl (v (.inl g))) λg1=>⟨x.kd.1,J.cell rfl,AB (λg j=>AR rfl (v (.inr (.inl g)))) λg2=>⟨x.kd.1,J.cell rfl,λj=>AB (λg=>v (.inr (.inr (by omega)))) λg3=> ?_⟩⟩⟩;have aA: ¬Mk x.id x.kd.1:=by unfold Mk;omega
 refine AI (λst w'=>Sat (Cells b1 E.Ah (C6 x)::Cells q E.A7 [FJ s]::Row E.Ah 6 s (Ao C6 l)::Z) w'/\ ∃i:Nat,st.1=(i:Int)/\i<=l.length/\ ∀(j:Nat) y,j<i->l[j]? =some y->y.id≠x.id/\y.base≠x.base)
  (λst _=>((l.length:Int)-st.1).toNat) ⟨J,0,rfl,Nat.zero_le _,λj y hj=>by omega⟩ ?_
 rintro⟨i',u⟩ _ aI ⟨C,i,hi,aS,aT⟩;dsimp only at hi⊢;subst hi;have hl:=Tt (C.front 2 rfl);refine AH ⟨s,Ub (C.front 1 rfl),AB (λY=> ?_) λaR=> ?_⟩
 .have d:=C.drew;obtain⟨y,hy⟩: ∃y,l[i]? =some y:=⟨_,List.getElem?_eq_getElem (by omega)⟩;obtain⟨b,hb,c0,c⟩:=Uc (d.front 2 rfl) hy;have aB:y.id=x.id∨y.base=x.base->K 34 aI.drew:=λh=>aH aA ⟨y,hp.mem_iff.1 (List.mem_of_getElem? hy),h⟩ _ (Sat.OE.2 ⟨s,l,hp,d.tail⟩);have hq:=Ub (d.front 1 rfl);refine AU (AH ⟨s,hq,?_⟩)
  try dsimp only
  rw[hb];refine AH ⟨⟨by omega,Y⟩,y.id,c0,x.id,d.Af rfl,Bc (λe j=>AR rfl (aB (.inl e))) λe1=>AH ⟨s,hq,?_⟩⟩
  try dsimp only
  rw[hb];refine AH ⟨⟨by omega,Y⟩,y.base,c 1 _ rfl,x.base,d.cell rfl,λj=>Bc (λe=>aB (.inr e)) λe2=> ?_⟩;rw[AF (n:=(i:Int)+1)];refine⟨⟨d,i+1,by omega,by omega,λj z hj hz=> ?_⟩,by omega⟩
  grind
 .have d:=C.drew;have T: ∀y∈L,y.id≠x.id/\y.base≠x.base:=λy hy=>by
   obtain⟨j,hj⟩:=List.mem_iff_getElem?.1 (hp.mem_iff.2 hy)
   grind
  refine AH ⟨s,Ub (d.front 1 rfl),_,d.cell rfl,_,d.cell rfl,_,d.cell rfl,_,d.cell rfl,_,d.cell rfl,_,d.cell rfl,?_⟩;refine AO (vs:=C6 x) d.tail λaQ aV O _=>⟨Ub (O.front 1 rfl),?_⟩;refine Er (news:=C6 x) (O.EM 1 rfl) rfl rfl (LQ x) (by omega) (by omega) λZH aW aD _=>AH ?_;refine zX (s':=ZH) (aD.front 1 rfl) λaJ aE=>aF aA T aJ (Sat.OE.2 ⟨ZH,l++[x],?_,?_⟩)
  .exact List.perm_append_comm.trans ((List.Perm.cons x hp).trans (I9 L x).symm)
  .rw[FR];exact aE
def Tu(H:Sat (Cells q E.A7 [FJ s]::Row E.Ah 6 s (Ao C6 l)::Z) w)(hf:l.length<1099511627777){i:Nat}(O:i<l.length){K:World->Prop}
  (T: ∀s' w',Sat (Cells q E.A7 [FJ s']::Row E.Ah 6 s' (Ao C6 (l.eraseIdx i))::Z) w'->K w'):F.Ez E (some ⟨q,0,none⟩) i K w:=by
 unfold F.Ez;have hl:=Tt (H.front 1 rfl);refine Gs (n:=0) (z:=6) H rfl (by decide) λb1 w2 y=>AH ⟨s,Ub (y.front 1 rfl),⟨by omega,by omega⟩,?_⟩;rw[Int.toNat_natCast];refine FU (x:=⟨GN s.base s.cap 0 6,i,s.cap⟩) (news:=Ao C6 (l.take i)) y rfl ((y.front 2 rfl).Nx (by decide) Fg (Nat.le_of_lt O)) (by rw[De Fg,List.length_take];grind) (HE LQ _) (by grind) (by grind) λs5 w6 j C=> ?_;rw[List.nil_append]at j;dsimp only at C;rw[AF (n:=(i:Int)+1)];refine AH ⟨s,Ub (j.front 1 rfl),⟨by omega,by omega⟩,?_⟩;rw[show Int.toNat ((i:Int)+1)=i+1 by omega];refine FU (x:=⟨GN s.base s.cap (i+1) 6,s.len-(i+1),s.cap-(i+1)⟩) (news:=Ao C6 (l.drop (i+1))) j rfl ((j.front 2 rfl).Ny (by decide) Fg O) (by rw[De Fg,List.length_drop];grind) (HE LQ _) (by grind) (by grind) λs9 Y d _=> ?_;rw[<-FR,<-List.eraseIdx_eq_take_drop_succ]at d;refine AH (zX (s':=s9) (d.front 1 rfl) λJ v=>T s9 J (v.front 2 rfl).tail)
def K3(p:DF->Prop)(l:List DF)(i:Nat)(a:Int):Prop:=
 (a= -1/\ ∀(j:Nat) x,j<i->l[j]? =some x-> ¬p x)∨ ∃(m:Nat) (y:DF),a=(m:Int)/\m<i/\l[m]? =some y/\p y/\ ∀(j:Nat) x,j<i->l[j]? =some x->p x->y.base<=x.base
def K3.skip{p:DF->Prop}{i:Nat}{a:Int}(h:K3 p l i a){x:DF}(J:l[i]? =some x)(hp: ¬p x):K3 p l (i+1) a:=by
 have split: ∀(j:Nat) z,j<i+1->l[j]? =some z->(j<i∨z=x):=λj z v hz=>by grind
 rcases h with ⟨e,h⟩|⟨m,y,e,hm,C,h1,h2⟩
 .exact .inl ⟨e,λj z v hz=>(split j z v hz).elim (λg=>h j z g hz) λg=>g▸hp⟩
 .exact .inr ⟨m,y,e,by omega,C,h1,λj z v hz d=>(split j z v hz).elim (λg=>h2 j z g hz d) λg=>absurd (g▸d) hp⟩
def K3.C5{p:DF->Prop}{i m:Nat}{y:DF}(h:K3 p l i m)(v:l[m]? =some y){x:DF}(O:l[i]? =some x)(J:y.base<=x.base):K3 p l (i+1) m:=by
 rcases h with ⟨e,h⟩|⟨m',T,e,hm,d,h1,h2⟩
 .omega
 .have e:m=m':=by omega
  subst e;rw[v]at d;cases d;refine .inr ⟨m,y,rfl,by omega,v,h1,λj z K hz C=> ?_⟩
  grind
def K3.take{p:DF->Prop}{i:Nat}{a:Int}(h:K3 p l i a){x:DF}(v:l[i]? =some x)(hp:p x)(C:a<0∨ ∀(m:Nat) y,a=m->l[m]? =some y->x.base<=y.base):K3 p l (i+1) i:=by
 refine .inr ⟨i,x,rfl,by omega,v,hp,λj z J hz d=> ?_⟩;by_cases e:j=i
 .grind
 .rcases h with ⟨_,h⟩|⟨m,y,e,hm,K,h1,h2⟩
  .grind
  grind
def YM(H:Sat (Gj E q L::Z) w)(hI:KJ L){k:Kd}{K:Int->Bool->World->Prop}(aI:Dm L k=[]-> ∀w',Sat (Gj E q L::Z) w'->K 0 false w')
  (aJ: ∀x r,Dm L k=x::r-> ∀w',Sat (Gj E q (Fk L x.id)::Z) w'->K x.id true w'):F.Bn E (some ⟨q,0,none⟩) k.1 k.2.1 k.2.2.1 k.2.2.2 K w:=by
 unfold F.Bn T0.Bn;obtain⟨s,l,hp,H1⟩:=Sat.OE.1 H;have aW:=hp.length_eq;have aN:=hI.KV;refine AI (λst w'=>Sat (Cells q E.A7 [FJ s]::Row E.Ah 6 s (Ao C6 l)::Z) w'/\ ∃i:Nat,st.2.1=(i:Int)/\i<=l.length/\K3 (λx=>x.kd=k) l i st.1)
  (λst _=>((l.length:Int)-st.2.1).toNat) ⟨H1,0,rfl,Nat.zero_le _,.inl ⟨rfl,λj y hj=>by omega⟩⟩ ?_
 rintro⟨a,i',u⟩ _ w2 ⟨v,i,hi,aV,d⟩;dsimp only at hi d⊢;subst hi;have hl:=Tt (v.front 1 rfl);refine AH ⟨s,Ub v,AB (λaK=>AH ⟨s,Ub v,?_⟩) λaU=> ?_⟩
 .obtain⟨x,C⟩: ∃x,l[i]? =some x:=⟨_,List.getElem?_eq_getElem (by omega)⟩;obtain⟨b,hb,_,c⟩:=Uc (v.front 1 rfl) C;rw[hb];refine AH ⟨⟨by omega,aK⟩,_,c 0 _ rfl,_,c 1 _ rfl,_,c 2 _ rfl,_,c 3 _ rfl,_,c 4 _ rfl,_,c 5 _ rfl,?_⟩;refine AO (vs:=[.int .i64 0,.int .u64 0,.int .i64 0,.bool false,.bool false,.bool false]) v λaR aY aD _=> ?_;refine Fp (news:=C6 x) aD rfl (LQ x) λaL aE=> ?_;have O:=aE.drew;rw[AF (n:=(i:Int)+1)];have J: ∀{a':Int},K3 (λx=>x.kd=k) l (i+1) a'->(Sat (Cells q E.A7 [FJ s]::Row E.Ah 6 s (Ao C6 l)::Z) aL.drew/\ ∃j:Nat,(i:Int)+1=(j:Int)/\j<=l.length/\K3 (λx=>x.kd=k) l j a')/\((l.length:Int)-((i:Int)+1)).toNat<((l.length:Int)-(i:Int)).toNat:=
   λh=>⟨⟨O.tail,i+1,by omega,by omega,h⟩,by omega⟩
  have no:=λg:x.kd≠k=>J (d.skip C g);refine AU ⟨x.kd.1,O.cell rfl,Bc (λe1=>⟨x.kd.2.1,O.cell rfl,?_⟩) λg j=>AP rfl (no λe=>g (by rw[e]))⟩;refine AS (λe2=>⟨x.kd.2.2.1,O.cell rfl,AS (λe3=>⟨x.kd.2.2.2,O.cell rfl,AS (λe4=> ?_) λg j=>AP rfl (no λe=>by grind)⟩) λg j=>AP rfl (no λe=>by grind)⟩) λg j=>AP rfl (no λe=>by grind);have hk:x.kd=k:=Prod.ext e1 (Prod.ext (by grind) (Prod.ext (by grind) (by grind)));refine AB (λha j=>AR rfl (J (d.take C hk (.inl ha)))) λha=>⟨x.base,O.cell rfl,AH ⟨s,Ub (O.front 1 rfl),?_⟩⟩;obtain⟨m,y,e,hm,Y,-,-⟩: ∃(m:Nat) (y:DF),a=(m:Int)/\m<i/\l[m]? =some y/\y.kd=k/\True:=by
   rcases d with ⟨e,_⟩|⟨m,y,e,hm,Y,h1,_⟩
   .omega
   grind
  subst e;obtain⟨b',aH,_,c'⟩:=Uc (O.front 2 rfl) Y;rw[aH];refine AH ⟨⟨by omega,by omega⟩,y.base,c' 1 _ rfl,λj=>AB (λg=>J (d.take C hk (.inr λm' y' e aX=> ?_))) λg=>J (d.C5 Y C (by omega))⟩
  grind
 .have e:i=l.length:=by omega
  subst e;refine AB (λha=>aI ?_ w2 (Sat.OE.2 ⟨s,l,hp,v⟩)) λha=>AH ⟨s,Ub v,?_⟩
  .rcases d with ⟨_,h⟩|⟨m,y,e,_⟩
   .refine List.filter_eq_nil_iff.2 λx C=> ?_;obtain⟨j,hj⟩:=List.mem_iff_getElem?.1 (hp.mem_iff.2 C)
    grind
   .omega
  .rcases d with ⟨e,_⟩|⟨m,y,e,hm,Y,h1,h2⟩
   .omega
   subst e;obtain⟨b,hb,c0,_⟩:=Uc (v.front 1 rfl) Y;rw[hb];refine AH ⟨⟨by omega,by omega⟩,y.id,c0,Tu v (by omega) hm λs' w' H'=> ?_⟩;have aA:y∈L:=hp.mem_iff.1 (List.mem_of_getElem? Y);have aB:y∈Dm L k:=EL.2 ⟨aA,h1⟩;obtain⟨x,r,T⟩: ∃x r,Dm L k=x::r:=by
    cases e:Dm L k with
    | nil=>grind
    | cons x r=>grind
   have hs:=KA hI.Ho k;have C:=EL.1 (show x∈Dm L k by rw[T];exact .head _);have aF:x=y:=by
    rw[T]at aB hs;rcases List.mem_cons.1 aB with e|g
    .exact e.symm
    .have g1:x.base<y.base:=(List.pairwise_cons.1 hs).1 y g;obtain⟨j,hj⟩:=List.mem_iff_getElem?.1 (hp.mem_iff.2 C.1)
     grind
   subst aF;refine aJ x r T w' (Sat.OE.2 ⟨s',_,?_,H'⟩);exact(((C0 Y).symm.trans hp).trans (L1 hI.nd aA)).cons_inv
def aP(H:Sat (Gj E q L::Z) w)(hI:KJ L){id:Int}{K:Int->World->Prop}(T:(∀x∈L,x.id≠id)-> ∀w',Sat (Gj E q L::Z) w'->K 35 w')(O: ∀x∈L,x.id=id-> ∀w',Sat (Gj E q (Fk L id)::Z) w'->K 0 w'):
  F.CH E (some ⟨q,0,none⟩) id K w:=by
 unfold F.CH T0.CH;obtain⟨s,l,hp,H1⟩:=Sat.OE.1 H;have aH:=hp.length_eq;have aB:=hI.KV;have hl:=Tt (H1.front 1 rfl);refine AI (λst w'=>w'=w/\ ∃i:Nat,st.1=(i:Int)/\i<=l.length/\ ∀(j:Nat) y,j<i->l[j]? =some y->y.id≠id) (λst _=>((l.length:Int)-st.1).toNat) ⟨rfl,0,rfl,Nat.zero_le _,λj y J=>by omega⟩ ?_;rintro⟨i',u⟩ _ w2 ⟨rfl,i,hi,aG,v⟩;dsimp only at hi⊢;subst hi;refine AH ⟨s,Ub H1,AB (λY=>AH ⟨s,Ub H1,?_⟩) λaF=>T (λx d=> ?_) w2 H⟩
 .obtain⟨x,d⟩: ∃x,l[i]? =some x:=⟨_,List.getElem?_eq_getElem (by omega)⟩;obtain⟨b,hb,c0,_⟩:=Uc (H1.front 1 rfl) d;rw[hb];refine AH ⟨⟨by omega,Y⟩,x.id,c0,Bc (λe=>Tu H1 (by omega) (by omega) λs' w' H'=> ?_) λe=> ?_⟩
  .have C:x∈L:=hp.mem_iff.1 (List.mem_of_getElem? d);refine O x C e w' (Sat.OE.2 ⟨s',_,?_,H'⟩);rw[<-e];exact(((C0 d).symm.trans hp).trans (L1 hI.nd C)).cons_inv
  .rw[AF (n:=(i:Int)+1)];refine⟨⟨rfl,i+1,by omega,by omega,λj y J hy=> ?_⟩,by omega⟩;by_cases ej:j=i
   .rw[ej,d]at hy;cases hy;exact e
   .exact v j y (by omega) hy
 .obtain⟨j,J⟩:=List.mem_iff_getElem?.1 (hp.mem_iff.2 d);exact v j x (by have:=(List.getElem?_eq_some_iff.1 J).1;omega) J
def WM(H:Sat (Gj E q L::Z) w)(hI:KJ L){K:Int->Bool->World->Prop}(aD:(∀x∈L,x.D0=true)-> ∀w',Sat (Gj E q L::Z) w'->K 0 false w')(aE: ∀x,WJ L x-> ∀w',Sat (Gj E q L::Z) w'->K x.id true w'):
  F.FY E (some ⟨q,0,none⟩) K w:=by
 unfold F.FY;obtain⟨s,l,hp,H1⟩:=Sat.OE.1 H;have aO:=hp.length_eq;have aH:=hI.KV;refine AI (λst w'=>Sat (Cells q E.A7 [FJ s]::Row E.Ah 6 s (Ao C6 l)::Z) w'/\ ∃i:Nat,st.2.1=(i:Int)/\i<=l.length/\K3 (λx=>x.D0=false) l i st.1)
  (λst _=>((l.length:Int)-st.2.1).toNat) ⟨H1,0,rfl,Nat.zero_le _,.inl ⟨rfl,λj y hj=>by omega⟩⟩ ?_
 rintro⟨a,i',u⟩ _ w2 ⟨J,i,hi,aN,d⟩;dsimp only at hi d⊢;subst hi;have hl:=Tt (J.front 1 rfl);refine AH ⟨s,Ub J,AB (λY=> ?_) λaM=> ?_⟩
 .obtain⟨x,v⟩: ∃x,l[i]? =some x:=⟨_,List.getElem?_eq_getElem (by omega)⟩;have O:=J.drew;obtain⟨b,hb,_,c⟩:=Uc (O.front 1 rfl) v;rw[AF (n:=(i:Int)+1)];have C: ∀{a':Int},K3 (λx=>x.D0=false) l (i+1) a'->(Sat (Cells q E.A7 [FJ s]::Row E.Ah 6 s (Ao C6 l)::Z) w2.drew/\ ∃j:Nat,(i:Int)+1=(j:Int)/\j<=l.length/\K3 (λx=>x.D0=false) l j a')/\((l.length:Int)-((i:Int)+1)).toNat<((l.length:Int)-(i:Int)).toNat:=
   λh=>⟨⟨O,i+1,by omega,by omega,h⟩,by omega⟩
  refine AU (AH ⟨s,Ub O,?_⟩);have ra:=λ(P:Addr->Prop) (h:P ⟨b,0,none⟩)=>show NC s.base P by rw[hb];exact AH h
  refine ra _ ⟨⟨by omega,Y⟩,x.D0,c 5 _ rfl,AS (λg1=> ?_) λg j=>AP rfl (C (d.skip v λe=>by grind))⟩;have hs:x.D0=false:=by grind
  refine AB (λha j=>AR rfl (C (d.take v hs (.inl ha)))) λha=>AH ⟨s,Ub O,ra _ ⟨⟨by omega,Y⟩,x.base,c 1 _ rfl,AH ⟨s,Ub O,?_⟩⟩⟩;obtain⟨m,y,e,hm,T⟩: ∃(m:Nat) (y:DF),a=(m:Int)/\m<i/\l[m]? =some y:=by
   rcases d with ⟨e,_⟩|⟨m,y,e,hm,T,_⟩
   .omega
   grind
  subst e;obtain⟨b',aC,_,c'⟩:=Uc (O.front 1 rfl) T;rw[aC];refine AH ⟨⟨by omega,by omega⟩,y.base,c' 1 _ rfl,λj=>AB (λg=>C (d.take v hs (.inr λm' y' e aP=> ?_))) λg=>C (d.C5 T v (by omega))⟩
  grind
 .have e:i=l.length:=by omega
  subst e;refine AB (λha=>aD (λx v=> ?_) w2 (Sat.OE.2 ⟨s,l,hp,J⟩)) λha=>AH ⟨s,Ub J,?_⟩
  .rcases d with ⟨_,h⟩|⟨m,y,e,_⟩
   .obtain⟨j,hj⟩:=List.mem_iff_getElem?.1 (hp.mem_iff.2 v)
    grind
   .omega
  .rcases d with ⟨e,_⟩|⟨m,y,e,hm,T,h1,h2⟩
   .omega
   subst e;obtain⟨b,hb,c0,_⟩:=Uc (J.front 1 rfl) T;rw[hb];refine AH ⟨⟨by omega,by omega⟩,y.id,c0,aE y ⟨hp.mem_iff.1 (List.mem_of_getElem? T),h1,λx v h3=> ?_⟩ w2 (Sat.OE.2 ⟨s,l,hp,J⟩)⟩;obtain⟨j,hj⟩:=List.mem_iff_getElem?.1 (hp.mem_iff.2 v)
   grind
def MV(H:Sat (Gj E q L::Z) w)(j:L.length<=1099511627776){sw:Bool}{K:Int->World->Prop}(hK:K ((K0 L sw:Nat):Int) w):F.Da E (some ⟨q,0,none⟩) sw K w:=by
 unfold F.Da;obtain⟨s,l,hp,H1⟩:=Sat.OE.1 H;have Y:=hp.length_eq;have hl:=Tt (H1.front 1 rfl);have hlen: ∀i,K0 (l.take i) sw<=i:=λi=>Nat.le_trans (List.length_filter_le _ _) (by rw[List.length_take];omega);refine AI (λst w'=>w'=w/\ ∃i:Nat,st.2.1=(i:Int)/\i<=l.length/\st.1=(K0 (l.take i) sw:Nat)) (λst _=>((l.length:Int)-st.2.1).toNat) ⟨rfl,0,rfl,Nat.zero_le _,rfl⟩ ?_;rintro⟨n,i',u⟩ _ w2 ⟨rfl,i,v,T,y⟩;dsimp only at v y⊢;subst v;subst y;refine AH ⟨s,Ub H1,AB (λd=>AH ⟨s,Ub H1,?_⟩) λO=> ?_⟩
 .obtain⟨x,C⟩: ∃x,l[i]? =some x:=⟨_,List.getElem?_eq_getElem (by omega)⟩;obtain⟨b,J,_,c⟩:=Uc (H1.front 1 rfl) C;rw[J];have h1:=hlen i;have e:K0 (l.take (i+1)) sw=K0 (l.take i) sw+if x.D0==sw then 1 else 0:=by
   unfold K0;rw[List.take_succ,C,List.filter_append,List.length_append]
   grind
  rw[AF (n:=(i:Int)+1),AF (n:=(K0 (l.take i) sw:Nat)+1)];refine AH ⟨⟨by omega,d⟩,x.D0,c 5 _ rfl,AS (λg=>⟨⟨rfl,i+1,by omega,by omega,by grind⟩,by omega⟩) λg=>⟨⟨rfl,i+1,by omega,by omega,by grind⟩,by omega⟩⟩
 .have e:K0 (l.take i) sw=K0 L sw:=by
   rw[List.take_of_length_le (by omega)];exact(hp.filter _).length_eq
  grind
def YN(H:Sat (Gj E q L::Z) w)(J:L.length<=1099511627776){K:Int->World->Prop}(aA:0<K0 L false->K 33 w)(Y:(∀x∈L,x.D0=true)-> ∀w',Sat (Gj E q (Hi L)::Z) w'->K 0 w'):F.Cf E (some ⟨q,0,none⟩) K w:=by
 unfold F.Cf T0.Cf;refine MV H J (AB (λg=>aA (by omega)) λg=> ?_);have aC: ∀x∈L,x.D0=true:=λx hx=>by simpa using VK (L:=L) (sw:=false) (by omega) x hx
 obtain⟨s,l,hp,H1⟩:=Sat.OE.1 H;have aH:=hp.length_eq;refine AI (λst w'=> ∃i:Nat,st.1=(i:Int)/\i<=l.length/\Sat (Cells q E.A7 [FJ s]::Row E.Ah 6 s (Ao C6 ((l.take i).map DF.flip++l.drop i))::Z) w') (λst _=>((l.length:Int)-st.1).toNat) ⟨0,rfl,Nat.zero_le _,H1⟩ ?_;rintro⟨i',u⟩ _ w4 ⟨i,hi,T,v⟩;dsimp only at hi⊢;subst hi;have hl:=Tt (v.front 1 rfl);have hlen:((l.take i).map DF.flip++l.drop i).length=l.length:=by grind
 refine AH ⟨s,Ub v,AB (λaB=>AH ⟨s,Ub v,?_⟩) λaG=> ?_⟩
 .obtain⟨x,hx⟩: ∃x,l[i]? =some x:=⟨_,List.getElem?_eq_getElem (by omega)⟩;have d:((l.take i).map DF.flip++l.drop i)[i]? =some x:=by grind
  have O:((l.take i).map DF.flip++l.drop i).set i x.flip=(l.take (i+1)).map DF.flip++l.drop (i+1):=by
   rw[List.set_append_right _ _ (by rw[List.length_map,List.length_take];omega),List.length_map,List.length_take,Nat.min_eq_left T,Nat.sub_self,List.take_succ,hx,List.map_append,List.append_assoc];congr 1;rw[List.drop_eq_getElem_cons (by omega:i<l.length)];rfl
  obtain⟨b,hb,_,_⟩:=Uc (v.front 1 rfl) d;rw[hb];refine AH ⟨⟨by omega,aB⟩,?_⟩;rw[add_add];refine Gp (v.front 1 rfl) (j:=i*6+5) rfl (by rw[De Fg,hlen];omega) hb λaI C=> ?_;rw[IV Fg (y:=x.flip) d (by decide) rfl,O]at C;rw[AF (n:=(i:Int)+1)];exact⟨⟨i+1,by omega,by omega,C.front 1 rfl⟩,by omega⟩
 .have e:i=l.length:=by omega
  subst e;rw[List.take_of_length_le (Nat.le_refl _),List.drop_of_length_le (Nat.le_refl _),List.append_nil]at v;exact Y aC w4 (Sat.OE.2 ⟨s,_,hp.map _,v⟩)
end
def K4{p:Nat->Prop}(h: ∃n,p n): ∃n,p n/\ ∀m,p m->n<=m:=by
 obtain⟨n,d⟩:=h
 induction n using Nat.strongRecOn with
 | _ n ih=>grind
def P7{σ:Type}{s0:σ}{w0:World}{body:σ->(Nat->Value)->World->(σ->World->Prop)->Prop}(I:Nat->σ->World->Prop)(v:Nat)(h0:I v s0 w0)
  (h: ∀n s j w,I n s w->body s j w λs' w'=> ∃d,d<n/\I d s' w'):Az σ s0 w0 body:=by
 classical
 let m:σ->World->Nat:=λs w=>if g: ∃n,I n s w then(K4 g).choose else 0
 refine AI (λs w=> ∃n,I n s w) m ⟨v,h0⟩ λs j w g=> ?_;have hm:I (m s w) s w:=by
  show I (if g: ∃n,I n s w then(K4 g).choose else 0) s w;rw[dif_pos g];exact(K4 g).choose_spec.1
 have y:=h (m s w) s j w hm;have e:(λs' w'=> ∃d,d<m s w/\I d s' w')=λs' w'=>(∃n,I n s' w')/\m s' w'<m s w:=by
  funext s' w';refine propext ⟨λ⟨d,h1,h2⟩=>⟨⟨d,h2⟩,?_⟩,λ⟨h1,h2⟩=>⟨m s' w',h2,?_⟩⟩
  .show(if g: ∃n,I n s' w' then(K4 g).choose else 0)<_;rw[dif_pos ⟨d,h2⟩];exact Nat.lt_of_le_of_lt ((K4 ⟨d,h2⟩).choose_spec.2 _ h2) h1
  .show I (if g: ∃n,I n s' w' then(K4 g).choose else 0) s' w';rw[dif_pos h1];exact(K4 h1).choose_spec.1
 grind
structure Rc where
 GR:Nat
 addr:Int
 kind:Int
 data:Int
def Rc.key(x:Rc):Int:=4*x.addr+x.kind
def GS(x:Rc):Option Addr:=some ⟨x.GR,0,none⟩
def FC:List Rc->Option Addr->Option Addr
 | [],p=>p
 | x::_,_=>GS x
def aQ(E:Env)(x:Rc)(p:Option Addr):Pr:=Cells x.GR E.Ls [.int .u64 x.addr,.int .i64 x.kind,.int .u64 x.data,.pointer p]
def Fa(E:Env):List Rc->Option Addr->List Pr
 | [],_=>[]
 | x::r,p=>aQ E x (FC r p)::Fa E r p
def slotOf(b:Nat)(A:List Rc):Addr:=match A.getLast? with
 | none=>⟨b,0,none⟩
 | some x=>(Addr.mk x.GR 0 none).add 3
def N1(A B:List Rc)(p:Option Addr):FC (A++B) p=FC A (FC B p):=by cases A<;>rfl
def MW(E:Env): ∀(A B:List Rc) (p:Option Addr),Fa E (A++B) p=Fa E A (FC B p)++Fa E B p
 | [],B,p=>rfl
 | x::A,B,p=>by
  show aQ E x (FC (A++B) p)::Fa E (A++B) p=aQ E x (FC A (FC B p))::(Fa E A (FC B p)++Fa E B p);rw[N1,MW E A B p]
def DJ{a:Addr}{K:Addr->Prop}(h:K a):NC (some a) K:=by rw[AG];exact h
structure Ml(R:List Rc):Prop where
 Ho:IW Rc.key R
 kd: ∀x∈R,1<=x.kind/\x.kind<=3/\0<=x.addr/\x.addr<18446744073709551616
 KV:R.length<=1099511627776
def FO(E:Env)(b:Nat)(A:List Rc)(p:Option Addr)(n:Int):List Pr:=Cells b E.DN [.pointer (FC A p),.int .i64 n]::Fa E A p
def JA(E:Env)(b:Nat)(R:List Rc):Pr:=Jj (Ml R) (Lo (FO E b R none R.length))
section
variable{E:Env}{w:World}{Z:List Pr}{b:Nat}{R:List Rc}
def Sat.spec:Sat (JA E b R::Z) w↔Ml R/\Sat (FO E b R none R.length++Z) w:=by
 unfold JA;rw[Sat.where,Sat.star]
def YO(H:Sat Z w){K:Option Addr->World->Prop}(j: ∀b w',Sat (JA E b []::Z) w'->K (some ⟨b,0,none⟩) w'):F.LI E K w:=by
 unfold F.LI;refine AO (vs:=[.pointer none,.int .i64 0]) H λb w' d _=>j b w' (Sat.spec.2 ⟨⟨.nil,λx v=>(by cases v),by decide⟩,d⟩)
def Na(A:List Rc)(x:Rc):slotOf b (A++[x])=(Addr.mk x.GR 0 none).add 3:=by
 unfold slotOf
 grind
def YP(A:List Rc)(x:Rc)(p:Option Addr):Fa E (A++[x]) p=Fa E A (GS x)++[aQ E x p]:=by rw[MW];rfl
def aR(A:List Rc)(x:Rc)(p:Option Addr):FC (A++[x]) p=FC A (GS x):=by rw[N1];rfl
def Tv{α:Type}(A:List α):A=[]∨ ∃d x,A=d++[x]:=by
 rcases List.eq_nil_or_concat A with h|⟨d,x,h⟩
 .grind
 grind
def Sat.WN{A:List Rc}{x:Rc}{p:Option Addr}{n:Int}:Sat (FO E b (A++[x]) p n++Z) w↔Sat (aQ E x p::(FO E b A (GS x) n++Z)) w:=by
 unfold FO;rw[YP,aR];have hp:(Cells b E.DN [.pointer (FC A (GS x)),.int .i64 n]::(Fa E A (GS x)++[aQ E x p])++Z).Perm (aQ E x p::(Cells b E.DN [.pointer (FC A (GS x)),.int .i64 n]::Fa E A (GS x)++Z)):=by
  rw[List.cons_append,List.cons_append,List.append_assoc];exact(List.Perm.cons _ List.perm_middle).trans (.swap _ _ _)
 exact⟨λh=>h.perm hp,λh=>h.perm hp.symm⟩
def L3{A:List Rc}{p:Option Addr}{n:Int}(H:Sat (FO E b A p n++Z) w):w.cell? (slotOf b A)=some (.pointer p):=by
 rcases Tv A with rfl|⟨d,x,rfl⟩
 .exact H.Af rfl
 .rw[Na];exact(Sat.WN.1 H).cell rfl
def mF{A:List Rc}{p q:Option Addr}{n:Int}(H:Sat (FO E b A p n++Z) w){K:World->Prop}(j: ∀w',Sat (FO E b A q n++Z) w'->K w'):stCells (slotOf b A) 0 [.pointer q] w K:=by
 rcases Tv A with rfl|⟨v,x,rfl⟩
 .exact CN H (o:=0) rfl (by simp) λw' d=>j w' d
 .rw[Na];exact Ab (Sat.WN.1 H) (o:=0) (m:=3) rfl (by simp) λw' d=>j w' (Sat.WN.2 d)
def Sat.WO{A B:List Rc}{y:Rc}{p:Option Addr}{n:Int}:Sat (FO E b (A++y::B) p n++Z) w↔Sat (aQ E y (FC B p)::(FO E b A (GS y) n++(Fa E B p++Z))) w:=by
 unfold FO;rw[MW,N1];show Sat (Cells b E.DN [.pointer (FC A (GS y)),.int .i64 n]::(Fa E A (GS y)++aQ E y (FC B p)::Fa E B p)++Z) w↔_;have hp:(Cells b E.DN [.pointer (FC A (GS y)),.int .i64 n]::(Fa E A (GS y)++aQ E y (FC B p)::Fa E B p)++Z).Perm (aQ E y (FC B p)::(Cells b E.DN [.pointer (FC A (GS y)),.int .i64 n]::Fa E A (GS y)++(Fa E B p++Z))):=by
  rw[List.cons_append,List.cons_append,List.append_assoc,List.cons_append];exact(List.Perm.cons _ List.perm_middle).trans (.swap _ _ _)
 exact⟨λh=>h.perm hp,λh=>h.perm hp.symm⟩
def JB{A B:List Rc}{p:Option Addr}{n:Int}:Sat (FO E b (A++B) p n++Z) w↔Sat (FO E b A (FC B p) n++(Fa E B p++Z)) w:=by
 unfold FO;rw[MW,N1,List.cons_append,List.cons_append,List.append_assoc]
def MX(H:Sat (JA E b R::Z) w){a k:Int}(hk:0<=k/\k<=3){K:Option Addr->World->Prop}
  (hK: ∀A B,R=A++B->(∀x∈A,x.key<4*a+k)->(∀x∈B,4*a+k<=x.key)->K (some (slotOf b A)) w):F.Df E (some ⟨b,0,none⟩) a k K w:=by
 obtain⟨hI,H⟩:=Sat.spec.1 H;unfold F.Df;simp only[AG];refine P7 (λn st w'=>w'=w/\ ∃A B,st.1=some (slotOf b A)/\R=A++B/\(∀x∈A,x.key<4*a+k)/\n=B.length) R.length ⟨rfl,[],R,rfl,rfl,λx d=>(by cases d),rfl⟩ ?_;rintro n ⟨p,u⟩ _ T ⟨rfl,A,B,hp,hR,hA,hn⟩;dsimp only at hp⊢;subst hp;subst hR;have hs:=JB.1 H;have v:=L3 hs;have done:(∀x∈B,4*a+k<=x.key)->K (some (slotOf b A)) T:=λJ=>hK A B rfl hA J;refine AU ?_;simp only[AG];cases B with
 | nil=>exact⟨none,v,AP rfl (done λx d=>by cases d)⟩
 | cons y B=>
  have hy:=Sat.WO.1 H;have y0:T.cell? (Addr.mk y.GR 0 none)=some (.int .u64 y.addr):=hy.Af rfl;have y1:T.cell? ((Addr.mk y.GR 0 none).add 1)=some (.int .i64 y.kind):=hy.cell rfl;have aH:=hI.kd y (by simp);have C:=(List.pairwise_append.1 hI.Ho).2.1;have J:4*a+k<=y.key-> ∀x∈y::B,4*a+k<=x.key:=λh x d=>by
   rcases List.mem_cons.1 d with rfl|d
   .exact h
   .have:=(List.pairwise_cons.1 C).1 x d;omega
  have go:y.key<4*a+k-> ∃n',n'<n/\True/\ ∃O B',some ((Addr.mk y.GR 0 none).add 3)=some (slotOf b O)/\A++y::B=O++B'/\(∀x∈O,x.key<4*a+k)/\n'=B'.length:=λh=>by
   refine⟨B.length,by rw[hn];grind,trivial,A++[y],B,by rw[Na],by simp,λx d=> ?_,rfl⟩
   grind
  have Y:y.key=4*y.addr+y.kind:=rfl;refine⟨GS y,v,AR rfl ⟨GS y,v,DJ ⟨y.addr,y0,AB (λg=> ?_) λg=>⟨GS y,v,DJ ⟨y.addr,y0,Bc (λe=>⟨GS y,v,DJ ⟨y.kind,y1,AB (λg2=> ?_) λg2=>done (J (by omega))⟩⟩) λe=>done (J (by omega))⟩⟩⟩⟩⟩
  .exact λj=>⟨GS y,v,DJ (go (by omega))⟩
  .exact λj=>⟨GS y,v,DJ (go (by omega))⟩
end
def Jf(x:Rc):List Value:=[.int .u64 x.addr,.int .i64 x.kind,.int .u64 x.data]
def Jg(x:Rc):(Jf x).length=3:=rfl
def LR(x:Rc): ∀v∈Jf x,v.oneCell'=true:=by intro v d;simp[Jf]at d;rcases d with rfl|rfl|rfl<;>rfl
def YQ{A B:List Rc}{a:Int}(hI:Ml (A++B))(j: ∀x∈A,x.key<4*a+0)(v: ∀x∈B,4*a+0<=x.key):(∀x∈A,x.addr<a)/\ ∀x∈B,a<=x.addr:=by
 refine⟨λx d=> ?_,λx d=> ?_⟩
 .have:=j x d;have:=hI.kd x (by simp[d]);unfold Rc.key at *;omega
 .have:=v x d;have:=hI.kd x (by simp[d]);unfold Rc.key at *;omega
def YR{y:Rc}{B:List Rc}(hk: ∀x∈y::B,1<=x.kind/\x.kind<=3)(hs:IW Rc.key (y::B)): ∀x∈B,y.addr<=x.addr:=λx d=>by
 have:=(List.pairwise_cons.1 hs).1 x d;have h1:=hk y (by simp);have h2:=hk x (by simp[d]);unfold Rc.key at this;omega
def VL{a:Int}: ∀{B:List Rc},IW Rc.key B->(∀x∈B,1<=x.kind/\x.kind<=3)->(∀x∈B,a<=x.addr)->B.takeWhile (λy=>y.addr==a)=B.filter (λy=>y.addr==a)/\B.dropWhile (λy=>y.addr==a)=B.filter λy=> !(y.addr==a)
 | [],_,_,_=>⟨rfl,rfl⟩
 | y::B,hs,hk,ha=>by
  have j:=VL (a:=a) (List.pairwise_cons.1 hs).2 (λx d=>hk x (by simp[d])) λx d=>ha x (by simp[d]);by_cases e:y.addr=a
  .have C:(y.addr==a)=true:=by grind
   rw[List.takeWhile_cons_of_pos (by omega),List.filter_cons_of_pos (by omega),List.dropWhile_cons_of_pos (by omega),List.filter_cons_of_neg (by simp[e]),j.1,j.2]
   grind
  .have h1:=YR hk hs;have h2:=ha y (by simp);have v: ∀x∈y::B,x.addr≠a:=λx d=>by
    rcases List.mem_cons.1 d with rfl|d
    .exact e
    .have:=h1 x d;omega
   rw[List.takeWhile_cons_of_neg (by grind),List.dropWhile_cons_of_neg (by grind)];refine⟨(List.filter_eq_nil_iff.2 λx d=> ?_).symm,(List.filter_eq_self.2 λx d=> ?_).symm⟩
   .grind
   grind
section
variable{E:Env}{w:World}{Z:List Pr}{b:Nat}{R:List Rc}
def aS{A B:List Rc}{n:Int}(H:Sat (FO E b (A++B) none n++Z) w){a k:Int}{K:Bool->World->Prop}(h1: ∀y B',B=y::B'->y.addr=a->y.kind=k->K true w)(h0:(∀y B',B=y::B'-> ¬(y.addr=a/\y.kind=k))->K false w):
  F.MI E (some (slotOf b A)) a k K w:=by
 unfold F.MI;have d:=L3 (JB.1 H);simp only[AG];cases B with
 | nil=>exact⟨none,d,AP rfl (h0 λy B' h=>by cases h)⟩
 | cons y B=>
  have j:=Sat.WO.1 H;have v:w.cell? (Addr.mk y.GR 0 none)=some (.int .u64 y.addr):=j.Af rfl;have C:w.cell? ((Addr.mk y.GR 0 none).add 1)=some (.int .i64 y.kind):=j.cell rfl;have no: ¬(y.addr=a/\y.kind=k)->K false w:=λh=>h0 λJ B' e=>by grind
  refine⟨GS y,d,AR rfl ⟨GS y,d,DJ ⟨y.addr,v,Bc (λe=>⟨GS y,d,DJ ⟨y.kind,C,?_⟩⟩) λe=>no λh=>e h.1⟩⟩⟩
  try dsimp only
  by_cases g:y.kind=k
  .rw[show(y.kind==k)=true by grind];exact h1 y B rfl e g
  .rw[show(y.kind==k)=false by grind];exact no λh=>g h.2
def VM{A:List Rc}{p:Option Addr}{n m:Int}(H:Sat (FO E b A p n++Z) w){K:World->Prop}(j: ∀w',Sat (FO E b A p m++Z) w'->K w'):stCells ((Addr.mk b 0 none).add 1) 0 [.int .i64 m] w K:=
 Ab H (o:=0) (m:=1) rfl (by simp) λw' d=>j w' d
def qL{A B:List Rc}{a k:Int}(hI:Ml (A++B))(hk:1<=k/\k<=3)(J: ∀x∈A,x.key<4*a+k)(K: ∀x∈B,4*a+k<=x.key)(h: ∀y B',B=y::B'-> ¬(y.addr=a/\y.kind=k)): ∀x∈A++B,¬(x.addr=a/\x.kind=k):=by
 rintro x d ⟨v,C⟩;have j:x.key=4*a+k:=by unfold Rc.key;rw[v,C]
 rcases List.mem_append.1 d with d|d
 .grind
 .cases B with
  | nil=>cases d
  | cons y B=>
   rcases List.mem_cons.1 d with rfl|d
   .grind
   .have:=(List.pairwise_cons.1 (List.pairwise_append.1 hI.Ho).2.1).1 x d
    grind
def YS(H:Sat (JA E b R::Z) w){a k:Int}(hk:1<=k/\k<=3){K:Int->Int->World->Prop}(J:(∀x∈R,¬(x.addr=a/\x.kind=k))->K 0 35 w)
  (O: ∀A B y,R=A++y::B->y.addr=a->y.kind=k-> ∀w',Sat (JA E b (A++B)::Z) w'->K y.data 0 w'):F.CI E (some ⟨b,0,none⟩) a k K w:=by
 have HS:=H;unfold F.CI T0.CI;refine MX HS (by omega) λA B hR hA hB=> ?_;obtain⟨hI,H⟩:=Sat.spec.1 H;subst hR;refine aS H (λy B' e e1 e2=>AP rfl ?_) λY=>AR rfl (J (qL hI hk hA hB Y));subst e;have hm:=Sat.WO.1 H;have hs:=JB.1 H;simp only[AG];refine⟨GS y,L3 hs,DJ ⟨FC B' none,hm.cell rfl,?_⟩⟩;have T:Sat (FO E b A (GS y) ((A++y::B').length:Int)++(aQ E y (FC B' none)::(Fa E B' none++Z))) w:=hm.perm List.perm_middle.symm;refine mF T λaA j=>⟨_,(show Sat (Cells b _ _::_) aA from j).cell rfl,VM j λC d=>DJ ⟨y.data,?_,?_⟩⟩
 .exact(show Sat (aQ E y (FC B' none)::_) C from d.perm List.perm_middle).cell rfl
 .refine O A B' y rfl e1 e2 C (Sat.spec.2 ⟨⟨hI.Ho.sublist (by simp),λx v=>hI.kd x ?_,?_⟩,?_⟩)
  .rcases List.mem_append.1 v with v|v
   .simp[v]
   .simp[v]
  .have:=hI.KV;grind
  .have hf:=hI.KV;have e:i64 (((A++y::B').length:Int)-1)=((A++B').length:Int):=by
    rw[AF]
    grind
   rw[e]at d;exact JB.2 (d.perm List.perm_middle).tail
def P8{A B:List Rc}{n:Int}(t:Int->Bool)(H:Sat (FO E b (A++B) none n++Z) w)(hf:(A++B).length<=1099511627776){K:AX->World->Prop}
  (hK: ∀s w',s.len=(B.takeWhile λy=>t y.addr).length->Sat (Row E.AN 3 s (Ao Jf (B.takeWhile λy=>t y.addr))::(FO E b (A++B) none n++Z)) w'->K s w'):
  Az (AX×(Option Addr)×Unit) (⟨none,0,0⟩,FC B none,()) w λs5 _ j O=>
  CND (!s5.2.1.isNone) (
   NC s5.2.1 λp8=>
   ∃x9:Int,j.cell? p8=some (.int .u64 x9)/\
   CND (t x9) (
    NC s5.2.1 λT=>
    ∃aB:Int,j.cell? (T.add 0)=some (.int .u64 aB)/\
    ∃aC:Int,j.cell? (T.add 1)=some (.int .i64 aC)/\
    ∃aD:Int,j.cell? (T.add 2)=some (.int .u64 aD)/\
    AL (.cells ⟨[.int .u64 aB,.int .i64 aC,.int .u64 aD]⟩ E.AN) j λaA aE=>
    APP E.AN 3 24 #[.int .u64 0,.int .i64 0,.int .u64 0] s5.1 ⟨(some (Addr.mk aA 0 none)),1,1⟩ aE λiM Y=>
    NC s5.2.1 λaK=>
    ∃aF:(Option Addr),Y.cell? (aK.add 3)=some (.pointer aF)/\
    O (iM,aF,()) Y
   ) (
    K s5.1 j
   )
  ) (
   K s5.1 j
  ):=by
 refine P7 (λn' st w'=> ∃C D,st.2.1=FC D none/\B=C++D/\(∀x∈C,t x.addr=true)/\n'=D.length/\Sat (Row E.AN 3 st.1 (Ao Jf C)::(FO E b (A++B) none n++Z)) w') B.length ⟨[],B,rfl,rfl,λx d=>(by cases d),rfl,H.nil E.AN 3⟩ ?_;rintro n' ⟨s,p,u⟩ _ j ⟨C,D,hp,hB,hC,hn,H6⟩;dsimp only at hp H6⊢;subst hp;have hl:=H6.F9 (by decide) Jg;have fin:(∀y D',D=y::D'->t y.addr=false)->K s j:=λh=>by
  have:B.takeWhile (λy=>t y.addr)=C:=by
   rw[hB,List.takeWhile_append_of_pos λx d=>hC x d];cases D with
   | nil=>simp
   | cons y D=>rw[List.takeWhile_cons_of_neg (by grind),List.append_nil]
  grind
 cases D with
 | nil=>exact AP rfl (fin λy D' h=>by cases h)
 | cons y D=>
  have eR:A++B=(A++C)++y::D:=by grind
  have hm: ∀{w':World} {v:List Value} {s':AX},Sat (Row E.AN 3 s' v::(FO E b (A++B) none n++Z)) w'->w'.cell? ((Addr.mk y.GR 0 none).add 0)=some (.int .u64 y.addr)/\w'.cell? ((Addr.mk y.GR 0 none).add 1)=some (.int .i64 y.kind)/\w'.cell? ((Addr.mk y.GR 0 none).add 2)=some (.int .u64 y.data)/\w'.cell? ((Addr.mk y.GR 0 none).add 3)=some (.pointer (FC D none)):=λh=>by
   have h:=h.tail;rw[eR]at h;have h:=Sat.WO.1 h;exact⟨h.cell rfl,h.cell rfl,h.cell rfl,h.cell rfl⟩
  obtain⟨m0,m1,m2,_⟩:=hm H6;have hlen:C.length+1<=1099511627776:=by grind
  refine AR rfl (DJ ⟨y.addr,by have:=m0;rwa[add_zero]at this,AS (λht=>DJ ⟨_,m0,_,m1,_,m2,?_⟩) λht=>fin λy' D' e=>by cases e;exact ht⟩);refine AO (vs:=Jf y) H6 λaA aE aI _=> ?_;refine Er (news:=Jf y) (zs:= #[.int .u64 0,.int .i64 0,.int .u64 0]) (bytes:=24) aI rfl rfl (LR y) (by omega) (by omega) λiM Y J _=>DJ ⟨_,(hm J).2.2.2,?_⟩;refine⟨D.length,by rw[hn];grind,C++[y],D,rfl,by rw[hB];simp,λx d=> ?_,rfl,?_⟩
  .rcases List.mem_append.1 d with d|d
   .exact hC x d
   .simp at d;subst d;exact ht
  .rw[show Ao Jf C++Jf y=Ao Jf (C++[y]) by rw[FR];simp[Ao]]at J;exact J
def Rx(H:Sat (JA E b R::Z) w){x y:Int}{K:AX->World->Prop}(O: ∀s l w',l.length=s.len->(s.len=0↔ ∀z∈R,¬(x<=z.addr/\z.addr<y))->Sat (Row E.AN 3 s (Ao Jf l)::JA E b R::Z) w'->K s w'):
  F.Bz E (some ⟨b,0,none⟩) x y K w:=by
 have HS:=H;unfold F.Bz T0.Bz;refine MX HS (by omega) λA B T C J=> ?_;obtain⟨hI,H⟩:=Sat.spec.1 H;subst T;refine DJ ⟨FC B none,L3 (JB.1 H),?_⟩;refine P8 (λz=>decide (z<y)) H hI.KV λs w' j v=>O s _ w' j.symm ?_ (((Sat.spec.2 ⟨hI,v.perm List.perm_middle.symm⟩)).perm (.swap _ _ _));obtain⟨h1,h2⟩:=YQ hI C J;have d:=(List.pairwise_append.1 hI.Ho).2.1;rw[j];cases B with
 | nil=>exact⟨λ_ z hz h=>by grind,λ_=>rfl⟩
 | cons q B=>
  have Y:=YR (λz hz=>(hI.kd z (by simp;grind)).imp id λh=>h.1) d;have h4:=h2 q (by simp);by_cases e:q.addr<y
  .rw[List.takeWhile_cons_of_pos (by grind)]
   grind
  .rw[List.takeWhile_cons_of_neg (by grind)]
   grind
def O8(R:List Rc)(a:Int):List Rc:=R.filter λy=>y.addr==a
def Ou(R:List Rc)(a:Int):List Rc:=R.filter λy=> !(y.addr==a)
def mG{A B:List Rc}{a:Int}(hI:Ml (A++B))(C: ∀x∈A,x.key<4*a+0)(J: ∀x∈B,4*a+0<=x.key):B.takeWhile (λy=>y.addr==a)=O8 (A++B) a/\A++B.dropWhile (λy=>y.addr==a)=Ou (A++B) a:=by
 obtain⟨h1,h2⟩:=YQ hI C J;obtain⟨j,v⟩:=VL (a:=a) (List.pairwise_append.1 hI.Ho).2.1 (λx d=>(hI.kd x (by simp[d])).imp id λh=>h.1) h2;unfold O8 Ou;rw[List.filter_append,List.filter_append,j,v];have K:A.filter (λy=>y.addr==a)=[]:=List.filter_eq_nil_iff.2 λx d=>by grind
 have O:A.filter (λy=> !(y.addr==a))=A:=List.filter_eq_self.2 λx d=>by grind
 grind
def aT(H:Sat (JA E b R::Z) w){a:Int}{K:AX->World->Prop}(C: ∀s w',s.len=(O8 R a).length->Sat (Row E.AN 3 s (Ao Jf (O8 R a))::JA E b R::Z) w'->K s w'):
  F.DH E (some ⟨b,0,none⟩) a K w:=by
 have HS:=H;unfold F.DH T0.DH;refine MX HS (by omega) λA B J v y=> ?_;obtain⟨hI,H⟩:=Sat.spec.1 H;subst J;refine DJ ⟨FC B none,L3 (JB.1 H),?_⟩;have e:=(mG hI v y).1;refine P8 (λz=>z==a) H hI.KV λs w' j d=> ?_;rw[e]at j d;exact C s w' j (((Sat.spec.2 ⟨hI,d.perm List.perm_middle.symm⟩)).perm (.swap _ _ _))
def WQ(H:Sat (JA E b R::Z) w){a:Int}{K:AX->World->Prop}(hK: ∀s w',s.len=(O8 R a).length->Sat (Row E.AN 3 s (Ao Jf (O8 R a))::JA E b (Ou R a)::Z) w'->K s w'):
  F.Cg E (some ⟨b,0,none⟩) a K w:=by
 unfold F.Cg T0.Cg;refine aT H λs w2 hs H2=> ?_;have Y:=H2.front 1 rfl;refine MX Y (by omega) λA B hR hA hB=> ?_;obtain⟨hI,Y⟩:=Sat.spec.1 Y;subst hR;obtain⟨e1,e2⟩:=mG hI hA hB;have C:B=O8 (A++B) a++B.dropWhile (λy=>y.addr==a):=by rw[<-e1,List.takeWhile_append_dropWhile]
 generalize hT:O8 (A++B) a=T at *
 generalize hD:B.dropWhile (λy=>y.addr==a)=D at *
 have v:=hI.KV;have H4:Sat (FO E b A (FC B none) ((A++B).length:Int)++(Fa E B none++(Row E.AN 3 s (Ao Jf T)::Z))) w2:=JB.1 Y;have aN:B.length=T.length+D.length:=by grind
 simp only[List.length_append]at v;refine AI (λst w'=> ∃i:Nat,st.1=(i:Int)/\i<=T.length/\Sat (FO E b A (FC (B.drop i) none) ((A++B).length:Int)++(Fa E (B.drop i) none++(Row E.AN 3 s (Ao Jf T)::Z))) w') (λst _=>((T.length:Int)-st.1).toNat) ⟨0,rfl,Nat.zero_le _,H4⟩ ?_;rintro⟨i',u⟩ _ O ⟨i,hi,aS,d⟩;dsimp only at hi⊢;subst hi;rw[hs];refine AB (λg=> ?_) λg=> ?_
 .obtain⟨y,hy⟩: ∃y,B.drop i=y::B.drop (i+1):=⟨B[i]'(by omega),List.drop_eq_getElem_cons (by omega)⟩;rw[hy]at d;have hc:O.cell? ((Addr.mk y.GR 0 none).add 3)=some (.pointer (FC (B.drop (i+1)) none)):=
   (show Sat (aQ E y (FC (B.drop (i+1)) none)::_) O from d.perm List.perm_middle).cell rfl
  have H7:Sat (FO E b A (GS y) ((A++B).length:Int)++(Fa E (B.drop (i+1)) none++(Row E.AN 3 s (Ao Jf T)::Z))) O:=(show Sat (aQ E y (FC (B.drop (i+1)) none)::_) O from d.perm List.perm_middle).tail;simp only[AG];refine⟨GS y,L3 H7,DJ ⟨_,hc,mF H7 λaV aA=>⟨⟨i+1,by rw[AF];rfl,by omega,aA⟩,?_⟩⟩⟩;rw[AF];omega
 .have aC:i=T.length:=by omega
  have aB:B.drop i=D:=by rw[C,aC,List.drop_left]
  rw[aB]at d;simp only[AG];refine⟨_,(show Sat (Cells b _ _::_) O from d).cell rfl,VM d λaD j=>hK s aD hs ?_⟩;have en:i64 (((A++B).length:Int)-((T.length:Nat):Int))=((A++D).length:Int):=by
   rw[AF (by omega) (by grind)]
   grind
  rw[en]at j;rw[<-e2];have hIn:Ml (A++D):=⟨hI.Ho.sublist (by grind),λx J=>hI.kd x ?_,by grind⟩
  .exact(Sat.spec.2 ⟨hIn,JB.2 j⟩).perm (.swap _ _ _)
  .rcases List.mem_append.1 J with J|J
   .simp[J]
   .rw[C];simp[J]
end
def Gz(E:Env)(r:Nat)(R:List Rc):Pr:=Ex λs:AX=>Jj (Ml R) (Lo [Cells r E.BX [FJ s],Row E.AN 3 s (Ao Jf R)])
section
variable{E:Env}{q:Nat}{R:List Rc}{Z:List Pr}{w:World}{s:AX}
def Sat.WR:Sat (Gz E q R::Z) w↔Ml R/\ ∃s,Sat (Cells q E.BX [FJ s]::Row E.AN 3 s (Ao Jf R)::Z) w:=by
 unfold Gz;rw[Sat.ex];constructor
 .rintro⟨s,h⟩;rw[Sat.where,Sat.star]at h
  grind
 .rintro⟨h1,s,h2⟩;refine⟨s,?_⟩;rw[Sat.where,Sat.star]
  grind
def dS{Y:List Pr}(H:Sat (Cells q E.BX [FJ s]::Y) w):w.cell? (Addr.mk q 0 none)=some (.slice s.base s.len s.cap):=H.Af rfl
def rcSt{s':AX}{Y:List Pr}(H:Sat (Cells q E.BX [FJ s]::Y) w){K:World->Prop}(d: ∀w',Sat (Cells q E.BX [FJ s']::Y) w'->K w'):stCells (Addr.mk q 0 none) 0 [.slice s'.base s'.len s'.cap] w K:=
 CN H (o:=0) rfl (Nat.zero_lt_one) d
def RP(H:Sat (Row E.AN 3 s (Ao Jf R)::Z) w):R.length=s.len/\s.len<=s.cap/\s.cap<9223372036854775808:=H.F9 (by decide) Jg
def mH(H:Sat (Row E.AN 3 s (Ao Jf R)::Z) w){i:Nat}{x:Rc}(y:R[i]? =some x): ∃b,s.base=some ⟨b,0,none⟩/\w.cell? ((Addr.mk b 0 none).add (i*3))=some (.int .u64 x.addr)/\ ∀j v,(Jf x)[j]? =some v->w.cell? (((Addr.mk b 0 none).add (i*3)).add j)=some v:=by
 obtain⟨b,d⟩:=H.FZ (by decide) Jg (List.getElem?_eq_some_iff.1 y).1;refine⟨b,d,?_,λj v C=> ?_⟩
 .have:=H.Bu Jg d y (j:=0) rfl;omega
 .rw[add_add];exact H.Bu Jg d y C
def YT(hI:Ml R)(H:Sat (Cells q E.BX [FJ s]::Row E.AN 3 s (Ao Jf R)::Z) w){a k:Int}{K:Int->Bool->World->Prop}
  (Y: ∀(i:Nat) (ok:Bool),i<=R.length->(∀(j:Nat) x,j<i->R[j]? =some x->x.addr<a∨x.addr=a/\x.kind<k)->(∀x,R[i]? =some x-> ¬(x.addr<a∨x.addr=a/\x.kind<k))->(ok=true↔ ∃x,R[i]? =some x/\x.addr=a/\x.kind=k)->
   ∀w',Sat (Cells q E.BX [FJ s]::Row E.AN 3 s (Ao Jf R)::Z) w'->K i ok w'):F.Ei E (some ⟨q,0,none⟩) a k K w:=by
 unfold F.Ei;have aD:=hI.KV;have hl:=RP (H.front 1 rfl);refine AU (AI (λst w'=>w'=w/\ ∃i:Nat,st.1=(i:Int)/\i<=R.length/\ ∀(j:Nat) x,j<i->R[j]? =some x->x.addr<a∨x.addr=a/\x.kind<k) (λst _=>((R.length:Int)-st.1).toNat) ⟨rfl,0,rfl,Nat.zero_le _,λj x hj=>by omega⟩ ?_);rintro⟨i',u⟩ _ w5 ⟨rfl,i,hi,C,J⟩;dsimp only at hi⊢;subst hi;have v:=H.drew;rw[AF (n:=(i:Int)+1)];refine AU (DJ ⟨s,dS H,AB (λg=>DJ ⟨s,dS H,?_⟩) λg=> ?_⟩)
 .obtain⟨x,hx⟩: ∃x,R[i]? =some x:=⟨_,List.getElem?_eq_getElem (by omega)⟩;obtain⟨b,hb,c0,c⟩:=mH (H.front 1 rfl) hx;obtain⟨b',aA,d0,d⟩:=mH (v.front 1 rfl) hx;have ra:=λ(P:Addr->Prop) (h:P ⟨b,0,none⟩)=>show NC s.base P by rw[hb];exact DJ h
  have O:=λ(P:Addr->Prop) (h:P ⟨b',0,none⟩)=>show NC s.base P by rw[aA];exact DJ h
  have T:(x.addr<a∨x.addr=a/\x.kind<k)->(w5=w5/\ ∃j:Nat,(i:Int)+1=(j:Int)/\j<=R.length/\ ∀(j':Nat) y,j'<j->R[j']? =some y->y.addr<a∨y.addr=a/\y.kind<k)/\((R.length:Int)-((i:Int)+1)).toNat<((R.length:Int)-(i:Int)).toNat:=λh=>by
   refine⟨⟨rfl,i+1,by omega,by omega,λj y hj hy=> ?_⟩,by omega⟩
   grind
  refine ra _ ⟨⟨by omega,g⟩,x.addr,c0,AB (λh j=>T (.inl h)) λh1=>DJ ⟨s,dS H,ra _ ⟨⟨by omega,g⟩,x.addr,c0,Bc (λe=>DJ ⟨s,dS H,ra _ ⟨⟨by omega,g⟩,x.kind,c 1 _ rfl,AB (λh j=>T (.inr ⟨e,h⟩)) λh2 j=> ?_⟩⟩) λe j=> ?_⟩⟩⟩
  .refine DJ ⟨s,dS v,AR (by grind) (DJ ⟨s,dS v,O _ ⟨⟨by omega,g⟩,x.addr,d0,AR (by grind) (DJ ⟨s,dS v,O _ ⟨⟨by omega,g⟩,x.kind,d 1 _ rfl,Y i _ C J (λy hy=> ?_) ?_ _ v⟩⟩)⟩⟩)⟩
   .grind
   grind
  .refine DJ ⟨s,dS v,AR (by grind) (DJ ⟨s,dS v,O _ ⟨⟨by omega,g⟩,x.addr,d0,AP (by grind) (Y i _ C J (λy hy=> ?_) ?_ _ v)⟩⟩)⟩
   .grind
   grind
 .refine λj=>DJ ⟨s,dS v,AP (by grind) (Y i _ C J (λy hy=> ?_) ?_ _ v)⟩
  .grind
  grind
def OP(H:Sat (Gz E q R::Z) w){a k:Int}{K:Int->Int->World->Prop}(aD:(∀x∈R,¬(x.addr=a/\x.kind=k))-> ∀w',Sat (Gz E q R::Z) w'->K 0 35 w')
  (aE: ∀A y B,R=A++y::B->y.addr=a->y.kind=k-> ∀w',Sat (Gz E q (A++B)::Z) w'->K y.data 0 w'):F.Av E (some ⟨q,0,none⟩) a k K w:=by
 unfold F.Av T0.Av;obtain⟨hI,s,H1⟩:=Sat.WR.1 H;have aI:=hI.KV;refine YT hI H1 λi ok aN hb ha A6 w3 J=> ?_;have hl:=RP (J.front 1 rfl);cases ok with
 | false=>
  refine AR rfl (aD (λx T he=> ?_) w3 (Sat.WR.2 ⟨hI,s,J⟩));obtain⟨j,hj⟩:=List.mem_iff_getElem?.1 T;have aO:=(List.getElem?_eq_some_iff.1 hj).1;rcases Nat.lt_trichotomy j i with c|c|c
  .grind
  .grind
  .obtain⟨y,v⟩: ∃y,R[i]? =some y:=⟨_,List.getElem?_eq_getElem (by omega)⟩;have h1:=ha y v;have h2:y.key<x.key:=hI.Ho.lt v hj c;have h3:=hI.kd y (List.mem_of_getElem? v);have h4:=hI.kd x T;unfold Rc.key at h2;omega
 | true=>
  obtain⟨y,v,e1,e2⟩:=A6.1 rfl;have hi:=(List.getElem?_eq_some_iff.1 v).1;obtain⟨b,aB,_,c⟩:=mH (J.front 1 rfl) v;refine AP rfl (DJ ⟨s,dS J,?_⟩);have ra:=λ(P:Addr->Prop) (h:P ⟨b,0,none⟩)=>show NC s.base P by rw[aB];exact DJ h
  refine ra _ ⟨⟨by omega,by omega⟩,y.data,c 2 _ rfl,Gs (n:=0) (z:=3) J rfl (by decide) λb8 w9 H9=>DJ ⟨s,dS (H9.front 1 rfl),⟨by omega,by omega⟩,?_⟩⟩;rw[Int.toNat_natCast];refine FU (x:=⟨GN s.base s.cap 0 3,i,s.cap⟩) (news:=Ao Jf (R.take i)) H9 rfl ((H9.front 2 rfl).Nx (by decide) Jg (Nat.le_of_lt hi)) (by rw[De Jg,List.length_take];grind) (HE LR _) (by grind) (by grind) λs5 w6 O aF=> ?_;rw[List.nil_append]at O;dsimp only at aF;rw[AF (n:=(i:Int)+1)];refine DJ ⟨s,dS (O.front 1 rfl),⟨by omega,by omega⟩,?_⟩;rw[show Int.toNat ((i:Int)+1)=i+1 by omega];refine FU (x:=⟨GN s.base s.cap (i+1) 3,s.len-(i+1),s.cap-(i+1)⟩) (news:=Ao Jf (R.drop (i+1))) O rfl ((O.front 2 rfl).Ny (by decide) Jg hi) (by rw[De Jg,List.length_drop];grind) (HE LR _) (by grind) (by grind) λs9 aQ C _=> ?_;rw[<-FR]at C;have hR:R=R.take i++y::R.drop (i+1):=by
   conv=>lhs;rw[<-List.take_append_drop i R,List.drop_eq_getElem_cons hi]
   grind
  refine DJ (rcSt (s':=s9) (C.front 1 rfl) λaG Y=>aE _ y _ hR e1 e2 aG (Sat.WR.2 ⟨?_,s9,(Y.front 2 rfl).tail⟩));have d:List.Sublist (R.take i++R.drop (i+1)) R:=by
   conv=>rhs;rw[hR]
   grind
  exact⟨List.Pairwise.sublist d hI.Ho,λx T=>hI.kd x (d.subset T),Nat.le_trans d.length_le hI.KV⟩
def gS(H:Sat (Gz E q R::Z) w){a:Int}{K:AX->World->Prop}(hK: ∀s w',Sat (Row E.AN 3 s (Ao Jf (O8 R a))::Gz E q R::Z) w'->K s w'):F.FH E (some ⟨q,0,none⟩) a K w:=by
 unfold F.FH;obtain⟨hI,s,H1⟩:=Sat.WR.1 H;have C:=hI.KV;refine AI (λst w'=> ∃i:Nat,st.2.1=(i:Int)/\i<=R.length/\Sat (Row E.AN 3 st.1 (Ao Jf (O8 (R.take i) a))::Cells q E.BX [FJ s]::Row E.AN 3 s (Ao Jf R)::Z) w') (λst _=>((R.length:Int)-st.2.1).toNat) ⟨0,rfl,Nat.zero_le _,H1.nil E.AN 3⟩ ?_;rintro⟨o,i',u⟩ _ w2 ⟨i,J,aC,d⟩;dsimp only at J d⊢;subst J;have hl:=RP (d.front 2 rfl);have aD:=RP d;have y:=dS (d.front 1 rfl);refine DJ ⟨s,y,AB (λg=>DJ ⟨s,y,?_⟩) λg=> ?_⟩
 .obtain⟨x,O⟩: ∃x,R[i]? =some x:=⟨_,List.getElem?_eq_getElem (by omega)⟩;obtain⟨b,hb,c0,c⟩:=mH (d.front 2 rfl) O;have T:=λ(P:Addr->Prop) (h:P ⟨b,0,none⟩)=>show NC s.base P by rw[hb];exact DJ h
  have e:O8 (R.take (i+1)) a=O8 (R.take i) a++if x.addr==a then [x]else []:=by
   unfold O8;rw[List.take_succ,O,List.filter_append]
   grind
  have aE:(O8 (R.take i) a).length<=i:=Nat.le_trans (List.length_filter_le _ _) (by rw[List.length_take];omega);rw[AF (n:=(i:Int)+1)];refine T _ ⟨⟨by omega,g⟩,x.addr,c0,AS (λht=>DJ ⟨s,y,T _ ⟨⟨by omega,g⟩,_,c 0 _ rfl,_,c 1 _ rfl,_,c 2 _ rfl,?_⟩⟩) λhf=>⟨⟨i+1,by omega,by omega,?_⟩,by omega⟩⟩
  .refine AO (vs:=Jf x) d λY aG j _=>Er (news:=Jf x) j rfl rfl (LR x) (by omega) (by omega) λwT aH v _=>⟨⟨i+1,by omega,by omega,?_⟩,by omega⟩;rw[e,if_pos ht,FR];rw[show Ao Jf [x]=Jf x by simp[Ao]];exact v
  .rw[e,if_neg (by grind),List.append_nil];exact d
 .rw[List.take_of_length_le (by omega)]at d;exact hK o w2 ((Sat.WR.2 ⟨hI,s,(d.front 1 rfl).EM 1 rfl⟩).front 1 rfl)
def mI(hI:Ml R)(a:Int): ∃A C,R=A++(O8 R a++C)/\Ou R a=A++C:=by
 have hs: ∃A B,R=A++B/\(∀x∈A,x.key<4*a+0)/\ ∀x∈B,4*a+0<=x.key:=by
  refine⟨R.take (pos Rc.key R (4*a)),R.drop (pos Rc.key R (4*a)),(List.take_append_drop _ _).symm,λx d=> ?_,λx d=> ?_⟩
  .have:=(Kb d).2;omega
  .have:=(Kc hI.Ho d).2;omega
 obtain⟨A,B,K,y,J⟩:=hs;subst K;obtain⟨j,v⟩:=mG hI y J;exact⟨A,_,by rw[<-j,List.takeWhile_append_dropWhile],v.symm⟩
def YU(H:Sat (Gz E q R::Z) w){a:Int}{K:AX->World->Prop}(hK: ∀s w',Sat (Row E.AN 3 s (Ao Jf (O8 R a))::Gz E q (Ou R a)::Z) w'->K s w'):F.BQ E (some ⟨q,0,none⟩) a K w:=by
 unfold F.BQ T0.BQ;have hI:=(Sat.WR.1 H).1;obtain⟨A,C,hR,hN⟩:=mI hI a;have Y: ∀y∈O8 R a,y.addr=a:=λy hy=>by simpa using(List.mem_filter.1 hy).2
 refine gS H λs w2 H2=> ?_;generalize O8 R a=T at *
 rw[hN]at hK;subst hR;have O:=hI.KV;simp only[List.length_append]at O;refine AI (λst w'=> ∃i:Nat,st.1=(i:Int)/\i<=T.length/\Sat (Row E.AN 3 s (Ao Jf T)::Gz E q (A++(T.drop i++C))::Z) w') (λst _=>((T.length:Int)-st.1).toNat) ⟨0,rfl,Nat.zero_le _,H2⟩ ?_;rintro⟨i',u⟩ _ w4 ⟨i,hi,aM,j⟩;dsimp only at hi⊢;subst hi;have hl:=RP j;refine AB (λg=> ?_) λg=> ?_
 .obtain⟨y,hy⟩: ∃y,T[i]? =some y:=⟨_,List.getElem?_eq_getElem (by omega)⟩;obtain⟨b,hb,_,c⟩:=mH j hy;have ra:=λ(P:Addr->Prop) (h:P ⟨b,0,none⟩)=>show NC s.base P by rw[hb];exact DJ h
  have hd:T.drop i=y::T.drop (i+1):=by
   rw[List.drop_eq_getElem_cons (by omega:i<T.length),(List.getElem?_eq_some_iff.1 hy).2]
  have H5:=j.front 1 rfl;rw[hd]at H5;have v:=(Sat.WR.1 H5).1;have aC:y∈A++(y::T.drop (i+1)++C):=by simp
  have ha:=Y y (List.mem_of_getElem? hy);rw[AF (n:=(i:Int)+1)];refine ra _ ⟨⟨by omega,g⟩,y.kind,c 1 _ rfl,OP H5 (λh=>absurd ⟨ha,rfl⟩ (h y aC)) λA' z B' J h1 h2 aP d=>⟨⟨i+1,by omega,by omega,?_⟩,by omega⟩⟩;have e:z=y:=v.Ho.inj (by rw[J];simp) aC (by unfold Rc.key;omega);subst e;have aA:=v.Ho;have e2: ∀{A1 B1:List Rc},A++(z::T.drop (i+1)++C)=A1++z::B1->A1++B1=(A++(z::T.drop (i+1)++C)).filter λy=>decide (y.key≠z.key):=λ{A1 B1} h=>by
   rw[h]at aA⊢;have hp:=List.pairwise_append.1 aA;rw[List.filter_append,List.filter_cons_of_neg (by simp),List.filter_eq_self.2,List.filter_eq_self.2]
   .exact λx hx=>by have:=(List.pairwise_cons.1 hp.2.1).1 x hx;simp;omega
   grind
  rw[e2 J,<-e2 (A1:=A) (B1:=T.drop (i+1)++C) rfl]at d;exact d.front 1 rfl
 .rw[show i=T.length by omega,List.drop_length,List.nil_append]at j;exact hK s w4 j
end
def SR{U:Nat->Bool}{n:Nat}(h: ∀i,n<=i->U i=false): ∀m,cN U (n+m)=cN U n
 | 0=>rfl
 | m+1=>by
  show cN U (n+m)+(U (n+m)).toNat=_;rw[SR h m,h _ (by omega)];rfl
def vP{U:Nat->Bool}{n m:Nat}(h1: ∀i,n<=i->U i=false)(h2: ∀i,m<=i->U i=false):cN U n=cN U m:=by
 rcases Nat.le_total n m with h|h
 .have:=SR h1 (m-n);grind
 .have:=SR h2 (n-m);grind
structure Qq(S:SI)(U M:Nat->Bool):Prop where
 uw:K1 S.uw U
 mw:K1 S.mw M
 lu:(S.uw.length:Int)*64<=S.AK+63
 lm:(S.mw.length:Int)*64<=S.AK+63
 Ju: ∀i:Nat,U i=true->(i:Int)<S.AK
 vQ: ∀i:Nat,M i=true->(i:Int)<S.AK
 sl:0<=S.AK/\S.AK<=137438953472
 cnt:S.used=(cN U S.AK.toNat:Nat)
 look:0<=S.look/\S.look<=S.AK/\ ∀i:Nat,(i:Int)<S.look->U i=true
def Qq.out{S:SI}{U M:Nat->Bool}(h:Qq S U M)(i:Nat)(d:S.AK.toNat<=i):U i=false:=by
 cases e:U i with
 | false=>rfl
 | true=>have:=h.Ju i e;omega
def Qq.next{S:SI}{U M:Nat->Bool}(h:Qq S U M){n:Nat}(v:(n:Int)<S.AK)(hu:U n=false)(C: ∀i,i<n->U i=true){d:List Int}(h1:K1 d λi=>U i||i==n)(h2:d.length=max S.uw.length (n/64+1)):
  Qq {S with uw:=d,used:=S.used+1,look:=(n:Int)+1} (λi=>U i||i==n) M:=by
 have hs:=h.sl;have y:=h.lu;refine⟨h1,h.mw,by grind,h.lm,λi j=> ?_,h.vQ,h.sl,?_,⟨by grind,by grind,λi j=> ?_⟩⟩
 .rw[Bool.or_eq_true,beq_iff_eq]at j;rcases j with j|rfl
  .exact h.Ju i j
  .exact v
 .show S.used+1=_;rw[lP hu,if_pos (by show n<S.AK.toNat;omega),h.cnt];rfl
 grind
def Qq.mark{S:SI}{U M:Nat->Bool}(h:Qq S U M){n:Nat}(j:(n:Int)<S.AK){mw':List Int}(h1:K1 mw' λi=>M i||i==n)(h2:mw'.length=max S.mw.length (n/64+1)):
  Qq {S with mw:=mw'} U (λi=>M i||i==n):=by
 have hs:=h.sl;have v:=h.lm;refine⟨h.uw,h1,h.lu,by grind,h.Ju,λi d=> ?_,h.sl,h.cnt,h.look⟩;rw[Bool.or_eq_true,beq_iff_eq]at d;rcases d with d|rfl
 .exact h.vQ i d
 .exact j
def Qq.dT{S:SI}{U M:Nat->Bool}(h:Qq S U M):0<=S.used/\S.used<=S.AK:=by
 have:=PS U S.AK.toNat;have:=h.sl;rw[h.cnt];omega
section
variable{E:Env}{w:World}{Z:List Pr}{b:Nat}{S:SI}{U M:Nat->Bool}
def WS(hT:FQ E.AJ w)(H:Sat (Cz E b S::Z) w)(v:Qq S U M)(aB:S.state≠0){K:Int->Int->World->Prop}
  (T:(∀i:Nat,(i:Int)<S.AK->U i=true)-> ∀w',Sat (Cz E b S::Z) w'->K 0 30 w')
  (Y: ∀(n:Nat) d,(n:Int)<S.AK->U n=false->(∀i,i<n->U i=true)->Qq {S with uw:=d,used:=S.used+1,look:=(n:Int)+1} (λi=>U i||i==n) M->
   ∀w',Sat (Cz E b {S with uw:=d,used:=S.used+1,look:=(n:Int)+1}::Z) w'->K n 0 w'):F.Dq E (some ⟨b,0,none⟩) K w:=by
 obtain⟨y,sm,H⟩:=Sat.span.1 H;unfold F.Dq T0.Dq;simp only[AG];have hs:=v.sl;obtain⟨l0,l1,l2⟩:=v.look;obtain⟨k,hk⟩:=Int.eq_ofNat_of_zero_le l0;have j:Sat (Xy E b S y sm++Z) w.drew:=H.drew;refine⟨_,H.cell rfl,Bc (λe=>absurd e aB) λ_=>⟨y,j.cell rfl,_,j.cell rfl,?_⟩⟩;rw[hk];have aH:=v.lu;have aI:=Gy (j.front 1 rfl);refine YL (hT.ext (Ext.drew _ _)) (j.front 1 rfl) v.uw (by omega) (by omega) λr r1 r2 r4=>⟨_,j.cell rfl,?_⟩;have below: ∀i,i<r->U i=true:=λi hi=>by
  by_cases e:i<k
  .exact l2 i (by omega)
  .exact r4 i (by omega) hi
 refine AB (λg=>T (λi hi=>below i (by omega)) _ (Sat.span.2 ⟨y,sm,j⟩)) λg=> ?_;have hr:(r:Int)<S.AK:=by omega
 have H1:Sat (Cells b E.Ey ((F3 S y sm).set 11 (FJ y))::Row E.AD 1 y (ints .u64 S.uw)::Row E.AD 1 sm (ints .u64 S.mw)::Z) w.drew:=j;refine rowBt_setS (by simp[F3]) H1 v.uw (by omega) (by omega) λs' d aL hB aA C=> ?_;have aJ:=v.dT;refine⟨S.used,C.cell rfl,?_⟩;rw[AF (n:=S.used+1),AF (n:=(r:Int)+1)];refine Ab C (o:=0) (m:=7) rfl (by simp[F3]) λaM J=>Ab J (o:=0) (m:=13) rfl (by simp[F3]) λaC O=> ?_;exact Y r d hr r2 below (v.next hr r2 below hB aA) aC (Sat.span.2 ⟨s',sm,O⟩)
def Lg(H:Sat (Cz E b S::Z) w){i:Int}{K:Bool->World->Prop}(h1:0<=i/\i<S.AK->K true w)(h2: ¬(0<=i/\i<S.AK)->K false w):F.Ee E (some ⟨b,0,none⟩) i K w:=by
 refine Px H ?_;by_cases g:0<=i/\i<S.AK
 .rw[decide_eq_true g];exact h1 g
 .rw[decide_eq_false g];exact h2 g
def YV(H:Sat (Cz E b S::Z) w)(d:Qq S U M){n:Nat}(C:(n:Int)<S.AK){K:Bool->World->Prop}(v:K (U n) w):F.E6 E (some ⟨b,0,none⟩) n K w:=by
 have j:=H;obtain⟨y,sm,H⟩:=Sat.span.1 H;unfold F.E6 T0.E6;simp only[AG];have hs:=d.sl;refine Lg j (λ_=>AR rfl ⟨y,H.cell rfl,?_⟩) λg=>absurd (by omega) g;exact Ts (H.front 1 rfl) d.uw (by omega) v
def Ud(H:Sat (Cz E b S::Z) w)(d:Qq S U M){n:Nat}(y:(n:Int)<S.AK){K:Bool->World->Prop}(v:K (M n) w):F.EE E (some ⟨b,0,none⟩) n K w:=by
 have j:=H;obtain⟨C,sm,H⟩:=Sat.span.1 H;unfold F.EE T0.EE;simp only[AG];have hs:=d.sl;refine Lg j (λ_=>AR rfl ⟨sm,H.cell rfl,?_⟩) λg=>absurd (by omega) g;exact Ts (H.front 2 rfl) d.mw (by omega) v
def RQ(H:Sat (Cz E b S::Z) w)(d:Qq S U M)(y:S.state=1){n:Nat}(hn:(n:Int)<S.AK){K:Int->World->Prop}
  (Y: ∀mw',Qq {S with mw:=mw'} U (λi=>M i||i==n)-> ∀w',Sat (Cz E b {S with mw:=mw'}::Z) w'->K 0 w'):F.EV E (some ⟨b,0,none⟩) n K w:=by
 have O:=H;obtain⟨C,sm,H⟩:=Sat.span.1 H;unfold F.EV T0.EV;simp only[AG];have hs:=d.sl;have aA:=d.lm;refine⟨_,H.cell rfl,Gq (λg=>absurd y g) λ_=>Lg O (λ_=>AP rfl ?_) λg=>absurd (by omega) g⟩;have H1:Sat (Cells b E.Ey ((F3 S C sm).set 12 (FJ sm))::Row E.AD 1 sm (ints .u64 S.mw)::Row E.AD 1 C (ints .u64 S.uw)::Z) w:=H.perm (.cons _ (.swap _ _ _));refine rowBt_setS (by simp[F3]) H1 d.mw (by omega) (by omega) λs' mw' J T v j=> ?_;exact Y mw' (d.mark hn T v) J (Sat.span.2 ⟨C,s',j.perm (.cons _ (.swap _ _ _))⟩)
def mJ{V:Nat->Bool}{k i:Nat}:EY V k=0->i/64=k->V i=false:=λh d=>by
 have:=HF.1 h (i %64) (by omega)
 grind
def OQ(H:Sat (Cz E b S::Z) w)(y:Qq S U M){K:Bool->World->Prop}(aB:(∃i,M i=true/\U i=false)->K true w)(aA:(∀i,M i=true->U i=true)->K false w):F.Gb E (some ⟨b,0,none⟩) K w:=by
 obtain⟨su,sm,H⟩:=Sat.span.1 H;unfold F.Gb;simp only[AG];have hs:=y.sl;have aI:=y.lu;have aH:=y.lm;have l1:=Gy (H.front 1 rfl);have l2:=Gy (H.front 2 rfl);refine⟨sm,H.cell rfl,?_⟩;refine AI (λst w'=>w'=w/\ ∃k:Nat,st.1=(k:Int)/\ ∀i,i<64*k->M i=true->U i=true) (λst _=>((S.mw.length:Int)-st.1).toNat) ⟨rfl,0,rfl,λi C=>by omega⟩ ?_;rintro⟨k',u⟩ _ w3 ⟨rfl,k,hk,k1⟩;dsimp only at hk⊢;subst hk;refine AB (λg=> ?_) λg=>aA λi C=> ?_
 .obtain⟨c,hc,T⟩:=Ix (H.front 2 rfl) y.mw (k:=k) (by omega);rw[hc];simp only[AG];refine⟨⟨by omega,by omega⟩,_,by rw[Int.toNat_natCast];exact T,?_⟩;have main: ∀v:Int,v=EY (λi=>M i&& !U i) k->CND (v !=0) (K true w3) ((w3=w3/\ ∃O:Nat,i64 ((k:Int)+1)=(O:Int)/\ ∀i,i<64*O->M i=true->U i=true)/\((S.mw.length:Int)-i64 ((k:Int)+1)).toNat<((S.mw.length:Int)-(k:Int)).toNat):=λv hv=>by
   refine Gq (λJ=> ?_) λhe=> ?_
   .obtain⟨c,c1,c2,_⟩:=lJ (by rw[hv]at J;exact J);rw[Bool.and_eq_true,Bool.not_eq_true']at c2;exact aB ⟨_,c2⟩
   .rw[show i64 ((k:Int)+1)=((k+1:Nat):Int) by rw[AF];rfl];refine⟨⟨rfl,k+1,rfl,λi C hm=> ?_⟩,by omega⟩;by_cases e:i<64*k
    .exact k1 i e hm
    .have:=mJ (hv▸he) (show i/64=k by omega)
     grind
  refine AU ⟨su,H.cell rfl,AB (λg2=> ?_) λg2 j=>main _ ?_⟩
  .obtain⟨d,hd,Y⟩:=Ix (H.front 1 rfl) y.uw (k:=k) (by omega);refine⟨su,H.cell rfl,?_⟩;rw[hd];refine AH ⟨⟨by omega,by omega⟩,_,by rw[Int.toNat_natCast];exact Y,λj=>main _ ?_⟩;unfold EY;rw[NJ]
  .unfold EY;refine Gt λi C=> ?_;show M _=(M _&& !U _);rw[y.uw.2 _ (by omega)];simp
 .by_cases e:i<64*k
  .exact k1 i e C
  .rw[y.mw.2 i (by omega)]at C;cases C
def dU(S:SI):Prop:=0<=S.Lw/\S.Lw<4294967296/\(0<S.Lw->S.AK*S.elem<4294967296/\ ∀off:Int,0<=off->off<S.AK*S.elem->off*S.Lw/4294967296=off/S.elem)
def Ue(H:Sat (Cz E b S::Z) w)(hm:dU S)(he:0<S.elem)(O:S.elem<=2199023255552)(hs:0<=S.AK/\S.AK<=1048576)(hb:0<=S.base/\S.base<=281474976710656){a:Int}(ha:0<=a/\a<18446744073709551616){K:Int->Int->World->Prop}
  (y: ¬(S.base<=a/\a<S.base+S.AK*S.elem)-> ∀w',Sat (Cz E b S::Z) w'->K 0 10 w')(T:S.base<=a->a<S.base+S.AK*S.elem-> ∀w',Sat (Cz E b S::Z) w'->K ((a-S.base)/S.elem) 0 w'):F.Ed E (some ⟨b,0,none⟩) a K w:=by
 obtain⟨su,sm,H⟩:=Sat.span.1 H;unfold F.Ed T0.Ed;simp only[AG];have d:Sat (Xy E b S su sm++Z) w.drew:=H.drew;have v:Sat (Cz E b S::Z) w.drew:=Sat.span.2 ⟨su,sm,d⟩;have h2:S.AK*S.elem<=1048576*2199023255552:=Int.mul_le_mul hs.2 O (by omega) (by decide);have h3:0<=S.AK*S.elem:=Int.mul_nonneg hs.1 (by omega);have e1:u64 (u64 S.AK*u64 S.elem)=S.AK*S.elem:=by rw[AM (n:=S.AK),AM (n:=S.elem),AM]
 refine AU ⟨_,d.Af rfl,AB (λg j=>AR rfl (y (λh=>by omega) _ v)) λg1=>⟨_,d.Af rfl,_,d.cell rfl,_,d.cell rfl,λj=> ?_⟩⟩;rw[e1,AM (n:=a-S.base)];refine AB (λg=>y (λh=>by omega) _ v) λg2=>⟨_,d.Af rfl,_,d.cell rfl,?_⟩;have hq:0<=(a-S.base)/S.elem/\(a-S.base)/S.elem<=a-S.base:=⟨Int.ediv_nonneg (by omega) (by omega),Int.ediv_le_self _ (by omega)⟩;rw[AM (n:=a-S.base)];refine AB (λg=>⟨_,d.cell rfl,?_⟩) λg=>⟨_,d.cell rfl,?_⟩
 .obtain⟨m0,m1,m2⟩:=hm;obtain⟨m3,m4⟩:=m2 g;unfold F.TJ;refine⟨by decide,AY λt J=> ?_⟩;have C: ∀{n:Int},0<=n->n<4294967296->IntKind.wrap .u32 n=n:=λ{n} h0 h1=>by
   show n %_=n;exact Int.emod_eq_of_lt h0 h1
  have Y:0<=(a-S.base)*S.Lw/\(a-S.base)*S.Lw<18446744073709551616:=by
   refine⟨Int.mul_nonneg (by omega) m0,?_⟩
   grind
  rw[C (n:=a-S.base) (by omega) (by omega),AM (n:=a-S.base),AM (n:=S.Lw),AM Y.1 Y.2,
   show(2:Int)^(min (Int.toNat 32) (IntKind.bits .u64))=4294967296 by decide,Int.fdiv_eq_ediv_of_nonneg _ (by decide),m4 _ (by omega) (by omega),C (by omega) (by omega)]at J
  rw[J];show K (i64 _) 0 _;rw[AF];exact T (by omega) (by omega) _ v
 .rw[AM (n:=S.elem),Int.tdiv_eq_ediv_of_nonneg (by omega)];refine⟨by omega,AY λt J=> ?_⟩;have:t=(a-S.base)/S.elem:=by rw[J,AM,AF]
  grind
end
def EN(F:Nat->Bool)(m:Nat):List Int:=((List.range m).filter F).map λi:Nat=>(i:Int)
def K6(F:Nat->Bool): ∀m,(EN F m).length=cN F m
 | 0=>rfl
 | m+1=>by
  have d:=K6 F m;unfold EN at d⊢;rw[List.length_map]at d⊢;rw[List.range_succ,List.filter_append,List.length_append,d];show _=cN F m+(F m).toNat
  grind
def KL{F:Nat->Bool}{m:Nat}: ∀{n:Nat},(∀i,m<=i->i<m+n->F i=false)->EN F (m+n)=EN F m
 | 0,_=>rfl
 | n+1,h=>by
  have d:=KL (F:=F) (m:=m) (n:=n) λi h1 h2=>h i h1 (by omega);unfold EN at d⊢;rw[show m+(n+1)=m+n+1 by omega,List.range_succ,List.filter_append,List.map_append,d,List.filter_cons_of_neg (by grind)];simp
def Tw{F:Nat->Bool}{m n:Nat}(d:m<=n)(h: ∀i,m<=i->i<n->F i=false)(j:F n=true):EN F (n+1)=EN F m++[(n:Int)]:=by
 have e:=KL (F:=F) (m:=m) (n:=n-m) λi h1 h2=>h i h1 (by omega);rw[show m+(n-m)=n by omega]at e;unfold EN at e⊢;rw[List.range_succ,List.filter_append,List.map_append,e,List.filter_cons_of_pos j];simp
def YW(U M:Nat->Bool): ∀n,cN U n=cN (λi=>U i&&M i) n+cN (λi=>U i&& !M i) n
 | 0=>rfl
 | n+1=>by
  show cN U n+(U n).toNat=cN _ n+(U n&&M n).toNat+(cN _ n+(U n&& !M n).toNat);have:=YW U M n;cases U n<;>cases M n<;>simp<;>omega
def Tx(S:SI)(d:List Int)(U M:Nat->Bool):SI:={S with uw:=d,mw:=[],used:=(cN (λi=>U i&&M i) S.AK.toNat:Nat),look:=0}
def Qq.D0{S:SI}{U M:Nat->Bool}(h:Qq S U M){d:List Int}(h1:K1 d λi=>U i&&M i)(h2:d.length=S.uw.length):Qq (Tx S d U M) (λi=>U i&&M i) (λ_=>false):=by
 have:=h.lu;have:=h.sl;refine⟨h1,Qo λ_=>rfl,by show(d.length:Int)*64<=S.AK+63;omega,by show((0:Nat):Int)*64<=S.AK+63;omega,λi j=> ?_,λi j=>(by cases j),h.sl,rfl,⟨Int.le_refl 0,h.sl.1,λi j=> ?_⟩⟩
 .rw[Bool.and_eq_true]at j;exact h.Ju i j.1
 .have j:(i:Int)<0:=j;omega
section
variable{E:Env}{w:World}{Z:List Pr}{b:Nat}{S:SI}{U M:Nat->Bool}
def WT(hT: ∀w',Sat Z w'->FQ E.AJ w')(H:Sat (Cz E b S::Z) w)(O:Qq S U M)(bB:S.state=1){K:AX->Int->World->Prop}(a9:(∃i,M i=true/\U i=false)->K ⟨none,0,0⟩ 40 w)
  (hk:(∀i,M i=true->U i=true)-> ∀aP s,Qq (Tx S aP U M) (λi=>U i&&M i) (λ_=>false)->s.len=cN (λi=>U i&& !M i) S.AK.toNat->
   ∀w',Sat (Row E.CO 1 s (ints .i64 (EN (λi=>U i&& !M i) (64*S.uw.length)))::Cz E b (Tx S aP U M)::Z) w'->K s 0 w'):F.C7 E (some ⟨b,0,none⟩) K w:=by
 have H0:=H;obtain⟨C,sm,H⟩:=Sat.span.1 H;unfold F.C7 T0.C7;refine AH ⟨_,H.cell rfl,Gq (λg=>absurd bB g) λ_=>OQ H0 O (λh=>AR rfl (a9 h)) λhz=>AP rfl (AH ⟨C,H.cell rfl,?_⟩)⟩;have hs:=O.sl;have b3:=O.lu;have b1:=O.lm;have l1:=Gy (H.front 1 rfl);have l2:=Gy (H.front 2 rfl)
 let G:Nat->Bool:=λi=>U i&& !M i
 let Uk:Nat->Nat->Bool:=λk i=>if i<64*k then U i&&M i else U i
 have hn:S.uw.length<=2147483649:=by omega
 have a5: ∀k,K1 (D7 (Uk k) S.uw.length) (Uk k):=λk=>P6 λi T=>by
  show(if i<64*k then U i&&M i else U i)=false;rw[O.uw.2 i T];grind
 have e0:D7 (Uk 0) S.uw.length=S.uw:=by
  have:Uk 0=U:=by funext i;show(if i<64*0 then _ else _)=_;rw[if_neg (by omega)]
  rw[this];exact O.uw.1.symm
 have fl: ∀m,(EN G m).length<=m:=λm=>by rw[K6];exact PS G m
 refine AI (λst w'=> ∃k:Nat,st.2.1=(k:Int)/\k<=S.uw.length/\Sat (Row E.CO 1 st.1 (ints .i64 (EN G (64*k)))::Cells b E.Ey (F3 S C sm)::Row E.AD 1 C (ints .u64 (D7 (Uk k) S.uw.length))::Row E.AD 1 sm (ints .u64 S.mw)::Z) w') (λst _=>((S.uw.length:Int)-st.2.1).toNat) ⟨0,rfl,Nat.zero_le _,by rw[e0];exact H.nil E.CO 1⟩ ?_;rintro⟨fr,k',u⟩ _ w8 ⟨k,aM,b0,H8⟩;dsimp only at aM H8⊢;subst aM;refine AB (λg=> ?_) λg=> ?_
 .have a8:k<S.uw.length:=by omega
  have hg:k<(D7 (Uk k) S.uw.length).length:=by rw[FN];exact a8
  obtain⟨a,ha,aF⟩:=Ix (H8.front 2 rfl) (a5 k) hg;have ew:EY (Uk k) k=EY U k:=Gt λi T=>by show(if 64*k+i<64*k then _ else _)=_;rw[if_neg (by omega)]
  rw[ew]at aF;have cu: ∀{w'} {vs:List Value} {Y},Sat (Row E.CO 1 fr vs::Cells b E.Ey (F3 S C sm)::Y) w'->w'.cell? ((Addr.mk b 0 none).add 11)=some (.slice C.base C.len C.cap)/\w'.cell? ((Addr.mk b 0 none).add 12)=some (.slice sm.base sm.len sm.cap):=λh=>⟨(h.front 1 rfl).cell rfl,(h.front 1 rfl).cell rfl⟩;have aC:=cu H8;refine AH ⟨C,aC.1,?_⟩
  try dsimp only
  rw[ha];refine AH ⟨⟨by omega,by omega⟩,_,by rw[Int.toNat_natCast];exact aF,?_⟩;have main: ∀v:Int,v=EY G k-> ∀(y:AX×Int×Unit->World->Prop),(∀st w',(∃k:Nat,st.2.1=(k:Int)/\k<=S.uw.length/\Sat (Row E.CO 1 st.1 (ints .i64 (EN G (64*k)))::Cells b E.Ey (F3 S C sm)::Row E.AD 1 C (ints .u64 (D7 (Uk k) S.uw.length))::Row E.AD 1 sm (ints .u64 S.mw)::Z) w')/\((S.uw.length:Int)-st.2.1).toNat<((S.uw.length:Int)-(k:Int)).toNat->y st w')->
    NC (some (Addr.mk b 0 none)) λbC=> ∃J:AX,w8.cell? (bC.add 11)=some (.slice J.base J.len J.cap)/\NC J.base λbD=>((0:Int)<=(k:Int)/\((k:Int):Int)<(J.len:Nat))/\ ∃aV:Int,w8.cell? (bD.add (Int.toNat (k:Int)*1))=some (.int .u64 aV)/\NC J.base λbE=>((0:Int)<=(k:Int)/\((k:Int):Int)<(J.len:Nat))/\
     stCells (bE.add (Int.toNat (k:Int)*1)) 0 [.int .u64 (Dj .u64 3 aV v)] w8 λaQ=>
      Az (AX×Int×Unit) (fr,v,()) aQ λIQ _ aB aD=>
       CND ((IQ.2.1:Int) !=0) (
        (0:Int)<=6/\
        F.Bq E IQ.2.1 (λbF bG=>
        AL (.cells ⟨[.int .i64 (i64 ((i64 ((k:Int)*2^(min (Int.toNat 6) (IntKind.bits .i64))))+bF))]⟩ E.CO) bG λaJ aR=>
        APP E.CO 1 8 #[.int .i64 0] IQ.1 ⟨(some (Addr.mk aJ 0 none)),1,1⟩ aR λPZ aS=>
        HX (Dj .u64 0 IQ.2.1 (u64 (IQ.2.1-1)):Int) λaU=>
        aD (PZ,aU,()) aS
        ) aB
       ) (
        y (IQ.1,i64 ((k:Int)+1),()) aB
       ):=λv hv y aG=>by
   refine AH ⟨C,aC.1,?_⟩;rw[ha];refine AH ⟨⟨by omega,by omega⟩,_,by rw[Int.toNat_natCast];exact aF,AH ⟨⟨by omega,by omega⟩,?_⟩⟩;subst hv;have e1:Dj .u64 3 (EY U k) (EY G k)=EY (Uk (k+1)) k:=by
    unfold EY;rw[NJ];refine Gt λi T=> ?_;show(U _&& !(U _&& !M _))=if 64*k+i<64*(k+1)then _ else _
    grind
   rw[e1,Int.toNat_natCast,Nat.mul_one];refine Gp (H8.front 2 rfl) (j:=k) rfl (by simp[ints,FN];omega) ha λaQ aH=> ?_;have e2:(ints .u64 (D7 (Uk k) S.uw.length)).set k (.int .u64 (EY (Uk (k+1)) k))=ints .u64 (D7 (Uk (k+1)) S.uw.length):=by
    rw[<-Tr (U:=Uk k) (V:=Uk (k+1)) (k:=k) λi T=>by
     show(if i<64*k then _ else _)=if i<64*(k+1)then _ else _
     grind]
    simp only[ints,List.map_set]
   rw[e2]at aH;have aX:=aH.front 1 rfl;refine AI (λst w'=> ∃c:Nat,c<=64/\st.2.1=W (λi=>G (64*k+i)&&decide (c<=i))/\Sat (Row E.CO 1 st.1 (ints .i64 (EN G (64*k+c)))::Row E.AD 1 C (ints .u64 (D7 (Uk (k+1)) S.uw.length))::Cells b E.Ey (F3 S C sm)::Row E.AD 1 sm (ints .u64 S.mw)::Z) w') (λst _=>64*(k+1)-st.1.len) ⟨0,by omega,Gt λi T=>by simp,aX⟩ ?_;rintro⟨a4,v2,u2⟩ _ aB ⟨c,hc,aO,aA⟩;dsimp only at aO aA⊢;subst aO;have hlen:=aA.C1;simp only[ints,List.length_map,Nat.mul_one]at hlen;have aL:=fl (64*k+c);refine Gq (λbA=>⟨by decide,?_⟩) λhe=> ?_
   .refine Qf (hT aB aA.tail.tail.tail.tail) (λaK=>absurd (HF.2 aK) bA) λr hr h1 h2=> ?_;rw[Bool.and_eq_true,decide_eq_true_eq]at h1;have h3: ∀i,64*k+c<=i->i<64*k+r->G i=false:=λi i1 i2=>by
     have:=h2 (i-64*k) (by omega)
     grind
    rw[vO (by omega),AF (n:=((64*k:Nat):Int)+(r:Int))];refine AO (vs:=[.int .i64 (((64*k:Nat):Int)+(r:Int))]) aA λaJ aR aY _=>Er (zs:= #[.int .i64 0]) (bytes:=8) aY rfl rfl (by simp[Value.oneCell']) (by omega) (by omega) λPZ aS bM bJ=>AY λt ht=> ?_;have eb:=vD (u:=λi=>G (64*k+i)&&decide (c<=i)) hr (by grind) h2;rw[eb]at ht;have ef:=Tw (F:=G) (m:=64*k+c) (n:=64*k+r) (by omega) h3 h1.1;refine⟨⟨r+1,by omega,?_,?_⟩,?_⟩
    .show t=_;rw[ht]
     grind
    .rw[show 64*k+(r+1)=64*k+r+1 by omega,ef];have:ints .i64 (EN G (64*k+c))++[.int .i64 (((64*k:Nat):Int)+(r:Int))]=ints .i64 (EN G (64*k+c)++[((64*k+r:Nat):Int)]):=by
      simp[ints]
     grind
    omega
   .rw[show i64 ((k:Int)+1)=((k+1:Nat):Int) by rw[AF];rfl];refine aG _ _ ⟨⟨k+1,rfl,by omega,?_⟩,by grind⟩;have e3:EN G (64*(k+1))=EN G (64*k+c):=by
     rw[show 64*(k+1)=64*k+c+(64-c) by omega];refine KL λi i1 i2=> ?_;have:=HF.1 he (i-64*k) (by omega)
     grind
    show Sat (Row E.CO 1 a4 (ints .i64 (EN G (64*(k+1))))::_) aB;rw[e3];exact aA.perm (.cons _ (.swap _ _ _))
  refine AU (AH ⟨sm,aC.2,AB (λg2=>AH ⟨sm,aC.2,?_⟩) λg2 j=>main _ ?_ _ λ_ _ h=>h⟩)
  .obtain⟨d,hd,a7⟩:=Ix (H8.front 3 rfl) O.mw (k:=k) (by omega);rw[hd];refine AH ⟨⟨by omega,by omega⟩,_,by rw[Int.toNat_natCast];exact a7,λj=>main _ ?_ _ λ_ _ h=>h⟩;unfold EY;rw[NJ]
  .unfold EY;refine Gt λi T=> ?_;show U _=(U _&& !M _);rw[O.mw.2 _ (by omega)];simp
 .have aN:k=S.uw.length:=by omega
  have B3:=H8.front 1 rfl;have hlen:=H8.C1;simp only[ints,List.length_map,Nat.mul_one]at hlen;have e4:cN G (64*S.uw.length)=cN G S.AK.toNat:=vP (λi T=>by show(U i&& !M i)=false;rw[O.uw.2 i T];rfl) λi T=>by show(U i&& !M i)=false;rw[O.out i T];rfl
  have aL:fr.len=cN G S.AK.toNat:=by rw[<-hlen,K6,aN,e4]
  have aW:=YW U M S.AK.toNat;have bI:=O.cnt;have b5:=O.dT;have hle:=PS U S.AK.toNat;have eu:i64 (S.used-((fr.len:Nat):Int))=(cN (λi=>U i&&M i) S.AK.toNat:Nat):=by
   have:cN G S.AK.toNat=cN (λi=>U i&& !M i) S.AK.toNat:=rfl;rw[AF];omega
  refine AH ⟨_,B3.cell rfl,AH ?_⟩;rw[eu];refine Ab B3 (o:=0) (m:=7) rfl (by simp[F3]) λb7 aZ=>AH (Ab aZ (o:=0) (m:=12) (v:=FJ ⟨none,0,0⟩) rfl (by simp[F3]) λb8 a0=>AH (Ab a0 (o:=0) (m:=13) rfl (by simp[F3]) λaT aI=> ?_));have e5:D7 (Uk k) S.uw.length=D7 (λi=>U i&&M i) S.uw.length:=WL λi T=>by
   show(if i<64*k then _ else _)=_
   grind
  rw[e5,aN]at aI;refine hk hz (D7 (λi=>U i&&M i) S.uw.length) fr (O.D0 (P6 λi T=>by show(U i&&M i)=false;rw[O.uw.2 i T];rfl) (FN _ _)) aL aT ?_;have a1:=((aI.front 3 rfl).tail.nil E.AD 1);have a2:Sat (Xy E b (Tx S (D7 (λi=>U i&&M i) S.uw.length) U M) C ⟨none,0,0⟩++Row E.CO 1 fr (ints .i64 (EN G (64*S.uw.length)))::Z) aT:=
   (((a1.front 0 rfl).front 3 rfl).front 2 rfl)
  have a3:=Sat.span.2 ⟨C,⟨none,0,0⟩,a2⟩;exact a3.perm (.swap _ _ _)
end
structure SW where
 S:HS
 L:List DF
 R:List Rc
 em:List Rc
 Mm:Int
 aU:Int
 MY:Int
 KU:Int
def KC(h s r:Nat)(em:AX)(W:SW):List Value:=[.pointer (some ⟨h,0,none⟩),.pointer (some ⟨s,0,none⟩),.pointer (some ⟨r,0,none⟩),FJ em,.int .u64 W.Mm,.int .u64 W.aU,.int .u64 W.MY,.int .u64 W.KU]
def Mn(E:Env)(b h s r:Nat)(W:SW)(em:AX):List Pr:=[Cells b E.Ea (KC h s r em W),Bh E h W.S,Gf E s W.L,JA E r W.R,Row E.AN 3 em (Ao Jf W.em)]
def A4(E:Env)(b h s r:Nat)(W:SW):Pr:=Ex λem:AX=>Lo (Mn E b h s r W em)
structure Ry(x:SI):Prop where
 st:x.state=1
 cls:0<=x.cls/\x.cls<68
 el:x.elem=if x.cls=0 then x.AA*8192 else(Aj x.cls).1
 slo:x.AK=if x.cls=0 then 1 else(Aj x.cls).2.2.1
 mg:x.Lw=(Aj x.cls).2.2.2
 pg:1<=x.AA/\x.AA<=134217728/\(0<x.cls->x.AA=(Aj x.cls).2.1)
 ba:0<=x.base/\x.base %8192=0/\x.base+x.AA*8192<=281474976710656
abbrev BI:=Int->Nat->Bool
def BI.set(U:BI)(id:Int)(u:Nat->Bool):BI:=λi=>if i=id then u else U i
structure Bm(W:SW)(U M:BI):Prop where
 hI:Bv W.S no
 sp: ∀id x,W.S.sp id=some x->Ry x.2/\Qq x.2 (U id) (M id)
 it: ∀x∈W.L,∃y,W.S.sp x.id=some y/\y.2.base=x.base
def gT:(KH.all λc=>decide (0<=c.1)&&(decide (0<=c.2.2.1)&&(decide (c.2.2.1<=1024)&&(decide (c.1*c.2.2.1<=c.2.1*8192)&&(decide (0<=c.2.2.2)&&(decide (c.2.2.2<4294967296)&&(decide (c.2.2.2=0)||(decide (8<=c.1)&&(decide (c.1<=32768)&&(decide (4294967296<=c.2.2.2*c.1)&&(decide ((c.2.2.2*c.1-4294967296)*c.2.2.1<c.2.2.2)&&(decide (1<=c.2.2.1)&&decide (1<=c.2.1)))))))))))))=true:=by decide+kernel
def qM:((KH.drop 1).all λc=>decide (8<=c.1)&&(decide (c.1<=32768)&&(decide (1<=c.2.2.1)&&(decide (1<=c.2.1)&&(decide (c.1 %8=0)&&decide (0<c.2.2.2))))))=true:=by decide+kernel
def cls0:Aj 0=(0,0,0,0):=by decide+kernel
def Ov{c:Int}(h0:0<c)(h1:c<68):8<=(Aj c).1/\(Aj c).1<=32768/\1<=(Aj c).2.2.1/\1<=(Aj c).2.1/\(Aj c).1 %8=0/\0<(Aj c).2.2.2:=by
 have h:=Ky (c:=c) (by omega) h1;have h2:(KH.drop 1)[c.toNat-1]? =some (Aj c):=by grind
 have:=List.all_eq_true.1 qM _ (List.mem_of_getElem? h2)
 grind
def Tz{c:Int}(h0:0<=c)(h1:c<68):0<=(Aj c).1/\0<=(Aj c).2.2.1/\(Aj c).2.2.1<=1024/\(Aj c).1*(Aj c).2.2.1<=(Aj c).2.1*8192/\0<=(Aj c).2.2.2/\(Aj c).2.2.2<4294967296/\
  ((Aj c).2.2.2=0∨(8<=(Aj c).1/\(Aj c).1<=32768/\4294967296<=(Aj c).2.2.2*(Aj c).1/\((Aj c).2.2.2*(Aj c).1-4294967296)*(Aj c).2.2.1<(Aj c).2.2.2/\1<=(Aj c).2.2.1/\1<=(Aj c).2.1)):=by
 have:=List.all_eq_true.1 gT _ (List.mem_of_getElem? (Ky h0 h1))
 grind
def Ry.size{x:SI}(h:Ry x):0<x.elem/\x.elem<=1099511627776/\1<=x.AK/\x.AK<=1024/\x.elem*x.AK<=x.AA*8192:=by
 have d:=h.cls;have hp:=h.pg;by_cases e:x.cls=0
 .have h1:=h.el;have h2:=h.slo
  grind
 .have h1:=h.el;have h2:=h.slo;rw[if_neg e]at h1 h2;have j:=Ov (c:=x.cls) (by omega) d.2;have v:=Tz d.1 d.2
  grind
def Ry.dU{x:SI}(h:Ry x):dU x:=by
 have J:=h.cls;have hm:=h.mg;have C:=Tz J.1 J.2;have hs:=h.size;refine⟨by omega,by omega,λg=> ?_⟩;have v:x.cls≠0:=λe=>by rw[e,cls0]at hm;grind
 have h1:=h.el;have h2:=h.slo;rw[if_neg v]at h1 h2;rcases C.2.2.2.2.2.2 with q|⟨q1,q2,q3,q4,q5,q6⟩
 .omega
 .rw[hm,h1,h2];generalize (Aj x.cls).1=s at *
  generalize (Aj x.cls).2.2.1=n at *
  generalize (Aj x.cls).2.2.2=m at *
  have hn:n<=1024:=C.2.2.1;have aC:n*s<=1024*32768:=Int.mul_le_mul hn q2 (by omega) (by decide);refine⟨by omega,λoff o0 o1=> ?_⟩;have hr:=Int.emod_nonneg off (show s≠0 by omega);have aF:=Int.emod_lt_of_pos off (show 0<s by omega);have j:=Int.mul_ediv_add_emod off s;have y:0<=off/s:=Int.ediv_nonneg o0 (by omega);have aD:off/s<n:=Int.ediv_lt_of_lt_mul (by omega) o1;generalize off/s=q at *
  generalize off %s=r at *
  have K:off=s*q+r:=j.symm;obtain⟨e,he⟩: ∃e,e=m*s-4294967296:=⟨_,rfl⟩;have d:0<=e:=by omega
  have aA:m*s=4294967296+e:=by omega
  have e1:off*m=q*4294967296+(q*e+r*m):=by grind
  have h6:0<=q*e:=Int.mul_nonneg y d;have h7:0<=r*m:=Int.mul_nonneg hr (by omega);have h8:r*m<=(s-1)*m:=Int.mul_le_mul_of_nonneg_right (by omega) (by omega);have h9:(s-1)*m=m*s-m:=by grind
  have O:(q+1)*e<=n*e:=Int.mul_le_mul_of_nonneg_right (by omega) d;have T:(q+1)*e=q*e+e:=by grind
  have Y:e*n<m:=by rw[he];exact q4
  grind
def Ry.KF{x y:SI}(h:Ry x)(h1:y.base=x.base)(h2:y.AA=x.AA)(j:y.state=x.state)(d:y.cls=x.cls)(v:y.elem=x.elem)(C:y.AK=x.AK)(J:y.Lw=x.Lw):Ry y:=by
 refine⟨by rw[j];exact h.st,by rw[d];exact h.cls,by rw[v,d,h2];exact h.el,by rw[C,d];exact h.slo,by rw[J,d];exact h.mg,by rw[h2,d];exact h.pg,by rw[h1,h2];exact h.ba⟩
def qN{page n c:Int}{np:Bool}(h0:0<=page)(h1:page+n<=34359738368)(j: ¬F7 0 n c)(C:0<=n):Ry (Gw page n c np):=by
 unfold F7 at j;have d:0<=c/\c<68:=by omega
 have v:=Ke d.1 d.2;have hp:0<c->n=(Aj c).2.1:=λh=>Classical.byContradiction λg=>j (.inr (.inr (.inr (.inr (.inr (.inr ⟨h,g⟩))))));have y:n<=134217728:=by
  by_cases e:c=0
  .omega
  .have:=hp (by omega);omega
 refine⟨rfl,d,rfl,rfl,rfl,⟨by show 1<=n;omega,by show n<=_;omega,hp⟩,by show 0<=page*8192/\page*8192 %8192=0/\page*8192+n*8192<=_;omega⟩
def vR{page n c:Int}{np:Bool}(h:Ry (Gw page n c np)):Qq (Gw page n c np) (λ_=>false) λ_=>false:=by
 have hs:=h.size;refine⟨Qo λ_=>rfl,Qo λ_=>rfl,by show((0:Nat):Int)*64<=_;omega,by show((0:Nat):Int)*64<=_;omega,λi d=>(by cases d),λi d=>(by cases d),by omega,?_,⟨Int.le_refl 0,by show(0:Int)<=_;omega,λi d=> ?_⟩⟩
 .show(0:Int)=_;have:cN (λ_=>false) (Gw page n c np).AK.toNat=0:=by
   generalize (Gw page n c np).AK.toNat=m
   induction m with
   | zero=>rfl
   | succ m ih=>show cN _ m+0=0;rw[ih]
  omega
 .have d:(i:Int)<0:=d;omega
section
variable{E:Env}{w:World}{Z:List Pr}{b h s r:Nat}{W:SW}{U M:BI}
def Sat.LS:Sat (A4 E b h s r W::Z) w↔ ∃em,Sat (Mn E b h s r W em++Z) w:=by
 unfold A4;rw[Sat.ex];exact⟨λ⟨g,h⟩=>⟨g,Sat.star.1 h⟩,λ⟨g,h⟩=>⟨g,Sat.star.2 h⟩⟩
def Qr{em:AX}(H:Sat (Mn E b h s r W em++Z) w):w.cell? (Addr.mk b 0 none)=some (.pointer (some ⟨h,0,none⟩))/\w.cell? ((Addr.mk b 0 none).add 1)=some (.pointer (some ⟨s,0,none⟩))/\w.cell? ((Addr.mk b 0 none).add 2)=some (.pointer (some ⟨r,0,none⟩))/\
  w.cell? ((Addr.mk b 0 none).add 3)=some (.slice em.base em.len em.cap)/\w.cell? ((Addr.mk b 0 none).add 4)=some (.int .u64 W.Mm)/\w.cell? ((Addr.mk b 0 none).add 5)=some (.int .u64 W.aU)/\w.cell? ((Addr.mk b 0 none).add 6)=some (.int .u64 W.MY)/\w.cell? ((Addr.mk b 0 none).add 7)=some (.int .u64 W.KU):=
 have H:Sat (Cells b E.Ea (KC h s r em W)::_) w:=H
 ⟨H.Af rfl,H.cell rfl,H.cell rfl,H.cell rfl,H.cell rfl,H.cell rfl,H.cell rfl,H.cell rfl⟩
def Sat.Hj(H:Sat (A4 E b h s r W::Z) w): ∃R,Sat (Bh E h W.S::R) w/\(∀{w'},Sat R w'->Sat Z w')/\ ∀{S' w'},Sat (Bh E h S'::R) w'->Sat (A4 E b h s r {W with S:=S'}::Z) w':=by
 obtain⟨em,H⟩:=Sat.LS.1 H;exact⟨_,H.front 1 rfl,λh=>h.tail.tail.tail.tail,λ{S' w'} h'=>Sat.LS.2 ⟨em,Sat.back (Ps:=Mn E b h s r W em++Z) 1 h' (by simp[Mn])⟩⟩
def Sat.Lh(H:Sat (A4 E b h s r W::Z) w): ∃R,Sat (Gf E s W.L::R) w/\(∀{w'},Sat R w'->Sat Z w')/\ ∀{L' w'},Sat (Gf E s L'::R) w'->Sat (A4 E b h s r {W with L:=L'}::Z) w':=by
 obtain⟨em,H⟩:=Sat.LS.1 H;exact⟨_,H.front 2 rfl,λh=>h.tail.tail.tail.tail,λ{S' w'} h'=>Sat.LS.2 ⟨em,Sat.back (Ps:=Mn E b h s r W em++Z) 2 h' (by simp[Mn])⟩⟩
def Sat.mK(H:Sat (A4 E b h s r W::Z) w): ∃Q,Sat (JA E r W.R::Q) w/\(∀{w'},Sat Q w'->Sat Z w')/\ ∀{R' w'},Sat (JA E r R'::Q) w'->Sat (A4 E b h s r {W with R:=R'}::Z) w':=by
 obtain⟨em,H⟩:=Sat.LS.1 H;exact⟨_,H.front 3 rfl,λh=>h.tail.tail.tail.tail,λ{S' w'} h'=>Sat.LS.2 ⟨em,Sat.back (Ps:=Mn E b h s r W em++Z) 3 h' (by simp[Mn])⟩⟩
def Sat.Mo(H:Sat (A4 E b h s r W::Z) w):w.cell? (Addr.mk b 0 none)=some (.pointer (some ⟨h,0,none⟩))/\w.cell? ((Addr.mk b 0 none).add 1)=some (.pointer (some ⟨s,0,none⟩))/\w.cell? ((Addr.mk b 0 none).add 2)=some (.pointer (some ⟨r,0,none⟩)):=by
 obtain⟨em,H⟩:=Sat.LS.1 H;exact⟨(Qr H).1,(Qr H).2.1,(Qr H).2.2.1⟩
def SW.new(S:HS):SW:=⟨S,[],[],[],0,0,0,0⟩
def aV{S:HS}(H:Sat (JA E r []::Gf E s []::Bh E h S::Z) w){K:Option Addr->World->Prop}(j: ∀b w',Sat (A4 E b h s r (SW.new S)::Z) w'->K (some ⟨b,0,none⟩) w'):F.Nu E (some ⟨h,0,none⟩) (some ⟨s,0,none⟩) (some ⟨r,0,none⟩) K w:=by
 unfold F.Nu;refine AO (vs:=KC h s r ⟨none,0,0⟩ (SW.new S)) H λb1 v d _=>j b1 v (Sat.LS.2 ⟨⟨none,0,0⟩,?_⟩);have h1:=d.nil E.AN 3;exact((((h1.front 0 rfl).front 2 rfl).front 3 rfl).front 4 rfl).front 4 rfl
def KM(H:Sat (A4 E b h s r W::Z) w){K:Option Addr->World->Prop}(d:K (some ⟨h,0,none⟩) w):F.DS E (some ⟨b,0,none⟩) K w:=by
 unfold F.DS;exact AH ⟨_,H.Mo.1,d⟩
def LU(H:Sat (A4 E b h s r W::Z) w){K:Option Addr->World->Prop}(d:K (some ⟨s,0,none⟩) w):F.En E (some ⟨b,0,none⟩) K w:=by
 unfold F.En;exact AH ⟨_,H.Mo.2.1,d⟩
def Jl:List Value:=[.int .u64 0,.int .i64 0,.int .i64 0,.int .i64 0,.bool false,.int .i64 0,.int .i64 0,.int .i64 0,.bool false,.bool false]
def JC(x:SI):List Value:=[.int .u64 x.base,.int .i64 x.AA,.int .i64 x.state,.int .i64 x.cls,.bool x.Fv,.int .i64 x.elem,.int .i64 x.AK,.int .i64 x.used,.bool x.f8,.bool x.f9]
def Ow(H:Sat (A4 E b h s r W::Z) w)(hI:Bm W U M){id:Int}{K:Option Addr->Int->Int->Int->Int->Bool->Int->Int->Int->Bool->Bool->Int->World->Prop}
  (aA:W.S.sp id=none-> ∀w',Sat (A4 E b h s r W::Z) w'->K none 0 0 0 0 false 0 0 0 false false 35 w')
  (aB: ∀x,W.S.sp id=some x->Ry x.2->Qq x.2 (U id) (M id)-> ∀w',Sat (A4 E b h s r W::Z) w'->K (some ⟨x.1,0,none⟩) x.2.base x.2.AA x.2.state x.2.cls x.2.Fv x.2.elem x.2.AK x.2.used x.2.f8 x.2.f9 0 w'):
  F.Bj E (some ⟨b,0,none⟩) id K w:=by
 unfold F.Bj T0.Bj;refine AO (vs:=Jl) H λb1 w2 C _=>AH ⟨_,(C.front 1 rfl).Mo.1,?_⟩;obtain⟨R,HH,_,hb⟩:=(C.front 1 rfl:Sat (A4 E b h s r W::Cells b1 E.Be Jl::Z) w2).Hj;refine Tf HH (λhn=> ?_) λx hx=> ?_
 .refine AR rfl ?_;refine Fp (news:=Jl) C rfl (by simp[Jl,Value.oneCell']) λw8 v=> ?_;exact⟨0,v.cell rfl,0,v.cell rfl,0,v.cell rfl,0,v.cell rfl,false,v.cell rfl,0,v.cell rfl,0,v.cell rfl,0,v.cell rfl,false,v.cell rfl,false,v.cell rfl,aA hn w8 v.tail⟩
 .obtain⟨A6,hg⟩:=hI.sp id x hx;obtain⟨R2,aC,Y⟩:=HH.Lx hx;refine AP rfl (I8 aC λaE J=> ?_);have O:Sat (A4 E b h s r W::Cells b1 E.Be Jl::Z) aE:=hb (Y J);refine AO (vs:=Jl) O λaH aM T _=> ?_;refine Fp (news:=JC x.2) T rfl (by simp[JC,Value.oneCell']) λaN y=>⟨x.2.state,y.cell rfl,?_⟩;rw[A6.st];refine AP rfl ?_;have d:=y.drew;refine⟨_,d.cell rfl,_,d.cell rfl,_,d.cell rfl,_,d.cell rfl,_,d.cell rfl,_,d.cell rfl,_,d.cell rfl,_,d.cell rfl,_,d.cell rfl,_,d.cell rfl,?_⟩;refine Fp (news:=JC x.2) (d.front 2 rfl) rfl (by simp[JC,Value.oneCell']) λaF j=> ?_;exact⟨_,j.cell rfl,_,j.cell rfl,_,j.cell rfl,_,j.cell rfl,_,j.cell rfl,_,j.cell rfl,_,j.cell rfl,_,j.cell rfl,_,j.cell rfl,_,j.cell rfl,aB x hx A6 hg aF j.tail.tail⟩
end
def YX{S:HS}{fl:Int->Bool}(hI:Bv S fl){id:Int}{x:Nat×SI}(d:S.sp id=some x){p:Int}(h1:x.2.base/8192<=p)(h2:p<x.2.base/8192+x.2.AA):S.own p=id:=(hI.sp id x d).2.2.2.2 p h1 h2
def YY{S:HS}{fl:Int->Bool}(hI:Bv S fl){i j:Int}{x y:Nat×SI}(d:S.sp i=some x)(v:S.sp j=some y)(h:x.2.base=y.2.base):i=j:=by
 have h1:=(hI.sp i x d).2.2.1;have h2:=(hI.sp j y v).2.2.1;rw[<-YX hI d (Int.le_refl _) (by omega),<-YX hI v (p:=x.2.base/8192) (by omega) (by omega)]
section
variable{E:Env}{w:World}{Z:List Pr}{b h s r:Nat}{W:SW}{U M:BI}
def Bm.wX(hI:Bm W U M){L:List DF}(d: ∀x∈L,∃y,W.S.sp x.id=some y/\y.2.base=x.base):Bm {W with L:=L} U M:=⟨hI.hI,hI.sp,d⟩
variable(hE:EnvW E)
include hE
theorem T3(H:Sat (A4 E b h s r W::Z) w)(hI:Bm W U M){id:Int}{sw:Bool}(hf:W.L.length<1099511627776){K:Int->World->Prop}
  (aD:W.S.sp id=none-> ∀w',Sat (A4 E b h s r W::Z) w'->K 35 w')(aE:W.S.sp id≠none->(∃x∈W.L,x.id=id)-> ∀w',Sat (A4 E b h s r W::Z) w'->K 34 w')
  (aF: ∀x,W.S.sp id=some x->(∀y∈W.L,y.id≠id)-> ∀GR,Bm {W with L:=IC W.L ⟨GR,id,x.2.base,(x.2.cls,x.2.Fv,x.2.used==x.2.AK,sw)⟩} U M-> ∀w',
   Sat (A4 E b h s r {W with L:=IC W.L ⟨GR,id,x.2.base,(x.2.cls,x.2.Fv,x.2.used==x.2.AK,sw)⟩}::Z) w'->K 0 w'):F.B4 E (some ⟨b,0,none⟩) id sw K w:=by
 unfold F.B4 T0.B4;refine Ow H hI (λhn w' H'=> ?_) λx hx A6 hg w' H'=> ?_
 .refine AO (vs:=Jl) H' λaB aK C _=> ?_;refine Fp (news:=Jl) C rfl (by simp[Jl,Value.oneCell']) λY J=>AR rfl (aD hn Y J.tail)
 .refine AO (vs:=Jl) H' λaB aK C _=> ?_;refine Fp (news:=JC x.2) C rfl (by simp[JC,Value.oneCell']) λY J=>AP rfl (AH ?_);have d:=J.drew;have O:=d.front 1 rfl;refine⟨_,O.Mo.2.1,_,d.Af rfl,_,d.cell rfl,_,d.cell rfl,_,d.cell rfl,_,d.cell rfl,?_⟩;obtain⟨R,HH,hz,hb⟩:=O.Lh;have aN:=(hI.hI.sp id x hx).1;have hc:=A6.cls;refine aM hE HH hf (λhb=> ?_) (λ_ hex=> ?_) λ_ aG GR aL T=> ?_
  .unfold Mk at hb;omega
  .refine⟨d.cell rfl,d.cell rfl,aE (by grind) ?_ _ d.tail⟩;obtain⟨y,j,e⟩:=hex;refine⟨y,j,?_⟩;rcases e with e|e
   .exact e
   .obtain⟨z,aI,aJ⟩:=hI.it y j;exact YY hI.hI aI hx (by rw[aJ,e])
  .have v:=hz T.tail;refine⟨v.cell rfl,v.cell rfl,aF x hx (λy j=>(aG y j).1) GR (hI.wX λy j=> ?_) aL ?_⟩
   .rcases KI.1 j with rfl|j
    .grind
    .exact hI.it y j
   .exact((hb T).front 1 rfl).tail
end
section
variable{E:Env}{w:World}{Z:List Pr}{b h s r:Nat}{W:SW}{U M:BI}(hE:EnvW E)
include hE
theorem YZ(H:Sat (A4 E b h s r W::Z) w)(hI:Bm W U M){K:Int->Bool->World->Prop}(J:(∀x∈W.L,x.D0=true)-> ∀w',Sat (A4 E b h s r W::Z) w'->K 0 false w')
  (O: ∀x,WJ W.L x->Bm {W with L:=Fk W.L x.id} U M-> ∀w',Sat (A4 E b h s r {W with L:=Fk W.L x.id}::Z) w'->K x.id true w'):F.C2 E (some ⟨b,0,none⟩) K w:=by
 unfold F.C2 T0.C2;refine AH ⟨_,H.Mo.2.1,?_⟩;obtain⟨R,HH,hz,hb⟩:=H.Lh;refine WK HH (λd w5 j=>AP rfl (J d w5 (hb j))) λx hx w5 j=>AR rfl ?_;have Y:=hb j;refine AH ⟨_,Y.Mo.2.1,?_⟩;obtain⟨R2,v,aG,C⟩:=Y.Lh;refine Tq hE v (λT=>absurd rfl (T x hx.1)) λy hy e w9 H9=> ?_;exact O x hx (hI.wX λy hy=>hI.it y (FB.1 hy).1) w9 (C H9)
end
structure Ox(S S':HS):Prop where
 rest:S'={S with sp:=S'.sp}
 no: ∀id,S.sp id=none->S'.sp id=none
 sp: ∀id x,S.sp id=some x-> ∃mw,S'.sp id=some (x.1,{x.2 with mw:=mw})
def Ox.refl(S:HS):Ox S S:=⟨rfl,λ_ h=>h,λid x h=>⟨x.2.mw,h⟩⟩
def Ox.put{S S':HS}(h:Ox S S'){id:Int}{x:Nat×SI}(d:S'.sp id=some x)(mw:List Int):Ox S (S'.put id (x.1,{x.2 with mw:=mw})):=by
 refine⟨?_,λi v=> ?_,λi y C=> ?_⟩
 .have:=h.rest;unfold HS.put;rw[this]
 .show(if i=id then _ else S'.sp i)=none;by_cases e:i=id
  .subst e;rw[h.no i v]at d;cases d
  .rw[if_neg e];exact h.no i v
 .obtain⟨j,h0⟩:=h.sp i y C;by_cases e:i=id
  .subst e;rw[d]at h0;have h0:=Option.some.inj h0;subst h0;exact⟨mw,HS.IJ⟩
  .exact⟨j,(HS.MS e).trans h0⟩
def Ox.own{S S':HS}(h:Ox S S'):S'.own=S.own:=by rw[h.rest]
def mkOf(S:HS)(a:Int):Option (Int×Nat):=match S.sp (S.own (a/8192))with
 | none=>none
 | some x=>if x.2.base<=a/\a<x.2.base+x.2.AK*x.2.elem then some (S.own (a/8192),((a-x.2.base)/x.2.elem).toNat)else none
def WU{S S':HS}(h:Ox S S')(a:Int):mkOf S' a=mkOf S a:=by
 unfold mkOf;rw[h.own];cases e:S.sp (S.own (a/8192))with
 | none=>rw[h.no _ e]
 | some x=>
  obtain⟨mw,h1⟩:=h.sp _ x e;rw[h1]
def BI.mark(M:BI)(S:HS)(d:List Int):BI:=λid k=>M id k||d.any λa=>decide (mkOf S a=some (id,k))
def Bm.mark{W:SW}{U M:BI}(hI:Bm W U M){id:Int}{x:Nat×SI}(C:W.S.sp id=some x){n:Nat}{mw:List Int}(K:Qq {x.2 with mw:=mw} (U id) (λi=>M id i||i==n)):
  Bm {W with S:=W.S.put id (x.1,{x.2 with mw:=mw})} U (λj i=>M j i||(decide (j=id)&&i==n)):=by
 obtain⟨A6,_⟩:=hI.sp id x C;refine⟨hI.hI.put C rfl rfl (by show x.2.state≠0;rw[A6.st];decide),λj y d=> ?_,λit v=> ?_⟩
 .by_cases e:j=id
  .subst e;have d:(W.S.put j (x.1,{x.2 with mw:=mw})).sp j=some y:=d;rw[HS.IJ]at d;cases d;refine⟨A6.KF rfl rfl rfl rfl rfl rfl rfl,?_⟩;have:(λi=>M j i||(decide (j=j)&&i==n))=λi=>M j i||i==n:=by grind
   grind
  .have d:(W.S.put id (x.1,{x.2 with mw:=mw})).sp j=some y:=d;rw[HS.MS e]at d;have:=hI.sp j y d;have J:(λi=>M j i||(decide (j=id)&&i==n))=M j:=by funext i;simp[e]
   grind
 .obtain⟨y,h1,h2⟩:=hI.it it v;by_cases e:it.id=id
  .rw[e,C]at h1;cases h1;exact⟨(x.1,{x.2 with mw:=mw}),by rw[e];exact HS.IJ,h2⟩
  .exact⟨y,(HS.MS e).trans h1,h2⟩
section
variable{E:Env}{w:World}{Z:List Pr}{b h s r:Nat}{W:SW}{U M:BI}(hE:EnvW E)
include hE
theorem Ya(H:Sat (A4 E b h s r W::Z) w)(hI:Bm W U M){a1:AX}{d:List Int}(hA: ∀w',Sat Z w'->rowAt w' a1.base a1.len (ints .u64 d))(hl:d.length=a1.len)(bP:a1.len<=1099511627776)(has: ∀a∈d,0<=a/\a<18446744073709551616)
  {K:Int->World->Prop}(a0:0<K0 W.L false-> ∀w',Sat (A4 E b h s r W::Z) w'->K 33 w')
  (aZ:(∀x∈W.L,x.D0=true)-> ∀S',Ox W.S S'->Bm {W with S:=S',L:=Hi W.L} U (M.mark W.S d)-> ∀w',Sat (A4 E b h s r {W with S:=S',L:=Hi W.L}::Z) w'->K 0 w'):
  F.B8 E (some ⟨b,0,none⟩) a1 K w:=by
 unfold F.B8 T0.B8;refine AH ⟨_,H.Mo.2.1,?_⟩;obtain⟨R,HH,hz,hb⟩:=H.Lh;refine MU HH λw4 H4=>AB (λg=>a0 (by omega) w4 (hb H4)) λg=> ?_;have H5:=hb H4;have e0:M.mark W.S (d.take 0)=M:=by funext i k;simp[BI.mark]
 refine AI (λst w'=> ∃(i:Nat) (S':HS),st.1=(i:Int)/\i<=d.length/\Ox W.S S'/\Bm {W with S:=S'} U (M.mark W.S (d.take i))/\Sat (A4 E b h s r {W with S:=S'}::Z) w') (λst _=>((d.length:Int)-st.1).toNat) ⟨0,W.S,rfl,Nat.zero_le _,Ox.refl _,by rw[e0];exact hI,H5⟩ ?_;rintro⟨i',u⟩ _ w6 ⟨i,S',hi,bO,v,C,H6⟩;dsimp only at hi⊢;subst hi;refine AB (λbQ=> ?_) λbN=> ?_
 .obtain⟨a,ha⟩: ∃a,d[i]? =some a:=⟨_,List.getElem?_eq_getElem (by omega)⟩;have aB:=has a (List.mem_of_getElem? ha);obtain⟨q,hq,a4⟩: ∃q,a1.base=some q/\w6.cell? (q.add (Int.toNat (i:Int)*1))=some (.int .u64 a):=by
   have hr:=hA w6 H6.tail;cases hb1:a1.base with
   | none=>rw[hb1]at hr;have:ints .u64 d=[]:=hr;simp[ints]at this;grind
   | some q=>rw[hb1]at hr;exact⟨q,rfl,by rw[Int.toNat_natCast,Nat.mul_one];exact hr.2 i _ (JL ha)⟩
  rw[hq];refine AH ⟨⟨by omega,by omega⟩,a,a4,AH ⟨_,H6.Mo.1,?_⟩⟩;have aX:i64 ((i:Int)+1)=((i+1:Nat):Int):=by rw[AF];rfl
  rw[aX];have aT:d.take (i+1)=d.take i++[a]:=Et ha;obtain⟨R2,Y,a7,aA⟩:=H6.Hj;have skip:mkOf W.S a=none-> ∀w',Sat (A4 E b h s r {W with S:=S'}::Z) w'->((∃(aC:Nat) (S':HS),((i+1:Nat):Int)=(aC:Int)/\aC<=d.length/\Ox W.S S'/\Bm {W with S:=S'} U (M.mark W.S (d.take aC))/\Sat (A4 E b h s r {W with S:=S'}::Z) w')/\((d.length:Int)-((i+1:Nat):Int)).toNat<((d.length:Int)-(i:Int)).toNat):=λhn w' H'=>by
   refine⟨⟨i+1,S',rfl,by omega,v,?_,H'⟩,by omega⟩;have:M.mark W.S (d.take (i+1))=M.mark W.S (d.take i):=by
    funext j k;unfold BI.mark
    grind
   grind
  refine lH Y aB.1 aB.2 λbU aM=> ?_;refine Ow (aA aM) C (λhn w' H'=> ?_) λx J A6 hg w' H'=> ?_
  .refine AO (vs:=Jl) H' λaS a8 O _=> ?_;refine Fp (news:=Jl) O rfl (by simp[Jl,Value.oneCell']) λaJ T=>AR rfl ?_;refine skip ?_ aJ T.tail;rw[<-WU v];unfold mkOf
   grind
  .have J:S'.sp (S'.own (a/8192))=some x:=J;refine AO (vs:=Jl) H' λaS a8 O _=> ?_;refine Fp (news:=JC x.2) O rfl (by simp[JC,Value.oneCell']) λaJ T=>AP rfl ?_;obtain⟨R3,aQ,bT,aV⟩:=T.tail.Hj;obtain⟨R4,a5,aF⟩:=aQ.dO J;have aI:=A6.size;have bE:=A6.ba;have bR:=A6.pg;have aL: ∀{S:HS} {id:Int} {y:Nat×SI},S.sp id=some y->S.put id y=S:=λ{S id y} hy=>by
    unfold HS.put;have:(λi=>if i=id then some y else S.sp i)=S.sp:=by grind
    rw[this]
   refine Ue a5 A6.dU aI.1 (by omega) (by omega) (by omega) aB (λbD w' Hs=> ?_) λh1 h2 w' Hs=> ?_
   .refine AP rfl (skip ?_ w' ?_)
    .rw[<-WU v];unfold mkOf
     grind
    .have:=aF Hs
     grind
   .have a3:0<=(a-x.2.base)/x.2.elem:=Int.ediv_nonneg (by omega) (by omega);have aH:(a-x.2.base)/x.2.elem<x.2.AK:=Int.ediv_lt_of_lt_mul aI.1 (by omega);obtain⟨n,hn⟩:=Int.eq_ofNat_of_zero_le a3;refine AR rfl ?_;rw[hn]at aH⊢;refine RQ Hs hg A6.st aH λmw' aW bV aN=> ?_;have aO:=aV (aF aN);refine⟨⟨i+1,S'.put (S'.own (a/8192)) (x.1,{x.2 with mw:=mw'}),rfl,by omega,v.put J mw',?_,aO⟩,by omega⟩;have hIn:=C.mark (W:={W with S:=S'}) J aW;have em:M.mark W.S (d.take (i+1))=λj k=>M.mark W.S (d.take i) j k||(decide (j=S'.own (a/8192))&&k==n):=by
     funext j k;unfold BI.mark;rw[aT,List.any_append,<-Bool.or_assoc];congr 1;simp only[List.any_cons,List.any_nil,Bool.or_false];have:mkOf W.S a=some (S'.own (a/8192),n):=by
      rw[<-WU v];unfold mkOf;rw[J]
      grind
     grind
    grind
 .have aY:i=d.length:=by omega
  refine AH ⟨_,H6.Mo.2.1,?_⟩;obtain⟨R2,Y,a7,aA⟩:=H6.Lh;refine YJ Y (λaG=>absurd aG (by grind)) λa6 a9 aP=> ?_;rw[aY,List.take_length]at C;refine aZ a6 S' v (C.wX λx J=> ?_) a9 (aA aP);obtain⟨y,hy,rfl⟩:=List.mem_map.1 J;exact C.it y hy
end
structure aW where
 R:List Rc
 m:Nat->Bool
 em:List Rc
def Jm(a:Int)(y:Rc):Bool:=y.addr==a&&y.kind==1
def mL(R:List Rc)(a:Int):List Rc:=R.filter λy=> !Jm a y
def spStep(u:Nat->Bool)(base elem:Int)(k:Nat)(t:aW):aW:=
 if u k=true/\t.m k=false then
  match t.R.find? (Jm (base+k*elem))with
  | some y=>⟨mL t.R (base+k*elem),λi=>t.m i||i==k,t.em++[⟨0,base+k*elem,1,y.data⟩]⟩
  | none=>⟨Ou t.R (base+k*elem),t.m,t.em++O8 t.R (base+k*elem)⟩
 else t
def LW(u:Nat->Bool)(base elem:Int):Nat->aW->aW
 | 0,t=>t
 | n+1,t=>spStep u base elem n (LW u base elem n t)
def Yb{u:Nat->Bool}{base elem:Int}{k:Nat}{t:aW}(h: ∀y∈t.R,y.addr≠base+k*elem):spStep u base elem k t=t:=by
 unfold spStep;split
 .have h1:t.R.find? (Jm (base+k*elem))=none:=by
   rw[List.find?_eq_none];intro y d;unfold Jm
   grind
  have h2:Ou t.R (base+k*elem)=t.R:=List.filter_eq_self.2 λy d=>by grind
  have j:O8 t.R (base+k*elem)=[]:=List.filter_eq_nil_iff.2 λy d=>by grind
  rw[h1];simp only;rw[h2,j,List.append_nil]
 .rfl
def T4{u:Nat->Bool}{base elem:Int}{t:aW}: ∀{n:Nat},(∀k,k<n-> ∀y∈t.R,y.addr≠base+(k:Int)*elem)->LW u base elem n t=t
 | 0,_=>rfl
 | n+1,h=>by
  show spStep u base elem n (LW u base elem n t)=t;rw[T4 λk hk=>h k (by omega),Yb (h n (by omega))]
def rcF{A B:List Rc}{y:Rc}{a:Int}(hI:Ml (A++y::B))(h1:y.addr=a)(h2:y.kind=1):(A++y::B).find? (Jm a)=some y/\mL (A++y::B) a=A++B:=by
 have hs:=List.pairwise_append.1 hI.Ho;have J:Jm a y=true:=by unfold Jm;grind
 have j: ∀x,x.key≠y.key->Jm a x=false:=λx d=>by
  cases e:Jm a x with
  | false=>rfl
  | true=>
   unfold Jm at e;rw[Bool.and_eq_true,beq_iff_eq,beq_iff_eq]at e;exact absurd (by unfold Rc.key;omega) d
 have v: ∀x∈A,Jm a x=false:=λx d=>j x (by have:=hs.2.2 x d y (by simp);omega);have C: ∀x∈B,Jm a x=false:=λx d=>j x (by have:=(List.pairwise_cons.1 hs.2.1).1 x d;omega);constructor
 .grind
 .unfold mL;rw[List.filter_append,List.filter_cons_of_neg (by grind),List.filter_eq_self.2 λx d=>by grind,List.filter_eq_self.2 λx d=>by grind]
def rcN{R:List Rc}{a:Int}(h: ∀x∈R,¬(x.addr=a/\x.kind=1)):R.find? (Jm a)=none:=by
 rw[List.find?_eq_none];intro x d e;unfold Jm at e
 grind
def aX(R:List Rc)(a:Int):(O8 R a).length+(Ou R a).length=R.length:=by
 unfold O8 Ou
 induction R with
 | nil=>rfl
 | cons y R ih=>grind
def qO{R:List Rc}{a:Int}{y:Rc}(h:R.find? (Jm a)=some y):(mL R a).length+1<=R.length:=by
 have h1:=List.find?_some h;have h2:=List.mem_of_find?_eq_some h;unfold mL;have:(R.filter λy=> !Jm a y).length<R.length:=by
  refine Nat.lt_of_le_of_ne (List.length_filter_le _ _) λe=> ?_;have:=List.length_filter_eq_length_iff.1 e y h2
  grind
 omega
def aY{u:Nat->Bool}{base elem:Int}{k:Nat}{t:aW}:(spStep u base elem k t).em.length+(spStep u base elem k t).R.length<=t.em.length+t.R.length:=by
 unfold spStep;split
 .cases h:t.R.find? (Jm (base+k*elem))with
  | some y=>have:=qO h;grind
  | none=>have:=aX t.R (base+k*elem);grind
 omega
def N3{u:Nat->Bool}{base elem:Int}{t:aW}: ∀n,(LW u base elem n t).em.length+(LW u base elem n t).R.length<=t.em.length+t.R.length
 | 0=>Nat.le_refl _
 | n+1=>Nat.le_trans aY (N3 n)
def mM{u:Nat->Bool}{base elem:Int}{k:Nat}{t:aW}(h: ∀i,t.m i=true->u i=true): ∀i,(spStep u base elem k t).m i=true->u i=true:=by
 unfold spStep
 grind
def WV{u:Nat->Bool}{base elem:Int}{t:aW}(h: ∀i,t.m i=true->u i=true): ∀n i,(LW u base elem n t).m i=true->u i=true
 | 0=>h
 | n+1=>mM (WV h n)
def HS.P9(S:HS)(id:Int)(a c:Nat×SI):(S.put id a).put id c=S.put id c:=by
 unfold HS.put
 grind
def HS.QA{S:HS}{id:Int}{x:Nat×SI}(d:S.sp id=some x):S.put id x=S:=by
 unfold HS.put;have:(λi=>if i=id then some x else S.sp i)=S.sp:=by grind
 rw[this]
section
variable{E:Env}{w:World}{Z:List Pr}{b h s r:Nat}{W:SW}{U M:BI}
def Bm.rc(hI:Bm W U M)(R:List Rc)(em:List Rc)(f d p c:Int):Bm {W with R:=R,em:=em,Mm:=f,KU:=d,MY:=p,aU:=c} U M:=⟨hI.hI,hI.sp,hI.it⟩
def QB{F:List Pr}{t z bytes:Nat}{zs:Array Value}{s1 s2:AX}{vs us:List Value}{K:AX->World->Prop}(H:Sat (Row t z s1 vs::Row t z s2 us::F) w)(hz:zs.size=z)(J: ∀v∈us,v.oneCell'=true)
  (C:(s1.len+s2.len)*bytes<=140737488355328)(d:s1.len+s2.len<=9223372036854775807)(y: ∀s' w',Sat (Row t z s' (vs++us)::Row t z s2 us::F) w'->K s' w'):APP t z bytes zs s1 s2 w K:=
 FU H hz (H.front 1 rfl).JJ (H.front 1 rfl).C1 J C d λs' w' j _=>y s' w' j
def Rz(H:Sat (A4 E b h s r W::Z) w)(hI:Bm W U M){id:Int}{x:Nat×SI}(hx:W.S.sp id=some x)(cW:W.em.length+W.R.length<=1099511627776){K:World->Prop}{Kp:Value->World->Prop}
  (b6:(∃i,M id i=true/\U id i=false)-> ∀w',Sat (A4 E b h s r W::Z) w'->Kp (.iface E.Ga (.agg ⟨[]⟩)) w')
  (hk:(∀i,M id i=true->U id i=true)-> ∀t,t=LW (U id) x.2.base x.2.elem x.2.AK.toNat ⟨W.R,M id,W.em⟩-> ∀mw,Bm {W with S:=W.S.put id (x.1,{x.2 with mw:=mw}),R:=t.R,em:=t.em} U (M.set id t.m)->
   ∀w',Sat (A4 E b h s r {W with S:=W.S.put id (x.1,{x.2 with mw:=mw}),R:=t.R,em:=t.em}::Z) w'->K w'):
  F.BF E (some ⟨b,0,none⟩) (some ⟨x.1,0,none⟩) x.2.base x.2.AA x.2.state x.2.cls x.2.Fv x.2.elem x.2.AK x.2.used x.2.f8 x.2.f9 K Kp w:=by
 unfold F.BF T0.BF;obtain⟨A6,hg⟩:=hI.sp id x hx;have cB:=A6.size;have cV:=A6.ba;have c7:=A6.pg;have d:W.S.put id (x.1,{x.2 with mw:=x.2.mw})=W.S:=HS.QA hx;have aS:M.set id (M id)=M:=by funext i;unfold BI.set;split;rename_i e;rw[e];rfl
 refine AO (vs:=JC x.2) H λb1 w2 H2 _=> ?_;obtain⟨R2,bJ,c9,bR⟩:=(H2.front 1 rfl:Sat (A4 E b h s r W::Cells b1 E.Be (JC x.2)::Z) w2).Hj;obtain⟨R3,aL,bS⟩:=bJ.Lx hx;have J: ∀{w'},Sat (Cz E x.1 x.2::R3) w'->Sat (A4 E b h s r W::Cells b1 E.Be (JC x.2)::Z) w':=λh'=>bR (bS h');refine OQ aL hg (λhz=>AR rfl (b6 hz w2 ((J aL).front 1 rfl).tail)) λb9=>AP rfl (AH ?_);have H4:=(J aL).drew;have c4:=H4.front 1 rfl;refine⟨_,H4.Mo.2.2,_,c4.Af rfl,_,c4.Af rfl,_,c4.cell rfl,?_⟩;rw[AM (n:=x.2.AA),AM (n:=x.2.AA*8192),AM (n:=x.2.base+x.2.AA*8192)];obtain⟨Q,bL,dB,bU⟩:=H4.mK;refine Rx bL λD6 l a2 cG aY a6=> ?_;have aE:=bU a6.tail;have aJ:=aE.front 1 rfl;refine⟨aJ.cell rfl,aJ.Af rfl,Bc (λe0=> ?_) λe0=>⟨x.2.AK,aJ.cell rfl,?_⟩⟩
 .-- no record
  have aT:=aY.1 (by omega);have aD:LW (U id) x.2.base x.2.elem x.2.AK.toNat ⟨W.R,M id,W.em⟩=⟨W.R,M id,W.em⟩:=T4 λk hk y hy e=>aT y hy (by
   have h1:0<=(k:Int)*x.2.elem:=Int.mul_nonneg (by omega) (by omega);have h2:((k:Int)+1)*x.2.elem<=x.2.AK*x.2.elem:=Int.mul_le_mul_of_nonneg_right (by omega) (by omega)
   grind)
  refine hk b9 _ rfl x.2.mw ?_ a2 ?_
  .rw[aD,d,aS];exact hI
  .rw[aD,d];exact(aE.front 1 rfl).tail
 .-- slot for slot
  let tk:Nat->aW:=λk=>LW (U id) x.2.base x.2.elem k ⟨W.R,M id,W.em⟩
  let Wk:Nat->List Int->SW:=λk mw=>{W with S:=W.S.put id (x.1,{x.2 with mw:=mw}),R:=(tk k).R,em:=(tk k).em}
  refine AI (λst w'=> ∃(k:Nat) (mw:List Int),st.1=(k:Int)/\k<=x.2.AK.toNat/\Bm (Wk k mw) U (M.set id (tk k).m)/\Sat (A4 E b h s r (Wk k mw)::Z) w') (λst _=>(x.2.AK-st.1).toNat) ⟨0,x.2.mw,rfl,Nat.zero_le _,?_,?_⟩ ?_
  .show Bm {W with S:=W.S.put id (x.1,{x.2 with mw:=x.2.mw}),R:=W.R,em:=W.em} U (M.set id (M id));rw[d,aS];exact hI
  .show Sat (A4 E b h s r {W with S:=W.S.put id (x.1,{x.2 with mw:=x.2.mw}),R:=W.R,em:=W.em}::Z) a2;rw[d];exact(aE.front 1 rfl).tail
  rintro⟨k',u⟩ _ dE ⟨k,mw,aZ,c0,aA,aF⟩;dsimp only at aZ⊢;subst aZ;refine AB (λc2=> ?_) λcY=> ?_
  .have b5:i64 ((k:Int)+1)=((k+1:Nat):Int):=by rw[AF];rfl
   rw[b5];have aC:(Wk k mw).S.sp id=some (x.1,{x.2 with mw:=mw}):=HS.IJ;obtain⟨a1,aB⟩:=aA.sp id _ aC;have aR:(M.set id (tk k).m) id=(tk k).m:=if_pos rfl;rw[aR]at aB;have O:=N3 (u:=U id) (base:=x.2.base) (elem:=x.2.elem) (t:=⟨W.R,M id,W.em⟩) k;have O:(tk k).em.length+(tk k).R.length<=W.em.length+W.R.length:=O;have aN: ∀{t':aW} {mw':List Int} {w'},spStep (U id) x.2.base x.2.elem k (tk k)=t'->Bm {W with S:=W.S.put id (x.1,{x.2 with mw:=mw'}),R:=t'.R,em:=t'.em} U (M.set id t'.m)->Sat (A4 E b h s r {W with S:=W.S.put id (x.1,{x.2 with mw:=mw'}),R:=t'.R,em:=t'.em}::Z) w'->
     (∃(T:Nat) (mw:List Int),((k+1:Nat):Int)=(T:Int)/\T<=x.2.AK.toNat/\Bm (Wk T mw) U (M.set id (tk T).m)/\Sat (A4 E b h s r (Wk T mw)::Z) w')/\(x.2.AK-((k+1:Nat):Int)).toNat<(x.2.AK-(k:Int)).toNat:=λ{t' mw' w'} ht hIn hS=>by
    refine⟨⟨k+1,mw',rfl,by omega,?_,?_⟩,by omega⟩
    .have:tk (k+1)=t':=ht
     grind
    .have:tk (k+1)=t':=ht
     grind
   have same: ∀{w'},¬(U id k=true/\(tk k).m k=false)->Sat (A4 E b h s r (Wk k mw)::Z) w'->_:=λ{w'} aK hS=>aN (t':=tk k) (mw':=mw) (w':=w') (by unfold spStep;rw[if_neg aK]) aA hS;obtain⟨R4,bK,dA,bT⟩:=aF.Hj;obtain⟨R5,aM,aV⟩:=bK.Lx aC;refine YV aM aB (by omega) ?_;cases hu:U id k with
   | false=>exact AR rfl (same (by grind) aF)
   | true=>
   refine AP rfl (Ud aM aB (by omega) ?_);cases hm:(tk k).m k with
   | true=>exact AR rfl (same (by grind) aF)
   | false=>
   have bY:U id k=true/\(tk k).m k=false:=⟨hu,hm⟩;refine AP rfl (X5 aM (by omega) (by omega) λcD a7=> ?_);have aG:Sat (A4 E b h s r (Wk k mw)::Z) cD:=bT (aV a7);have c3:0<=(k:Int)*x.2.elem:=Int.mul_nonneg (by omega) (by omega);have c5:((k:Int)+1)*x.2.elem<=x.2.AK*x.2.elem:=Int.mul_le_mul_of_nonneg_right (by omega) (by omega);have c6:((k:Int)+1)*x.2.elem=k*x.2.elem+x.2.elem:=by grind
   have b8:=cB.2.2.2.2;rw[Int.mul_comm x.2.elem]at b8;have ea:u64 (x.2.base+u64 (u64 (k:Int)*u64 x.2.elem))=x.2.base+k*x.2.elem:=by
    rw[AM (n:=(k:Int)),AM (n:=x.2.elem),AM (n:=(k:Int)*x.2.elem),AM]
   have bO:u64 (({x.2 with mw:=mw}:SI).base+u64 (u64 (k:Int)*u64 ({x.2 with mw:=mw}:SI).elem))=x.2.base+k*x.2.elem:=ea;rw[bO];generalize hA:x.2.base+(k:Int)*x.2.elem=A at *
   refine AH ⟨_,aG.Mo.2.2,?_⟩;obtain⟨Q6,aQ,dC,bV⟩:=aG.mK;refine YS aQ (by decide) (λaK=> ?_) λA1 B1 y hR ey ek cE a8=> ?_
   .-- no finalizer
    refine AP rfl ?_;have aH:=aG.drew;obtain⟨em,C⟩:=Sat.LS.1 aH;have Y:=Qr C;refine AH ⟨em,Y.2.2.2.1,AH ⟨_,Y.2.2.1,?_⟩⟩;have b3:(tk k).R.find? (Jm A)=none:=rcN aK;refine WQ (C.front 3 rfl) λXW a4 a0 bG=> ?_;have bH:Sat ((Mn E b h s r (Wk k mw) em++Row E.AN 3 XW (Ao Jf (O8 (tk k).R A))::Z).set 3 (JA E r (Ou (tk k).R A))) a4:=by
     have h1:=bG.front 1 rfl;exact Sat.back (Ps:=Mn E b h s r (Wk k mw) em++Row E.AN 3 XW (Ao Jf (O8 (tk k).R A))::Z) 3 (h1.perm (by
      refine .cons _ ?_;exact(List.perm_middle (l₁:=[_,_,_,_]) (l₂:=Z)).symm)) (by simp[Mn])
    have aI:Sat (Row E.AN 3 em (Ao Jf (tk k).em)::Row E.AN 3 XW (Ao Jf (O8 (tk k).R A))::Cells b E.Ea (KC h s r em (Wk k mw))::Bh E h (Wk k mw).S::Gf E s W.L::JA E r (Ou (tk k).R A)::Z) a4:=(bH.front 5 rfl).front 5 rfl;have b7:(tk k).em.length=em.len:=(aI.F9 (by decide) Jg).1;have c1:XW.len=(O8 (tk k).R A).length:=a0;have cH:=aX (tk k).R A;refine⟨(aI.front 2 rfl).cell rfl,?_⟩;refine QB (bytes:=24) aI rfl (HE LR _) (by omega) (by omega) λrR dI bI=>AH ?_;refine Ab (bI.front 2 rfl) (o:=0) (m:=3) (v:=FJ rR) rfl (by simp[KC]) λcF aP=> ?_;have et:spStep (U id) x.2.base x.2.elem k (tk k)=⟨Ou (tk k).R A,(tk k).m,(tk k).em++O8 (tk k).R A⟩:=by
     unfold spStep
     grind
    refine aN (mw':=mw) et ?_ ?_
    .exact aA.rc (Ou (tk k).R A) ((tk k).em++O8 (tk k).R A) W.Mm W.KU W.MY W.aU
    .refine Sat.LS.2 ⟨rR,?_⟩;rw[<-FR]at aP;have h1:Sat (Row E.AN 3 rR (Ao Jf ((tk k).em++O8 (tk k).R A))::Cells b E.Ea (KC h s r rR (Wk k mw))::Bh E h (Wk k mw).S::Gf E s W.L::JA E r (Ou (tk k).R A)::Z) cF:=by
      have h0:=(aP.front 2 rfl).tail;exact h0.front 0 rfl|>.perm (.swap _ _ _)|>.perm (.swap _ _ _)|>.perm (.swap _ _ _)
     exact h1.perm (List.perm_middle (l₁:=[_,_,_,_]) (l₂:=Z)).symm
   .-- a finalizer
    have hR:(tk k).R=A1++y::B1:=hR;have bQ:Ml (tk k).R:=(Sat.spec.1 aQ).1;obtain⟨bZ,b0⟩:=rcF (hR▸bQ) ey ek;rw[<-hR]at bZ b0;have aH:Sat (A4 E b h s r {Wk k mw with R:=A1++B1}::Z) cE:=bV a8;obtain⟨em,C⟩:=Sat.LS.1 aH;have Y:=Qr C;refine AR rfl (AH ⟨em,Y.2.2.2.1,?_⟩);refine AO (vs:=Jf ⟨0,A,1,y.data⟩) C λcM dF a9 _=> ?_;have aO:=a9.EM 4 rfl;have b7:(tk k).em.length=em.len:=((aO.front 1 rfl).F9 (by decide) Jg).1;refine Er (news:=Jf ⟨0,A,1,y.data⟩) (bytes:=24) aO rfl rfl (LR _) (by omega) (by omega) λV0 dG bA _=>AH ?_;refine Ab (bA.front 1 rfl) (o:=0) (m:=3) (v:=FJ V0) rfl (by simp[KC]) λa3 bB=> ?_;have er:Ao Jf (tk k).em++Jf ⟨0,A,1,y.data⟩=Ao Jf ((tk k).em++[⟨0,A,1,y.data⟩]):=by rw[FR];simp[Ao]
    have bC:Sat (Cells b E.Ea (KC h s r V0 (Wk k mw))::Row E.AN 3 V0 (Ao Jf ((tk k).em++[⟨0,A,1,y.data⟩]))::Bh E h (Wk k mw).S::Gf E s W.L::JA E r (A1++B1)::Z) a3:=by rw[<-er];exact bB
    have bD:Sat (A4 E b h s r {Wk k mw with R:=A1++B1,em:=(tk k).em++[⟨0,A,1,y.data⟩]}::Z) a3:=Sat.LS.2 ⟨V0,bC.perm (.cons _ (List.perm_middle (l₁:=[_,_,_]) (l₂:=Z)).symm)⟩;obtain⟨R7,bM,dD,bW⟩:=bD.Hj;obtain⟨R8,cA,bX⟩:=bM.dO aC;refine RQ cA aB a1.st (by omega) λmw' b4 dH bF=> ?_;have cK:=bW (bX bF);have et:spStep (U id) x.2.base x.2.elem k (tk k)=⟨A1++B1,λi=>(tk k).m i||i==k,(tk k).em++[⟨0,A,1,y.data⟩]⟩:=by
     unfold spStep
     grind
    refine aN (mw':=mw') et ?_ ?_
    .have h1:=(aA.mark aC (n:=k) (mw:=mw') (by rw[aR];exact b4)).rc (A1++B1) ((tk k).em++[⟨0,A,1,y.data⟩]) W.Mm W.KU W.MY W.aU;have e1:(λj i=>M.set id (tk k).m j i||(decide (j=id)&&i==k))=M.set id λi=>(tk k).m i||i==k:=by
      funext j i;unfold BI.set;by_cases e:j=id
      .simp[e]
      .simp[e]
     rw[e1]at h1;have e2:(Wk k mw).S.put id (x.1,{x.2 with mw:=mw'})=W.S.put id (x.1,{x.2 with mw:=mw'}):=HS.P9 _ _ _ _
     grind
    .have e2:(Wk k mw).S.put id (x.1,{x.2 with mw:=mw'})=W.S.put id (x.1,{x.2 with mw:=mw'}):=HS.P9 _ _ _ _
     grind
  .have cZ:k=x.2.AK.toNat:=by omega
   grind
end
section
variable{E:Env}{h:Nat}{S:HS}{Z:List Pr}{w:World}
def Sat.Yc(H:Sat (Bh E h S::Z) w){id:Int}{x:Nat×SI}(v:S.sp id=some x): ∃R:List Pr,Sat (Cz E x.1 x.2::R) w/\(∀{w'},Sat R w'->Sat Z w')/\ ∀{I:SI} {w'},Sat (Cz E x.1 I::R) w'->Sat (Bh E h (S.put id (x.1,I))::Z) w':=by
  obtain⟨g,hI,H⟩:=Sat.heap.1 H;have hm:id∈g.ids:=(hI.mem id).2 (by grind);obtain⟨i,d⟩:=List.mem_iff_getElem?.1 hm;have H1:=(H.front 6 rfl).F0 d;have e:spR E S.sp id=Cz E x.1 x.2:=by unfold spR;rw[v]
  rw[e]at H1;refine⟨_,H1,λh=>h.tail.tail.tail.tail.tail.tail.tail.tail,λ{I w'} h'=>Sat.heap.2 ⟨g,⟨hI.nd,λj=> ?_⟩,?_⟩⟩
  . rw[hI.mem];show _↔(if j=id then some (x.1,I)else S.sp j)≠none
    grind
  . have y:spR E (S.put id (x.1,I)).sp id=Cz E x.1 I:=by unfold spR;rw[HS.IJ]
    have C:Aa (spR E S.sp) (g.ids.eraseIdx i)=Aa (spR E (S.put id (x.1,I)).sp) (g.ids.eraseIdx i):=Aa.congr λj K=>by
      have:j≠id:=λe=>NW hI.nd d (e▸K);unfold spR;rw[HS.MS this]
    rw[<-y,C]at h';have h2:=Sat.G5 h' d;have Y:=Sat.back (Ps:=Ct E h S g++Z) 6 h2 (by simp[Ct]);have J:Du S.sp=Du (S.put id (x.1,I)).sp:=by
      funext j;unfold Du;by_cases e:j=id
      . rw[e,HS.IJ,v];rfl
      . rw[HS.MS e]
    have O:(Ct E h S g++Z).set 6 (Aa (spR E (S.put id (x.1,I)).sp) g.ids)=Ct E h (S.put id (x.1,I)) g++Z:=by
      show [Cells h E.Ac (B3 g S.hint S.AA),Co E g.m S.V,Bl E g.t S.T,CY E g.a S.ks S.own,GW E g.f S.fx,DY g.sm .i64 (Du S.sp),_,_]++Z=_;rw[J];rfl
    grind
end
def JD(x:SI)(uw:List Int)(u:Nat->Bool):SI:={x with uw:=uw,mw:=[],used:=(cN u x.AK.toNat:Nat),look:=0}
def F8:Nat->Bool:=λ_=>false
def R0(W:SW)(U M:BI)(id:Int)(C5:Bool)(n:Nat)(gone:Bool)(W':SW)(U' M':BI):Prop:=
  ∃(x:Nat×SI) (t:aW) (uw:List Int),W.S.sp id=some x/\(∀i,M id i=true->U id i=true)/\t=LW (U id) x.2.base x.2.elem x.2.AK.toNat ⟨W.R,M id,W.em⟩/\
    n=cN (λi=>U id i&& !t.m i) x.2.AK.toNat/\U'=U.set id (λi=>U id i&&t.m i)/\M'=M.set id F8/\
    ∃d:SW,d={W with S:=W.S.put id (x.1,JD x.2 uw λi=>U id i&&t.m i),R:=t.R,em:=t.em,Mm:=u64 (W.Mm+n),KU:=u64 (W.KU+x.2.AA)}/\
    ((C5=true/\((cN (λi=>U id i&&t.m i) x.2.AK.toNat:Nat):Int)<x.2.AK/\gone=false/\W'=d)∨
     (¬(C5=true/\((cN (λi=>U id i&&t.m i) x.2.AK.toNat:Nat):Int)<x.2.AK)/\cN (λi=>U id i&&t.m i) x.2.AK.toNat=0/\gone=true/\ ∃a:Nat,id=(a:Int)+1/\W'={d with S:=d.S.free a (x.2.base/8192) x.2.AA})∨
     (¬(C5=true/\((cN (λi=>U id i&&t.m i) x.2.AK.toNat:Nat):Int)<x.2.AK)/\cN (λi=>U id i&&t.m i) x.2.AK.toNat≠0/\gone=false/\ ∃GR,W'={d with L:=IC W.L ⟨GR,id,x.2.base,(x.2.cls,x.2.Fv,((cN (λi=>U id i&&t.m i) x.2.AK.toNat:Nat):Int)==x.2.AK,true)⟩}))
section
variable{E:Env}{w:World}{Z:List Pr}{b h s r:Nat}{W:SW}{U M:BI}
def vS{a:Addr}{i:Nat}{w:World}{K:World->Prop}(h:K w):stCells a i [] w K:=h
def aZ{b1 d j:Nat}{K:World->Prop}(v:K w):F.Cl E (some ⟨b1,0,none⟩) (some ⟨d,0,none⟩) (some ⟨j,0,none⟩) .nilIface K w:=by
  unfold F.Cl;exact⟨rfl,AR rfl v⟩
def mN{b1 v y t1 t3 t5:Nat}{v1 Y v5:Value}(H:Sat (Cells b1 t1 [v1]::Cells v t3 [Y]::Cells y t5 [v5]::Z) w){K:World->Prop}
    (T: ∀w',Sat (Cells b1 t1 [.int .i64 0]::Cells v t3 [.bool false]::Cells y t5 [.int .i64 40]::Z) w'->K w'):F.Cl E (some ⟨b1,0,none⟩) (some ⟨v,0,none⟩) (some ⟨y,0,none⟩) (.iface E.Ga (.agg ⟨[]⟩)) K w:=by
  unfold F.Cl;refine⟨rfl,AP rfl ?_⟩;unfold TAS;simp only[Nat.beq_refl];have go: ∀K:iH (.agg [])->Prop,K ()->unVT (.agg []) (.agg ⟨[]⟩) K:=λK h=>h;refine go _ ?_;refine AR rfl (AO (vs:=[]) H λb4 w5 J _=> ?_);refine vS (AH (CN (J.front 1 rfl) (o:=0) rfl (by simp) λw8 O=>AH (CN (O.front 2 rfl) (o:=0) rfl (by simp) λaB d=>AH (CN (d.front 3 rfl) (o:=0) rfl (by simp) λC j=>T C ?_))));exact(((j.front 3 rfl).tail).front 1 rfl).front 2 rfl
def Sat.skip{X P:Pr}{F:List Pr}(H:Sat (X::P::F) w):Sat (X::F) w:=(H.front 1 rfl).tail
def BI.set_set(U:BI)(id:Int)(u v:Nat->Bool):(U.set id u).set id v=U.set id v:=by
  funext i;unfold BI.set
  grind
def BI.Oy(U:BI)(id:Int)(u:Nat->Bool):(U.set id u) id=u:=if_pos rfl
def BI.L4(U:BI)(id:Int):U.set id (U id)=U:=by
  funext i;unfold BI.set;split
  . rename_i e;rw[e]
  . rfl
def Bm.zY{W:SW}{U M:BI}(hI:Bm W U M){id:Int}{x:Nat×SI}(C:W.S.sp id=some x){I:SI}{u m:Nat->Bool}(h1:I.base=x.2.base)(h2:I.AA=x.2.AA)(J:I.state=x.2.state)(T:I.cls=x.2.cls)(Y:I.elem=x.2.elem)(h6:I.AK=x.2.AK)(h7:I.Lw=x.2.Lw)(hg:Qq I u m):
    Bm {W with S:=W.S.put id (x.1,I)} (U.set id u) (M.set id m):=by
  obtain⟨A6,_⟩:=hI.sp id x C;refine⟨hI.hI.put C h1 h2 (by rw[J,A6.st];decide),λj y d=> ?_,λit v=> ?_⟩
  . by_cases e:j=id
    . subst e;have d:(W.S.put j (x.1,I)).sp j=some y:=d;rw[HS.IJ]at d;cases d;rw[BI.Oy,BI.Oy];exact⟨A6.KF h1 h2 J T Y h6 h7,hg⟩
    . have d:(W.S.put id (x.1,I)).sp j=some y:=d;rw[HS.MS e]at d;have K:U.set id u j=U j:=if_neg e;have O:M.set id m j=M j:=if_neg e;rw[K,O];exact hI.sp j y d
  . obtain⟨y,g1,g2⟩:=hI.it it v;by_cases e:it.id=id
    . rw[e,C]at g1;cases g1;exact⟨(x.1,I),by rw[e];exact HS.IJ,h1.trans g2⟩
    . exact⟨y,(HS.MS e).trans g1,g2⟩
variable(hE:EnvW E)
include hE
theorem T5(hT: ∀w',Sat Z w'->FQ E.AJ w')(H:Sat (A4 E b h s r W::Z) w)(hI:Bm W U M){id:Int}{C5:Bool}(hf:W.L.length<1099511627776)(b8:W.em.length+W.R.length<=1099511627776)(hL: ∀y∈W.L,y.id≠id)
    {K:Int->Bool->Int->World->Prop}(cA:W.S.sp id=none-> ∀w',Sat (A4 E b h s r W::Z) w'->K 0 false 35 w')
    (cB: ∀x,W.S.sp id=some x->(∃i,M id i=true/\U id i=false)-> ∀w',Sat (A4 E b h s r W::Z) w'->K 0 false 40 w')
    (hk: ∀n gone W' U' M',R0 W U M id C5 n gone W' U' M'->Bm W' U' M'-> ∀w',Sat (A4 E b h s r W'::Z) w'->K n gone 0 w'):
    F.B5 E (some ⟨b,0,none⟩) id C5 K w:=by
  unfold F.B5 T0.B5;refine AO (vs:=[.int .i64 0]) H λb1 w2 H2 _=>AO (vs:=[.bool false]) H2 λb3 w4 H4 _=>AO (vs:=[.int .i64 0]) H4 λb5 w6 H6 _=> ?_;have a6:Sat (A4 E b h s r W::Cells b5 E.CP [.int .i64 0]::Cells b3 E.Ad [.bool false]::Cells b1 E.CO [.int .i64 0]::Z) w6:=H6.front 3 rfl;refine Ow a6 hI (λhn w' H'=> ?_) λx hx A6 hg w' H'=> ?_
  . refine AO (vs:=Jl) H' λY cH aF _=> ?_;refine Fp (news:=Jl) aF rfl (by simp[Jl,Value.oneCell']) λcI aG=> ?_;refine CN (aG.front 2 rfl) (o:=0) rfl (by simp) λcJ C=>⟨35,C.Af rfl,AR rfl ?_⟩;have a0:=C.drew;refine⟨35,a0.Af rfl,CN (a0.front 4 rfl) (o:=0) rfl (by simp) λc6 a1=>⟨(a1.front 1 rfl).Af rfl,CN (a1.front 4 rfl) (o:=0) rfl (by simp) λc7 a2=>⟨(a2.front 2 rfl).Af rfl,CN (a2.front 2 rfl) (o:=0) rfl (by simp) λcK aH=> ?_⟩⟩⟩;exact⟨0,(aH.front 2 rfl).Af rfl,false,(aH.front 1 rfl).Af rfl,35,aH.Af rfl,cA hn cK aH.tail.tail.tail.tail⟩
  . refine AO (vs:=Jl) H' λY cH aF _=> ?_;refine Fp (news:=JC x.2) aF rfl (by simp[JC,Value.oneCell']) λcI aG=> ?_;refine CN (aG.front 2 rfl) (o:=0) rfl (by simp) λcJ C=>⟨0,C.Af rfl,AP rfl ?_⟩;have d:=C.front 1 rfl;refine⟨_,d.cell rfl,_,d.cell rfl,_,d.cell rfl,_,d.cell rfl,_,d.cell rfl,_,d.cell rfl,_,d.cell rfl,_,d.cell rfl,_,d.cell rfl,_,d.cell rfl,?_⟩;have c3:=A6.size;refine Rz (C.front 2 rfl) hI hx b8 (λhz cL aI=> ?_) λbJ t ht mw hIn cL aI=> ?_
    . refine mN (((aI.front 1 rfl).front 3 rfl).front 4 rfl) λcQ aN=> ?_;exact⟨0,aN.Af rfl,false,(aN.front 1 rfl).Af rfl,40,(aN.front 2 rfl).Af rfl,cB x hx hz cQ aN.tail.tail.tail.skip⟩
    . have cD: ∀i,t.m i=true->U id i=true:=by rw[ht];exact WV bJ _
      obtain⟨R1,a9,cF,bE⟩:=aI.Hj;have aY:(W.S.put id (x.1,{x.2 with mw:=mw})).sp id=some (x.1,{x.2 with mw:=mw}):=HS.IJ;obtain⟨bK,bG⟩:=hIn.sp id _ aY;rw[BI.Oy]at bG;obtain⟨R2,bM,cG,bF⟩:=a9.Yc aY;refine WT (λw' h'=>hT w' (cF (cG h')).tail.tail.tail.tail) bM bG bK.st (λ⟨i,h1,h2⟩=>absurd (cD i h1) (by grind)) λ_ uw wS bH J c8 a3=> ?_;have aR:=bE (bF a3.tail);have bN:Tx {x.2 with mw:=mw} uw (U id) t.m=JD x.2 uw λi=>U id i&&t.m i:=rfl;rw[bN,HS.P9]at aR;rw[bN]at bH;have bD:=hIn.zY aY (I:=JD x.2 uw λi=>U id i&&t.m i) rfl rfl rfl rfl rfl rfl rfl bH;rw[BI.set_set]at bD;have J:wS.len=cN (λi=>U id i&& !t.m i) x.2.AK.toNat:=J;obtain⟨n,hn⟩: ∃n,n=cN (λi=>U id i&& !t.m i) x.2.AK.toNat:=⟨_,rfl⟩;have cU:=PS (λi=>U id i&& !t.m i) x.2.AK.toNat;rw[<-hn]at J;rw[J];refine CN (aR.front 4 rfl) (o:=0) rfl (by simp) λcM a4=> ?_;have T:Sat (A4 E b h s r {W with S:=W.S.put id (x.1,JD x.2 uw λi=>U id i&&t.m i),R:=t.R,em:=t.em}::Cells b1 E.CO [.int .i64 (n:Int)]::Cells b5 E.CP [.int .i64 0]::Cells Y E.Be (JC x.2)::Cells b3 E.Ad [.bool false]::Z) cM.drew:=(a4.drew).front 1 rfl;obtain⟨em,aS⟩:=Sat.LS.1 T;have bC:=Qr aS;refine AH ⟨_,bC.2.2.2.2.1,_,(T.front 1 rfl).Af rfl,AH ?_⟩;refine Ab (show Sat (Cells b E.Ea _::_) _ from aS) (o:=0) (m:=4) rfl (by simp[KC]) λc9 a5=> ?_;have aJ:=a5.drew;refine AH ⟨_,aJ.cell rfl,_,(aJ.front 7 rfl).cell rfl,AH (Ab aJ (o:=0) (m:=7) rfl (by simp[KC]) λcO aT=> ?_)⟩;rw[AM (n:=(n:Int)),AM (n:=x.2.AA) (by have:=A6.pg;omega) (by have:=A6.pg;omega)]at aT;obtain⟨O,aB⟩: ∃O:SW,O={W with S:=W.S.put id (x.1,JD x.2 uw λi=>U id i&&t.m i),R:=t.R,em:=t.em,Mm:=u64 (W.Mm+n),KU:=u64 (W.KU+x.2.AA)}:=⟨_,rfl⟩;have bQ:Sat (A4 E b h s r O::Cells b1 E.CO [.int .i64 (n:Int)]::Cells b5 E.CP [.int .i64 0]::Cells Y E.Be (JC x.2)::Cells b3 E.Ad [.bool false]::Z) cO:=Sat.LS.2 ⟨em,by rw[aB];exact aT⟩;have aA:Bm O (U.set id λi=>U id i&&t.m i) (M.set id F8):=by
        rw[aB];have h1:=bD.rc t.R t.em (u64 (W.Mm+n)) (u64 (W.KU+x.2.AA)) W.MY W.aU;rw[show(W.S.put id (x.1,{x.2 with mw:=mw})).put id (x.1,JD x.2 uw λi=>U id i&&t.m i)=W.S.put id (x.1,JD x.2 uw λi=>U id i&&t.m i)from HS.P9 _ _ _ _]at h1;exact h1
      clear aT aJ a5 aS T a4 aR a3 bM bF a9 bE aI C d aG aF H' a6 H6 H4 H2 bC;have aP:O.L=W.L:=by rw[aB]
      have aD:O.S.sp id=some (x.1,JD x.2 uw λi=>U id i&&t.m i):=by rw[aB];exact HS.IJ
      have mk: ∀gone W',_->R0 W U M id C5 n gone W' (U.set id λi=>U id i&&t.m i) (M.set id F8):=λgone W' h=>⟨x,t,uw,hx,bJ,ht,hn,rfl,rfl,O,aB,h⟩;refine AV (λ_ w'=> ∃gone W',R0 W U M id C5 n gone W' (U.set id λi=>U id i&&t.m i) (M.set id F8)/\Bm W' (U.set id λi=>U id i&&t.m i) (M.set id F8)/\ ∃vs,Sat (Cells b1 E.CO [.int .i64 (n:Int)]::Cells b3 E.Ad [.bool gone]::Cells b5 E.CP [.int .i64 0]::A4 E b h s r W'::Cells Y E.Be vs::Z) w') ?_ ?_
      . obtain⟨R3,bY,c4,b4⟩:=bQ.Hj;obtain⟨R4,cC,b6⟩:=bY.Lx aD;refine I8 cC λdC bS=> ?_;have bT:=b4 (b6 bS);refine Fp (news:=JC (JD x.2 uw λi=>U id i&&t.m i)) (bT.front 3 rfl) rfl (by simp[JC,Value.oneCell']) λbO aK=> ?_;have e1:(JD x.2 uw λi=>U id i&&t.m i).used=(cN (λi=>U id i&&t.m i) x.2.AK.toNat:Nat):=rfl;have e2:(JD x.2 uw λi=>U id i&&t.m i).AK=x.2.AK:=rfl;have aL:Sat (A4 E b h s r O::Cells Y E.Be (JC (JD x.2 uw λi=>U id i&&t.m i))::Cells b1 E.CO [.int .i64 (n:Int)]::Cells b5 E.CP [.int .i64 0]::Cells b3 E.Ad [.bool false]::Z) bO:=aK.front 1 rfl;refine AV (λst w'=>w'=bO/\(st.1=true↔C5=true/\((cN (λi=>U id i&&t.m i) x.2.AK.toNat:Nat):Int)<x.2.AK)) ?_ ?_
        . cases aX:C5 with
          | false=>exact AP rfl ⟨rfl,by simp⟩
          | true=>exact AR rfl ⟨_,aK.cell rfl,_,aK.cell rfl,rfl,by grind⟩
        . rintro⟨kp,u⟩ _ dD ⟨rfl,aX⟩;dsimp only at aX⊢;refine AS (λv=> ?_) λc1=>⟨_,aK.cell rfl,Bc (λh0=> ?_) λh0=> ?_⟩
          . have bI:=aX.1 v;exact⟨false,O,mk _ _ (.inl ⟨bI.1,bI.2,rfl,rfl⟩),aA,_,((aL.front 3 rfl).front 4 rfl).front 4 rfl⟩
          . have aC: ¬(C5=true/\((cN (λi=>U id i&&t.m i) x.2.AK.toNat:Nat):Int)<x.2.AK):=λh=>by grind
            have aW:cN (λi=>U id i&&t.m i) x.2.AK.toNat=0:=by omega
            refine AH ⟨_,aL.Mo.1,?_⟩;obtain⟨R5,bZ,c5,b7⟩:=aL.Hj;refine aE hE.toEnvA bZ aA.hI (λhn=>by rw[aD]at hn;cases hn) (λy v hu=> ?_) λy a v hu ha aO dE bU=> ?_
            . rw[aD]at v;cases v;rw[e1]at hu;omega
            . rw[aD]at v;cases v;have bV:=b7 bU;refine CN (bV.front 4 rfl) (o:=0) rfl (by simp) λdF bW=> ?_;refine⟨true,{O with S:=O.S.free a (x.2.base/8192) x.2.AA},mk _ _ (.inr (.inl ⟨aC,aW,rfl,a,ha,rfl⟩)),⟨aO,λj y v=> ?_,λit b9=> ?_⟩,JC (JD x.2 uw λi=>U id i&&t.m i),?_⟩
              . have v:(if j=(a:Int)+1 then none else O.S.sp j)=some y:=v;split at v
                . cases v
                . exact aA.sp j y v
              . obtain⟨y,g1,g2⟩:=aA.it it b9;refine⟨y,?_,g2⟩;show(if it.id=(a:Int)+1 then none else O.S.sp it.id)=some y
                grind
              . exact((bW.front 4 rfl).front 1 rfl).front 4 rfl
          . have aC: ¬(C5=true/\((cN (λi=>U id i&&t.m i) x.2.AK.toNat:Nat):Int)<x.2.AK):=λh=>by grind
            have aW:cN (λi=>U id i&&t.m i) x.2.AK.toNat≠0:=λh=>h0 (by omega);refine T3 hE aL aA (by grind) (λhn=>by grind) (λ_ ⟨y,v,e⟩=>absurd e (hL y (by rw[<-aP];exact v))) λy v c2 GR aO dG a7=> ?_;rw[aD]at v;cases v;rw[aP]at aO a7;refine⟨false,_,mk _ _ (.inr (.inr ⟨aC,aW,rfl,GR,rfl⟩)),aO,JC (JD x.2 uw λi=>U id i&&t.m i),?_⟩;exact((a7.front 3 rfl).front 4 rfl).front 4 rfl
      . rintro _ _ dA ⟨gone,W',bL,b0,vs,bR⟩;have aV:=bR.drew;refine⟨_,aV.Af rfl,_,(aV.front 1 rfl).Af rfl,CN aV (o:=0) rfl (by simp) λdH a8=>⟨(a8.front 1 rfl).Af rfl,CN (a8.front 1 rfl) (o:=0) rfl (by simp) λdI bX=>CN (bX.front 2 rfl) (o:=0) rfl (by simp) λcP aM=>aZ ?_⟩⟩;exact⟨_,(aM.front 2 rfl).Af rfl,_,(aM.front 1 rfl).Af rfl,_,aM.Af rfl,hk n gone W' _ _ bL b0 cP aM.tail.tail.tail.skip⟩
end
def one(c:Int):TV:=TV.nil.grow c 1
section
variable{E:Env}(hE:EnvS E){w:World}{Z:List Pr}
include hE
end
section
variable{l:Iv}{fr md to s m e s' m' e':Int}
end
def Win(vs:List Value)(o:Nat)(u:Int->Bool):Prop:=o+512<=vs.length/\ ∀k:Int,0<=k->k<512->vs[o+k.toNat]? =some (.bool (u k))
section
variable{E:Env}{w:World}{Z:List Pr}{b t o:Nat}{vs:List Value}{u:Int->Bool}
def Yd{i n:Int}(C: -9223372036854775808<=i)(y:i<9223372036854775808){K:Bool->World->Prop}
  (j:0<=i->0<=n->i+n<=512->K true w)(d: ¬(0<=i/\0<=n/\i+n<=512)->K false w):F.Hv E i n K w:=by
 unfold F.Hv;refine AB (λh1=>AB (λh2=>AB (λv=> ?_) λv=>d (by omega)) λh2=>d (by omega)) λh1=>d (by omega);rw[AF];by_cases g:n<=512-i
 .rw[decide_eq_true g];exact j h1 h2 (by omega)
 .rw[decide_eq_false g];exact d (by omega)
def gU(H:Sat (Cells b t vs::Z) w)(hl:o+512<=vs.length){i n:Int}(h0:0<=i)(h1:0<=n)(h2:i+n<=512)(x:Bool){K:Int->World->Prop}
  (hK: ∀w' d,d.length=vs.length->(∀j,d[j]? =if o+i.toNat<=j/\j<o+(i+n).toNat then some (.bool x)else vs[j]?)->Sat (Cells b t d::Z) w'->K 0 w'):
  F.DR E (some ⟨b,o,none⟩) i n x K w:=by
 unfold F.DR T0.DR;refine Yd (by omega) (by omega) (λ_ _ _=>AP rfl ?_) λh=>absurd ⟨h0,h1,h2⟩ h;simp only[AG,Nat.mul_one];rw[AF (n:=i+n)];refine AI (λst w'=>i<=st.1/\st.1<=i+n/\ ∃d,d.length=vs.length/\(∀j,d[j]? =if o+i.toNat<=j/\j<o+st.1.toNat then some (.bool x)else vs[j]?)/\Sat (Cells b t d::Z) w') (λst _=>(i+n-st.1).toNat)
  ⟨Int.le_refl _,by omega,vs,rfl,λj=>by grind,H⟩ ?_
 rintro⟨k,v⟩ _ w4 ⟨k0,k1,d,T,y,C⟩;simp only at k0 k1 y⊢;refine AB (λY=>⟨⟨by omega,by omega⟩,?_⟩) λO=> ?_
 .rw[AF (n:=k+1)];refine Ab C rfl (by omega) λw7 J=>⟨⟨by omega,by omega,_,by grind,λj=> ?_,J⟩,by omega⟩;rw[List.getElem?_set,y]
  grind
 .have e:k=i+n:=by omega
  grind
end
def sum3(x:Int×Int×Int):List Value:=[.int .i64 x.1,.int .i64 x.2.1,.int .i64 x.2.2]
def u6(L:List (Int×Int×Int)):List Value:=L.flatMap sum3
section
variable{E:Env}{w:World}{Z:List Pr}
variable{a:AX}{L:List (Int×Int×Int)}{l:Iv}{fr P:Int}
end
abbrev CL:=List (Int×Nat)
def parts(L:CL):List Value:=L.flatMap λc=>[.int .u64 c.1,.pointer (some ⟨c.2,0,none⟩)]
def N4(L:CL):(parts L).length=L.length*2:=by
 induction L with
 | nil=>rfl
 | cons x r ih=>show(parts r).length+1+1=_;grind
def VN(L M:CL):parts (L++M)=parts L++parts M:=by simp[parts]
def Qt: ∀(L:CL) {k:Nat} {x:Int×Nat},L[k]? =some x->(parts L)[k*2]? =some (.int .u64 x.1)/\(parts L)[k*2+1]? =some (.pointer (some ⟨x.2,0,none⟩))
 | y::r,0,x,h=>by have h:y=x:=Option.some.inj h;subst h;exact⟨rfl,rfl⟩
 | y::r,k+1,x,h=>by
  have:=Qt r h;have e:parts (y::r)= .int .u64 y.1:: .pointer (some ⟨y.2,0,none⟩)::parts r:=rfl
  grind
def VO(L:CL): ∀v∈parts L,v.oneCell'=true:=by
 intro v j;simp only[parts,List.mem_flatMap]at j;obtain⟨c,_,d⟩:=j;simp at d;rcases d with rfl|rfl<;>rfl
def T6: ∀(L:CL) (k:Nat),(parts L).take (k*2)=parts (L.take k)
 | [],k=>by simp[parts]
 | y::r,0=>by simp[parts]
 | y::r,k+1=>by
  have e:parts (y::r)= .int .u64 y.1:: .pointer (some ⟨y.2,0,none⟩)::parts r:=rfl;rw[e,show(k+1)*2=k*2+1+1 by omega,List.take_succ_cons,List.take_succ_cons,T6 r k];rfl
def T7: ∀(L:CL) (k:Nat),(parts L).drop (k*2)=parts (L.drop k)
 | [],k=>by simp[parts]
 | y::r,0=>by simp
 | y::r,k+1=>by
  have e:parts (y::r)= .int .u64 y.1:: .pointer (some ⟨y.2,0,none⟩)::parts r:=rfl;rw[e,show(k+1)*2=k*2+1+1 by omega,List.drop_succ_cons,List.drop_succ_cons,T7 r k];rfl
def posC:CL->Int->Nat
 | [],_=>0
 | c::r,n=>if c.1<n then posC r n+1 else 0
def N5(L:CL):Prop:=L.Pairwise λa b=>a.1<b.1
def SS: ∀(L:CL) (n:Int),posC L n<=L.length
 | [],_=>Nat.le_refl _
 | c::r,n=>by simp only[posC];split;exact Nat.succ_le_succ (SS r n);omega
def Hl: ∀{L:CL} {n:Int} {j:Nat} {c:Int×Nat},L[j]? =some c->j<posC L n->c.1<n
 | c::r,n,0,x,h,hj=>by
  have h:c=x:=Option.some.inj h;subst h;simp only[posC]at hj;grind
 | c::r,n,j+1,x,h,hj=>by
  simp only[posC]at hj;split at hj
  .exact Hl (L:=r) h (by omega)
  .omega
def SU: ∀{L:CL} {n:Int} {c:Int×Nat},L[posC L n]? =some c->n<=c.1
 | c::r,n,x,h=>by
  simp only[posC]at h;split at h
  .exact SU (L:=r) h
  .have h:c=x:=Option.some.inj h
   grind
def Oz{L:CL}(hs:N5 L){n:Int}{j:Nat}{c:Int×Nat}(h:L[j]? =some c)(v:posC L n<=j):n<=c.1:=by
 have y:=(List.getElem?_eq_some_iff.1 h).1;have d:=List.getElem?_eq_getElem (show posC L n<L.length by omega);have h1:=SU d;rcases Nat.lt_or_eq_of_le v with h2|h2
 .have:=List.pairwise_iff_getElem.1 hs (posC L n) j (by omega) y h2
  grind
 grind
def QC{L:CL}(hs:N5 L){n:Int}{c:Int×Nat}(v:c∈L)(K:c.1=n):L[posC L n]? =some c:=by
 obtain⟨j,d⟩:=List.mem_iff_getElem?.1 v;rcases Nat.lt_or_ge j (posC L n)with h|h
 .have:=Hl d h;omega
 .have C:=(List.getElem?_eq_some_iff.1 d).1;rcases Nat.lt_or_eq_of_le h with h2|h2
  .have y:=List.getElem?_eq_getElem (show posC L n<L.length by omega);have:=SU y;have J:=List.pairwise_iff_getElem.1 hs (posC L n) j (by omega) C h2
   grind
  grind
def T8(E:Env)(U G:Int->Bool)(c:Int×Nat):Pr:=Cells c.2 E.Iq (flags 512 (λk=>U (c.1*512+k))++flags 512 (λk=>G (c.1*512+k)))
structure WW(l:Nat->Iv)(L:CL)(U G:Int->Bool):Prop where
 Ho:N5 L
 dV: ∀c∈L,0<=c.1/\c.1<67108864
 cY:Ok (l 0)
 LM:Ok (l 1)
 Pj:Ok (l 2)
 l0: ∀p,mem (l 0) p↔ ∃c∈L,c.1=p/512
 l1: ∀p,mem (l 1) p↔mem (l 0) p/\U p=false
 l2: ∀p,mem (l 2) p↔mem (l 0) p/\G p=true
def Kf(E:Env)(r:Nat)(s:AX)(L:CL)(U G:Int->Bool):List Pr:=[Cells r E.Cp [.slice s.base s.len s.cap],Row E.A0 2 s (parts L),Aa (T8 E U G) L]
def Gg(E:Env)(r:Nat)(l:Nat->Iv):Pr:=Ex λx:AX×CL×(Int->Bool)×(Int->Bool)=>Jj (WW l x.2.1 x.2.2.1 x.2.2.2) (Lo (Kf E r x.1 x.2.1 x.2.2.1 x.2.2.2))
def Sat.KW{E:Env}{r:Nat}{l:Nat->Iv}{Z:List Pr}{w:World}:Sat (Gg E r l::Z) w↔ ∃s L U G,WW l L U G/\Sat (Kf E r s L U G++Z) w:=by
 unfold Gg;rw[Sat.ex];constructor
 .rintro⟨x,h⟩;obtain⟨h1,h2⟩:=Sat.where.1 h;exact⟨_,_,_,_,h1,Sat.star.1 h2⟩
 .rintro⟨s,L,U,G,h1,h2⟩;exact⟨(s,L,U,G),Sat.where.2 ⟨h1,Sat.star.2 h2⟩⟩
def O0{L:CL}(hs:N5 L)(d: ∀c∈L,0<=c.1/\c.1<67108864):L.length<=67108864:=by
 have key: ∀(L:CL) (B:Int),N5 L->(∀c∈L,B<=c.1/\c.1<67108864)->B<=67108864->(L.length:Int)<=67108864-B:=by
  intro L
  induction L with
  | nil=>grind
  | cons x r ih=>
   intro B hs d v;have h1:=d x (by simp);have hp:=List.pairwise_cons.1 hs;have:=ih (x.1+1) hp.2 (λc j=>⟨by grind,(d c (by simp[j])).2⟩) (by omega)
   grind
 have:=key L 0 hs d (by decide);omega
section
variable{E:Env}{w:World}{Z:List Pr}{r:Nat}{s:AX}{L:CL}{U G:Int->Bool}{l:Nat->Iv}
def Nb(H:Sat (Kf E r s L U G++Z) w):s.len=L.length:=by
 have:=(H.front 1 rfl).C1;rw[N4]at this;omega
def Fy(H:Sat (Kf E r s L U G++Z) w):w.cell? (Addr.mk r 0 none)=some (.slice s.base s.len s.cap):=H.Af rfl
def K7(H:Sat (Kf E r s L U G++Z) w){k:Nat}{x:Int×Nat}(hk:L[k]? =some x): ∃a,s.base=some a/\k<s.len/\w.cell? (a.add (k*2))=some (.int .u64 x.1)/\w.cell? ((a.add (k*2)).add 1)=some (.pointer (some ⟨x.2,0,none⟩)):=by
 have h1:=H.front 1 rfl;have d:=h1.own;obtain⟨g1,g2⟩:=Qt L hk;have hlen:=Nb H;have v:=(List.getElem?_eq_some_iff.1 hk).1;obtain⟨b,j⟩:=d.Ep (by omega);refine⟨_,j,by omega,d.cell j g1,?_⟩;rw[add_add];exact d.cell j g2
def O1(H:Sat (Kf E r s L U G++Z) w){k:Nat}{x:Int×Nat}(hk:L[k]? =some x):
  Sat (T8 E U G x::Aa (T8 E U G) (L.eraseIdx k)::Cells r E.Cp [.slice s.base s.len s.cap]::Row E.A0 2 s (parts L)::Z) w:=
 (H.front 2 rfl).F0 hk
def qP(x:Int×Nat):Win (flags 512 (λk=>U (x.1*512+k))++flags 512 (λk=>G (x.1*512+k))) 0 λk=>U (x.1*512+k):=by
 refine⟨by simp[Ca],λk h0 h1=> ?_⟩;rw[List.getElem?_append_left (by rw[Ca];omega)];exact MC (n:=512) (u:=λk=>U (x.1*512+k)) h0 h1
def qQ(x:Int×Nat):Win (flags 512 (λk=>U (x.1*512+k))++flags 512 (λk=>G (x.1*512+k))) 512 λk=>G (x.1*512+k):=by
 refine⟨by simp[Ca],λk h0 h1=> ?_⟩;rw[List.getElem?_append_right (by rw[Ca];omega),Ca,show 512+k.toNat-512=0+k.toNat by omega];exact MC (n:=512) (u:=λk=>G (x.1*512+k)) h0 h1
def VP(H:Sat (Kf E r s L U G++Z) w){k:Nat}{x:Int×Nat}(hk:L[k]? =some x){i:Int}(h0:0<=i)(h1:i<512):w.cell? ((Addr.mk x.2 0 none).add i.toNat)=some (.bool (U (x.1*512+i))):=
 (O1 H hk).cell ((qP x).2 i h0 h1)
def gV(H:Sat (Kf E r s L U G++Z) w){k:Nat}{x:Int×Nat}(hk:L[k]? =some x){i:Int}(h0:0<=i)(h1:i<512):w.cell? (((Addr.mk x.2 0 none).add 512).add i.toNat)=some (.bool (G (x.1*512+i))):=by
 rw[add_eq,Nat.zero_add];exact(O1 H hk).cell (o:=512) ((qQ x).2 i h0 h1)
def MZ(H:Sat (Kf E r s L U G++Z) w){n:Int}{K:Int->Bool->World->Prop}
  (hK: ∀w' ok,(ok=true↔ ∃c,L[posC L n]? =some c/\c.1=n)->Sat (Kf E r s L U G++Z) w'->K (posC L n) ok w'):F.DQ E (some ⟨r,0,none⟩) n K w:=by
 unfold F.DQ;simp only[AG];have hlen:=Nb H;have Y:L.length<9223372036854775808:=by have:=(H.front 1 rfl).own;have:=this.cap;have:=(H.front 1 rfl).own.top;omega
 refine AV (λst w'=>w'=w/\st.1=(posC L n:Nat)) ?_ ?_
 .refine AI (λst w'=>w'=w/\ ∃k:Nat,st.1=(k:Int)/\k<=L.length/\posC L n=posC (L.drop k) n+k) (λst _=>(L.length-st.1).toNat) ⟨rfl,0,rfl,Nat.zero_le _,rfl⟩ ?_;rintro⟨i,v⟩ _ w5 ⟨rfl,k,hk,aB,hp⟩;dsimp only at hk⊢;subst hk;refine⟨s,Fy H,AB (λJ=>⟨s,Fy H,?_⟩) λC=>⟨rfl,?_⟩⟩
  .have hl:k<L.length:=by omega
   have d:=List.getElem?_eq_getElem hl;have hd:=Sx d;rw[hd]at hp;obtain⟨a,y,_,c1,_⟩:=K7 H d;generalize L[k]=x at d c1 hp;rw[y];simp only[AG,Int.toNat_natCast];rw[AF (n:=(k:Int)+1)];refine⟨⟨by omega,by omega⟩,_,c1,AB (λh=>⟨⟨by trivial,k+1,by omega,by omega,?_⟩,by omega⟩) λh=>⟨by trivial,?_⟩⟩
   .rw[hp];simp only[posC];grind
   .rw[hp];simp only[posC];grind
  .have:k=L.length:=by omega
   subst this;rw[hp,List.drop_length];show _=(((0:Nat)+L.length:Nat):Int);omega
 .rintro⟨i,v⟩ _ w3 ⟨rfl,O⟩;dsimp only at O⊢;subst O;have j:=H.drew;have T:=SS L n;refine⟨s,Fy j,AB (λJ=>⟨s,Fy j,?_⟩) λC=>hK _ _ ?_ j⟩
  .have d:=List.getElem?_eq_getElem (show posC L n<L.length by omega);obtain⟨a,y,_,c1,_⟩:=K7 j d;generalize L[posC L n]=x at d c1;rw[y];simp only[AG,Int.toNat_natCast]
   grind
  grind
def RR(hI:WW l L U G)(H:Sat (Kf E r s L U G++Z) w){p:Int}(hp:0<=p)(aD:p<18446744073709551616){K:Bool->Bool->Bool->World->Prop}
  (T: ∀w' r0 r1 r2,(r0=true↔mem (l 0) p)->(r1=true↔mem (l 1) p)->(r2=true↔mem (l 2) p)->Sat (Kf E r s L U G++Z) w'->K r0 r1 r2 w'):F.Bp E (some ⟨r,0,none⟩) p K w:=by
 unfold F.Bp T0.Bp;rw[Int.tdiv_eq_ediv_of_nonneg hp,Int.tmod_eq_emod_of_nonneg hp,AM (n:=p/512)];refine⟨by decide,MZ H λw3 ok A6 C=>AS (λe=> ?_) λe=> ?_⟩
 .have j: ¬mem (l 0) p:=λhm=>by
   obtain⟨c,v,d⟩:=(hI.l0 p).1 hm;have:ok=true:=A6.2 ⟨c,QC hI.Ho v d,d⟩
   grind
  exact T _ _ _ _ ⟨λh=>(by cases h),λh=>absurd h j⟩ ⟨λh=>(by cases h),λh=>absurd ((hI.l1 p).1 h).1 j⟩ ⟨λh=>(by cases h),λh=>absurd ((hI.l2 p).1 h).1 j⟩ C
 .have y:ok=true:=by simpa using e
  obtain⟨c,v,d⟩:=A6.1 y;have hm:mem (l 0) p:=(hI.l0 p).2 ⟨c,List.mem_of_getElem? v,d⟩;obtain⟨a,ha,aC,c1,c2⟩:=K7 C v;have J:=C.drew;have Y:=VP J v (i:=p %512) (by omega) (by omega);have O:=gV J v (i:=p %512) (by omega) (by omega);have e2:c.1*512+p %512=p:=by omega
  rw[e2]at Y O;simp only[AG];refine⟨s,Fy C,?_⟩;rw[ha];simp only[AG,Int.toNat_natCast,Nat.mul_one];refine⟨⟨by omega,by omega⟩,_,c2,by decide,?_⟩;simp only[AG];refine⟨⟨by omega,by omega⟩,_,Y,by decide,⟨by omega,by omega⟩,_,O,T _ _ _ _ ⟨λ_=>hm,λ_=>rfl⟩ ?_ ?_ J⟩
  .rw[hI.l1 p]
   grind
  .rw[hI.l2 p];simp[hm]
def T9(hI:WW l L U G)(H:Sat (Kf E r s L U G++Z) w){x n:Int}(hx:0<=x)(aV:x<18446744073709551616)(hn:0<=n)(aS:n<18446744073709551616){K:Bool->World->Prop}
  (hK: ∀w' ok,(ok=true↔ ¬(n=0∨34359738368<=x∨34359738368-x<n∨cnt (l 0) x (x+n)≠n))->Sat (Kf E r s L U G++Z) w'->K ok w'):F.CR E (some ⟨r,0,none⟩) x n K w:=by
 unfold F.CR T0.CR;have h0: ∀{w'} (b:Bool),b=false->(n=0∨34359738368<=x∨34359738368-x<n∨cnt (l 0) x (x+n)≠n)->Sat (Kf E r s L U G++Z) w'->K b w':=λb hb h H'=>hK _ _ ⟨λe=>(by grind),λg=>absurd h g⟩ H';refine AU (Bc (λe j=>AR rfl (h0 _ rfl (.inl e) H)) λe1=>AB (λe j=>AR rfl (h0 _ rfl (.inr (.inl e)) H)) λe2=> ?_);rw[AM (n:=34359738368-x)];refine λj=>AB (λe=>h0 _ rfl (.inr (.inr (.inl e))) H) λe3=>⟨by decide,?_⟩;rw[Int.tdiv_eq_ediv_of_nonneg hx,AM (n:=x/512),AM (n:=x+n),AM (n:=x+n-1),Int.tdiv_eq_ediv_of_nonneg (a:=x+n-1) (by omega),AM (n:=(x+n-1)/512)];refine MZ H λw6 ok A6 Y=>⟨by decide,?_⟩;clear A6;have hlen:=Nb H;have aQ:=O0 hI.Ho hI.dV;have aJ:=SS L (x/512);have J:(∀p,x<=p->p<x+n->mem (l 0) p)->cnt (l 0) x (x+n)=n:=λh=>by
  have:=(El hI.cY (a:=x) (b:=x+n) (by omega)).2 h;omega
 have C: ∀c,x/512<=c->c<=(x+n-1)/512->cnt (l 0) x (x+n)=n->c∈L.map (·.1):=λc h1 h2 e=>by
  obtain⟨mm,aE,aF,aW⟩: ∃m,x<=m/\m<x+n/\m/512=c:=⟨max x (c*512),by omega,by omega,by omega⟩;obtain⟨y,hy,O⟩:=(hI.l0 mm).1 ((El hI.cY (a:=x) (b:=x+n) (by omega)).1 (by omega) mm aE aF);exact List.mem_map.2 ⟨y,hy,by omega⟩
 simp only[AG];refine AI (λst w'=>w'=w6/\x/512<=st.2.1/\st.2.1<=(x+n-1)/512+1/\(st.1=(posC L (x/512):Nat)+(st.2.1-x/512))/\st.1<=L.length/\ ∀m,x/512<=m->m<st.2.1-> ∃c,L[(posC L (x/512)+(m-x/512).toNat)]? =some c/\c.1=m)
  (λst _=>((x+n-1)/512+1-st.2.1).toNat) ⟨rfl,Int.le_refl _,by grind,by grind,by omega,λm h1 h2=>by grind⟩ ?_
 rintro⟨at_,c,v⟩ _ w8 ⟨rfl,c0,c1,aD,aC,d⟩;dsimp only at c0 c1 aD aC d⊢;refine⟨by decide,AB (λhle=> ?_) λaO=> ?_⟩
 .have C:=C c c0 hle;refine AU ⟨s,Fy Y,AB (λaN j=>AR rfl (h0 _ rfl (.inr (.inr (.inr λe=> ?_))) Y)) λaR=>⟨s,Fy Y,?_⟩⟩
  .obtain⟨y,hy,O⟩:=List.mem_map.1 (C e);obtain⟨j,hj⟩:=List.mem_iff_getElem?.1 hy;have aP:=(List.getElem?_eq_some_iff.1 hj).1;by_cases g:j<posC L (x/512)
   .have:=Hl hj g;omega
   .obtain⟨z,hz,T⟩:=d (x/512+(j-posC L (x/512):Nat)) (by omega) (by omega)
    grind
  .have hg:=List.getElem?_eq_getElem (show at_.toNat<L.length by omega);obtain⟨a,ha,aI,d1,_⟩:=K7 Y hg;generalize L[at_.toNat]=y at hg d1;rw[ha];simp only[AG];refine⟨⟨by omega,by omega⟩,_,d1,λj=>Gq (λaT=>h0 _ rfl (.inr (.inr (.inr λe=> ?_))) Y) λheq=> ?_⟩
   .obtain⟨y',hy,O⟩:=List.mem_map.1 (C e);have hc:=QC hI.Ho hy O;have:at_.toNat=posC L c:=by
     rcases Nat.lt_trichotomy at_.toNat (posC L c)with g|g|g
     .exfalso;have g1:=Hl hg g;by_cases g2:c=x/512
      .grind
      .obtain⟨z,hz,T⟩:=d (c-1) (by omega) (by omega);have g3:posC L (x/512)+(c-1-x/512).toNat<at_.toNat:=by omega
       have:=List.pairwise_iff_getElem.1 hI.Ho _ _ (by omega) (by omega) g3;rw[(List.getElem?_eq_some_iff.1 hz).2,(List.getElem?_eq_some_iff.1 hg).2]at this;omega
     .exact g
     .exfalso;by_cases g2:c=x/512
      .grind
      .obtain⟨z,hz,T⟩:=d (c-1) (by omega) (by omega);have:=Oz hI.Ho hz (n:=c) (by omega);omega
    grind
   .rw[AF (n:=at_+1),AM (n:=c+1)];refine⟨⟨by trivial,by omega,by omega,by omega,by omega,λm h1 h2=> ?_⟩,by omega⟩
    grind
 .refine hK _ _ ⟨λ_=> ?_,λ_=>rfl⟩ Y;have:cnt (l 0) x (x+n)=n:=by
   refine J λm h1 h2=>(hI.l0 m).2 ?_;obtain⟨z,hz,T⟩:=d (m/512) (by omega) (by omega)
   grind
  omega
def VQ(hI:WW l L U G)(H:Sat (Kf E r s L U G++Z) w){x n:Int}(hx:0<=x)(hn:0<=n)(aD:x+n<=34359738368){K:Int->Int->World->Prop}
  (hK: ∀w',Sat (Kf E r s L U G++Z) w'->K (n-cnt (l 1) x (x+n)) (cnt (l 2) x (x+n)) w'):F.CA E (some ⟨r,0,none⟩) x n K w:=by
 unfold F.CA T0.CA;rw[AM (n:=x+n)];have O: ∀{m:Iv},Ok m->cnt m x x=0:=λh=>(Dn h (Int.le_refl _)).2 λk h1 h2=>by omega
 refine AI (λst w'=>x<=st.2.2.1/\st.2.2.1<=x+n/\st.1=st.2.2.1-x-cnt (l 1) x st.2.2.1/\st.2.1=cnt (l 2) x st.2.2.1/\Sat (Kf E r s L U G++Z) w') (λst _=>(x+n-st.2.2.1).toNat)
  ⟨Int.le_refl _,by grind,by dsimp only;rw[O hI.LM];omega,by dsimp only;rw[O hI.Pj],H⟩ ?_
 rintro⟨a,g,p,v⟩ _ w2 ⟨y,p1,C,J,T⟩;dsimp only at y p1 C J⊢;subst C;subst J;have b1:=DM (l 1) x p;have b2:=DM (l 2) x p;have b3:=FF hI.LM (a:=x) (b:=p) (by omega);have b4:=FF hI.Pj (a:=x) (b:=p) (by omega);refine AB (λaA=>RR hI T (by omega) (by omega) λw7 r0 r1 r2 _ aB aC H7=> ?_) λY=> ?_
 .have s1:=JI hI.LM (a:=x) (k:=p) y;have s2:=JI hI.Pj (a:=x) (k:=p) y;rw[AM (n:=p+1),AM (n:=cnt (l 2) x p+1),AM (n:=p-x-cnt (l 1) x p+1)];refine AU (AS (λe j=>AS (λd=> ?_) λd=> ?_) λe j=>AS (λd=> ?_) λd=> ?_)
  all_goals dsimp only
  .grind
  .grind
  .grind
  grind
 .have:p=x+n:=by omega
  grind
def vT{x:Int×Nat}{U' G':Int->Bool}{i:Int}(h0:0<=i)(h1:i<512)(a g:Bool):
  ((flags 512 (λk=>U (x.1*512+k))++flags 512 (λk=>G (x.1*512+k))).set (0+i.toNat) (.bool a)).set (512+i.toNat) (.bool g)=
   flags 512 (λk=>if x.1*512+k=x.1*512+i then a else U (x.1*512+k))++flags 512 (λk=>if x.1*512+k=x.1*512+i then g else G (x.1*512+k)):=by
 rw[List.set_append_left _ _ (by rw[Ca];omega),List.set_append_right _ _ (by simp only[List.length_set,Ca];omega)];rw[show 512+i.toNat-((flags 512 λk=>U (x.1*512+k)).set (0+i.toNat) (.bool a)).length=0+i.toNat by simp only[List.length_set,Ca];omega];rw[Ns h0,Ns h0];have e: ∀(f:Int->Bool) (v:Bool),(flags 512 λj=>if j=i then v else f j)=flags 512 λk=>if x.1*512+k=x.1*512+i then v else f k:=λf v=>I4 λk _ _=>by grind
 rw[e,e]
def UA(hI:WW l L U G)(H:Sat (Kf E r s L U G++Z) w){x n:Int}(hx:0<=x)(hn:0<=n)(aR:x+n<=34359738368)(aF: ∀p,x<=p->p<x+n->mem (l 0) p)(a g:Bool){K:World->Prop}
  (hK: ∀w',Sat (Kf E r s L (λp=>if x<=p/\p<x+n then a else U p) (λp=>if x<=p/\p<x+n then g else G p)++Z) w'->K w'):F.Ck E (some ⟨r,0,none⟩) x n a g K w:=by
 unfold F.Ck T0.Ck;rw[AM (n:=x+n)];refine AI (λst w'=>x<=st.1/\st.1<=x+n/\Sat (Kf E r s L (λp=>if x<=p/\p<st.1 then a else U p) (λp=>if x<=p/\p<st.1 then g else G p)++Z) w') (λst _=>(x+n-st.1).toNat) ⟨Int.le_refl _,by omega,?_⟩ ?_
 .have e: ∀(f:Int->Bool) (v:Bool),(λp=>if x<=p/\p<x then v else f p)=f:=λf v=>by funext p;rw[if_neg (by omega)]
  dsimp only;rw[e,e];exact H
 rintro⟨p,v⟩ _ w2 ⟨p0,p1,H2⟩;dsimp only at p0 p1 H2⊢;refine AB (λaG=>⟨by decide,?_⟩) λaO=> ?_
 .rw[Int.tdiv_eq_ediv_of_nonneg (by omega),Int.tmod_eq_emod_of_nonneg (by omega),AM (n:=p/512),AM (n:=p+1)];refine MZ H2 λw6 ok A6 H6=> ?_;obtain⟨c,aE,aD⟩:=(hI.l0 p).1 (aF p p0 aG);have hc:=QC hI.Ho aE aD;obtain⟨aa,ha,aP,c1,c2⟩:=K7 H6 hc;simp only[AG];refine⟨s,Fy H6,?_⟩;rw[ha];simp only[AG,Int.toNat_natCast,Nat.mul_one];refine⟨⟨by omega,by omega⟩,_,c2,by decide,?_⟩;simp only[AG];refine⟨⟨by omega,by omega⟩,?_⟩;have hlen: ∀(A B:Int->Bool),(flags 512 A++flags 512 B).length=1024:=λA B=>by rw[List.length_append,Ca,Ca]
  refine Ab (O1 H6 hc) rfl (by grind) λaU d=> ?_;have Y:=(d.front 3 rfl).own;refine⟨s,(d.front 2 rfl).Af rfl,?_⟩;rw[ha];simp only[AG];refine⟨⟨by omega,by omega⟩,some ⟨c.2,0,none⟩,?_,by decide,?_⟩
  .rw[add_add];exact Y.cell ha (Qt L hc).2
  simp only[AG];refine⟨⟨by omega,by omega⟩,?_⟩;rw[add_eq c.2 0 512,Nat.zero_add];refine Ab d (o:=512) rfl (by grind) λaH J=>⟨⟨by omega,by omega,?_⟩,by omega⟩;have O:=vT (x:=c) (U:=λq=>if x<=q/\q<p then a else U q) (G:=λq=>if x<=q/\q<p then g else G q) (U':=U) (G':=G) (i:=p %512) (by omega) (by omega) a g;have e2:c.1*512+p %512=p:=by omega
  rw[e2]at O;rw[O]at J;have aM: ∀(f:Int->Bool) (v:Bool),(λq=>if q=p then v else if x<=q/\q<p then v else f q)=λq=>if x<=q/\q<p+1 then v else f q:=λf v=>by grind
  have T:Sat (T8 E (λq=>if x<=q/\q<p+1 then a else U q) (λq=>if x<=q/\q<p+1 then g else G q) c::
    Aa (T8 E (λq=>if x<=q/\q<p+1 then a else U q) (λq=>if x<=q/\q<p+1 then g else G q)) (L.eraseIdx (posC L (p/512)))::Cells r E.Cp [.slice s.base s.len s.cap]::Row E.A0 2 s (parts L)::Z) aH:=by
   have em:Aa (T8 E (λq=>if x<=q/\q<p+1 then a else U q) (λq=>if x<=q/\q<p+1 then g else G q)) (L.eraseIdx (posC L (p/512)))=Aa (T8 E (λq=>if x<=q/\q<p then a else U q) (λq=>if x<=q/\q<p then g else G q)) (L.eraseIdx (posC L (p/512))):=by
    refine Aa.congr λy hy=> ?_;obtain⟨j,C⟩:=List.mem_iff_getElem?.1 hy;have aQ:y.1≠p/512:=by
     intro e;rw[List.getElem?_eraseIdx]at C;have aJ:=QC hI.Ho (c:=y) (n:=p/512) (by split at C<;>exact List.mem_of_getElem? C) e;split at C
     .rename_i hjl;have:=Hl C hjl;omega
     .rename_i hjl;have h2:=(List.getElem?_eq_some_iff.1 C);obtain⟨h3,h4⟩:=h2;have:=List.pairwise_iff_getElem.1 hI.Ho (posC L (p/512)) (j+1) (by omega) h3 (by omega)
      grind
    unfold T8;congr 2<;>refine I4 λk k0 k1=> ?_<;>dsimp only
    .grind
    grind
   rw[em];unfold T8;have f1:(λk=>if x<=c.1*512+k/\c.1*512+k<p+1 then a else U (c.1*512+k))=λk=>if c.1*512+k=p then a else if x<=c.1*512+k/\c.1*512+k<p then a else U (c.1*512+k):=by grind
   have f2:(λk=>if x<=c.1*512+k/\c.1*512+k<p+1 then g else G (c.1*512+k))=λk=>if c.1*512+k=p then g else if x<=c.1*512+k/\c.1*512+k<p then g else G (c.1*512+k):=by grind
   rw[f1,f2];exact J
  exact(T.G5 hc).perm (List.Perm.trans (.swap _ _ _) (.cons _ (.swap _ _ _)))
 .have:p=x+n:=by omega
  grind
end
def WW.congr{l l':Nat->Iv}{L:CL}{U G:Int->Bool}(h:WW l L U G)(h0:l' 0=l 0)(h1:l' 1=l 1)(h2:l' 2=l 2):WW l' L U G:=
 ⟨h.Ho,h.dV,by rw[h0];exact h.cY,by rw[h1];exact h.LM,by rw[h2];exact h.Pj,by rw[h0];exact h.l0,by rw[h0,h1];exact h.l1,by rw[h0,h2];exact h.l2⟩
def Sat.vU{E:Env}{r:Nat}{l l':Nat->Iv}{Z:List Pr}{w:World}(H:Sat (Gg E r l::Z) w)(h0:l' 0=l 0)(h1:l' 1=l 1)(h2:l' 2=l 2):Sat (Gg E r l'::Z) w:=by
 obtain⟨s,L,U,G,hI,H⟩:=Sat.KW.1 H;exact Sat.KW.2 ⟨s,L,U,G,hI.congr h0 h1 h2,H⟩
def Ye{l:Nat->Iv}{x n:Int}: ¬(n=0∨34359738368<=x∨34359738368-x<n∨cnt (l 0) x (x+n)≠n)↔n≠0/\x<34359738368/\x+n<=34359738368/\cnt (l 0) x (x+n)=n:=by omega
section
variable{E:Env}{w:World}{Z:List Pr}{r:Nat}{l:Nat->Iv}
def UB(H:Sat (Gg E r l::Z) w){x n:Int}(C:0<=x)(J:x<18446744073709551616)(v:0<=n)(y:n<18446744073709551616){K:Int->Int->World->Prop}
  (aE:At l x n true 32≠0-> ∀w',Sat (Gg E r l::Z) w'->K 0 (At l x n true 32) w')
  (j:At l x n true 32=0-> ∀w',(∀l',l' 0=l 0->l' 1=Dk (l 1) x (x+n)->l' 2=Dk (l 2) x (x+n)->Sat (Gg E r l'::Z) w')->K (cnt (l 2) x (x+n)) 0 w'):
  F.Bw E (some ⟨r,0,none⟩) x n K w:=by
 obtain⟨s,L,U,G,hI,H⟩:=Sat.KW.1 H;have back: ∀{w'},Sat (Kf E r s L U G++Z) w'->Sat (Gg E r l::Z) w':=λh=>Sat.KW.2 ⟨s,L,U,G,hI,h⟩;unfold F.Bw T0.Bw;refine T9 hI H C J v y λw2 ok A6 O=> ?_;refine AS (λe=> ?_) λe=> ?_
 .have hb:n=0∨34359738368<=x∨34359738368-x<n∨cnt (l 0) x (x+n)≠n:=Classical.byContradiction λg=>by grind
  have aB:At l x n true 32=10:=by unfold At;omega
  grind
 .have hg:=A6.1 (by simpa using e);clear A6;obtain⟨g1,g2,g3,g4⟩:=Ye.1 hg;have d:=(El hI.cY (a:=x) (b:=x+n) (by omega)).1 (by omega);have c1:=FF hI.LM (a:=x) (b:=x+n) (by omega);refine VQ hI O C v (by omega) λw5 T=>AB (λh=> ?_) λh=> ?_
  .have aC:At l x n true 32=32:=by unfold At;grind
   grind
  .have e0:At l x n true 32=0:=by unfold At;grind
   refine UA hI T C v (by omega) d true false λw6 Y=>j e0 w6 λl' h0 h1 h2=>Sat.KW.2 ⟨s,L,_,_,⟨hI.Ho,hI.dV,by rw[h0];exact hI.cY,by rw[h1];exact GX hI.LM (by omega),by rw[h2];exact GX hI.Pj (by omega),by rw[h0];exact hI.l0,λp=> ?_,λp=> ?_⟩,Y⟩
   .rw[h0,h1,Ek (by omega),hI.l1]
    grind
   .rw[h0,h2,Ek (by omega),hI.l2]
    grind
def UC(H:Sat (Gg E r l::Z) w)(O: ∀p,mem (l 2) p->mem (l 1) p){x n:Int}{gone:Bool}(d:0<=x)(J:x<18446744073709551616)(y:0<=n)(C:n<18446744073709551616){K:Int->World->Prop}
  (aF:At l x n false 31≠0-> ∀w',Sat (Gg E r l::Z) w'->K (At l x n false 31) w')
  (v:At l x n false 31=0-> ∀w',(∀l',l' 0=l 0->l' 1=Dl (l 1) x (x+n)->l' 2=(if gone then Dl (l 2) x (x+n)else l 2)->Sat (Gg E r l'::Z) w')->K 0 w'):
  F.Bf E (some ⟨r,0,none⟩) x n gone K w:=by
 obtain⟨s,L,U,G,hI,H⟩:=Sat.KW.1 H;have back: ∀{w'},Sat (Kf E r s L U G++Z) w'->Sat (Gg E r l::Z) w':=λh=>Sat.KW.2 ⟨s,L,U,G,hI,h⟩;unfold F.Bf T0.Bf;refine T9 hI H d J y C λw2 ok A6 T=> ?_;refine AS (λe=> ?_) λe=> ?_
 .have hb:n=0∨34359738368<=x∨34359738368-x<n∨cnt (l 0) x (x+n)≠n:=Classical.byContradiction λg=>by grind
  have aC:At l x n false 31=10:=by unfold At;omega
  grind
 .have hg:=A6.1 (by simpa using e);clear A6;obtain⟨g1,g2,g3,g4⟩:=Ye.1 hg;have j:=(El hI.cY (a:=x) (b:=x+n) (by omega)).1 (by omega);have c1:=DM (l 1) x (x+n);refine VQ hI T d y (by omega) λw5 Y=>AB (λh=> ?_) λh=> ?_
  .have aD:At l x n false 31=31:=by unfold At;grind
   grind
  .have c0:cnt (l 1) x (x+n)=0:=by omega
   have e0:At l x n false 31=0:=by unfold At;grind
   have aG:=(Dn hI.LM (a:=x) (b:=x+n) (by omega)).1 c0;have a1:=FG hI.LM (a:=x) (b:=x+n) (by omega) d (by omega);have a2:=FG hI.Pj (a:=x) (b:=x+n) (by omega) d (by omega);refine UA hI Y d y (by omega) j false gone λw6 H6=>v e0 w6 λl' h0 h1 h2=>Sat.KW.2 ⟨s,L,_,_,⟨hI.Ho,hI.dV,by rw[h0];exact hI.cY,by rw[h1];exact a1.1,?_,by rw[h0];exact hI.l0,λp=> ?_,λp=> ?_⟩,H6⟩
   .rw[h2];cases gone
    .exact hI.Pj
    grind
   .rw[h0,h1,a1.2.1,hI.l1]
    grind
   .rw[h0,h2];by_cases e:x<=p/\p<x+n
    .grind
    .rw[if_neg e];cases gone
     .rw[if_neg (by decide)];exact hI.l2 p
     .rw[if_pos rfl,a2.2.1,hI.l2];simp[e]
def R6(l:Iv)(n cur run:Int):Prop:=0<=run/\run<n/\RI l (cur-run) run/\ ∀p,RI l p n->cur-run<=p
def R6.used{l:Iv}{n cur run:Int}(h:R6 l n cur run)(d: ¬mem l cur):R6 l n (cur+1) 0:=by
 obtain⟨h1,h2,v,j⟩:=h;refine⟨by omega,by omega,λm a b=>by omega,λp hp=>Classical.byContradiction λg=>d (hp cur (by omega) ?_)⟩;have:=j p hp;omega
def R6.free{l:Iv}{n cur run:Int}(h:R6 l n cur run)(hm:mem l cur):RI l (cur+1-(run+1)) (run+1)/\ ∀p,RI l p n->cur+1-(run+1)<=p:=by
 obtain⟨h1,h2,d,j⟩:=h;refine⟨λm a b=> ?_,λp hp=>by have:=j p hp;omega⟩;by_cases e:m=cur
 .rw[e];exact hm
 .exact d m (by omega) (by omega)
def R6.jump{l:Iv}{n cur run d:Int}(h:R6 l n cur run)(J:cur<=d)(j: ∀m,cur<=m->m<d-> ¬mem l m)(v:cur<d):R6 l n d 0:=by
 obtain⟨h1,h2,C,y⟩:=h;refine⟨by omega,by omega,λm a b=>by omega,λp hp=>Classical.byContradiction λg=> ?_⟩;have:=y p hp;by_cases e:cur<=p
 .exact j p e (by omega) (hp p (by omega) (by omega))
 .exact j cur (by omega) v (hp cur (by omega) (by omega))
def UD(H:Sat (Gg E r l::Z) w){n:Int}(hn:0<=n)(bB:n<18446744073709551616){K:Int->Bool->World->Prop}
  (hK: ∀w',Sat (Gg E r l::Z) w'->K ((if n=0 then none else findL (l 1) n).getD 0) (if n=0 then none else findL (l 1) n).isSome w'):F.E0 E (some ⟨r,0,none⟩) n K w:=by
 obtain⟨s,L,U,G,hI,H⟩:=Sat.KW.1 H;have aN:K ((if n=0 then none else findL (l 1) n).getD 0) (if n=0 then none else findL (l 1) n).isSome w:=hK w (Sat.KW.2 ⟨s,L,U,G,hI,H⟩);clear hK;unfold F.E0;simp only[AG,Nat.mul_one];have hlen:=Nb H;have a8:=O0 hI.Ho hI.dV;have aP: ∀c∈L,∀k,0<=k->k<512->(mem (l 1) (c.1*512+k)↔U (c.1*512+k)=false):=λc hc k h0 h1=>by
  rw[hI.l1];exact⟨λh=>h.2,λh=>⟨(hI.l0 _).2 ⟨c,hc,by omega⟩,h⟩⟩
 have aC: ∀(i:Nat) c,L[i]? =some c-> ∀B:Int,(∀j c',j<i->L[j]? =some c'->(c'.1+1)*512<=B)-> ∀m,B<=m->m<c.1*512-> ¬mem (l 1) m:=λi c hc B hB m h1 h2 hm=>by
  obtain⟨y,hy,aT⟩:=(hI.l0 m).1 ((hI.l1 m).1 hm).1;obtain⟨j,hj⟩:=List.mem_iff_getElem?.1 hy;by_cases g:j<i
  .grind
  .have h3:c.1<=y.1:=by
    rcases Nat.lt_or_eq_of_le (Nat.le_of_not_lt g)with g2|g2
    .have:=List.pairwise_iff_getElem.1 hI.Ho i j (List.getElem?_eq_some_iff.1 hc).1 (List.getElem?_eq_some_iff.1 hj).1 g2
     grind
    grind
   omega
 refine AI (λst w'=>w'=w/\ ∃i:Nat,st.2.2.1=(i:Int)/\i<=L.length/\((i=0/\st.1=0)∨(0<i/\(∃c,L[i-1]? =some c/\c.1=st.2.1)/\0<n/\R6 (l 1) n ((st.2.1+1)*512) st.1))) (λst _=>(L.length-st.2.2.1).toNat) ⟨rfl,0,rfl,Nat.zero_le _,.inl ⟨rfl,rfl⟩⟩ ?_;rintro⟨run,last,i',v⟩ _ w2 ⟨rfl,i,hi,a6,hc⟩;dsimp only at hi hc⊢;subst hi;refine⟨s,Fy H,AB (λbA=>AB (λY=> ?_) λbC=> ?_) λa4=> ?_⟩
 .have hl:i<L.length:=by omega
  have hg:=List.getElem?_eq_getElem hl;obtain⟨a,ha,a9,c1,c2⟩:=K7 H hg;generalize L[i]=x at hg c1 c2;have aI:=List.mem_of_getElem? hg;have bF:=hI.dV x aI;have aB: ∀(B:Int),(i=0∨ ∃c,L[i-1]? =some c/\(c.1+1)*512<=B)-> ∀j c',j<i->L[j]? =some c'->(c'.1+1)*512<=B:=λB hB j c' hj aE=>by
   rcases hB with h|⟨c,J,aF⟩
   .omega
   .by_cases e:j=i-1
    .subst e;rw[J]at aE;cases aE;exact aF
    .have:=List.pairwise_iff_getElem.1 hI.Ho j (i-1) (List.getElem?_eq_some_iff.1 aE).1 (List.getElem?_eq_some_iff.1 J).1 (by omega)
     grind
  rw[AF (n:=(i:Int)+1)];have aA:(0:Int)<=(i:Int)/\(i:Int)<(s.len:Int):=⟨by omega,by omega⟩;refine Jy (λst w'=>w'=w2/\R6 (l 1) n (x.1*512) st.1) ?_ ?_
  .have hzero:i=0->R6 (l 1) n (x.1*512) 0:=λe=>⟨by omega,by omega,λm a b=>by omega,λp hp=>Classical.byContradiction λg=>by
    have h1:=hp p (by omega) (by omega);have h2:=SE hI.LM h1;exact aC i x hg 0 (aB 0 (.inl e)) p h2 (by omega) h1⟩
   refine AU (AB (λa7=>⟨s,Fy H,?_⟩) λa5 j=>AP rfl ?_)
   .rw[ha];simp only[AG,Int.toNat_natCast];refine⟨aA,_,c1,λj=> ?_⟩;rcases hc with ⟨h,_⟩|⟨_,⟨c,J,aF⟩,_,C⟩
    .omega
    have a3:=hI.dV c (List.mem_of_getElem? J);rw[AM (n:=last+1)];have aZ:last+1<=x.1:=by
     have:=List.pairwise_iff_getElem.1 hI.Ho (i-1) i (by omega) hl (by omega)
     grind
    refine Gq (λaQ=>⟨by trivial,?_⟩) λheq=>⟨by trivial,?_⟩
    .exact C.jump (by omega) (aC i x hg _ (aB _ (.inr ⟨c,J,by omega⟩))) (by omega)
    .rw[heq];exact C
   .have e:i=0:=by omega
    grind
  .rintro⟨a1,v⟩ _ w8 ⟨rfl,C⟩;dsimp only at C⊢;refine⟨s,Fy H,?_⟩;rw[ha];simp only[AG,Int.toNat_natCast];refine⟨aA,_,c1,?_⟩;refine AI (λst w'=>w'=w8/\0<=st.2.1/\st.2.1<=512/\R6 (l 1) n (x.1*512+st.2.1) st.1) (λst _=>(512-st.2.1).toNat) ⟨rfl,by grind,by grind,by rw[show x.1*512+(0:Int)=x.1*512 by omega];exact C⟩ ?_;rintro⟨aJ,k,v⟩ _ bI ⟨rfl,k0,k1,d⟩;dsimp only at k0 k1 d⊢;refine AB (λT=> ?_) λaW=> ?_
   .have hU:=VP H hg (i:=k) k0 T;rw[AM (n:=k+1)];have a0:=d.2.1;have aR:=d.1;refine AU ⟨s,Fy H,?_⟩;rw[ha];simp only[AG];refine⟨aA,_,c2,?_⟩;simp only[AG];refine⟨⟨k0,T⟩,_,hU,AS (λhu j=> ?_) λhu j=> ?_⟩
    .refine Bc (λe=>by omega) λ_=>⟨⟨by trivial,by omega,by omega,?_⟩,by omega⟩;have:=d.used (λh=>by grind)
     grind
    .have O:=d.free ((aP x aI k k0 T).2 hu);rw[AM (n:=aJ+1)];refine Bc (λe=>⟨s,Fy H,?_⟩) λaQ=>⟨⟨by trivial,by omega,by omega,?_⟩,by omega⟩
     .rw[ha];simp only[AG];rw[e]at O;refine⟨aA,_,c1,AY λt ht=> ?_⟩;have bD:0<=x.1*512+k+1-n:=SE hI.LM (O.1 _ (Int.le_refl _) (by omega));rw[AM (n:=x.1*512),AM (n:=x.1*512+k),AM (n:=x.1*512+k+1),AM (n:=x.1*512+k+1-n)]at ht;have hf:findL (l 1) n=some t:=by
       cases hf:findL (l 1) n with
       | none=>exact absurd O.1 (MN hI.LM Y hf _)
       | some q=>
        obtain⟨g1,g2⟩:=Kw hI.LM Y hf;have h1:=g2 _ O.1;have h2:=O.2 q g1;congr 1;omega
      grind
     .rw[show x.1*512+(k+1)=x.1*512+k+1 by omega];exact⟨by omega,by omega,O.1,O.2⟩
   .have e:k=512:=by omega
    subst e;refine⟨⟨by trivial,i+1,by omega,by omega,.inr ⟨by omega,⟨x,by grind,by trivial⟩,Y,?_⟩⟩,by omega⟩;rw[show(x.1+1)*512=x.1*512+512 by omega];exact d
 .have e:n=0:=by omega
  grind
 .have e:i=L.length:=by omega
  by_cases en:n=0
  .grind
  .rw[if_neg en]at aN;have hf:findL (l 1) n=none:=by
    cases hf:findL (l 1) n with
    | none=>rfl
    | some q=>
     exfalso;obtain⟨g1,_⟩:=Kw hI.LM (by omega) hf;have h1:=g1 (q+n-1) (by omega) (by omega);obtain⟨y,hy,aT⟩:=(hI.l0 _).1 ((hI.l1 _).1 h1).1;obtain⟨j,hj⟩:=List.mem_iff_getElem?.1 hy;have aO:=(List.getElem?_eq_some_iff.1 hj).1;rcases hc with ⟨h,_⟩|⟨_,⟨c,J,aF⟩,_,C⟩
     .omega
     .have h5:=C.2.2.2 q g1;have h6:=C.2.1;have h7:y.1<=c.1:=by
       by_cases e2:j=i-1
       .grind
       .have:=List.pairwise_iff_getElem.1 hI.Ho j (i-1) aO (List.getElem?_eq_some_iff.1 J).1 (by omega)
        grind
      omega
   grind
def Yf(H:Sat (Gg E r l::Z) w){n:Int}(T:0<=n)(j:n<18446744073709551616)(J: ∀p,n≠0->findL (l 1) n=some p->At l p n true 32=0/\0<=p/\p+n<=34359738368){K:Int->Int->Int->World->Prop}
  (v:n=0->K 0 0 1 w)(y:n≠0->findL (l 1) n=none-> ∀w',Sat (Gg E r l::Z) w'->K 0 0 30 w')
  (C:n≠0-> ∀p,findL (l 1) n=some p-> ∀w',(∀l',l' 0=l 0->l' 1=Dk (l 1) p (p+n)->l' 2=Dk (l 2) p (p+n)->Sat (Gg E r l'::Z) w')->K p (cnt (l 2) p (p+n)) 0 w'):
  F.CD E (some ⟨r,0,none⟩) n K w:=by
 unfold F.CD T0.CD;refine Bc v λd=>UD H T j λY O=> ?_;rw[if_neg d];cases hf:findL (l 1) n with
 | none=>exact AR rfl (y d hf Y O)
 | some p=>
  obtain⟨h1,h2,h3⟩:=J p d hf;refine AP rfl (UB O h2 (by show p<_;omega) T j (λh=>absurd h1 h) λ_ w' h=>C d p hf w' h)
end
end Go.Sh

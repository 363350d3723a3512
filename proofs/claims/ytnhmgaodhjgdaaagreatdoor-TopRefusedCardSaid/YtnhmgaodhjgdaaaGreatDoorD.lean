/- The law's walk, joined; what is lifted of it. No further condition. -/
import Derived.Test.YtnhmgaodhjgdaaaGreatDoorG
import Derived.Test.YtnhmgaodhjgdaaaGreatDoorB
import Derived.Test.YtnhmgaodhjgdaaaGreatDoorK
import Derived.Test.YtnhmgaodhjgdaaaGreatDoorQ
import Derived.Test.YtnhmgaodhjgdaaaGreatDoorW
import Derived.Test.YtnhmgaodhjgdaaaGreatDoorJ
import Derived.Test.YtnhmgaodhjgdaaaGreatDoorA
import Derived.Test.YtnhmgaodhjgdaaaGreatDoorCards
import Derived.Test.YtnhmgaodhjgdaaaGreatDoorTie
import Derived.WalkKit
import Derived.ProofKit
import Derived.OpenShut
import Derived.Deep.DeepHandedRow
import Derived.Lib.LaidTab
set_option linter.all false
set_option maxRecDepth 50000
set_option maxHeartbeats 16000000
namespace Go.Sh
section
variable{E:Env}{w:World}
def eX(hE:FN E)(hH:Rx E){Y:List Pr}(H:Sat Y w)(hT: ∀T,Sat Y T->DJ E.AB T){K:Bool->World->Prop}(hK: ∀T,Sat Y T->K true T):F.Dh E K w:=by
 unfold F.Dh T0.Dh;refine Sw (rf:=[]) (ps:=2) H (λw' _=>(show rowAt w' none 0 []from rfl)) rfl (λw' _=>(show rowAt w' none 0 (F8 [])from rfl)) rfl (by decide) (λw' _=>(show rowAt w' none 0 []from rfl)) rfl (by decide) (by decide) λrb g S w3 hN H3=> ?_;obtain⟨t,c0,c1,rfl⟩:=hN.two;refine AZ (AO rfl λjj=>AO rfl ?_);have aM:FM (Jw t (Ta 0) (Ta 1) (⟨none,0,0⟩,[]) (⟨none,0,0⟩,[]) [] [] (-1) (-1) (SW.new (HS.new (Lo [] [] []))) (c0,⟨0,λ_=>0,0,0⟩) (c1,⟨1,λ_=>0,0,0⟩) 0 0):=Ec rfl rfl (by simp) (by simp) (by simp);refine Od H3 aM (i:=0) (q:=(⟨none,0,0⟩,[])) rfl rfl (by decide) ⟨by show(0:Nat)<_;decide,by show(0:Nat)<_;decide⟩ λg4 s4 b0 w4 aN H4=> ?_;refine Od H4 aN (i:=1) (q:=(⟨none,0,0⟩,[])) rfl rfl (by decide) ⟨by show(1:Nat)<_;decide,by show(0:Nat)<_;decide⟩ λg5 s5 b1 w5 bE H5=> ?_;refine xH (t:=t) (b0:=b0) (b1:=b1) (c0:=c0) (c1:=c1) hE hT (f:=0) ⟨rfl,s4,s5,rfl⟩ H5 λg6 S6 f6 w6 a5 H6=>AO rfl ?_;obtain⟨_,s0,s1,W,U,ma,EP,EV,b,m,a,hF,rfl⟩:f6=1/\ ∃s0 s1 W U ma EP EV b m a,F9 W [(c0,(K0 0).hold 5 true EP),(c1,K0 1)] U 3 EP EV b [⟨EP,m,a,48⟩,⟨EV,0,b,106496⟩] (λj=>FK j||j==m)/\S6=Jw t (tw 0 0 0 5 1) (tw 1 1 0 0 13) (s0,[]) (s1,[]) [yr (ya b0) a 48,yr (yb b1) b 106496] [1,0] (-1) (-1) W (c0,(K0 0).hold 5 true EP) (c1,K0 1) ma 0:=by
  obtain⟨h1,s0,s1,W,ma,U,EP,EV,b,m,a,hF,e⟩:=a5;exact⟨h1,s0,s1,W,U,ma,EP,EV,b,m,a,hF,e⟩
 obtain⟨xb,aS,bS,a6,bT,bU⟩:=hF.sb;have a7:=(hF.tp.inv.sp EV xb aS).1.ba;have bV:=(hF.tp.inv.sp EV xb aS).1.pg;rw[a6]at a7;have aC: ∀{x y z:Int},∀v∈([.int .u64 x,.int .u64 y,.int .i64 z]:List Value),v.oneCell'=true:=by intro x y z v hv;simp only[List.mem_cons,List.not_mem_nil,or_false]at hv;rcases hv with rfl|rfl|rfl<;>rfl
 refine Jt (k:=0) (y:=yr (ya b0) a 48) H6 rfl rfl λw7 H7=> ?_;refine AJ (vs:=[.int .u64 0,.int .u64 0,.int .i64 0]) H7 λJ w8 H8 _=>CN (news:=[.int .u64 a,.int .u64 48,.int .i64 0]) H8 rfl aC λw9 H9=> ?_;refine Jt (k:=1) (y:=yr (yb b1) b 106496) (JR H9) rfl rfl λbX aW=> ?_;refine AJ (vs:=[.int .u64 0,.int .u64 0,.int .i64 0]) aW λu bY aX _=>CN (news:=[.int .u64 b,.int .u64 106496,.int .i64 0]) aX rfl aC λbZ aG=> ?_;refine⟨_,aG.AU rfl,AJ (vs:=[.int .u64 (u64 (b+5000))]) aG λaB b4 aH _=> ?_⟩;rw[AR (n:=b+5000)]at aH;have mv: ∀{A B:Pr} {L Z:List Pr} {w'},Sat (A::B::(L++Z)) w'->Sat (L++A::B::Z) w':=λh=>h.perm ((List.perm_middle.trans (List.perm_middle.cons _)).symm);have aY:=mv aH;have aO:FM (Jw t (tw 0 0 0 5 1) (tw 1 1 0 0 13) (s0,[]) (s1,[]) [yr (ya b0) a 48,yr (yb b1) b 106496] [1,0] (-1) (-1) W (c0,(K0 0).hold 5 true EP) (c1,K0 1) ma 0):=Ec rfl rfl (by simp) (by simp) (by simp);refine Z9 aY aO (i:=0) (q:=(s0,[])) rfl rfl (by decide) ⟨by show(2:Nat)<_;decide,by show(0:Nat)<_;decide⟩ λg15 s2 X3 b2 b5 a9 aE aZ=> ?_;refine Od aZ aE (i:=0) (q:=(X3,[2])) rfl rfl (by decide) ⟨by show(3:Nat)<_;decide,by show(1:Nat)<_;decide⟩ λg16 UG b3 bB bA a0=> ?_
 let x:Fx:=⟨t,b0,b1,b2,b3,c0,c1,EP,EV,b,a,m,s2,ma⟩
 let S0:Cr:=Jw t (tv 0 0 0 0) (tw 1 1 0 0 13) (UG,[2,3]) (s1,[]) (x.y (yc b2 s2) (yw b3)) [1,0] (-1) (-1) W (c0,(K0 0).hold 5 true EP) (c1,K0 1) ma 0
 have aI:Sat (AA E rb g16 S0++Row E.AE 1 s2 (ints .u64 [b+5000])::Cells aB E.AE [.int .u64 (b+5000)]::Cells u E.Aj [.int .u64 b,.int .u64 106496,.int .i64 0]::Cells J E.Aj [.int .u64 a,.int .u64 48,.int .i64 0]::Y) bB:=a0;refine AH ⟨_,G7 aI,?_⟩;refine MN (S:=S0) hH aI (U:=U) hF.tp (show(2:Nat)<=1000000 by decide) λxP b6 aP a1=> ?_;have Hd:=a1.drew;have d: ∀{g' S' w'},Sat (AA E rb g' S'++Row E.AE 1 s2 (ints .u64 [b+5000])::Cells aB E.AE [.int .u64 (b+5000)]::Cells u E.Aj [.int .u64 b,.int .u64 106496,.int .i64 0]::Cells J E.Aj [.int .u64 a,.int .u64 48,.int .i64 0]::Y) w'->
  w'.cell? (Addr.mk u 0 none)=some (.int .u64 b)/\w'.cell? ((Addr.mk u 0 none).add 1)=some (.int .u64 106496)/\w'.cell? ((Addr.mk J 0 none).add 1)=some (.int .u64 48):=λh=>
  ⟨(h.front 14 rfl:Sat (Cells u E.Aj _::_) _).AU rfl,(h.front 14 rfl:Sat (Cells u E.Aj _::_) _).cell (o:=0) (m:=1) rfl,(h.front 15 rfl:Sat (Cells J E.Aj _::_) _).cell (o:=0) (m:=1) rfl⟩
 refine Aa rfl (Aa rfl (Aa (by rw[aP];rfl) ⟨_,(d Hd).2.2,Aa rfl ⟨_,(d Hd).2.1,Aa rfl ?_⟩⟩));have aL: ∀w',Sat (Row E.AE 1 s2 (ints .u64 [b+5000])::Cells aB E.AE [.int .u64 (b+5000)]::Cells u E.Aj [.int .u64 b,.int .u64 106496,.int .i64 0]::Cells J E.Aj [.int .u64 a,.int .u64 48,.int .i64 0]::Y) w'->DJ E.AB w':=λw' h=>hT w' h.tail.tail.tail.tail;have a4: ∀w',Sat (Row E.AE 1 s2 (ints .u64 [b+5000])::Cells aB E.AE [.int .u64 (b+5000)]::Cells u E.Aj [.int .u64 b,.int .u64 106496,.int .i64 0]::Cells J E.Aj [.int .u64 a,.int .u64 48,.int .i64 0]::Y) w'->rowAt w' x.s2.base x.s2.len (ints .u64 [x.b+5000]):=λw' h=>by
  have:=h.KE;rwa[Nat.mul_one]at this
 refine eW (Scr:=NJ x) (N:=9) hE (by decide) ⟨rfl,UG,s1,W,U,_,hF,rfl⟩ Hd (λk hk=> ?_) (λf S' hs=> ?_) λg19 bO f19 b7 aK aA=> ?_
 .match k,hk with
  | 0,_=>exact wav0 hE
  | 1,_=>exact wav1 hE
  | 2,_=>exact wav2 hE
  | 3,_=>exact wav3 hE hH a4 a9
  | 4,_=>exact wav4 hE
  | 5,_=>exact wav5 hE aL
  | 6,_=>exact wav6 hE
  | 7,_=>exact wav7 hE aL
  | 8,_=>exact wav8 hE
  | n+9,hk=>exact absurd hk (by omega)
 .obtain⟨_,_,_,_,_,_,_,_,_,_,_,rfl⟩:=hs;exact⟨Ec rfl rfl (by simp) (by simp) (by simp[Fx.y]),rfl⟩
 obtain⟨_,fN,xR,W2,U2,M2,C0,C1,nn,cy,aJ,rfl⟩:=aK;have aF:FM (Jw x.t (tv 3 0 0 2) (tw 1 1 0 0 13) (fN,[]) (xR,[]) (x.y (yr (yc x.b2 x.s2) 0 nn) (yr (yw x.b3) 0 2)) [1,0,2,3] (-1) (-1) W2 C0 C1 x.ma cy):=Ec rfl rfl (by simp) (by simp) (by simp[Fx.y]);refine⟨(d aA).2.1,(d aA).2.2,Aa rfl (AH ⟨_,G7 aA,?_⟩)⟩;refine Oe (S:=Jw x.t (tv 3 0 0 2) (tw 1 1 0 0 13) (fN,[]) (xR,[]) (x.y (yr (yc x.b2 x.s2) 0 nn) (yr (yw x.b3) 0 2)) [1,0,2,3] (-1) (-1) W2 C0 C1 x.ma cy) hH aA aJ λsR b8 aQ _ O=>⟨(d O).2.1,(d O).2.2,Aa (by rw[aQ];rfl) (AH ⟨_,G7 O,_,(d O).1,?_⟩)⟩;refine Oe (S:=Jw x.t (tv 3 0 0 2) (tw 1 1 0 0 13) (fN,[]) (xR,[]) (x.y (yr (yc x.b2 x.s2) 0 nn) (yr (yw x.b3) 0 2)) [1,0,2,3] (-1) (-1) W2 C0 C1 x.ma cy) hH O aJ λVY bC aR ⟨p,hp,hc⟩ H23=>⟨(d H23).1,(d H23).2.1,(d H23).2.2,E5 hp ⟨⟨by decide,by rw[aR];decide⟩,_,hc,Aa (beq_self_eq_true _) ?_⟩⟩;refine Jr hE H23 aF ⟨hc,(d H23).1,(d H23).2.1,(d H23).2.2,?_⟩;exact hK bC H23.tail.tail.tail.tail.tail.tail.tail.tail.tail.tail.tail.tail.tail.tail.tail.tail
def TI(hE:FN E)(d:Rx E)(v:DJ E.AB w)
  {a0 a2 a:AW}{a1:Int}{T:Nat->Bool}{z2 z3:Nat->Int}(h0:Wo w .bool a0 T)(e:Wo w (.int .u64) a2 z2)(m:Wo w (.int .i64) a z3)
  {K:Bool->World->Prop}(u: ∀w',Ext AN w w'->K true w'):F.BO E a0 a1 a2 a K w:=
 Xx hE d v (λY w' h O K' J=>eX hE d h O J) h0 e m u
end
end Go.Sh
namespace Go.Sh
open Go.Proofs
def envS:EnvS env where
 at1:=by
  intro i p1 a K w h;refine⟨(gA #[.int .i64 i,.pointer p1,.pointer a] w (λv w'=> ∃b,v= .bool b/\K b w') EW ?_).1,(gA #[.int .i64 i,.pointer p1,.pointer a] w (λv w'=> ∃b,v= .bool b/\K b w') EW ?_).2⟩<;>
  exact(show F.Du env i p1 a (λb w'=> ∃d,Value.bool b= .bool d/\K d w') w from oV (λb w' h=>⟨b,rfl,h⟩) h)
 mono:=Ym
def envA:EnvA env where
 toEnvS:=envS
 vE:=by
  intro x y p1 a R w h;refine⟨(gC #[.int .u64 x,.int .u64 y,.pointer p1,.pointer a] w R EW ?_).1,(gC #[.int .u64 x,.int .u64 y,.pointer p1,.pointer a] w R EW ?_).2⟩<;>
  exact h
def envW:EnvW env where
 toEnvA:=envA
 qC:=by
  intro i p1 a R w h;refine⟨(gB #[.int .i64 i,.pointer p1,.pointer a] w R EW ?_).1,(gB #[.int .i64 i,.pointer p1,.pointer a] w R EW ?_).2⟩<;>
  exact h
def envC:EnvC env where
 toEnvW:=envW
 swept1:=by
  intro a p k n R w h;refine⟨(gF #[.pointer a,.agg ⟨[.int .i64 p,.int .i64 k,.bool n]⟩] w R EW ?_).1,(gF #[.pointer a,.agg ⟨[.int .i64 p,.int .i64 k,.bool n]⟩] w R EW ?_).2⟩<;>
  exact h
 qX:=by
  intro a p k n R w h;refine⟨(gG #[.pointer a,.agg ⟨[.int .i64 p,.int .i64 k,.bool n]⟩] w R EW ?_).1,(gG #[.pointer a,.agg ⟨[.int .i64 p,.int .i64 k,.bool n]⟩] w R EW ?_).2⟩<;>
  exact h
 full1:=by
  intro a p k n R w h;refine⟨(gH #[.pointer a,.agg ⟨[.int .i64 p,.int .i64 k,.bool n]⟩] w R EW ?_).1,(gH #[.pointer a,.agg ⟨[.int .i64 p,.int .i64 k,.bool n]⟩] w R EW ?_).2⟩<;>
  exact h
 fresh1:=by
  intro a p k n R w h;refine⟨(gI #[.pointer a,.agg ⟨[.int .i64 p,.int .i64 k,.bool n]⟩] w R EW ?_).1,(gI #[.pointer a,.agg ⟨[.int .i64 p,.int .i64 k,.bool n]⟩] w R EW ?_).2⟩<;>
  exact h
def envK:EnvK env where
 toEnvC:=envC
 wK:=by
  intro a b c R w h;refine⟨(gE #[.pointer a,.pointer b,.pointer c] w R EW ?_).1,(gE #[.pointer a,.pointer b,.pointer c] w R EW ?_).2⟩<;>
  exact h
def envH:Rx env where
 toEnvA:=envA
 pX:=by
  intro x y p R w h;refine⟨(oL #[.int .i64 x,.int .i64 y,.pointer p] w R EW ?_).1,(oL #[.int .i64 x,.int .i64 y,.pointer p] w R EW ?_).2⟩<;>
  exact h
def sJ{E:Env}{i:Int}{p1 d:Option Addr}{w:World}{K a:Bool->World->Prop}(O: ∀b w',K b w'->a b w')(h:F.Gc E i p1 d K w):F.Gc E i p1 d a w:=by
 unfold F.Gc at h⊢;obtain⟨q1,rfl,e,m,h⟩:=HF h;obtain⟨q3,u,hi,T,v,h⟩:=HF h;obtain⟨q5,rfl,Y,J,h⟩:=HF h;refine⟨e,m,?_⟩;show NC e.base _;rw[u];exact⟨hi,T,v,Y,J,O _ _ h⟩
def envT:FN env where
 toEnvK:=envK
 of1:=by
  intro i p1 a K w h;refine⟨(XF #[.int .i64 i,.pointer p1,.pointer a] w (λv w'=> ∃b,v= .bool b/\K b w') EW ?_).1,(XF #[.int .i64 i,.pointer p1,.pointer a] w (λv w'=> ∃b,v= .bool b/\K b w') EW ?_).2⟩<;>
  exact(show F.Gc env i p1 a (λb w'=> ∃d,Value.bool b= .bool d/\K d w') w from sJ (λb w' h=>⟨b,rfl,h⟩) h)
 yH:=by
  intro p R w h;refine⟨(oU #[.pointer p] w R EW ?_).1,(oU #[.pointer p] w R EW ?_).2⟩<;>
  exact h
 rQ:=by
  intro p R w h;refine⟨(bD #[.pointer p] w R EW ?_).1,(bD #[.pointer p] w R EW ?_).2⟩<;>
  exact h
 Zr:=by
  intro r t R w h;refine⟨(bE #[.pointer r,.pointer t] w R EW ?_).1,(bE #[.pointer r,.pointer t] w R EW ?_).2⟩<;>
  exact h
 eA:=by
  intro r t R w h;refine⟨(bF #[.pointer r,.pointer t] w R EW ?_).1,(bF #[.pointer r,.pointer t] w R EW ?_).2⟩<;>
  exact h
 rR:=by
  intro r t R w h;refine⟨(oQ #[.pointer r,.pointer t] w R EW ?_).1,(oQ #[.pointer r,.pointer t] w R EW ?_).2⟩<;>
  exact h
 rT:=by
  intro r t R w h;refine⟨(bI #[.pointer r,.pointer t] w R EW ?_).1,(bI #[.pointer r,.pointer t] w R EW ?_).2⟩<;>
  exact h
 iM:=by
  intro r t R w h;refine⟨(oS #[.pointer r,.pointer t] w R EW ?_).1,(oS #[.pointer r,.pointer t] w R EW ?_).2⟩<;>
  exact h
 yI:=by
  intro r t R w h;refine⟨(bL #[.pointer r,.pointer t] w R EW ?_).1,(bL #[.pointer r,.pointer t] w R EW ?_).2⟩<;>
  exact h
 one1:=by
  intro r t R w h;refine⟨(bM #[.pointer r,.pointer t] w R EW ?_).1,(bM #[.pointer r,.pointer t] w R EW ?_).2⟩<;>
  exact h
 yJ:=by
  intro r t R w h;refine⟨(bN #[.pointer r,.pointer t] w R EW ?_).1,(bN #[.pointer r,.pointer t] w R EW ?_).2⟩<;>
  exact h
 wt1:=by
  intro r t R w h;refine⟨(bO #[.pointer r,.pointer t] w R EW ?_).1,(bO #[.pointer r,.pointer t] w R EW ?_).2⟩<;>
  exact h
 rU:=by
  intro r t R w h;refine⟨(bP #[.pointer r,.pointer t] w R EW ?_).1,(bP #[.pointer r,.pointer t] w R EW ?_).2⟩<;>
  exact h
 yK:=by
  intro r t R w h;refine⟨(oT #[.pointer r,.pointer t] w R EW ?_).1,(oT #[.pointer r,.pointer t] w R EW ?_).2⟩<;>
  exact h
end Go.Sh
namespace Go.Proofs.YtnhmgaodhjgdaaaGreatDoor.topRefused
open Go.ChangeShapes Go.WideShapes Go.ChangeAt Go.RowKit
set_option linter.unusedVariables false
set_option linter.unusedSimpArgs false
theorem own:ownKnob Tryz.prog.godebug=none:=by kernel_rfl
theorem laidOut:laidOutB Tryz.prog=true:=by kernel_rfl
theorem gTab:Tryz.prog.globalNamed "math/bits.deBruijn64tab" =some 1:=by kernel_rfl
theorem gTabType:(Tryz.prog.globals[1]?).map (·.type)=some 378:=by kernel_rfl
theorem und1:Tryz.prog.underlying 378=some (.array 64 5):=by kernel_rfl
theorem und2:Tryz.prog.underlying 5=some (.int .u8):=by kernel_rfl
theorem cells1:Tryz.prog.cellsOf 378=64:=by kernel_rfl
theorem cells2:Tryz.prog.cellsOf 5=1:=by kernel_rfl
theorem table{W:World}(h:laidMetH Tryz.prog Rows.topRefusedRow.laid W):Go.Sh.DJ Go.Sh.env.AB W:=by
 have a:=Lib.tabIs_of_head (rest:=[]) (k:=.u8) (zs:=Lib.deBruijn64tab.map fun n:Nat=>(n:Int)) gTab gTabType und1 und2 cells2 cells1 h;intro i hi;have:=a.cell gTab i (by rw[List.length_map];exact hi);rw[show(Lib.deBruijn64tab.map fun n:Nat=>(n:Int)).getD i 0=((Lib.deBruijn64tab.getD i 0:Nat):Int) by rw[List.getD_eq_getElem?_getD,List.getD_eq_getElem?_getD,List.getElem?_map];cases Lib.deBruijn64tab[i]? <;>rfl]at this;exact this
theorem walk(x:Go.Sh.YY [.sl (.bool),.int .i64,.sl (.int .u64),.sl (.int .i64)])(w:World)(h:Go.Sh.aT w [.sl (.bool),.int .i64,.sl (.int .u64),.sl (.int .i64)] x)(J:Go.Sh.DJ Go.Sh.env.AB w):
  Calls Tryz.prog 3 ⟨Go.Sh.TN [.sl (.bool),.int .i64,.sl (.int .u64),.sl (.int .i64)] x⟩ w fun e w'=>e= .returned (.bool true)/\Below w.heap.size w w':=by
 obtain⟨a0,a1,a2,m,u⟩:=x;obtain⟨w0,w1,a,d,_⟩:=h;obtain⟨K,w0⟩:=w0;obtain⟨O,a⟩:=a;obtain⟨T,d⟩:=d;refine(Go.Sh.xY _ w (fun v w'=>v= .bool true/\Below w.heap.size w w') Go.Sh.EW ?_).2.mono ?_
 ·show Go.Sh.F.BO Go.Sh.env a0 a1 a2 m (fun r w'=>Value.bool r= .bool true/\Below w.heap.size w w') w;exact Go.Sh.TI Go.Sh.envT Go.Sh.envH J w0 a d fun w' h=>⟨rfl,h.below (Nat.le_refl _) fun _ f=>f.elim⟩
 ·intro e w' hE;obtain⟨v,rfl,rfl,h⟩:=hE.val;exact⟨rfl,h⟩
noncomputable def laidWorld(os:Os):World:=
 {World.holding Tryz.prog os ⟨#[],#[],[]⟩with heap:=(World.holding Tryz.prog os ⟨#[],#[],[]⟩).heap.modify 1 fun
   | .cells _ t frozen=>.cells ⟨Lib.deBruijn64tab.map fun n:Nat=>.int .u8 (n:Int)⟩ t frozen
   | o=>o}
theorem laid_met(os:Os):laidMet Tryz.prog Rows.topRefusedRow.laid ((laidWorld os).forCall (fun _ _=>0) ⟨#[],#[.slice none 0 0,.int .i64 0,.slice none 0 0,.slice none 0 0],[]⟩).memory:=
 laidMet_of_run' 8 (by kernel_rfl) (by kernel_rfl)
theorem reads(os:Os){H:Type}(enc:TypeId×Value->H): ∃places,DataW.whole enc Tryz.prog ((laidWorld os).forCall (fun _ _=>0) ⟨#[],#[.slice none 0 0,.int .i64 0,.slice none 0 0,.slice none 0 0],[]⟩).memory Tryz.f3.params.toList Rows.topRefusedSpec.vars false (#[.slice none 0 0,.int .i64 0,.slice none 0 0,.slice none 0 0]:Array Value).toList 8=some ([.nil,.lit (.int .i64 0),.nil,.nil],[],places):=
 ⟨[],by kernel_rfl⟩
set_option maxRecDepth 100000 in
theorem lifted(os:Os)(started:os.Started)(H:Type)(enc:TypeId×Value->H)(F:Stop.Interp):
  ReturnsInHanded {} Tryz.checked os 3 .any ((OpenSpec.ofChange Rows.topRefusedSpec).preRow enc Tryz.prog Tryz.f3 Rows.topRefusedRow.domain false Rows.topRefusedRow.laid) (((OpenSpec.ofChange Rows.topRefusedSpec).at F).post enc Tryz.prog Tryz.f3 false true false false):=by
 obtain⟨places,K⟩:=reads os enc;refine returnsInHanded_of_row (C:=Tryz.checked) (s:=OpenSpec.ofChange Rows.topRefusedSpec) own started (by kernel_rfl) Tryz.func3
  (witness_row_at (enc:=enc) (C:=Tryz.checked) false (laidWorld os) #[.slice none 0 0,.int .i64 0,.slice none 0 0,.slice none 0 0] rfl (by kernel_rfl) (by kernel_rfl) (by kernel_rfl)
   (OpenSpec.preRow_of_cond 8 K (by kernel_rfl) (fun k hk=>by cases hk) (by kernel_rfl) (laid_met os))) ?_
 intro W base args m gs before d O _ _ _ T _ _;have J:=O;obtain⟨p,q,u,Y,rfl,aA,aD⟩:=O;obtain⟨rfl,rfl⟩:=trodVars_none Y;have a:=Go.Sh.fE (P:=Tryz.prog) (shs:=[.sl (.bool),.int .i64,.sl (.int .u64),.sl (.int .i64)]) (by kernel_rfl) (fun j t v ht hv=>d j t v (by simpa using ht) (by simpa using hv)) u;obtain⟨x,K,BU⟩:=Go.Sh.T5 a;obtain rfl:args=⟨Go.Sh.TN [.sl (.bool),.int .i64,.sl (.int .u64),.sl (.int .i64)] x⟩:=Array.toList_inj.1 (by simpa using K);have hlen:=Go.Sh.SN u;obtain⟨d0,d1,d2,d3,rfl⟩: ∃d0 d1 d2 d3,m=[d0,d1,d2,d3]:=by
  have hl:m.length=4:=hlen
  match m,hl with
  | [d0,d1,d2,d3],_=>exact⟨d0,d1,d2,d3,rfl⟩
 refine(walk x W BU (table T)).mono fun e W' ⟨he,bel⟩=> ?_;subst he;exact⟨_,rfl,_,_,_,[],_,[],J,trodAll_mk1 (shut_bool Tryz.underlying4 _),Go.Sh.PJ laidOut bel (by kernel_rfl) u,rfl,bel.frame _,fun h=>by cases h⟩
end Go.Proofs.YtnhmgaodhjgdaaaGreatDoor.topRefused

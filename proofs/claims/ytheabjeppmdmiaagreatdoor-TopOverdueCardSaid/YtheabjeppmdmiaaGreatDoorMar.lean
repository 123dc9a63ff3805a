/- Lemmas. -/
import Derived.Outline
import Derived.Test.YtheabjeppmdmiaaGreatDoorMaq
import Derived.Laws.CopyRow
namespace Go.Proofs.YtheabjeppmdmiaaGreatDoor
open Go.RowKit
set_option linter.unusedVariables false
set_option linter.unusedSimpArgs false
set_option maxHeartbeats 16000000
open _root_.Go.Proofs.Tryz
set_option maxRecDepth 20000
namespace Cm
theorem QB{p:Prop}(h:p:=by
 rintro e w' ⟨rfl,rfl⟩;go_wp2;go_ret;exact⟨rfl,rfl⟩):p:=h
def qb:Nat->Nat
 |0=>0
 |1=>4598175219545276416
 |2=>4602678819172646912
 |3=>4604930618986332160
 |_=>4607182418800017408
theorem Pz:∀i j:Fin 5,FloatKind.f64.format.order (qb i.1) (qb j.1)=some (compare i.1 j.1):=by decide +kernel
theorem LC(i j:Nat)(a:i<=4)(hj:j<=4):FloatKind.f64.format.order (qb i) (qb j)=some (compare i j):=Pz ⟨i,qo⟩ ⟨j,qo⟩
theorem OC(i j:Nat)(a:i<=4)(hj:j<=4):(FloatKind.f64.format.order (qb i) (qb j)==some .eq)=(i==j):=by
 rw[LC i j a hj,Bool.eq_iff_iff,bQ,bQ,Option.some.injEq,Nat.compare_eq_eq]
theorem aDi(i j:Nat)(a:i<=4)(hj:j<=4):(FloatKind.f64.format.order (qb i) (qb j)==some .gt||FloatKind.f64.format.order (qb i) (qb j)==some .eq)=decide (j<=i):=by
 rw[LC i j a hj,Bool.eq_iff_iff,Bool.or_eq_true,bQ,bQ,Option.some.injEq,Option.some.injEq,Nat.compare_eq_eq,Nat.compare_eq_gt,decide_eq_true_eq];omega
theorem Zt:∀i:Fin 5,(FloatKind.f64.decode (qb i.1)).neg=false:=by decide +kernel
theorem Tz(i j:Nat)(b:i<=4)(hj:j<=4)(P:Program)(d:Array TypeId)(t:TypeId)(w:World):(Builtin.max_ d t #[.float .f64 (qb i),.float .f64 (qb j)]).run P w=.ok (.float .f64 (qb (max i j))) w:=by
 have c:=Zt ⟨i,qo⟩;simp only[] at c
 rcases Nat.lt_trichotomy i j with h|h|h
 .have a:=LC i j b hj;rw[Nat.compare_eq_lt.2 h] at a;rw[Nat.max_eq_right qo];simp[Builtin.max_,Builtin.max2,a]
 .subst h;have a:=LC i i b hj;rw[Nat.compare_eq_eq.2 rfl] at a;rw[Nat.max_self];simp[Builtin.max_,Builtin.max2,a,c]
 .have a:=LC i j b hj;rw[Nat.compare_eq_gt.2 h] at a;rw[Nat.max_eq_left qo];simp[Builtin.max_,Builtin.max2,a]
def mk(i j:Nat):Value:= .complex .f64 (qb i) (qb j)
def qY(m:Nat×Nat):Nat×Nat:=(m.2,m.1)
def xL(a b:Nat×Nat):Nat×Nat:=(max a.1 b.1,max a.2 b.2)
def sC(m:Nat×Nat):Nat×Nat:=
 if m.2=4 then (0,4) else if m.2=2/\2<=m.1 then (2,2) else if m.2=2 then (0,2) else if m.1=4 then (4,0) else if m.1=2 then (2,0) else (0,0)
def QP(m:Nat×Nat):Prop:=m.1<=4/\m.2<=4
theorem QP.swap{m:Nat×Nat}(h:QP m):QP (qY m):=⟨h.2,h.1⟩
theorem QP.join{a b:Nat×Nat}(h:QP a)(k:QP b):QP (xL a b):=⟨Nat.max_le.2 ⟨h.1,k.1⟩,Nat.max_le.2 ⟨h.2,k.2⟩⟩
theorem xM(a b:Nat)(w:World):Calls prog 271 #[.complex .f64 a b] w fun e w'=>e=.returned (.tuple #[.float .f64 a,.float .f64 b])/\w=w':=by
 go_enter func271,ntmps271;go_wp2;go_ret2
 exact⟨rfl,rfl⟩
theorem Jf(a b:Nat)(w:World):Calls prog 272 #[.float .f64 a,.float .f64 b] w fun e w'=>e=.returned (.complex .f64 a b)/\w=w':=by
 go_enter func272,ntmps272;go_wp2;go_ret;exact⟨rfl,rfl⟩
theorem UX(m:Nat×Nat)(w:World):Calls prog 249 #[mk m.1 m.2] w fun e w'=>e=.returned (mk (qY m).1 (qY m).2)/\w=w':=by
 unfold mk qY;simp only[];generalize qb m.1=a;generalize qb m.2=b;go_enter func249,ntmps249;go_wp2_with fail;refine(xM a b w).mono ?_;rintro e w' ⟨rfl,rfl⟩;go_wp2_with fail;refine(Jf b a w).mono ?_;exact QB
theorem wN(m n:Nat×Nat)(hm:QP m)(f:QP n)(w:World):Calls prog 247 #[mk m.1 m.2,mk n.1 n.2] w fun e w'=>e=.returned (mk (xL m n).1 (xL m n).2)/\w=w':=by
 have h1:=Tz m.1 n.1 hm.1 f.1 prog;have h2:=Tz m.2 n.2 hm.2 f.2 prog;unfold mk xL;simp only[];generalize qb (max m.1 n.1)=g at h1 ⊢;generalize qb (max m.2 n.2)=i at h2 ⊢;generalize qb m.1=a at h1 ⊢;generalize qb m.2=b at h2 ⊢;generalize qb n.1=c at h1 ⊢;generalize qb n.2=d at h2 ⊢;go_enter func247,ntmps247;go_wp2_with fail;refine(xM a b w).mono ?_;rintro e w' ⟨rfl,rfl⟩;go_wp2_with fail;refine(xM c d w).mono ?_;rintro e w' ⟨rfl,rfl⟩;go_wp2_with fail;refine(Jf g i w).mono ?_;exact QB
end Cm
namespace Cm
def iU(n lo a:Int):Int:=lo+n % (a - lo+1)
theorem wY(n lo a:Int)(h:lo<=a):lo<=iU n lo a:=by
 unfold iU;have:=Int.emod_nonneg n (show a - lo+1≠0 by omega);omega
theorem wZ(n lo a:Int)(h:lo<=a):iU n lo a<=a:=by
 unfold iU;have:=Int.emod_lt_of_pos n (show 0<a - lo+1 by omega);omega
theorem KE(n lo hi:Int)(w:World)(h1:0<=lo)(h2:lo<=hi)(h3:hi<=1000000):
 Calls prog 6 #[.int .i64 n,.int .i64 lo,.int .i64 hi] w fun e w'=>e=.returned (.int .i64 (iU n lo hi))/\w=w':=by
 exact QAB
end Cm
namespace Cm
theorem Az{p:Prop}(h:p:=by
 go_enter func248,ntmps248;go_wp2_with fail;refine(xM a b w).mono ?_;rintro e w' ⟨rfl,rfl⟩;go_wp2;go_ret;exact⟨rfl,rfl⟩):p:=h
theorem UY(m:Nat×Nat)(hm:QP m)(w:World):Calls prog 248 #[mk m.1 m.2] w fun e w'=>e=.returned (mk (sC m).1 (sC m).2)/\w=w':=by
 obtain⟨p,d⟩:=m;have f:(FloatKind.f64.format.order (qb d) 4607182418800017408==some .eq)=(d==4):=OC d 4 hm.2 qe;have i:(FloatKind.f64.format.order (qb d) 4602678819172646912==some .eq)=(d==2):=OC d 2 hm.2 qe;have k:(FloatKind.f64.format.order (qb p) 4602678819172646912==some .gt||FloatKind.f64.format.order (qb p) 4602678819172646912==some .eq)=decide (2<=p):=aDi p 2 hm.1 qe;have j:(FloatKind.f64.format.order (qb p) 4607182418800017408==some .eq)=(p==4):=OC p 4 hm.1 qe;have l:(FloatKind.f64.format.order (qb p) 4602678819172646912==some .eq)=(p==2):=OC p 2 hm.1 qe;have o:Hid (sC (p,d)=sC (p,d)):=rfl;unfold mk;show Calls prog 248 #[.complex .f64 (qb p) (qb d)] w _;generalize n:sC (p,d)=R;have c:=aA n;clear n o;unfold sC at c;by_cases c1:d=4
 .rw[iP c1] at c;have g:=c.o;subst g;rw[show (d==4)=true by simp;omega] at f;clear c i k j l hm;generalize qb d=b at f ⊢;generalize qb p=a;exact Az
 rw[iN c1] at c;by_cases c2:d=2/\2<=p
 .rw[iP c2] at c;have g:=c.o;subst g;rw[show (d==4)=false by simp;omega] at f;rw[show (d==2)=true by simp;omega] at i;rw[show (decide (2<=p))=true by simp;omega] at k;clear c j l hm;generalize qb d=b at f i ⊢;generalize qb p=a at k ⊢;exact Az
 rw[iN c2] at c;by_cases c3:d=2
 .rw[iP c3] at c;have g:=c.o;subst g;rw[show (d==4)=false by simp;omega] at f;rw[show (d==2)=true by simp;omega] at i;rw[show (decide (2<=p))=false by simp;omega] at k;clear c j l hm;generalize qb d=b at f i ⊢;generalize qb p=a at k ⊢;exact Az
 rw[iN c3] at c;by_cases c4:p=4
 .rw[iP c4] at c;have g:=c.o;subst g;rw[show (d==4)=false by simp;omega] at f;rw[show (d==2)=false by simp;omega] at i;rw[show (p==4)=true by simp;omega] at j;clear c k l hm;generalize qb d=b at f i ⊢;generalize qb p=a at j ⊢;exact Az
 rw[iN c4] at c;by_cases c5:p=2
 .rw[iP c5] at c;have g:=c.o;subst g;rw[show (d==4)=false by simp;omega] at f;rw[show (d==2)=false by simp;omega] at i;rw[show (p==4)=false by simp;omega] at j;rw[show (p==2)=true by simp;omega] at l;clear c k hm;generalize qb d=b at f i ⊢;generalize qb p=a at j l ⊢;exact Az
 rw[iN c5] at c;have g:=c.o;subst g;rw[show (d==4)=false by simp;omega] at f;rw[show (d==2)=false by simp;omega] at i;rw[show (p==4)=false by simp;omega] at j;rw[show (p==2)=false by simp;omega] at l;clear c k hm;generalize qb d=b at f i ⊢;generalize qb p=a at j l ⊢;exact Az
end Cm
namespace Cm
theorem UZ{p:Prop}(h:p:=by
 go_enter func45,ntmps45;go_wp2;go_ret;exact⟨rfl,rfl⟩):p:=h
theorem iZ(p d i j:Nat)(hm:QP (p,d))(a:i<=4)(hj:j<=4):((FloatKind.f64.format.order (qb p) (qb i)==some .eq)&&(FloatKind.f64.format.order (qb d) (qb j)==some .eq))=((p,d)==(i,j)):=by
 rw[OC p i hm.1 a,OC d j hm.2 hj,Bool.eq_iff_iff];simp
def bT(m:Nat×Nat):ByteArray:=
 if m=(0,0) then ⟨#[78,111,116,65,112,112,108,105,99,97,98,108,101]⟩ else
 if m=(4,0) then ⟨#[80,101,114,109,105,116]⟩ else
 if m=(0,4) then ⟨#[68,101,110,121]⟩ else
 if m=(2,0) then ⟨#[73,110,100,101,116,101,114,109,105,110,97,116,101,123,80,125]⟩ else
 if m=(0,2) then ⟨#[73,110,100,101,116,101,114,109,105,110,97,116,101,123,68,125]⟩ else
 if m=(2,2) then ⟨#[73,110,100,101,116,101,114,109,105,110,97,116,101,123,68,80,125]⟩ else
 ⟨#[]⟩
theorem AP(m:Nat×Nat)(hm:QP m)(w:World):Calls prog 45 #[mk m.1 m.2] w fun e w'=>e=.returned (.string (bT m))/\w=w':=by
 obtain⟨p,d⟩:=m;have g:((FloatKind.f64.format.order (qb p) 0==some .eq)&&(FloatKind.f64.format.order (qb d) 0==some .eq))=((p,d)==(0,0)):=iZ p d 0 0 hm qe qe;have i:((FloatKind.f64.format.order (qb p) 4607182418800017408==some .eq)&&(FloatKind.f64.format.order (qb d) 0==some .eq))=((p,d)==(4,0)):=iZ p d 4 0 hm qe qe;have j:((FloatKind.f64.format.order (qb p) 0==some .eq)&&(FloatKind.f64.format.order (qb d) 4607182418800017408==some .eq))=((p,d)==(0,4)):=iZ p d 0 4 hm qe qe;have k:((FloatKind.f64.format.order (qb p) 4602678819172646912==some .eq)&&(FloatKind.f64.format.order (qb d) 0==some .eq))=((p,d)==(2,0)):=iZ p d 2 0 hm qe qe;have l:((FloatKind.f64.format.order (qb p) 0==some .eq)&&(FloatKind.f64.format.order (qb d) 4602678819172646912==some .eq))=((p,d)==(0,2)):=iZ p d 0 2 hm qe qe;have n:((FloatKind.f64.format.order (qb p) 4602678819172646912==some .eq)&&(FloatKind.f64.format.order (qb d) 4602678819172646912==some .eq))=((p,d)==(2,2)):=iZ p d 2 2 hm qe qe;show Calls prog 45 #[.complex .f64 (qb p) (qb d)] w _;generalize o:bT (p,d)=R;have c:=aA o;clear o hm;unfold bT at c;generalize qb p=a at g i j k l n ⊢;generalize qb d=b at g i j k l n ⊢;by_cases c0:(p,d)=(0,0)
 .rw[iP c0] at c;have f:=c.o;subst f;rw[show ((p,d)==(0,0))=true from bQ.2 c0] at g;clear c c0 i j k l n;exact UZ
 rw[iN c0] at c;by_cases c1:(p,d)=(4,0)
 .rw[iP c1] at c;have f:=c.o;subst f;rw[show ((p,d)==(4,0))=true from bQ.2 c1] at i;rw[show ((p,d)==(0,0))=false from bN.2 c0] at g;clear c c0 c1 j k l n;exact UZ
 rw[iN c1] at c;by_cases c2:(p,d)=(0,4)
 .rw[iP c2] at c;have f:=c.o;subst f;rw[show ((p,d)==(0,4))=true from bQ.2 c2] at j;rw[show ((p,d)==(0,0))=false from bN.2 c0] at g;rw[show ((p,d)==(4,0))=false from bN.2 c1] at i;clear c c0 c1 c2 k l n;exact UZ
 rw[iN c2] at c;by_cases c3:(p,d)=(2,0)
 .rw[iP c3] at c;have f:=c.o;subst f;rw[show ((p,d)==(2,0))=true from bQ.2 c3] at k;rw[show ((p,d)==(0,0))=false from bN.2 c0] at g;rw[show ((p,d)==(4,0))=false from bN.2 c1] at i;rw[show ((p,d)==(0,4))=false from bN.2 c2] at j;clear c c0 c1 c2 c3 l n;exact UZ
 rw[iN c3] at c;by_cases c4:(p,d)=(0,2)
 .rw[iP c4] at c;have f:=c.o;subst f;rw[show ((p,d)==(0,2))=true from bQ.2 c4] at l;rw[show ((p,d)==(0,0))=false from bN.2 c0] at g;rw[show ((p,d)==(4,0))=false from bN.2 c1] at i;rw[show ((p,d)==(0,4))=false from bN.2 c2] at j;rw[show ((p,d)==(2,0))=false from bN.2 c3] at k;clear c c0 c1 c2 c3 c4 n;exact UZ
 rw[iN c4] at c;by_cases c5:(p,d)=(2,2)
 .rw[iP c5] at c;have f:=c.o;subst f;rw[show ((p,d)==(2,2))=true from bQ.2 c5] at n;rw[show ((p,d)==(0,0))=false from bN.2 c0] at g;rw[show ((p,d)==(4,0))=false from bN.2 c1] at i;rw[show ((p,d)==(0,4))=false from bN.2 c2] at j;rw[show ((p,d)==(2,0))=false from bN.2 c3] at k;rw[show ((p,d)==(0,2))=false from bN.2 c4] at l;clear c c0 c1 c2 c3 c4 c5;exact UZ
 rw[iN c5] at c;have f:=c.o;subst f;rw[show ((p,d)==(0,0))=false from bN.2 c0] at g;rw[show ((p,d)==(4,0))=false from bN.2 c1] at i;rw[show ((p,d)==(0,4))=false from bN.2 c2] at j;rw[show ((p,d)==(2,0))=false from bN.2 c3] at k;rw[show ((p,d)==(0,2))=false from bN.2 c4] at l;rw[show ((p,d)==(2,2))=false from bN.2 c5] at n;clear c c0 c1 c2 c3 c4 c5;exact UZ
theorem Jg(m:Nat×Nat)(hm:QP m)(w:World):Calls prog 246 #[mk m.1 m.2] w fun e w'=>e=.returned (.bool (!(bT m).toList.isEmpty))/\w=w':=by
 have c:=aA (AP m hm w);unfold mk at c ⊢;generalize qb m.1=a at c ⊢;generalize qb m.2=b at c ⊢;generalize bT m=N at c ⊢;clear hm;go_enter func246,ntmps246;go_wp2_with fail;refine c.o.mono ?_;exact QB
end Cm
namespace Cm
end Cm
namespace Cm
theorem QCx{p:Prop}(h:p:=by
 generalize qb p=a at e1 e2 ⊢;generalize qb d=b at e1 e2 ⊢;clear HR c1 c2 hm;go_enter func217,ntmps217;go_wp2;go_ret;exact⟨rfl,rfl⟩):p:=h
def yX(m:Nat×Nat):Nat×Nat:=if m=(4,0) then (2,0) else if m=(0,4) then (0,2) else m
theorem aBJ(m:Nat×Nat)(hm:QP m)(w:World):Calls prog 217 #[mk m.1 m.2] w fun e w'=>e=.returned (mk (yX m).1 (yX m).2)/\w=w':=by
 obtain⟨p,d⟩:=m;have e1:((FloatKind.f64.format.order (qb p) 4607182418800017408==some .eq)&&(FloatKind.f64.format.order (qb d) 0==some .eq))=((p,d)==(4,0)):=iZ p d 4 0 hm qe qe;have e2:((FloatKind.f64.format.order (qb p) 0==some .eq)&&(FloatKind.f64.format.order (qb d) 4607182418800017408==some .eq))=((p,d)==(0,4)):=iZ p d 0 4 hm qe qe;have HR:∃r:Nat×Nat,yX (p,d)=r/\True:=⟨_,rfl,trivial⟩;by_cases c1:(p,d)=(4,0)
 .rw[show yX (p,d)=(2,0) from iP c1];rw[show ((p,d)==(4,0))=true from bQ.2 c1] at e1;show Calls prog 217 #[.complex .f64 (qb p) (qb d)] w _;generalize qb p=a at e1 ⊢;generalize qb d=b at e1 ⊢;clear HR c1 e2 hm;go_enter func217,ntmps217;go_wp2;go_ret;exact⟨rfl,rfl⟩
 rw[show ((p,d)==(4,0))=false from bN.2 c1] at e1;by_cases c2:(p,d)=(0,4)
 .rw[show yX (p,d)=(0,2) from (iN c1).trans (iP c2)];rw[show ((p,d)==(0,4))=true from bQ.2 c2] at e2;show Calls prog 217 #[.complex .f64 (qb p) (qb d)] w _;exact QCx
 rw[show yX (p,d)=(p,d) from (iN c1).trans (iN c2)];rw[show ((p,d)==(0,4))=false from bN.2 c2] at e2;show Calls prog 217 #[.complex .f64 (qb p) (qb d)] w fun e w'=>e=.returned (.complex .f64 (qb p) (qb d))/\w=w'
 exact QCx
def Ans(f:FuncId)(args:Array Value)(v:Value):Prop:=∀w,Calls prog f args w fun e w'=>e=.returned v/\w=w'
end Cm
namespace Cm
def fC(m:Nat×Nat):Bool:=
 if m=(0,0) then true else if m=(4,0) then true else if m=(0,4) then true else if m=(2,0) then true else if m=(0,2) then true else if m=(2,2) then true else false
theorem Dt(m:Nat×Nat):(!(bT m).toList.isEmpty)=fC m:=by
 unfold bT fC;by_cases h0:m=(0,0)
 .rw[iP h0,iP h0];kernel_rfl
 rw[iN h0,iN h0];by_cases h1:m=(4,0)
 .rw[iP h1,iP h1];kernel_rfl
 rw[iN h1,iN h1];by_cases h2:m=(0,4)
 .rw[iP h2,iP h2];kernel_rfl
 rw[iN h2,iN h2];by_cases h3:m=(2,0)
 .rw[iP h3,iP h3];kernel_rfl
 rw[iN h3,iN h3];by_cases h4:m=(0,2)
 .rw[iP h4,iP h4];kernel_rfl
 rw[iN h4,iN h4];by_cases h5:m=(2,2)
 .rw[iP h5,iP h5];kernel_rfl
 rw[iN h5,iN h5];kernel_rfl
theorem Du(m:Nat×Nat)(hm:QP m)(w:World):Calls prog 246 #[mk m.1 m.2] w fun e w'=>e=.returned (.bool (fC m))/\w=w':=by
 rw[<-Dt];exact Jg m hm w
end Cm
section
namespace Cm
def vm(l:List (Nat×Nat)):List Value:=l.map fun m=>mk m.1 m.2
theorem aAX(l:List (Nat×Nat))(i:Nat):(vm l)[i]? =(l[i]?).map fun m=>mk m.1 m.2:=by simp[vm]
end Cm
open Cm
theorem Sl.mark{w:World}{B:Nat}{a:oD}{l:List (Nat×Nat)}{i:Nat}(h:Sl w B a (vm l))(c:i<l.length):
 ∃b off,a=some ⟨b,off,none⟩/\b<B/\w.cell? ⟨b,off+i,none⟩=some (.complex .f64 (qb l[i].1) (qb l[i].2)):=
 h.at (by rw[aAX];simp[c,mk])
namespace Cm
theorem VA(a b:Nat)(S:Bool)(w:World)(c:((FloatKind.f64.format.order a 0==some .eq)&&(FloatKind.f64.format.order b 0==some .eq))=S):
 Calls prog 274 #[.complex .f64 a b] w fun e w'=>e=.returned (.bool (!S))/\w=w':=by
 rcases S with _|_
 all_goals
  go_enter func274,ntmps274;go_wp2;go_ret;exact⟨rfl,rfl⟩
theorem Jh(a b:Nat)(c d f:Bool)(w:World)(g:((FloatKind.f64.format.order a 0==some .eq)&&(FloatKind.f64.format.order b 0==some .eq))=c)
 (i:((FloatKind.f64.format.order a 4607182418800017408==some .eq)&&(FloatKind.f64.format.order b 0==some .eq))=d)(j:((FloatKind.f64.format.order a 0==some .eq)&&(FloatKind.f64.format.order b 4607182418800017408==some .eq))=f):
 Calls prog 275 #[.complex .f64 a b] w fun e w'=>e=.returned (.bool (c||d||f))/\w=w':=by
 rcases c with _|_<;>rcases d with _|_<;>rcases f with _|_
 all_goals
  go_enter func275,ntmps275;go_wp2;go_ret;exact⟨rfl,rfl⟩
theorem xN(k:Int)(d:k=1\/k=2\/k=5\/k=6)(a a2 b1 b2 b c:Nat)(w:World)(h:Hid (Ans 247 #[.complex .f64 a a2,.complex .f64 b1 b2] (.complex .f64 b c))):
 Calls prog 276 #[.int .i64 k,.complex .f64 a a2,.complex .f64 b1 b2] w fun e w'=>e=.returned (.complex .f64 b c)/\w=w':=by
 rcases d with rfl|rfl|rfl|rfl
 all_goals
  go_enter func276,ntmps276;go_wp2_with fail;refine(h.o w).mono ?_;exact QB
theorem Dv(a a2 b1 b2:Nat)(X:Bool)(w:World)(b:((FloatKind.f64.format.order a 0==some .eq)&&(FloatKind.f64.format.order a2 0==some .eq))=X):
 Calls prog 276 #[.int .i64 3,.complex .f64 a a2,.complex .f64 b1 b2] w fun e w'=>e=.returned (bif X then .complex .f64 b1 b2 else .complex .f64 a a2)/\w=w':=by
 rcases X with _|_
 all_goals
  go_enter func276,ntmps276;go_wp2;go_ret;exact⟨rfl,rfl⟩
theorem Ji(a a2 b1 b2:Nat)(X Y:Bool)(w:World)(b:((FloatKind.f64.format.order a 0==some .eq)&&(FloatKind.f64.format.order a2 0==some .eq))=X)(c:((FloatKind.f64.format.order b1 0==some .eq)&&(FloatKind.f64.format.order b2 0==some .eq))=Y):
 Calls prog 276 #[.int .i64 4,.complex .f64 a a2,.complex .f64 b1 b2] w fun e w'=>e=.returned (bif X then .complex .f64 b1 b2 else bif Y then .complex .f64 a a2 else .complex .f64 4602678819172646912 4602678819172646912)/\w=w':=by
 rcases X with _|_<;>rcases Y with _|_
 all_goals
  go_enter func276,ntmps276;go_wp2;go_ret;exact⟨rfl,rfl⟩
end Cm
end
def dZ(r:Rpl):Array Value:=#[.int .i64 r.err,.complex .f64 (Cm.qb r.mark.1) (Cm.qb r.mark.2),.bool r.aD8,.int .i64 r.val.1,.int .i64 r.val.2.1,.string r.val.2.2,.bool r.hidden,.int .i64 r.at_]
def lC(d:Deci)(a:Value):Array Value:=#[.int .i64 d.op.aDG,.string d.op.aDW,.string d.op.aDN,.string d.op.aD1,.string d.op.to_,.int .i64 d.op.val.1,.int .i64 d.op.val.2.1,.string d.op.val.2.2,.int .i64 d.op.aD3,.string d.op.text,.string d.op.aD4,.bool d.op.aD8,.int .i64 d.aDT,.complex .f64 (Cm.qb d.mark.1) (Cm.qb d.mark.2),.bool d.aD8,a]
def pG:Array Value:=#[.int .i64 0,.string ⟨#[]⟩,.string ⟨#[]⟩,.string ⟨#[]⟩,.string ⟨#[]⟩,.int .i64 0,.int .i64 0,.string ⟨#[]⟩,.int .i64 0,.string ⟨#[]⟩,.string ⟨#[]⟩,.bool false,.int .i64 0,.complex .f64 0 0,.bool false,.slice none 0 0]
section
open Pv
section
variable {P:Program} {w:World}
theorem LD(g o:Nat)(t ty:TypeId)(cur cells:Array Value)(d:w.heap[g]? =some (.cells cur t (0,0)))(c:o+cells.size<=cur.size)(b:(P.info? ty).map (·.size)=some cells.size)(h1:cells.all (·.oneCell')=true):
 (storeVar ty ⟨g,o,none⟩ (.agg cells)).run P w=.ok () (w.setRow g (cur.toList.take o++cells.toList++cur.toList.drop (o+cells.size)).toArray):=by
 have h:=run_storeCells_at P g o t cells.toList 0 cur w d (by simpa using c) (fun v f=>(Array.all_eq_true_iff_forall_mem.1 h1) v (by simpa using f))
 cases a:P.info? ty with
 |none=>simp[a] at b
 |some i=>
  have e:cells.size=i.size:=by simp[a] at b;omega
  simp only[Nat.add_zero,Array.length_toList] at h;simp[storeVar,sizeOf,typeInfo,a,Value.cells,e,h]
theorem Qa{op:Oper}{a:Act}{K:Act->World->Prop}{Q:Exit->Act->World->Prop}(ty:TypeId)(x y:Operand)(i:op.op=.store ty x y)(g o:Nat)(cells:Array Value)(j:a.eval x=.pointer (some ⟨g,o,none⟩))(k:a.eval y=.agg cells)(t:TypeId)(cur new:Array Value)(c:w.heap[g]? =some (.cells cur t (0,0)))(e:(P.info? ty).map (·.size)=some cells.size)(d:o+cells.size<=cur.size)(f:(cur.toList.take o++cells.toList++cur.toList.drop (o+cells.size)).toArray=new)(h1:cells.all (·.oneCell')=true)
 (h:∀w',Hid (w'.heap[g]? =some (.cells new t (0,0)))->Hid (aN (fun b=>b≠g) w w')->K (a.put op.dst undef) w'):op.wp P a w K Q:=by
 unfold Oper.wp execOp;simp only[i,j,k,Instr.storeAt,Instr.sureAddr,Sem.run_bind,Sem.run_pure,Result.andThen_ok,LD g o t ty cur cells c d e h1,f];exact h _ (setRow_heap w g cur new t (0,0) c) (DE g new)
theorem VB{ops:Array Oper}{rest:List Oper}{op:Oper}{a:Act}{Q:Exit->Act->World->Prop}(f:op.guard=none)(ty:TypeId)(x y:Operand)(k:op.op=.store ty x y)(g o:Nat)(cells:Array Value)(l:a.eval x=.pointer (some ⟨g,o,none⟩))(m:a.eval y=.agg cells)(t:TypeId)(cur new:Array Value)(e:w.heap[g]? =some (.cells cur t (0,0)))(i:(P.info? ty).map (·.size)=some cells.size)(d:o+cells.size<=cur.size)(j:(cur.toList.take o++cells.toList++cur.toList.drop (o+cells.size)).toArray=new)(h1:cells.all (·.oneCell')=true)
 (h:∀w',Hid (w'.heap[g]? =some (.cells new t (0,0)))->Hid (aN (fun b=>b≠g) w w')->wpList P ops Q rest (a.put op.dst undef) w'):wpList P ops Q (op::rest) a w:=
 wpList_plain f fun _ c=>Qa ty x y k g o cells l m t cur new e i d j h1 fun w' h2 h3=>c _ _ (h w' h2 h3)
end
abbrev pH(J:Nat)(s:Sto)(vc vr vn vo vt vu vk vb a:Value)(h:BitVec 64):Obj:= .cells #[.pointer (some ⟨J,0,none⟩),.int .i64 s.aDP,vc,vr,vn,vo,.string s.aDI.id,.bool s.aDI.set,.int .i64 s.aDI.alg,vt,vu,vk,vb,.int .i64 s.aDT,a,.int .u64 (n64 h)] 74
theorem aAY:eF prog 71 58 16 208:=fZ (z:= .agg #[.int .i64 0,.string ByteArray.empty,.string ByteArray.empty,.string ByteArray.empty,.string ByteArray.empty,.int .i64 0,.int .i64 0,.string ByteArray.empty,.int .i64 0,.string ByteArray.empty,.string ByteArray.empty,.bool false,.int .i64 0,.complex .f64 0 0,.bool false,.slice none 0 0]) underlying71 (by kernel_rfl) rfl qe
theorem Dw{ok:nP}(E J:Nat)(s:Sto)(vc vr vn vo vt vu vk vb d:Value)(h:BitVec 64)(w:World)(b:fD w ok s vc vr vn vo vt vu vk vb)(a:w.heap[E]? =some (pH J s vc vr vn vo vt vu vk vb d h)):Calls prog 8 #[.pointer (some ⟨E,0,none⟩)] w (aP (.agg (aV s vc vr vn vo vt vu vk vb)) w):=by
 obtain⟨g,i,ra,rc,F,G,H,I,K,L,M,N,C,D,e,f,rfl,-,rfl,-,rfl,-,rfl,-,rfl,-,rfl,-,rfl,-,rfl,-⟩:=b.sl;clear b;obtain⟨⟨j,k,r,t,v,x,y,z,A,B,l,m,n,o,p,q⟩,-⟩:=kV a;have O:=aD a;have c:=aA (aB w);unfold aV aP;clear a;go_enter func8,ntmps8;go_wp2;go_returns;exact⟨rfl,c.o _⟩
theorem FK{w:World}{ok:nP}{s:Sto}{vc vr vn vo vt vu vk vb:Value}(a:fD w ok s vc vr vn vo vt vu vk vb):(aV s vc vr vn vo vt vu vk vb).all (·.oneCell')=true:=by
 obtain⟨d,e,ra,rc,i,j,k,l,m,n,o,p,f,g,b,c,rfl,-,rfl,-,rfl,-,rfl,-,rfl,-,rfl,-,rfl,-,rfl,-⟩:=a.sl;simp[aV,Value.oneCell']
def Qb(E J base:Nat)(s:Sto)(vc vr vn vo vt vu vk vb:Value)(la:oD)(lu:List Unit)(lc:Nat)(w:World)(e:Ending)(w':World):Prop:=
 e=.returned (.tuple #[])/\∃(c:oD) (d:Nat) (a:List Unit) (f:BitVec 64),a.length=lu.length+1/\w'.heap[E]? =some (pH J s vc vr vn vo vt vu vk vb (.slice c a.length d) f)/\aM (wM 16) 16 58 w' base (fun _=>False) (.slice c a.length d) a/\(∀b,(Value.slice c a.length d).ownBlock=some b->(Value.slice la lu.length lc).ownBlock=some b\/w.heap.size<=b)/\aN (fun b=>b≠E/\some b≠(Value.slice la lu.length lc).ownBlock) w w'
theorem Jj{ok:nP}(E J base lc:Nat)(s0 s:Sto)(O ur un uo ut uu uk ub vc vr vn vo vt vu vk vb:Value)(la:oD)(lu:List Unit)(h:BitVec 64)(d:Deci)(R:Value)(bw:R.oneCell'=true)(a:oD)(c:Nat)(p:lU)(w:World)(hS:fD w ok s vc vr vn vo vt vu vk vb)(hE:w.heap[E]? =some (pH J s0 O ur un uo ut uu uk ub (.slice la lu.length lc) h))(hG:aM (wM 16) 16 58 w base (fun _=>False) (.slice la lu.length lc) lu)(bg:E<base/\base<=w.heap.size)(bh:lu.length<=900000)(hp:jE w (fun b=>b≠E/\some b≠(Value.slice la lu.length lc).ownBlock) a (bF p))(h8:p.length<=8192):
 Calls prog 19 #[.pointer (some ⟨E,0,none⟩),.agg (aV s vc vr vn vo vt vu vk vb),.agg (lC d R),.slice a p.length c] w (Qb E J base s vc vr vn vo vt vu vk vb la lu lc w):=by
 have bo:=aA (FK hS);obtain⟨Y,Z,ra,rc,na,nc,oa,oc,ta,tc,ua,O,ka,kc,V,W,rfl,-,rfl,-,rfl,-,rfl,-,rfl,-,rfl,-,rfl,-,rfl,-⟩:=hS.sl;obtain⟨W0,aa⟩:=xE ((w.alloc (.cells (aV s (.slice Y s.aDH.length Z) (.slice ra s.aDJ.length rc) (.slice na s.aDO.length nc) (.slice oa s.aDU.length oc) (.slice ta s.aDI.aDR.length tc) (.slice ua s.aDI.aDK.length O) (.slice ka s.aDI.aDV.length kc) (.slice V s.aDI.aDX.length W)) 52)).alloc (.cells (lC d R) 58));have ah:Below w.heap.size w W0:=by rw[aa];exact aC (aB _ _) (aB _ _)
 have A:Hid (W0.heap[w.heap.size]? =some (.cells (aV s (.slice Y s.aDH.length Z) (.slice ra s.aDJ.length rc) (.slice na s.aDO.length nc) (.slice oa s.aDU.length oc) (.slice ta s.aDI.aDR.length tc) (.slice ua s.aDI.aDK.length O) (.slice ka s.aDI.aDV.length kc) (.slice V s.aDI.aDX.length W)) 52 (0,0))):=aA (by rw[aa];exact aE (aK _ _ _ rfl) (aB _ _));have D:Hid (W0.heap[w.heap.size+1]? =some (.cells (lC d R) 58 (0,0))):=aA (by rw[aa];exact aK _ _ _ qs);obtain⟨ar,HG,ab,HS,L,bn⟩:=hD6 (aE hE ah) hG ah hp (And.intro bg (And.intro bh h8)) (aD hE);unfold aV lC pH at *;have bp:=aA aa;clear aa ah hS hE hG hp bg bh h8;obtain⟨⟨a0,a1,a2,a3,a4,a5,a6,a7,a8,a9,br,bs,a12⟩,-⟩:=bS A.o;have za:=aD A.o;have i:=aD ar.o;go_enter func19,ntmps19;go_upto_region 1 with (fail)
 rw[<-bp.o];go_upto_region 2 with (refine VB rfl _ (.tmp 11) (.tmp 9) rfl E 1 _ rfl rfl _ _ _ ar.o (by kernel_rfl) (by show 1+13<=16;omega) rfl bo.o ?_;intro w1 au P)
 have aq:=qS D P.o (by show (_:Nat)≠_;have:=bn.o;omega);have g:Hid (w1.heap[E]? =some (pH J s (.slice Y s.aDH.length Z) (.slice ra s.aDJ.length rc) (.slice na s.aDO.length nc) (.slice oa s.aDU.length oc) (.slice ta s.aDI.aDR.length tc) (.slice ua s.aDI.aDK.length O) (.slice ka s.aDI.aDV.length kc) (.slice V s.aDI.aDX.length W) (.slice la lu.length lc) h)/\w1.heap[w.heap.size+1]? =some (.cells #[.int .i64 d.op.aDG,.string d.op.aDW,.string d.op.aDN,.string d.op.aD1,.string d.op.to_,.int .i64 d.op.val.1,.int .i64 d.op.val.2.1,.string d.op.val.2.2,.int .i64 d.op.aD3,.string d.op.text,.string d.op.aD4,.bool d.op.aD8,.int .i64 d.aDT,.complex .f64 (Cm.qb d.mark.1) (Cm.qb d.mark.2),.bool d.aD8,R] 58 (0,0))):=aA ⟨au.o,aq.o⟩;have bl:Hid (aM (wM 16) 16 58 w1 base (fun _=>False) (.slice la lu.length lc) lu):=aA ((HG.o.on (kP 16) ab.o).stays (kP 16) P.o (fun b f e=>qD ((HG.o.lt b f).1) L.o.1.1) (fun _ h _=>h.elim));clear a0 a1 a2 a3 a4 a5 a6 a7 a8 a9 br bs a12 za i;have bd:Below w1.heap.size w1 w1.drew:=(Below.refl _ _).drew;have ad:=aA bd;refine cF 10 [(0,false),(1,false),(2,false),(3,false),(4,false),(5,false),(6,true),(7,true),(8,false),(9,false)] [(10,true)] (fun w'=>w'.heap[E]? =some (pH J s (.slice Y s.aDH.length Z) (.slice ra s.aDJ.length rc) (.slice na s.aDO.length nc) (.slice oa s.aDU.length oc) (.slice ta s.aDI.aDR.length tc) (.slice ua s.aDI.aDK.length O) (.slice ka s.aDI.aDV.length kc) (.slice V s.aDI.aDX.length W) (.slice la lu.length lc) h)/\w'.heap[w.heap.size+1]? =some (.cells #[.int .i64 d.op.aDG,.string d.op.aDW,.string d.op.aDN,.string d.op.aD1,.string d.op.to_,.int .i64 d.op.val.1,.int .i64 d.op.val.2.1,.string d.op.val.2.2,.int .i64 d.op.aD3,.string d.op.text,.string d.op.aD4,.bool d.op.aD8,.int .i64 d.aDT,.complex .f64 (Cm.qb d.mark.1) (Cm.qb d.mark.2),.bool d.aD8,R] 58 (0,0))) (by kernel_rfl) (by kernel_rfl) g.o ?_
 simp only[List.cons_append,List.nil_append];obtain⟨⟨k,l,x,y,z,B,C,F,G,H,m,n,o,q,r,t⟩,-⟩:=kV g.o.1;have i:=aD g.o.1;obtain⟨⟨d0,d1,d2,d3,d4,d5,d6,d7,d8,d9,d10,d11,d12,d13,d14,d15⟩,-⟩:=kV g.o.2;have S:=aD g.o.2
 repeat (refine dK rfl (fun K M=> ?_);unfold rd;go_simp;refine M _ (fun bx h1=> ?_) ?_;(· clear M K k l x y z B C F G H m n o q r t i d0 d1 d2 d3 d4 d5 d6 d7 d8 d9 d10 d11 d12 d13 d14 d15 S;obtain⟨⟨k,l,x,y,z,B,C,F,G,H,m,n,o,q,r,t⟩,-⟩:=kV h1.1;have i:=aD h1.1;obtain⟨⟨d0,d1,d2,d3,d4,d5,d6,d7,d8,d9,d10,d11,d12,d13,d14,d15⟩,-⟩:=kV h1.2;have S:=aD h1.2;unfold rd;go_simp);clear M K)
 clear k l x y z B C F G H m n o q r t i d0 d1 d2 d3 d4 d5 d6 d7 d8 d9 d10 d11 d12 d13 d14 d15 S bd;refine bK rfl (fun U I=> ?_);unfold mv;go_simp;refine I _ _ (fun _=>⟨aE g.o.1 (aC ad.o (aB _ _)),aE g.o.2 (aC ad.o (aB _ _))⟩) ?_;clear I U;refine bK rfl (fun U I=> ?_);unfold mv;refine jT (base:=base) aAY (kP 16) rfl (.tmp 16) (.tmp 18) rfl _ lu rfl (bl.o.on (kP 16) (aC ad.o (aB _ _))) w1.drew.heap.size 1 _ _ _ () rfl (aK _ _ _ rfl) ⟨rfl,fun v hv=> ?_⟩ (qA L.o) qe (by have:=ab.o.size;have:=P.o.size;have:=L.o.1;simp;omega) ?_
 .simp only[List.mem_cons,List.not_mem_nil,or_false] at hv
  rcases hv with rfl|rfl|rfl|rfl|rfl|rfl|rfl|rfl|rfl|rfl|rfl|rfl|rfl|rfl|rfl|rfl<;>first|rfl|exact bw
 intro N bf T X w3 az be bb;have bu:some E≠(Value.slice la lu.length lc).ownBlock:=fun e=>qD ((HG.o.lt E e.symm).1) L.o.1
 have bt:some (w.heap.size+1)≠(Value.slice la lu.length lc).ownBlock:=fun e=>qA ((HG.o.lt _ e.symm).2)
 have ag:=aA ((aJ (ok:=fun b=>some b≠(Value.slice la lu.length lc).ownBlock) (aC ad.o (aB _ _))).trans (cY be));have j:=And.intro (aF g.o.1 ag.o bu) (aF g.o.2 ag.o bt);have j:=aA j;have av:=aA az;have bm:Hid (N.length=lu.length+1):=aA (by rw[bf.o,aL];rfl);have bj:Hid (∀b,(Value.slice T N.length X).ownBlock=some b->(Value.slice la lu.length lc).ownBlock=some b\/w.heap.size<=b):=aA (fun b f=>by
  rcases bb with h|h
  .exact .inl (h▸f)
  .rw[h] at f;injection f with f
   have h1:=ab.o.size;have h2:=P.o.size;refine .inr ?_;simp at f;omega)
 refine I _ _ (fun _=>j.o) ?_;clear I U az be bb bf;obtain⟨⟨d0,d1,d2,d3,d4,d5,d6,d7,d8,d9,d10,d11,d12,d13,d14,d15⟩,-⟩:=kV j.o.2;have S:=aD j.o.2;obtain⟨⟨k,l,x,y,z,B,C,F,G,H,m,n,o,q,r,t⟩,E0,E1,E2,E3,E4,E5,E6,E7,E8,E9,ai,aj,ak,al,an,ao⟩:=kV j.o.1;have i:=aD j.o.1
 repeat (refine dK rfl (fun K M=> ?_);unfold rd;go_simp;refine M _ (fun bx h1=> ?_) ?_;(· clear M K k l x y z B C F G H m n o q r t i d0 d1 d2 d3 d4 d5 d6 d7 d8 d9 d10 d11 d12 d13 d14 d15 S;obtain⟨⟨k,l,x,y,z,B,C,F,G,H,m,n,o,q,r,t⟩,-⟩:=kV h1.1;have i:=aD h1.1;obtain⟨⟨d0,d1,d2,d3,d4,d5,d6,d7,d8,d9,d10,d11,d12,d13,d14,d15⟩,-⟩:=kV h1.2;have S:=aD h1.2;unfold rd;go_simp);clear M K)
 refine bK rfl (fun U I=> ?_);unfold mv;go_simp;refine I _ _ (fun h=>absurd h qe) ?_;clear I U;unfold cK;obtain⟨Q,ae⟩:=xE (w3.setCell ⟨E,14,none⟩ (.slice T N.length X));have af:Hid (Q.heap[E]? =some (pH J s (.slice Y s.aDH.length Z) (.slice ra s.aDJ.length rc) (.slice na s.aDO.length nc) (.slice oa s.aDU.length oc) (.slice ta s.aDI.aDR.length tc) (.slice ua s.aDI.aDK.length O) (.slice ka s.aDI.aDV.length kc) (.slice V s.aDI.aDX.length W) (.slice T N.length X) h)):=aA (by rw[ae];exact aG j.o.1 14 _);have ax:Hid (aN (fun b=>b≠E) w3 Q):=aA (by rw[ae];exact aI _);have ay:Hid (aN (fun b=>b≠E/\some b≠(Value.slice la lu.length lc).ownBlock) w Q):=aA ((((aJ ab.o).trans (P.o.mono fun b _ f=>f.1)).trans (ag.o.mono fun b _ f=>f.2)).trans (ax.o.mono fun b _ f=>f.1));have aw:Hid (aM (wM 16) 16 58 Q base (fun _=>False) (.slice T N.length X) N):=aA (av.o.stays (kP 16) ax.o (fun b f e=>qD ((av.o.lt b f).1) L.o.1) (fun _ h _=>h.elim));have bk:=aA (Je h a c p.length p rfl Q Q.heap.size (qA L.o) (HS.o.aDQ ay.o).lt);have bq:=aA ae;clear ae k l x y z B C F G H m n o q r t E0 E1 E2 E3 E4 E5 E6 E7 E8 E9 ai aj ak al an ao i j g aq au P;obtain⟨⟨k,l,x,y,z,B,C,F,G,H,m,n,o,q,r,t⟩,E0,E1,E2,E3,E4,E5,E6,E7,E8,E9,ai,aj,ak,al,an,ao⟩:=kV af.o;have i:=aD af.o;rw[<-bq.o];go_wp2_with fail;refine bk.o.mono ?_;rintro e w5 ⟨rfl,rfl⟩;go_wp2;go_returns;refine⟨rfl,T,X,N,Fnv.aDF h p,bm.o,aG af.o 15 _,?_,bj.o,ay.o.trans ((aI _).mono fun b _ f=>f.1)⟩;exact aw.o.stays (kP 16) (aI _) (fun b f e=>qD ((aw.o.lt b f).1) L.o.1) (fun _ h _=>h.elim)
end
end Go.Proofs.YtheabjeppmdmiaaGreatDoor

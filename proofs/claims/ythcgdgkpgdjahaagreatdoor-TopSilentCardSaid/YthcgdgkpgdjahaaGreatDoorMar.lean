/- Lemmas. -/
import Derived.Test.YthcgdgkpgdjahaaGreatDoorMaq
import Derived.Outline
import Derived.Laws.CopyRow
namespace Go.Proofs.YthcgdgkpgdjahaaGreatDoor
open Go.RowKit
set_option linter.unusedVariables false
set_option linter.unusedSimpArgs false
set_option maxHeartbeats 16000000
open _root_.Go.Proofs.Tryz
set_option maxRecDepth 20000
namespace Cm
theorem Bp{p:Prop}(h:p:=by
 go_enter func253,ntmps253;go_wp2_with fail;refine(xO a b w).mono ?_;rintro e w' ⟨rfl,rfl⟩;go_wp2;go_ret;exact⟨rfl,rfl⟩):p:=h
theorem VJ(m:Nat×Nat)(hm:QP m)(w:World):Calls prog 253 #[mk m.1 m.2] w fun e w'=>e=.returned (mk (sJ m).1 (sJ m).2)/\w=w':=by
 obtain⟨p,d⟩:=m;have f:(FloatKind.f64.format.order (qb d) 4607182418800017408==some .eq)=(d==4):=OC d 4 hm.2 qe;have i:(FloatKind.f64.format.order (qb d) 4602678819172646912==some .eq)=(d==2):=OC d 2 hm.2 qe;have k:(FloatKind.f64.format.order (qb p) 4602678819172646912==some .gt||FloatKind.f64.format.order (qb p) 4602678819172646912==some .eq)=decide (2<=p):=aDs p 2 hm.1 qe;have j:(FloatKind.f64.format.order (qb p) 4607182418800017408==some .eq)=(p==4):=OC p 4 hm.1 qe;have l:(FloatKind.f64.format.order (qb p) 4602678819172646912==some .eq)=(p==2):=OC p 2 hm.1 qe;have o:Hid (sJ (p,d)=sJ (p,d)):=rfl;unfold mk;show Calls prog 253 #[.complex .f64 (qb p) (qb d)] w _;generalize n:sJ (p,d)=R;have c:=aA n;clear n o;unfold sJ at c;by_cases c1:d=4
 .rw[iP c1] at c;have g:=c.o;subst g;rw[show (d==4)=true by simp;omega] at f;clear c i k j l hm;generalize qb d=b at f ⊢;generalize qb p=a;exact Bp
 rw[iN c1] at c;by_cases c2:d=2/\2<=p
 .rw[iP c2] at c;have g:=c.o;subst g;rw[show (d==4)=false by simp;omega] at f;rw[show (d==2)=true by simp;omega] at i;rw[show (decide (2<=p))=true by simp;omega] at k;clear c j l hm;generalize qb d=b at f i ⊢;generalize qb p=a at k ⊢;exact Bp
 rw[iN c2] at c;by_cases c3:d=2
 .rw[iP c3] at c;have g:=c.o;subst g;rw[show (d==4)=false by simp;omega] at f;rw[show (d==2)=true by simp;omega] at i;rw[show (decide (2<=p))=false by simp;omega] at k;clear c j l hm;generalize qb d=b at f i ⊢;generalize qb p=a at k ⊢;exact Bp
 rw[iN c3] at c;by_cases c4:p=4
 .rw[iP c4] at c;have g:=c.o;subst g;rw[show (d==4)=false by simp;omega] at f;rw[show (d==2)=false by simp;omega] at i;rw[show (p==4)=true by simp;omega] at j;clear c k l hm;generalize qb d=b at f i ⊢;generalize qb p=a at j ⊢;exact Bp
 rw[iN c4] at c;by_cases c5:p=2
 .rw[iP c5] at c;have g:=c.o;subst g;rw[show (d==4)=false by simp;omega] at f;rw[show (d==2)=false by simp;omega] at i;rw[show (p==4)=false by simp;omega] at j;rw[show (p==2)=true by simp;omega] at l;clear c k hm;generalize qb d=b at f i ⊢;generalize qb p=a at j l ⊢;exact Bp
 rw[iN c5] at c;have g:=c.o;subst g;rw[show (d==4)=false by simp;omega] at f;rw[show (d==2)=false by simp;omega] at i;rw[show (p==4)=false by simp;omega] at j;rw[show (p==2)=false by simp;omega] at l;clear c k hm;generalize qb d=b at f i ⊢;generalize qb p=a at j l ⊢;exact Bp
end Cm
namespace Cm
theorem VK{p:Prop}(h:p:=by
 go_enter func29,ntmps29;go_wp2;go_ret;exact⟨rfl,rfl⟩):p:=h
theorem iX(p d i j:Nat)(hm:QP (p,d))(a:i<=4)(hj:j<=4):((FloatKind.f64.format.order (qb p) (qb i)==some .eq)&&(FloatKind.f64.format.order (qb d) (qb j)==some .eq))=((p,d)==(i,j)):=by
 rw[OC p i hm.1 a,OC d j hm.2 hj,Bool.eq_iff_iff];simp
def bT(m:Nat×Nat):ByteArray:=
 if m=(0,0) then ⟨#[78,111,116,65,112,112,108,105,99,97,98,108,101]⟩ else
 if m=(4,0) then ⟨#[80,101,114,109,105,116]⟩ else
 if m=(0,4) then ⟨#[68,101,110,121]⟩ else
 if m=(2,0) then ⟨#[73,110,100,101,116,101,114,109,105,110,97,116,101,123,80,125]⟩ else
 if m=(0,2) then ⟨#[73,110,100,101,116,101,114,109,105,110,97,116,101,123,68,125]⟩ else
 if m=(2,2) then ⟨#[73,110,100,101,116,101,114,109,105,110,97,116,101,123,68,80,125]⟩ else
 ⟨#[]⟩
theorem AQ(m:Nat×Nat)(hm:QP m)(w:World):Calls prog 29 #[mk m.1 m.2] w fun e w'=>e=.returned (.string (bT m))/\w=w':=by
 obtain⟨p,d⟩:=m;have g:((FloatKind.f64.format.order (qb p) 0==some .eq)&&(FloatKind.f64.format.order (qb d) 0==some .eq))=((p,d)==(0,0)):=iX p d 0 0 hm qe qe;have i:((FloatKind.f64.format.order (qb p) 4607182418800017408==some .eq)&&(FloatKind.f64.format.order (qb d) 0==some .eq))=((p,d)==(4,0)):=iX p d 4 0 hm qe qe;have j:((FloatKind.f64.format.order (qb p) 0==some .eq)&&(FloatKind.f64.format.order (qb d) 4607182418800017408==some .eq))=((p,d)==(0,4)):=iX p d 0 4 hm qe qe;have k:((FloatKind.f64.format.order (qb p) 4602678819172646912==some .eq)&&(FloatKind.f64.format.order (qb d) 0==some .eq))=((p,d)==(2,0)):=iX p d 2 0 hm qe qe;have l:((FloatKind.f64.format.order (qb p) 0==some .eq)&&(FloatKind.f64.format.order (qb d) 4602678819172646912==some .eq))=((p,d)==(0,2)):=iX p d 0 2 hm qe qe;have n:((FloatKind.f64.format.order (qb p) 4602678819172646912==some .eq)&&(FloatKind.f64.format.order (qb d) 4602678819172646912==some .eq))=((p,d)==(2,2)):=iX p d 2 2 hm qe qe;show Calls prog 29 #[.complex .f64 (qb p) (qb d)] w _;generalize o:bT (p,d)=R;have c:=aA o;clear o hm;unfold bT at c;generalize qb p=a at g i j k l n ⊢;generalize qb d=b at g i j k l n ⊢;by_cases c0:(p,d)=(0,0)
 .rw[iP c0] at c;have f:=c.o;subst f;rw[show ((p,d)==(0,0))=true from bQ.2 c0] at g;clear c c0 i j k l n;exact VK
 rw[iN c0] at c;by_cases c1:(p,d)=(4,0)
 .rw[iP c1] at c;have f:=c.o;subst f;rw[show ((p,d)==(4,0))=true from bQ.2 c1] at i;rw[show ((p,d)==(0,0))=false from bN.2 c0] at g;clear c c0 c1 j k l n;exact VK
 rw[iN c1] at c;by_cases c2:(p,d)=(0,4)
 .rw[iP c2] at c;have f:=c.o;subst f;rw[show ((p,d)==(0,4))=true from bQ.2 c2] at j;rw[show ((p,d)==(0,0))=false from bN.2 c0] at g;rw[show ((p,d)==(4,0))=false from bN.2 c1] at i;clear c c0 c1 c2 k l n;exact VK
 rw[iN c2] at c;by_cases c3:(p,d)=(2,0)
 .rw[iP c3] at c;have f:=c.o;subst f;rw[show ((p,d)==(2,0))=true from bQ.2 c3] at k;rw[show ((p,d)==(0,0))=false from bN.2 c0] at g;rw[show ((p,d)==(4,0))=false from bN.2 c1] at i;rw[show ((p,d)==(0,4))=false from bN.2 c2] at j;clear c c0 c1 c2 c3 l n;exact VK
 rw[iN c3] at c;by_cases c4:(p,d)=(0,2)
 .rw[iP c4] at c;have f:=c.o;subst f;rw[show ((p,d)==(0,2))=true from bQ.2 c4] at l;rw[show ((p,d)==(0,0))=false from bN.2 c0] at g;rw[show ((p,d)==(4,0))=false from bN.2 c1] at i;rw[show ((p,d)==(0,4))=false from bN.2 c2] at j;rw[show ((p,d)==(2,0))=false from bN.2 c3] at k;clear c c0 c1 c2 c3 c4 n;exact VK
 rw[iN c4] at c;by_cases c5:(p,d)=(2,2)
 .rw[iP c5] at c;have f:=c.o;subst f;rw[show ((p,d)==(2,2))=true from bQ.2 c5] at n;rw[show ((p,d)==(0,0))=false from bN.2 c0] at g;rw[show ((p,d)==(4,0))=false from bN.2 c1] at i;rw[show ((p,d)==(0,4))=false from bN.2 c2] at j;rw[show ((p,d)==(2,0))=false from bN.2 c3] at k;rw[show ((p,d)==(0,2))=false from bN.2 c4] at l;clear c c0 c1 c2 c3 c4 c5;exact VK
 rw[iN c5] at c;have f:=c.o;subst f;rw[show ((p,d)==(0,0))=false from bN.2 c0] at g;rw[show ((p,d)==(4,0))=false from bN.2 c1] at i;rw[show ((p,d)==(0,4))=false from bN.2 c2] at j;rw[show ((p,d)==(2,0))=false from bN.2 c3] at k;rw[show ((p,d)==(0,2))=false from bN.2 c4] at l;rw[show ((p,d)==(2,2))=false from bN.2 c5] at n;clear c c0 c1 c2 c3 c4 c5;exact VK
theorem Kc(m:Nat×Nat)(hm:QP m)(w:World):Calls prog 251 #[mk m.1 m.2] w fun e w'=>e=.returned (.bool (!(bT m).toList.isEmpty))/\w=w':=by
 have c:=aA (AQ m hm w);unfold mk at c ⊢;generalize qb m.1=a at c ⊢;generalize qb m.2=b at c ⊢;generalize bT m=N at c ⊢;clear hm;go_enter func251,ntmps251;go_wp2_with fail;refine c.o.mono ?_;exact QH
end Cm
namespace Cm
end Cm
namespace Cm
theorem QCw{p:Prop}(h:p:=by
 generalize qb p=a at e1 e2 ⊢;generalize qb d=b at e1 e2 ⊢;clear HR c1 c2 hm;go_enter func230,ntmps230;go_wp2;go_ret;exact⟨rfl,rfl⟩):p:=h
def yX(m:Nat×Nat):Nat×Nat:=if m=(4,0) then (2,0) else if m=(0,4) then (0,2) else m
theorem aBU(m:Nat×Nat)(hm:QP m)(w:World):Calls prog 230 #[mk m.1 m.2] w fun e w'=>e=.returned (mk (yX m).1 (yX m).2)/\w=w':=by
 obtain⟨p,d⟩:=m;have e1:((FloatKind.f64.format.order (qb p) 4607182418800017408==some .eq)&&(FloatKind.f64.format.order (qb d) 0==some .eq))=((p,d)==(4,0)):=iX p d 4 0 hm qe qe;have e2:((FloatKind.f64.format.order (qb p) 0==some .eq)&&(FloatKind.f64.format.order (qb d) 4607182418800017408==some .eq))=((p,d)==(0,4)):=iX p d 0 4 hm qe qe;have HR:∃r:Nat×Nat,yX (p,d)=r/\True:=⟨_,rfl,trivial⟩;by_cases c1:(p,d)=(4,0)
 .rw[show yX (p,d)=(2,0) from iP c1];rw[show ((p,d)==(4,0))=true from bQ.2 c1] at e1;show Calls prog 230 #[.complex .f64 (qb p) (qb d)] w _;generalize qb p=a at e1 ⊢;generalize qb d=b at e1 ⊢;clear HR c1 e2 hm;go_enter func230,ntmps230;go_wp2;go_ret;exact⟨rfl,rfl⟩
 rw[show ((p,d)==(4,0))=false from bN.2 c1] at e1;by_cases c2:(p,d)=(0,4)
 .rw[show yX (p,d)=(0,2) from (iN c1).trans (iP c2)];rw[show ((p,d)==(0,4))=true from bQ.2 c2] at e2;show Calls prog 230 #[.complex .f64 (qb p) (qb d)] w _;exact QCw
 rw[show yX (p,d)=(p,d) from (iN c1).trans (iN c2)];rw[show ((p,d)==(0,4))=false from bN.2 c2] at e2;show Calls prog 230 #[.complex .f64 (qb p) (qb d)] w fun e w'=>e=.returned (.complex .f64 (qb p) (qb d))/\w=w'
 exact QCw
def Ans(f:FuncId)(args:Array Value)(v:Value):Prop:=∀w,Calls prog f args w fun e w'=>e=.returned v/\w=w'
end Cm
namespace Cm
def fE(m:Nat×Nat):Bool:=
 if m=(0,0) then true else if m=(4,0) then true else if m=(0,4) then true else if m=(2,0) then true else if m=(0,2) then true else if m=(2,2) then true else false
theorem El(m:Nat×Nat):(!(bT m).toList.isEmpty)=fE m:=by
 unfold bT fE;by_cases h0:m=(0,0)
 .rw[iP h0,iP h0];kernel_rfl
 rw[iN h0,iN h0];by_cases h1:m=(4,0)
 .rw[iP h1,iP h1];kernel_rfl
 rw[iN h1,iN h1];by_cases h2:m=(0,4)
 .rw[iP h2,iP h2];kernel_rfl
 rw[iN h2,iN h2];by_cases h3:m=(2,0)
 .rw[iP h3,iP h3];kernel_rfl
 rw[iN h3,iN h3];by_cases h4:m=(0,2)
 .rw[iP h4,iP h4];kernel_rfl
 rw[iN h4,iN h4];by_cases h5:m=(2,2)
 .rw[iP h5,iP h5];kernel_rfl
 rw[iN h5,iN h5];kernel_rfl
theorem Em(m:Nat×Nat)(hm:QP m)(w:World):Calls prog 251 #[mk m.1 m.2] w fun e w'=>e=.returned (.bool (fE m))/\w=w':=by
 rw[<-El];exact Kc m hm w
end Cm
section
namespace Cm
def vm(l:List (Nat×Nat)):List Value:=l.map fun m=>mk m.1 m.2
theorem aA6(l:List (Nat×Nat))(i:Nat):(vm l)[i]? =(l[i]?).map fun m=>mk m.1 m.2:=by simp[vm]
end Cm
open Cm
theorem Sl.mark{w:World}{B:Nat}{a:oD}{l:List (Nat×Nat)}{i:Nat}(h:Sl w B a (vm l))(c:i<l.length):
 ∃b off,a=some ⟨b,off,none⟩/\b<B/\w.cell? ⟨b,off+i,none⟩=some (.complex .f64 (qb l[i].1) (qb l[i].2)):=
 h.at (by rw[aA6];simp[c,mk])
namespace Cm
theorem VL(a b:Nat)(S:Bool)(w:World)(c:((FloatKind.f64.format.order a 0==some .eq)&&(FloatKind.f64.format.order b 0==some .eq))=S):
 Calls prog 274 #[.complex .f64 a b] w fun e w'=>e=.returned (.bool (!S))/\w=w':=by
 rcases S with _|_
 all_goals
  go_enter func274,ntmps274;go_wp2;go_ret;exact⟨rfl,rfl⟩
theorem Kd(a b:Nat)(c d f:Bool)(w:World)(g:((FloatKind.f64.format.order a 0==some .eq)&&(FloatKind.f64.format.order b 0==some .eq))=c)
 (i:((FloatKind.f64.format.order a 4607182418800017408==some .eq)&&(FloatKind.f64.format.order b 0==some .eq))=d)(j:((FloatKind.f64.format.order a 0==some .eq)&&(FloatKind.f64.format.order b 4607182418800017408==some .eq))=f):
 Calls prog 275 #[.complex .f64 a b] w fun e w'=>e=.returned (.bool (c||d||f))/\w=w':=by
 rcases c with _|_<;>rcases d with _|_<;>rcases f with _|_
 all_goals
  go_enter func275,ntmps275;go_wp2;go_ret;exact⟨rfl,rfl⟩
theorem xP(k:Int)(d:k=1\/k=2\/k=5\/k=6)(a a2 b1 b2 b c:Nat)(w:World)(h:Hid (Ans 252 #[.complex .f64 a a2,.complex .f64 b1 b2] (.complex .f64 b c))):
 Calls prog 276 #[.int .i64 k,.complex .f64 a a2,.complex .f64 b1 b2] w fun e w'=>e=.returned (.complex .f64 b c)/\w=w':=by
 rcases d with rfl|rfl|rfl|rfl
 all_goals
  go_enter func276,ntmps276;go_wp2_with fail;refine(h.o w).mono ?_;exact QH
theorem En(a a2 b1 b2:Nat)(X:Bool)(w:World)(b:((FloatKind.f64.format.order a 0==some .eq)&&(FloatKind.f64.format.order a2 0==some .eq))=X):
 Calls prog 276 #[.int .i64 3,.complex .f64 a a2,.complex .f64 b1 b2] w fun e w'=>e=.returned (bif X then .complex .f64 b1 b2 else .complex .f64 a a2)/\w=w':=by
 rcases X with _|_
 all_goals
  go_enter func276,ntmps276;go_wp2;go_ret;exact⟨rfl,rfl⟩
theorem Ke(a a2 b1 b2:Nat)(X Y:Bool)(w:World)(b:((FloatKind.f64.format.order a 0==some .eq)&&(FloatKind.f64.format.order a2 0==some .eq))=X)(c:((FloatKind.f64.format.order b1 0==some .eq)&&(FloatKind.f64.format.order b2 0==some .eq))=Y):
 Calls prog 276 #[.int .i64 4,.complex .f64 a a2,.complex .f64 b1 b2] w fun e w'=>e=.returned (bif X then .complex .f64 b1 b2 else bif Y then .complex .f64 a a2 else .complex .f64 4602678819172646912 4602678819172646912)/\w=w':=by
 rcases X with _|_<;>rcases Y with _|_
 all_goals
  go_enter func276,ntmps276;go_wp2;go_ret;exact⟨rfl,rfl⟩
end Cm
end
def eH(r:Rpl):Array Value:=#[.int .i64 r.err,.complex .f64 (Cm.qb r.mark.1) (Cm.qb r.mark.2),.bool r.aEh,.int .i64 r.val.1,.int .i64 r.val.2.1,.string r.val.2.2,.bool r.hidden,.int .i64 r.at_]
def nD(d:Deci)(a:Value):Array Value:=#[.int .i64 d.op.aDN,.string d.op.aD3,.string d.op.aDU,.string d.op.aD7,.string d.op.to_,.int .i64 d.op.val.1,.int .i64 d.op.val.2.1,.string d.op.val.2.2,.int .i64 d.op.aEa,.string d.op.text,.string d.op.aEc,.bool d.op.aEh,.int .i64 d.aD0,.complex .f64 (Cm.qb d.mark.1) (Cm.qb d.mark.2),.bool d.aEh,a]
def pJ:Array Value:=#[.int .i64 0,.string ⟨#[]⟩,.string ⟨#[]⟩,.string ⟨#[]⟩,.string ⟨#[]⟩,.int .i64 0,.int .i64 0,.string ⟨#[]⟩,.int .i64 0,.string ⟨#[]⟩,.string ⟨#[]⟩,.bool false,.int .i64 0,.complex .f64 0 0,.bool false,.slice none 0 0]
section
open Pv
section
variable {P:Program} {w:World}
theorem LI(g o:Nat)(t ty:TypeId)(cur cells:Array Value)(d:w.heap[g]? =some (.cells cur t (0,0)))(c:o+cells.size<=cur.size)(b:(P.info? ty).map (·.size)=some cells.size)(h1:cells.all (·.oneCell')=true):
 (storeVar ty ⟨g,o,none⟩ (.agg cells)).run P w=.ok () (w.setRow g (cur.toList.take o++cells.toList++cur.toList.drop (o+cells.size)).toArray):=by
 have h:=run_storeCells_at P g o t cells.toList 0 cur w d (by simpa using c) (fun v f=>(Array.all_eq_true_iff_forall_mem.1 h1) v (by simpa using f))
 cases a:P.info? ty with
 |none=>simp[a] at b
 |some i=>
  have e:cells.size=i.size:=by simp[a] at b;omega
  simp only[Nat.add_zero,Array.length_toList] at h;simp[storeVar,sizeOf,typeInfo,a,Value.cells,e,h]
theorem Qs{op:Oper}{a:Act}{K:Act->World->Prop}{Q:Exit->Act->World->Prop}(ty:TypeId)(x y:Operand)(i:op.op=.store ty x y)(g o:Nat)(cells:Array Value)(j:a.eval x=.pointer (some ⟨g,o,none⟩))(k:a.eval y=.agg cells)(t:TypeId)(cur new:Array Value)(c:w.heap[g]? =some (.cells cur t (0,0)))(e:(P.info? ty).map (·.size)=some cells.size)(d:o+cells.size<=cur.size)(f:(cur.toList.take o++cells.toList++cur.toList.drop (o+cells.size)).toArray=new)(h1:cells.all (·.oneCell')=true)
 (h:∀w',Hid (w'.heap[g]? =some (.cells new t (0,0)))->Hid (aN (fun b=>b≠g) w w')->K (a.put op.dst undef) w'):op.wp P a w K Q:=by
 unfold Oper.wp execOp;simp only[i,j,k,Instr.storeAt,Instr.sureAddr,Sem.run_bind,Sem.run_pure,Result.andThen_ok,LI g o t ty cur cells c d e h1,f];exact h _ (setRow_heap w g cur new t (0,0) c) (DH g new)
theorem DY{ops:Array Oper}{rest:List Oper}{op:Oper}{a:Act}{Q:Exit->Act->World->Prop}(f:op.guard=none)(ty:TypeId)(x y:Operand)(k:op.op=.store ty x y)(g o:Nat)(cells:Array Value)(l:a.eval x=.pointer (some ⟨g,o,none⟩))(m:a.eval y=.agg cells)(t:TypeId)(cur new:Array Value)(e:w.heap[g]? =some (.cells cur t (0,0)))(i:(P.info? ty).map (·.size)=some cells.size)(d:o+cells.size<=cur.size)(j:(cur.toList.take o++cells.toList++cur.toList.drop (o+cells.size)).toArray=new)(h1:cells.all (·.oneCell')=true)
 (h:∀w',Hid (w'.heap[g]? =some (.cells new t (0,0)))->Hid (aN (fun b=>b≠g) w w')->wpList P ops Q rest (a.put op.dst undef) w'):wpList P ops Q (op::rest) a w:=
 wpList_plain f fun _ c=>Qs ty x y k g o cells l m t cur new e i d j h1 fun w' h2 h3=>c _ _ (h w' h2 h3)
end
abbrev qP(J:Nat)(s:Sto)(vc vr vn vo vt vu vk vb a:Value)(h:BitVec 64):Obj:= .cells #[.pointer (some ⟨J,0,none⟩),.int .i64 s.aDX,vc,vr,vn,vo,.string s.aDP.id,.bool s.aDP.set,.int .i64 s.aDP.alg,vt,vu,vk,vb,.int .i64 s.aD0,a,.int .u64 (n64 h)] 66
theorem aA7:dZ prog 63 68 16 208:=fR (z:= .agg #[.int .i64 0,.string ByteArray.empty,.string ByteArray.empty,.string ByteArray.empty,.string ByteArray.empty,.int .i64 0,.int .i64 0,.string ByteArray.empty,.int .i64 0,.string ByteArray.empty,.string ByteArray.empty,.bool false,.int .i64 0,.complex .f64 0 0,.bool false,.slice none 0 0]) underlying63 (by kernel_rfl) rfl qe
theorem Bq{w:World}{ok:nP}{s:Sto}{vc vr vn vo vt vu vk vb:Value}(a:fM w ok s vc vr vn vo vt vu vk vb):(aX s vc vr vn vo vt vu vk vb).all (·.oneCell')=true:=by
 obtain⟨d,e,ra,rc,i,j,k,l,m,n,o,p,f,g,b,c,rfl,-,rfl,-,rfl,-,rfl,-,rfl,-,rfl,-,rfl,-,rfl,-⟩:=a.sl;simp[aX,Value.oneCell']
def Qt(E J base:Nat)(s:Sto)(vc vr vn vo vt vu vk vb:Value)(la:oD)(lu:List Unit)(lc:Nat)(w:World)(e:Ending)(w':World):Prop:=
 e=.returned (.tuple #[])/\∃(c:oD) (d:Nat) (a:List Unit) (f:BitVec 64),a.length=lu.length+1/\w'.heap[E]? =some (qP J s vc vr vn vo vt vu vk vb (.slice c a.length d) f)/\aM (wQ 16) 16 68 w' base (fun _=>False) (.slice c a.length d) a/\(∀b,(Value.slice c a.length d).ownBlock=some b->(Value.slice la lu.length lc).ownBlock=some b\/w.heap.size<=b)/\aN (fun b=>b≠E/\some b≠(Value.slice la lu.length lc).ownBlock) w w'
theorem Kf{ok:nP}(E J base lc:Nat)(s0 s:Sto)(O ur un uo ut uu uk ub vc vr vn vo vt vu vk vb:Value)(la:oD)(lu:List Unit)(h:BitVec 64)(d:Deci)(R:Value)(bu:R.oneCell'=true)(a:oD)(c:Nat)(p:lU)(w:World)(hS:fM w ok s vc vr vn vo vt vu vk vb)(hE:w.heap[E]? =some (qP J s0 O ur un uo ut uu uk ub (.slice la lu.length lc) h))(hG:aM (wQ 16) 16 68 w base (fun _=>False) (.slice la lu.length lc) lu)(bf:E<base/\base<=w.heap.size)(bg:lu.length<=900000)(hp:jF w (fun b=>b≠E/\some b≠(Value.slice la lu.length lc).ownBlock) a (bF p))(h8:p.length<=8192):
 Calls prog 18 #[.pointer (some ⟨E,0,none⟩),.agg (aX s vc vr vn vo vt vu vk vb),.agg (nD d R),.slice a p.length c] w (Qt E J base s vc vr vn vo vt vu vk vb la lu lc w):=by
 have bn:=aA (Bq hS);obtain⟨X,Y,ra,rc,na,nc,oa,oc,ta,tc,ua,O,ka,kc,U,V,rfl,-,rfl,-,rfl,-,rfl,-,rfl,-,rfl,-,rfl,-,rfl,-⟩:=hS.sl;obtain⟨W0,Z⟩:=xE ((w.alloc (.cells (aX s (.slice X s.aDO.length Y) (.slice ra s.aDQ.length rc) (.slice na s.aDV.length nc) (.slice oa s.aD1.length oc) (.slice ta s.aDP.aDY.length tc) (.slice ua s.aDP.aDR.length O) (.slice ka s.aDP.aD2.length kc) (.slice U s.aDP.aD4.length V)) 62)).alloc (.cells (nD d R) 68));have ag:Below w.heap.size w W0:=by rw[Z];exact aC (aB _ _) (aB _ _)
 have A:Hid (W0.heap[w.heap.size]? =some (.cells (aX s (.slice X s.aDO.length Y) (.slice ra s.aDQ.length rc) (.slice na s.aDV.length nc) (.slice oa s.aD1.length oc) (.slice ta s.aDP.aDY.length tc) (.slice ua s.aDP.aDR.length O) (.slice ka s.aDP.aD2.length kc) (.slice U s.aDP.aD4.length V)) 62 (0,0))):=aA (by rw[Z];exact aE (aK _ _ _ rfl) (aB _ _));have D:Hid (W0.heap[w.heap.size+1]? =some (.cells (nD d R) 68 (0,0))):=aA (by rw[Z];exact aK _ _ _ qs);obtain⟨aq,HG,aa,HS,L,bm⟩:=hD6 (aE hE ag) hG ag hp (And.intro bf (And.intro bg h8)) (aD hE);unfold aX nD qP at *;have bo:=aA Z;clear Z ag hS hE hG hp bf bg h8;obtain⟨⟨a0,a1,a2,a3,a4,a5,a6,a7,a8,a9,bq,br,a12⟩,-⟩:=bW A.o;have za:=aD A.o;have i:=aD aq.o;go_enter func18,ntmps18;go_upto_region 1 with (fail)
 rw[<-bo.o];go_upto_region 2 with (refine DY rfl _ (.tmp 11) (.tmp 9) rfl E 1 _ rfl rfl _ _ _ aq.o (by kernel_rfl) (by show 1+13<=16;omega) rfl bn.o ?_;intro w1 ar P)
 have ao:=qS D P.o (by show (_:Nat)≠_;have:=bm.o;omega);have g:Hid (w1.heap[E]? =some (qP J s (.slice X s.aDO.length Y) (.slice ra s.aDQ.length rc) (.slice na s.aDV.length nc) (.slice oa s.aD1.length oc) (.slice ta s.aDP.aDY.length tc) (.slice ua s.aDP.aDR.length O) (.slice ka s.aDP.aD2.length kc) (.slice U s.aDP.aD4.length V) (.slice la lu.length lc) h)/\w1.heap[w.heap.size+1]? =some (.cells #[.int .i64 d.op.aDN,.string d.op.aD3,.string d.op.aDU,.string d.op.aD7,.string d.op.to_,.int .i64 d.op.val.1,.int .i64 d.op.val.2.1,.string d.op.val.2.2,.int .i64 d.op.aEa,.string d.op.text,.string d.op.aEc,.bool d.op.aEh,.int .i64 d.aD0,.complex .f64 (Cm.qb d.mark.1) (Cm.qb d.mark.2),.bool d.aEh,R] 68 (0,0))):=aA ⟨ar.o,ao.o⟩;have bk:Hid (aM (wQ 16) 16 68 w1 base (fun _=>False) (.slice la lu.length lc) lu):=aA ((HG.o.on (kS 16) aa.o).stays (kS 16) P.o (fun b f e=>qD ((HG.o.lt b f).1) L.o.1.1) (fun _ h _=>h.elim));clear a0 a1 a2 a3 a4 a5 a6 a7 a8 a9 bq br a12 za i;have bb:Below w1.heap.size w1 w1.drew:=(Below.refl _ _).drew;have ab:=aA bb;refine cD 10 [(0,false),(1,false),(2,false),(3,false),(4,false),(5,false),(6,true),(7,true),(8,false),(9,false)] [(10,true)] (fun w'=>w'.heap[E]? =some (qP J s (.slice X s.aDO.length Y) (.slice ra s.aDQ.length rc) (.slice na s.aDV.length nc) (.slice oa s.aD1.length oc) (.slice ta s.aDP.aDY.length tc) (.slice ua s.aDP.aDR.length O) (.slice ka s.aDP.aD2.length kc) (.slice U s.aDP.aD4.length V) (.slice la lu.length lc) h)/\w'.heap[w.heap.size+1]? =some (.cells #[.int .i64 d.op.aDN,.string d.op.aD3,.string d.op.aDU,.string d.op.aD7,.string d.op.to_,.int .i64 d.op.val.1,.int .i64 d.op.val.2.1,.string d.op.val.2.2,.int .i64 d.op.aEa,.string d.op.text,.string d.op.aEc,.bool d.op.aEh,.int .i64 d.aD0,.complex .f64 (Cm.qb d.mark.1) (Cm.qb d.mark.2),.bool d.aEh,R] 68 (0,0))) (by kernel_rfl) (by kernel_rfl) g.o ?_
 simp only[List.cons_append,List.nil_append];obtain⟨⟨k,l,x,y,z,B,C,F,G,H,m,n,o,q,r,t⟩,-⟩:=lM g.o.1;have i:=aD g.o.1;obtain⟨⟨d0,d1,d2,d3,d4,d5,d6,d7,d8,d9,d10,d11,d12,d13,d14,d15⟩,-⟩:=lM g.o.2;have S:=aD g.o.2
 repeat (refine dG rfl (fun K M=> ?_);unfold rd;go_simp;refine M _ (fun bw h1=> ?_) ?_;(· clear M K k l x y z B C F G H m n o q r t i d0 d1 d2 d3 d4 d5 d6 d7 d8 d9 d10 d11 d12 d13 d14 d15 S;obtain⟨⟨k,l,x,y,z,B,C,F,G,H,m,n,o,q,r,t⟩,-⟩:=lM h1.1;have i:=aD h1.1;obtain⟨⟨d0,d1,d2,d3,d4,d5,d6,d7,d8,d9,d10,d11,d12,d13,d14,d15⟩,-⟩:=lM h1.2;have S:=aD h1.2;unfold rd;go_simp);clear M K)
 clear k l x y z B C F G H m n o q r t i d0 d1 d2 d3 d4 d5 d6 d7 d8 d9 d10 d11 d12 d13 d14 d15 S bb;refine bJ rfl (fun K1 I=> ?_);unfold mv;go_simp;refine I _ _ (fun _=>⟨aE g.o.1 (aC ab.o (aB _ _)),aE g.o.2 (aC ab.o (aB _ _))⟩) ?_;clear I K1;refine bJ rfl (fun K1 I=> ?_);unfold mv;refine jA (base:=base) aA7 (kS 16) rfl (.tmp 16) (.tmp 18) rfl _ lu rfl (bk.o.on (kS 16) (aC ab.o (aB _ _))) w1.drew.heap.size 1 _ _ _ () rfl (aK _ _ _ rfl) ⟨rfl,fun v hv=> ?_⟩ (qA L.o) qe (by have:=aa.o.size;have:=P.o.size;have:=L.o.1;simp;omega) ?_
 .simp only[List.mem_cons,List.not_mem_nil,or_false] at hv
  rcases hv with rfl|rfl|rfl|rfl|rfl|rfl|rfl|rfl|rfl|rfl|rfl|rfl|rfl|rfl|rfl|rfl<;>first|rfl|exact bu
 intro N be T W w3 ay bd az;have bt:some E≠(Value.slice la lu.length lc).ownBlock:=fun e=>qD ((HG.o.lt E e.symm).1) L.o.1
 have bs:some (w.heap.size+1)≠(Value.slice la lu.length lc).ownBlock:=fun e=>qA ((HG.o.lt _ e.symm).2)
 have af:=aA ((aJ (ok:=fun b=>some b≠(Value.slice la lu.length lc).ownBlock) (aC ab.o (aB _ _))).trans (cX bd));have j:=And.intro (aF g.o.1 af.o bt) (aF g.o.2 af.o bs);have j:=aA j;have au:=aA ay;have bl:Hid (N.length=lu.length+1):=aA (by rw[be.o,aL];rfl);have bh:Hid (∀b,(Value.slice T N.length W).ownBlock=some b->(Value.slice la lu.length lc).ownBlock=some b\/w.heap.size<=b):=aA (fun b f=>by
  rcases az with h|h
  .exact .inl (h▸f)
  .rw[h] at f;injection f with f
   have h1:=aa.o.size;have h2:=P.o.size;refine .inr ?_;simp at f;omega)
 refine I _ _ (fun _=>j.o) ?_;clear I K1 ay bd az be;obtain⟨⟨d0,d1,d2,d3,d4,d5,d6,d7,d8,d9,d10,d11,d12,d13,d14,d15⟩,-⟩:=lM j.o.2;have S:=aD j.o.2;obtain⟨⟨k,l,x,y,z,B,C,F,G,H,m,n,o,q,r,t⟩,E0,E1,E2,E3,E4,E5,E6,E7,E8,E9,ah,ai,aj,ak,al,an⟩:=lM j.o.1;have i:=aD j.o.1
 repeat (refine dG rfl (fun K M=> ?_);unfold rd;go_simp;refine M _ (fun bw h1=> ?_) ?_;(· clear M K k l x y z B C F G H m n o q r t i d0 d1 d2 d3 d4 d5 d6 d7 d8 d9 d10 d11 d12 d13 d14 d15 S;obtain⟨⟨k,l,x,y,z,B,C,F,G,H,m,n,o,q,r,t⟩,-⟩:=lM h1.1;have i:=aD h1.1;obtain⟨⟨d0,d1,d2,d3,d4,d5,d6,d7,d8,d9,d10,d11,d12,d13,d14,d15⟩,-⟩:=lM h1.2;have S:=aD h1.2;unfold rd;go_simp);clear M K)
 refine bJ rfl (fun K1 I=> ?_);unfold mv;go_simp;refine I _ _ (fun h=>absurd h qe) ?_;clear I K1;unfold cJ;obtain⟨Q,ad⟩:=xE (w3.setCell ⟨E,14,none⟩ (.slice T N.length W));have ae:Hid (Q.heap[E]? =some (qP J s (.slice X s.aDO.length Y) (.slice ra s.aDQ.length rc) (.slice na s.aDV.length nc) (.slice oa s.aD1.length oc) (.slice ta s.aDP.aDY.length tc) (.slice ua s.aDP.aDR.length O) (.slice ka s.aDP.aD2.length kc) (.slice U s.aDP.aD4.length V) (.slice T N.length W) h)):=aA (by rw[ad];exact aG j.o.1 14 _);have aw:Hid (aN (fun b=>b≠E) w3 Q):=aA (by rw[ad];exact aI _);have ax:Hid (aN (fun b=>b≠E/\some b≠(Value.slice la lu.length lc).ownBlock) w Q):=aA ((((aJ aa.o).trans (P.o.mono fun b _ f=>f.1)).trans (af.o.mono fun b _ f=>f.2)).trans (aw.o.mono fun b _ f=>f.1));have av:Hid (aM (wQ 16) 16 68 Q base (fun _=>False) (.slice T N.length W) N):=aA (au.o.stays (kS 16) aw.o (fun b f e=>qD ((au.o.lt b f).1) L.o.1) (fun _ h _=>h.elim));have bj:=aA (Ka h a c p.length p rfl Q Q.heap.size (qA L.o) (HS.o.aDW ax.o).lt);have bp:=aA ad;clear ad k l x y z B C F G H m n o q r t E0 E1 E2 E3 E4 E5 E6 E7 E8 E9 ah ai aj ak al an i j g ao ar P;obtain⟨⟨k,l,x,y,z,B,C,F,G,H,m,n,o,q,r,t⟩,E0,E1,E2,E3,E4,E5,E6,E7,E8,E9,ah,ai,aj,ak,al,an⟩:=lM ae.o;have i:=aD ae.o;rw[<-bp.o];go_wp2_with fail;refine bj.o.mono ?_;rintro e w5 ⟨rfl,rfl⟩;go_wp2;go_returns;refine⟨rfl,T,W,N,Fnv.aDM h p,bl.o,aG ae.o 15 _,?_,bh.o,ax.o.trans ((aI _).mono fun b _ f=>f.1)⟩;exact av.o.stays (kS 16) (aI _) (fun b f e=>qD ((av.o.lt b f).1) L.o.1) (fun _ h _=>h.elim)
end
theorem iE.more{K:nP}{base B:Nat}{a b c:World}{s:Sto}(h:iE K base B a b s)(d:Below b.heap.size b c):iE K base B a c s:=by
 obtain⟨L,ro,vc,vr,vn,vo,vt,vu,vk,vb,h1,h2,h3⟩:=h;exact⟨L,ro,vc,vr,vn,vo,vt,vu,vk,vb,aE h1 d,h2.on d,h3.trans (aJ d)⟩
theorem bD.aEZ{K:nP}{base:Nat}{w:World}{s:Sto}{L:List Mix}{ro:Option Value}{vc vr vn vo vt vu vk vb:Value}(h:bD K base w s L ro vc vr vn vo vt vu vk vb)(h1:s.aDO.length<=1000000):aH qN w (fun b=>K b\/base<=b) vc s.aDO:=by
 exact QCp
theorem bD.logAt{K:nP}{base:Nat}{w:World}{s:Sto}{L:List Mix}{ro:Option Value}{c:oD}{n d:Nat}{vr vn vo vt vu vk vb:Value}(h:bD K base w s L ro (.slice c n d) vr vn vo vt vu vk vb){k:Nat}(a:k<L.length):
 ∃g la lc,c=some ⟨g,0,none⟩/\L[k].2.2=some (.slice la L[k].1.log.length lc)/\w.cell? ⟨g,k * 5+4,none⟩=some (.slice la L[k].1.log.length lc)/\base<=g/\g<w.heap.size/\aM nB 3 173 w base (fun _=>False) (.slice la L[k].1.log.length lc) L[k].1.log/\some g≠(Value.slice la L[k].1.log.length lc).ownBlock/\(∀i,w.frozen? ⟨g,i,none⟩=false)/\¬K g:=by
 obtain⟨g,r,e,h1,h2,hm,f,j⟩:=h.aDO.at (dP base K) a qe;obtain⟨y,z,rfl,m,o,p,q,p5⟩:=hm;obtain⟨v,b⟩:=Option.isSome_iff_exists.1 (h.aEf k a);have l:=(kO h.aDO a).2 v b;rw[b] at p5;obtain⟨rfl,q1,t,x⟩:=p5;obtain⟨la,lc,rfl⟩:=q1.slice;subst e;exact⟨g,la,lc,rfl,b,f 4 _ rfl,h1,h2,q1,fun e=>l.2.1 g e.symm rfl,j,fun a=>(h.kept g a).2.1 rfl⟩
theorem gP{w1 d c:World}{b:Nat}{O:Obj}{o:Option Nat}(h:w1.heap[b]? =some O)(a:Below w1.heap.size w1 d)(e:d.grownBy c o)(f:some b≠o):c.heap[b]? =some O:=(e.block b (aD (aE h a)) f).trans (aE h a)
theorem Eo{K:nP}{base B:Nat}{w d c:World}{s:Sto}{L:List Mix}{ro:Option Value}{g n l:Nat}{vr vn vo vt vu vk vb:Value}{k:Nat}(a:bD K base d s L ro (.slice (some ⟨g,0,none⟩) n l) vr vn vo vt vu vk vb)(i:k<L.length)(x:B<base)(t:Below w.heap.size w d){v v':Value}(j:L[k].2.2=some v){l':List uI}(q:l'.length<=1000000)(m:d.grownBy c v.ownBlock)(o:aM nB 3 173 c base (fun _=>False) v' l')(p:v'.ownBlock=v.ownBlock\/v'.ownBlock=some d.heap.size):
 Hid (bD K base (c.setCell ⟨g,k * 5+4,none⟩ v') {s with aDO:=s.aDO.set k {L[k].1 with log:=l'}} (L.set k ({L[k].1 with log:=l'},L[k].2.1,some v')) ro (.slice (some ⟨g,0,none⟩) n l) vr vn vo vt vu vk vb)/\Hid (aN (fun b=>(b<base/\b≠B)\/K b) w (c.setCell ⟨g,k * 5+4,none⟩ v')):=by
 have r:=(kO a.aDO i).2 v j;have y:=a.aDO.lt g rfl;exact⟨a.log i j m o (yW p (lR _)) q,((aJ t).trans ((cX m).mono (fun b _ f e=>f.elim (fun h=>qD ((r.1.lt b e.symm).1) h.1) (fun h=>(a.aEi k i).2 b (cN.2 ⟨v,j,e.symm⟩) h)))).trans ((aI _).mono (fun b _ f e=>f.elim (fun h=>qA h.1) (fun h=>(a.kept b h).2.1 (by rw[e];rfl))))⟩
theorem Qu{K:nP}{base B:Nat}(o:Op)(ho:iU o)(s:Sto)(what:bY)(av:what.size<=cQ)(w:World)(b:¬K B)(hB:B<base)(hl:s.aDO.length<=990000)(be:∀c∈s.aDO,c.log.length<=990000)(h:iE K base B w w s):
 Calls prog 98 #[.pointer (some ⟨B,0,none⟩),eZ o,.string what] w (fun e w'=>e=.returned (.tuple #[])/\iE K base B w w' (mE s o what)):=by
 obtain⟨L,ro,vc,vr,vn,vo,vt,vu,vk,vb,V,v,_⟩:=h;obtain⟨ca,J,rfl⟩:=v.aDO.slice;have T:=v.len;obtain⟨N,M⟩:=xE L.length;rw[<-M] at V v;obtain⟨r,d⟩:∃O:Obj,O=.cells (aX s (.slice ca N J) vr vn vo vt vu vk vb) 62:=⟨_,rfl⟩;obtain⟨t,ab⟩:∃O:Obj,O=.cells (bX o) 32:=⟨_,rfl⟩;rw[<-d] at V;obtain⟨W0,Q⟩:=xE (w.alloc t);have D:Below w.heap.size w W0:=by rw[Q];exact aB _ _
 have R:Hid (Kq w B w.heap.size r t W0):=aA ⟨D,aE V D,by rw[Q];exact aK _ _ _ rfl⟩;have z:Hid (∀(w':World),(w'.heap[B]? =some r/\w'.heap[w.heap.size]? =some t)->w'.cell? ⟨B,0,none⟩=some (.int .i64 s.aDX)/\w'.cell? ⟨B,1,none⟩=some (.slice ca N J)/\B<w'.heap.size/\w'.cell? ⟨w.heap.size,0,none⟩=some (.int .i64 o.aDN)/\w'.cell? ⟨w.heap.size,1,none⟩=some (.string o.aD3)/\w'.cell? ⟨w.heap.size,2,none⟩=some (.string o.aDU)/\w.heap.size<w'.heap.size):=aA (fun w' F=>by
  have h1:=F.1;have h2:=F.2;rw[d] at h1;rw[ab] at h2;exact⟨aQ h1 0 _ rfl,aQ h1 1 _ rfl,aD h1,aQ h2 0 _ rfl,aQ h2 1 _ rfl,aQ h2 2 _ rfl,aD h2⟩)
 have ah:=aA (fun w' (hb:Below w.heap.size w w')=>v.on hb);have au:=(v.on D).aEZ qo;obtain⟨c0,c1,l,p,q,i,j⟩:=z.o _ R.o.2;have Y:=aA (ZA _ s.aDO o.aDU w.heap.size W0 au ⟨i,j⟩);have bc:∃f,f=s.aDO.findIdx (fun c=>decide (c.id=o.aDU)):=⟨_,rfl⟩;obtain⟨f,hf⟩:=bc;have af:Hid (fA (fun x=>decide (x.id=o.aDU)) s.aDO=if f<N then (f:Int) else -1):=aA (by unfold fA;rw[<-hf,M,T]);have Z:Hid (mE s o what=if f<N/\o.aDN≠6 then eQ s f (fun c=>nA s c o.aD3 what) else s):=aA (by unfold mE;dsimp only;rw[<-hf,M,T]);generalize fA (fun x=>decide (x.id=o.aDU)) s.aDO=ix at *;rw[ab] at Q;obtain⟨bh,ax,a7,az,ay,bj⟩:=hD6 b ho av d M T;have bl:N<=990000:=qo;have ad:Hid (iE K base B w W0 s):=aA ⟨L,ro,_,vr,vn,vo,vt,vu,vk,vb,by rw[<-d];exact R.o.2.1,v.on D,aJ D⟩;unfold eZ bX aP at *;have aa:=aA Q;clear Q D V v d ab M T hf au b ho av;by_cases P:f<N
 .have h1:ix=(f:Int):=by rw[af.o,iP P]
  subst h1;by_cases h6:o.aDN=6
  .have a8:(o.aDN==(6:Int))=true:=bQ.2 h6;have X:=aA h6;clear h6;have i0:¬((f:Int)<0):=qo;go_enter func98,ntmps98;go_upto_region 1 with (fail)
   rw[<-aa.o];go_wp2_with fail;refine Y.o.mono ?_;rintro e w1 ⟨rfl,y⟩;obtain⟨c0,c1,l,p,q,i,j⟩:=z.o _ (Kq.on R.o y).2;go_wp2;go_returns;rw[Z.o,iN (fun h=>h.2 X.o)];exact⟨rfl,ad.o.more y⟩
  .have a8:(o.aDN==(6:Int))=false:=bN.2 h6;have X:=aA h6;clear h6;have i0:¬((f:Int)<0):=qo;have i1:(f:Int)<(N:Int):=qo;go_enter func98,ntmps98;go_upto_region 1 with (fail)
   rw[<-aa.o];go_wp2_with fail;refine Y.o.mono ?_;rintro e w1 ⟨rfl,y⟩;have G:=aA (Kq.on R.o y);have d:=ah.o _ G.o.1;have E:f<L.length:=by rw[<-ay.o];exact P
   have bg:=aA E;obtain⟨g,la,lc,rfl,hv,ak,bm,bb,n,an,al,bk⟩:=d.logAt E;obtain⟨A,U⟩:∃A,w1.heap[g]? =some A:=⟨_,Array.getElem?_eq_getElem bb⟩;have S:Hid (∀(w':World),(w'.heap[B]? =some r/\w'.heap[w.heap.size]? =some t/\w'.heap[g]? =some A)->w'.cell? ⟨g,f * 5+4,none⟩=some (.slice la L[f].1.log.length lc)/\w'.frozen? ⟨g,f * 5+4,none⟩=false/\g<w'.heap.size):=aA (fun w' F=>⟨(World.cell?_of_block (a:=⟨g,f * 5+4,none⟩) (F.2.2.trans U.symm)).trans ak,(World.frozen?_of_block (a:=⟨g,f * 5+4,none⟩) (F.2.2.trans U.symm)).trans (al _),aD F.2.2⟩);have k:Hid (w1.heap[B]? =some r/\w1.heap[w.heap.size]? =some t/\w1.heap[g]? =some A):=aA ⟨G.o.2.1,G.o.2.2,U⟩;obtain⟨H,HV,ae,aw⟩:=dH d hv n an;clear ak al U d hv n an y;obtain⟨c0,c1,l,p,q,i,j⟩:=z.o _ G.o.2;obtain⟨d0,d1,C⟩:=S.o _ k.o;have bn:L[f].1.log.length<=990000:=be _ (List.mem_of_getElem? (H.o.aDU E));have hh:vW ⟨s.aDX,o.aD3,what⟩:=⟨H.o.aDX,ax.o.2.1,a7.o⟩;generalize hx:L[f].1=x at *;go_upto_region 4 with (fail)
   refine cD 17 [(0,false),(1,false),(2,false),(3,false),(4,false),(5,false),(6,false),(7,false),(8,false),(9,false),(10,false),(11,false),(12,false),(13,true),(14,true),(15,false),(16,false)] [(17,true)] (fun w'=>w'.heap[B]? =some r/\w'.heap[w.heap.size]? =some t/\w'.heap[g]? =some A) (by kernel_rfl) (by kernel_rfl) k.o ?_;simp only[List.cons_append,List.nil_append];have ai:=aA hx;clear hx
   repeat (refine dG rfl (fun K b=> ?_);unfold rd;go_simp;refine b _ (fun bf h1=> ?_) ?_;(· clear b K c0 c1 l p q i j d0 d1 C;obtain⟨c0,c1,l,p,q,i,j⟩:=z.o _ ⟨h1.1,h1.2.1⟩;obtain⟨d0,d1,C⟩:=S.o _ h1;unfold rd;go_simp);clear b K)
   refine bJ rfl (fun K1 m=> ?_);unfold mv;go_simp;refine m _ _ (fun _=>⟨aE k.o.1 (aB _ _).drew,aE k.o.2.1 (aB _ _).drew,aE k.o.2.2 (aB _ _).drew⟩) ?_;clear m K1;refine bJ rfl (fun K1 m=> ?_);unfold mv;refine jA (base:=base) Dx cE rfl (.tmp 31) (.tmp 40) rfl _ x.log rfl (ae.o.on cE (aB _ _).drew) w1.heap.size 1 _ _ _ ⟨s.aDX,o.aD3,what⟩ rfl (aK _ _ _ rfl) ⟨rfl,hh⟩ qo qe (lT H.o.size (aB _ _).drew.size) ?_;intro l' ao A' c' W hG n aj;have aq:some B≠(Value.slice la x.log.length lc).ownBlock:=fun e=>qA ((ae.o.lt B e.symm).1)
   have ar:some w.heap.size≠(Value.slice la x.log.length lc).ownBlock:=fun e=>by
    have:=((ah.o w (Below.refl _ _)).lt f E).2 w.heap.size (cN.2 ⟨_,HV.o,e.symm⟩);omega
   have I:Hid (W.heap[B]? =some r/\W.heap[w.heap.size]? =some t/\W.heap[g]? =some A):=aA ⟨gP k.o.1 (aB _ _).drew n aq,gP k.o.2.1 (aB _ _).drew n ar,gP k.o.2.2 (aB _ _).drew n aw.o⟩;have ag:=aA ao.o;have bd:l'.length<=1000000:=by rw[ag.o,aL];simp only[List.length_cons,List.length_nil];omega
   obtain⟨a1,a6⟩:=Eo (H.o.on (aB _ _).drew) E hB (aC G.o.1 (aB _ _).drew) HV.o bd n hG aj;refine m _ _ (fun _=>I.o) ?_;clear m K1 hG n aj ao aq ar c0 c1 l p q i j d0 d1 C;obtain⟨c0,c1,l,p,q,i,j⟩:=z.o _ ⟨I.o.1,I.o.2.1⟩;obtain⟨d0,d1,C⟩:=S.o _ I.o
   repeat (refine dG rfl (fun K b=> ?_);unfold rd;go_simp;refine b _ (fun bf h1=> ?_) ?_;(· clear b K c0 c1 l p q i j d0 d1 C;obtain⟨c0,c1,l,p,q,i,j⟩:=z.o _ ⟨h1.1,h1.2.1⟩;obtain⟨d0,d1,C⟩:=S.o _ h1;unfold rd;go_simp);clear b K)
   refine bJ rfl (fun K1 m=> ?_);unfold mv;go_simp;refine m _ _ (fun h=>absurd h qe) ?_;clear m K1;unfold cJ;go_returns;rw[Z.o,iP ⟨P,X.o⟩];have e9:({s with aDO:=s.aDO.set f {L[f].1 with log:=l'}}:Sto)=eQ s f (fun c=>nA s c o.aD3 what):=by
    unfold eQ;have ba:s.aDO[f]? =some x:=(H.o.aDU E).trans (congrArg some ai.o);rw[ba];simp only[ag.o,ai.o];rfl
   refine⟨rfl,L.set f ({L[f].1 with log:=l'},L[f].2.1,some (.slice A' l'.length c')),ro,.slice (some ⟨g,0,none⟩) N J,vr,vn,vo,vt,vu,vk,vb,?_,by rw[<-e9];exact a1.o,a6.o⟩;have h8:(W.setCell ⟨g,f * 5+4,none⟩ (.slice A' l'.length c')).heap[B]? =some r:=bE I.o.1 (fun e=>by omega);have e8:aX (eQ s f (fun c=>nA s c o.aD3 what)) (.slice (some ⟨g,0,none⟩) N J) vr vn vo vt vu vk vb=aX s (.slice (some ⟨g,0,none⟩) N J) vr vn vo vt vu vk vb:=rfl;rw[h8,az.o,e8]
 .have h1:ix= -1:=by rw[af.o,iN P]
  subst h1;go_enter func98,ntmps98;go_upto_region 1 with (fail)
  rw[<-aa.o];go_wp2_with fail;refine Y.o.mono ?_;rintro e w1 ⟨rfl,y⟩;go_wp2;go_returns;rw[Z.o,iN (fun h=>P h.1)];exact⟨rfl,ad.o.more y⟩
end Go.Proofs.YthcgdgkpgdjahaaGreatDoor

/- Lemmas. -/
import Derived.Test.YtbinmcabjnoliaaGreatDoorMaq
import Derived.Outline
import Derived.Laws.CopyRow
namespace Go.Proofs.YtbinmcabjnoliaaGreatDoor
open Go.RowKit
set_option linter.unusedVariables false
set_option linter.unusedSimpArgs false
set_option maxHeartbeats 16000000
open _root_.Go.Proofs.Tryz
set_option maxRecDepth 20000
namespace Cm
end Cm
namespace Cm
theorem ZX{p:Prop}(h:p:=by
 go_enter func255,ntmps255;go_wp2_with fail;refine(xF a b w).mono ?_;rintro e w' ⟨rfl,rfl⟩;go_wp2;go_ret;exact⟨rfl,rfl⟩):p:=h
theorem TZ(m:Nat×Nat)(hm:QP m)(w:World):Calls prog 255 #[mk m.1 m.2] w fun e w'=>e=.returned (mk (rW m).1 (rW m).2)/\w=w':=by
 obtain⟨p,d⟩:=m;have f:(FloatKind.f64.format.order (qb d) 4607182418800017408==some .eq)=(d==4):=MW d 4 hm.2 qe;have i:(FloatKind.f64.format.order (qb d) 4602678819172646912==some .eq)=(d==2):=MW d 2 hm.2 qe;have k:(FloatKind.f64.format.order (qb p) 4602678819172646912==some .gt||FloatKind.f64.format.order (qb p) 4602678819172646912==some .eq)=decide (2<=p):=aCx p 2 hm.1 qe;have j:(FloatKind.f64.format.order (qb p) 4607182418800017408==some .eq)=(p==4):=MW p 4 hm.1 qe;have l:(FloatKind.f64.format.order (qb p) 4602678819172646912==some .eq)=(p==2):=MW p 2 hm.1 qe;have o:Hid (rW (p,d)=rW (p,d)):=rfl;unfold mk;show Calls prog 255 #[.complex .f64 (qb p) (qb d)] w _;generalize n:rW (p,d)=R;have c:=aA n;clear n o;unfold rW at c;by_cases c1:d=4
 .rw[iP c1] at c;have g:=c.o;subst g;rw[show (d==4)=true by simp;omega] at f;clear c i k j l hm;generalize qb d=b at f ⊢;generalize qb p=a;exact ZX
 rw[iN c1] at c;by_cases c2:d=2/\2<=p
 .rw[iP c2] at c;have g:=c.o;subst g;rw[show (d==4)=false by simp;omega] at f;rw[show (d==2)=true by simp;omega] at i;rw[show (decide (2<=p))=true by simp;omega] at k;clear c j l hm;generalize qb d=b at f i ⊢;generalize qb p=a at k ⊢;exact ZX
 rw[iN c2] at c;by_cases c3:d=2
 .rw[iP c3] at c;have g:=c.o;subst g;rw[show (d==4)=false by simp;omega] at f;rw[show (d==2)=true by simp;omega] at i;rw[show (decide (2<=p))=false by simp;omega] at k;clear c j l hm;generalize qb d=b at f i ⊢;generalize qb p=a at k ⊢;exact ZX
 rw[iN c3] at c;by_cases c4:p=4
 .rw[iP c4] at c;have g:=c.o;subst g;rw[show (d==4)=false by simp;omega] at f;rw[show (d==2)=false by simp;omega] at i;rw[show (p==4)=true by simp;omega] at j;clear c k l hm;generalize qb d=b at f i ⊢;generalize qb p=a at j ⊢;exact ZX
 rw[iN c4] at c;by_cases c5:p=2
 .rw[iP c5] at c;have g:=c.o;subst g;rw[show (d==4)=false by simp;omega] at f;rw[show (d==2)=false by simp;omega] at i;rw[show (p==4)=false by simp;omega] at j;rw[show (p==2)=true by simp;omega] at l;clear c k hm;generalize qb d=b at f i ⊢;generalize qb p=a at j l ⊢;exact ZX
 rw[iN c5] at c;have g:=c.o;subst g;rw[show (d==4)=false by simp;omega] at f;rw[show (d==2)=false by simp;omega] at i;rw[show (p==4)=false by simp;omega] at j;rw[show (p==2)=false by simp;omega] at l;clear c k hm;generalize qb d=b at f i ⊢;generalize qb p=a at j l ⊢;exact ZX
end Cm
namespace Cm
theorem UA{p:Prop}(h:p:=by
 go_enter func32,ntmps32;go_wp2;go_ret;exact⟨rfl,rfl⟩):p:=h
theorem iU(p d i j:Nat)(hm:QP (p,d))(a:i<=4)(hj:j<=4):((FloatKind.f64.format.order (qb p) (qb i)==some .eq)&&(FloatKind.f64.format.order (qb d) (qb j)==some .eq))=((p,d)==(i,j)):=by
 rw[MW p i hm.1 a,MW d j hm.2 hj,Bool.eq_iff_iff];simp
def bU(m:Nat×Nat):ByteArray:=
 if m=(0,0) then ⟨#[78,111,116,65,112,112,108,105,99,97,98,108,101]⟩ else
 if m=(4,0) then ⟨#[80,101,114,109,105,116]⟩ else
 if m=(0,4) then ⟨#[68,101,110,121]⟩ else
 if m=(2,0) then ⟨#[73,110,100,101,116,101,114,109,105,110,97,116,101,123,80,125]⟩ else
 if m=(0,2) then ⟨#[73,110,100,101,116,101,114,109,105,110,97,116,101,123,68,125]⟩ else
 if m=(2,2) then ⟨#[73,110,100,101,116,101,114,109,105,110,97,116,101,123,68,80,125]⟩ else
 ⟨#[]⟩
theorem AG(m:Nat×Nat)(hm:QP m)(w:World):Calls prog 32 #[mk m.1 m.2] w fun e w'=>e=.returned (.string (bU m))/\w=w':=by
 obtain⟨p,d⟩:=m;have g:((FloatKind.f64.format.order (qb p) 0==some .eq)&&(FloatKind.f64.format.order (qb d) 0==some .eq))=((p,d)==(0,0)):=iU p d 0 0 hm qe qe;have i:((FloatKind.f64.format.order (qb p) 4607182418800017408==some .eq)&&(FloatKind.f64.format.order (qb d) 0==some .eq))=((p,d)==(4,0)):=iU p d 4 0 hm qe qe;have j:((FloatKind.f64.format.order (qb p) 0==some .eq)&&(FloatKind.f64.format.order (qb d) 4607182418800017408==some .eq))=((p,d)==(0,4)):=iU p d 0 4 hm qe qe;have k:((FloatKind.f64.format.order (qb p) 4602678819172646912==some .eq)&&(FloatKind.f64.format.order (qb d) 0==some .eq))=((p,d)==(2,0)):=iU p d 2 0 hm qe qe;have l:((FloatKind.f64.format.order (qb p) 0==some .eq)&&(FloatKind.f64.format.order (qb d) 4602678819172646912==some .eq))=((p,d)==(0,2)):=iU p d 0 2 hm qe qe;have n:((FloatKind.f64.format.order (qb p) 4602678819172646912==some .eq)&&(FloatKind.f64.format.order (qb d) 4602678819172646912==some .eq))=((p,d)==(2,2)):=iU p d 2 2 hm qe qe;show Calls prog 32 #[.complex .f64 (qb p) (qb d)] w _;generalize o:bU (p,d)=R;have c:=aA o;clear o hm;unfold bU at c;generalize qb p=a at g i j k l n ⊢;generalize qb d=b at g i j k l n ⊢;by_cases c0:(p,d)=(0,0)
 .rw[iP c0] at c;have f:=c.o;subst f;rw[show ((p,d)==(0,0))=true from bQ.2 c0] at g;clear c c0 i j k l n;exact UA
 rw[iN c0] at c;by_cases c1:(p,d)=(4,0)
 .rw[iP c1] at c;have f:=c.o;subst f;rw[show ((p,d)==(4,0))=true from bQ.2 c1] at i;rw[show ((p,d)==(0,0))=false from bN.2 c0] at g;clear c c0 c1 j k l n;exact UA
 rw[iN c1] at c;by_cases c2:(p,d)=(0,4)
 .rw[iP c2] at c;have f:=c.o;subst f;rw[show ((p,d)==(0,4))=true from bQ.2 c2] at j;rw[show ((p,d)==(0,0))=false from bN.2 c0] at g;rw[show ((p,d)==(4,0))=false from bN.2 c1] at i;clear c c0 c1 c2 k l n;exact UA
 rw[iN c2] at c;by_cases c3:(p,d)=(2,0)
 .rw[iP c3] at c;have f:=c.o;subst f;rw[show ((p,d)==(2,0))=true from bQ.2 c3] at k;rw[show ((p,d)==(0,0))=false from bN.2 c0] at g;rw[show ((p,d)==(4,0))=false from bN.2 c1] at i;rw[show ((p,d)==(0,4))=false from bN.2 c2] at j;clear c c0 c1 c2 c3 l n;exact UA
 rw[iN c3] at c;by_cases c4:(p,d)=(0,2)
 .rw[iP c4] at c;have f:=c.o;subst f;rw[show ((p,d)==(0,2))=true from bQ.2 c4] at l;rw[show ((p,d)==(0,0))=false from bN.2 c0] at g;rw[show ((p,d)==(4,0))=false from bN.2 c1] at i;rw[show ((p,d)==(0,4))=false from bN.2 c2] at j;rw[show ((p,d)==(2,0))=false from bN.2 c3] at k;clear c c0 c1 c2 c3 c4 n;exact UA
 rw[iN c4] at c;by_cases c5:(p,d)=(2,2)
 .rw[iP c5] at c;have f:=c.o;subst f;rw[show ((p,d)==(2,2))=true from bQ.2 c5] at n;rw[show ((p,d)==(0,0))=false from bN.2 c0] at g;rw[show ((p,d)==(4,0))=false from bN.2 c1] at i;rw[show ((p,d)==(0,4))=false from bN.2 c2] at j;rw[show ((p,d)==(2,0))=false from bN.2 c3] at k;rw[show ((p,d)==(0,2))=false from bN.2 c4] at l;clear c c0 c1 c2 c3 c4 c5;exact UA
 rw[iN c5] at c;have f:=c.o;subst f;rw[show ((p,d)==(0,0))=false from bN.2 c0] at g;rw[show ((p,d)==(4,0))=false from bN.2 c1] at i;rw[show ((p,d)==(0,4))=false from bN.2 c2] at j;rw[show ((p,d)==(2,0))=false from bN.2 c3] at k;rw[show ((p,d)==(0,2))=false from bN.2 c4] at l;rw[show ((p,d)==(2,2))=false from bN.2 c5] at n;clear c c0 c1 c2 c3 c4 c5;exact UA
theorem Hz(m:Nat×Nat)(hm:QP m)(w:World):Calls prog 253 #[mk m.1 m.2] w fun e w'=>e=.returned (.bool (!(bU m).toList.isEmpty))/\w=w':=by
 have c:=aA (AG m hm w);unfold mk at c ⊢;generalize qb m.1=a at c ⊢;generalize qb m.2=b at c ⊢;generalize bU m=N at c ⊢;clear hm;go_enter func253,ntmps253;go_wp2_with fail;refine c.o.mono ?_;exact OW
end Cm
namespace Cm
end Cm
namespace Cm
theorem QCx{p:Prop}(h:p:=by
 generalize qb p=a at e1 e2 ⊢;generalize qb d=b at e1 e2 ⊢;clear HR c1 c2 hm;go_enter func232,ntmps232;go_wp2;go_ret;exact⟨rfl,rfl⟩):p:=h
def yQ(m:Nat×Nat):Nat×Nat:=if m=(4,0) then (2,0) else if m=(0,4) then (0,2) else m
theorem aAY(m:Nat×Nat)(hm:QP m)(w:World):Calls prog 232 #[mk m.1 m.2] w fun e w'=>e=.returned (mk (yQ m).1 (yQ m).2)/\w=w':=by
 obtain⟨p,d⟩:=m;have e1:((FloatKind.f64.format.order (qb p) 4607182418800017408==some .eq)&&(FloatKind.f64.format.order (qb d) 0==some .eq))=((p,d)==(4,0)):=iU p d 4 0 hm qe qe;have e2:((FloatKind.f64.format.order (qb p) 0==some .eq)&&(FloatKind.f64.format.order (qb d) 4607182418800017408==some .eq))=((p,d)==(0,4)):=iU p d 0 4 hm qe qe;have HR:∃r:Nat×Nat,yQ (p,d)=r/\True:=⟨_,rfl,trivial⟩;by_cases c1:(p,d)=(4,0)
 .rw[show yQ (p,d)=(2,0) from iP c1];rw[show ((p,d)==(4,0))=true from bQ.2 c1] at e1;show Calls prog 232 #[.complex .f64 (qb p) (qb d)] w _;generalize qb p=a at e1 ⊢;generalize qb d=b at e1 ⊢;clear HR c1 e2 hm;go_enter func232,ntmps232;go_wp2;go_ret;exact⟨rfl,rfl⟩
 rw[show ((p,d)==(4,0))=false from bN.2 c1] at e1;by_cases c2:(p,d)=(0,4)
 .rw[show yQ (p,d)=(0,2) from (iN c1).trans (iP c2)];rw[show ((p,d)==(0,4))=true from bQ.2 c2] at e2;show Calls prog 232 #[.complex .f64 (qb p) (qb d)] w _;exact QCx
 rw[show yQ (p,d)=(p,d) from (iN c1).trans (iN c2)];rw[show ((p,d)==(0,4))=false from bN.2 c2] at e2;show Calls prog 232 #[.complex .f64 (qb p) (qb d)] w fun e w'=>e=.returned (.complex .f64 (qb p) (qb d))/\w=w'
 exact QCx
def Ans(f:FuncId)(args:Array Value)(v:Value):Prop:=∀w,Calls prog f args w fun e w'=>e=.returned v/\w=w'
end Cm
namespace Cm
def fM(m:Nat×Nat):Bool:=
 if m=(0,0) then true else if m=(4,0) then true else if m=(0,4) then true else if m=(2,0) then true else if m=(0,2) then true else if m=(2,2) then true else false
theorem Cr(m:Nat×Nat):(!(bU m).toList.isEmpty)=fM m:=by
 unfold bU fM;by_cases h0:m=(0,0)
 .rw[iP h0,iP h0];kernel_rfl
 rw[iN h0,iN h0];by_cases h1:m=(4,0)
 .rw[iP h1,iP h1];kernel_rfl
 rw[iN h1,iN h1];by_cases h2:m=(0,4)
 .rw[iP h2,iP h2];kernel_rfl
 rw[iN h2,iN h2];by_cases h3:m=(2,0)
 .rw[iP h3,iP h3];kernel_rfl
 rw[iN h3,iN h3];by_cases h4:m=(0,2)
 .rw[iP h4,iP h4];kernel_rfl
 rw[iN h4,iN h4];by_cases h5:m=(2,2)
 .rw[iP h5,iP h5];kernel_rfl
 rw[iN h5,iN h5];kernel_rfl
theorem Cs(m:Nat×Nat)(hm:QP m)(w:World):Calls prog 253 #[mk m.1 m.2] w fun e w'=>e=.returned (.bool (fM m))/\w=w':=by
 rw[<-Cr];exact Hz m hm w
end Cm
section
namespace Cm
def vm(l:List (Nat×Nat)):List Value:=l.map fun m=>mk m.1 m.2
theorem aAb(l:List (Nat×Nat))(i:Nat):(vm l)[i]? =(l[i]?).map fun m=>mk m.1 m.2:=by simp[vm]
end Cm
open Cm
theorem Sl.mark{w:World}{B:Nat}{a:oD}{l:List (Nat×Nat)}{i:Nat}(h:Sl w B a (vm l))(c:i<l.length):
 ∃b off,a=some ⟨b,off,none⟩/\b<B/\w.cell? ⟨b,off+i,none⟩=some (.complex .f64 (qb l[i].1) (qb l[i].2)):=
 h.at (by rw[aAb];simp[c,mk])
namespace Cm
theorem UB(a b:Nat)(S:Bool)(w:World)(c:((FloatKind.f64.format.order a 0==some .eq)&&(FloatKind.f64.format.order b 0==some .eq))=S):
 Calls prog 276 #[.complex .f64 a b] w fun e w'=>e=.returned (.bool (!S))/\w=w':=by
 rcases S with _|_
 all_goals
  go_enter func276,ntmps276;go_wp2;go_ret;exact⟨rfl,rfl⟩
theorem Ia(a b:Nat)(c d f:Bool)(w:World)(g:((FloatKind.f64.format.order a 0==some .eq)&&(FloatKind.f64.format.order b 0==some .eq))=c)
 (i:((FloatKind.f64.format.order a 4607182418800017408==some .eq)&&(FloatKind.f64.format.order b 0==some .eq))=d)(j:((FloatKind.f64.format.order a 0==some .eq)&&(FloatKind.f64.format.order b 4607182418800017408==some .eq))=f):
 Calls prog 277 #[.complex .f64 a b] w fun e w'=>e=.returned (.bool (c||d||f))/\w=w':=by
 rcases c with _|_<;>rcases d with _|_<;>rcases f with _|_
 all_goals
  go_enter func277,ntmps277;go_wp2;go_ret;exact⟨rfl,rfl⟩
theorem xG(k:Int)(d:k=1\/k=2\/k=5\/k=6)(a a2 b1 b2 b c:Nat)(w:World)(h:Hid (Ans 254 #[.complex .f64 a a2,.complex .f64 b1 b2] (.complex .f64 b c))):
 Calls prog 278 #[.int .i64 k,.complex .f64 a a2,.complex .f64 b1 b2] w fun e w'=>e=.returned (.complex .f64 b c)/\w=w':=by
 rcases d with rfl|rfl|rfl|rfl
 all_goals
  go_enter func278,ntmps278;go_wp2_with fail;refine(h.o w).mono ?_;exact OW
theorem Ct(a a2 b1 b2:Nat)(X:Bool)(w:World)(b:((FloatKind.f64.format.order a 0==some .eq)&&(FloatKind.f64.format.order a2 0==some .eq))=X):
 Calls prog 278 #[.int .i64 3,.complex .f64 a a2,.complex .f64 b1 b2] w fun e w'=>e=.returned (bif X then .complex .f64 b1 b2 else .complex .f64 a a2)/\w=w':=by
 rcases X with _|_
 all_goals
  go_enter func278,ntmps278;go_wp2;go_ret;exact⟨rfl,rfl⟩
theorem Ib(a a2 b1 b2:Nat)(X Y:Bool)(w:World)(b:((FloatKind.f64.format.order a 0==some .eq)&&(FloatKind.f64.format.order a2 0==some .eq))=X)(c:((FloatKind.f64.format.order b1 0==some .eq)&&(FloatKind.f64.format.order b2 0==some .eq))=Y):
 Calls prog 278 #[.int .i64 4,.complex .f64 a a2,.complex .f64 b1 b2] w fun e w'=>e=.returned (bif X then .complex .f64 b1 b2 else bif Y then .complex .f64 a a2 else .complex .f64 4602678819172646912 4602678819172646912)/\w=w':=by
 rcases X with _|_<;>rcases Y with _|_
 all_goals
  go_enter func278,ntmps278;go_wp2;go_ret;exact⟨rfl,rfl⟩
end Cm
end
def eV(r:Rpl):Array Value:=#[.int .i64 r.err,.complex .f64 (Cm.qb r.mark.1) (Cm.qb r.mark.2),.bool r.aDk,.int .i64 r.val.1,.int .i64 r.val.2.1,.string r.val.2.2,.bool r.hidden,.int .i64 r.at_]
def mT(d:Deci)(a:Value):Array Value:=#[.int .i64 d.op.aCR,.string d.op.aC6,.string d.op.aCX,.string d.op.aDc,.string d.op.to_,.int .i64 d.op.val.1,.int .i64 d.op.val.2.1,.string d.op.val.2.2,.int .i64 d.op.aDd,.string d.op.text,.string d.op.aDf,.bool d.op.aDk,.int .i64 d.aC2,.complex .f64 (Cm.qb d.mark.1) (Cm.qb d.mark.2),.bool d.aDk,a]
def oY:Array Value:=#[.int .i64 0,.string ⟨#[]⟩,.string ⟨#[]⟩,.string ⟨#[]⟩,.string ⟨#[]⟩,.int .i64 0,.int .i64 0,.string ⟨#[]⟩,.int .i64 0,.string ⟨#[]⟩,.string ⟨#[]⟩,.bool false,.int .i64 0,.complex .f64 0 0,.bool false,.slice none 0 0]
section
open Pv
section
variable {P:Program} {w:World}
theorem KL(g o:Nat)(t ty:TypeId)(cur cells:Array Value)(d:w.heap[g]? =some (.cells cur t (0,0)))(c:o+cells.size<=cur.size)(b:(P.info? ty).map (·.size)=some cells.size)(h1:cells.all (·.oneCell')=true):
 (storeVar ty ⟨g,o,none⟩ (.agg cells)).run P w=.ok () (w.setRow g (cur.toList.take o++cells.toList++cur.toList.drop (o+cells.size)).toArray):=by
 have h:=run_storeCells_at P g o t cells.toList 0 cur w d (by simpa using c) (fun v f=>(Array.all_eq_true_iff_forall_mem.1 h1) v (by simpa using f))
 cases a:P.info? ty with
 |none=>simp[a] at b
 |some i=>
  have e:cells.size=i.size:=by simp[a] at b;omega
  simp only[Nat.add_zero,Array.length_toList] at h;simp[storeVar,sizeOf,typeInfo,a,Value.cells,e,h]
theorem Oj{op:Oper}{a:Act}{K:Act->World->Prop}{Q:Exit->Act->World->Prop}(ty:TypeId)(x y:Operand)(i:op.op=.store ty x y)(g o:Nat)(cells:Array Value)(j:a.eval x=.pointer (some ⟨g,o,none⟩))(k:a.eval y=.agg cells)(t:TypeId)(cur new:Array Value)(c:w.heap[g]? =some (.cells cur t (0,0)))(e:(P.info? ty).map (·.size)=some cells.size)(d:o+cells.size<=cur.size)(f:(cur.toList.take o++cells.toList++cur.toList.drop (o+cells.size)).toArray=new)(h1:cells.all (·.oneCell')=true)
 (h:∀w',Hid (w'.heap[g]? =some (.cells new t (0,0)))->Hid (aN (fun b=>b≠g) w w')->K (a.put op.dst undef) w'):op.wp P a w K Q:=by
 unfold Oper.wp execOp;simp only[i,j,k,Instr.storeAt,Instr.sureAddr,Sem.run_bind,Sem.run_pure,Result.andThen_ok,KL g o t ty cur cells c d e h1,f];exact h _ (setRow_heap w g cur new t (0,0) c) (CT g new)
theorem UC{ops:Array Oper}{rest:List Oper}{op:Oper}{a:Act}{Q:Exit->Act->World->Prop}(f:op.guard=none)(ty:TypeId)(x y:Operand)(k:op.op=.store ty x y)(g o:Nat)(cells:Array Value)(l:a.eval x=.pointer (some ⟨g,o,none⟩))(m:a.eval y=.agg cells)(t:TypeId)(cur new:Array Value)(e:w.heap[g]? =some (.cells cur t (0,0)))(i:(P.info? ty).map (·.size)=some cells.size)(d:o+cells.size<=cur.size)(j:(cur.toList.take o++cells.toList++cur.toList.drop (o+cells.size)).toArray=new)(h1:cells.all (·.oneCell')=true)
 (h:∀w',Hid (w'.heap[g]? =some (.cells new t (0,0)))->Hid (aN (fun b=>b≠g) w w')->wpList P ops Q rest (a.put op.dst undef) w'):wpList P ops Q (op::rest) a w:=
 wpList_plain f fun _ c=>Oj ty x y k g o cells l m t cur new e i d j h1 fun w' h2 h3=>c _ _ (h w' h2 h3)
end
abbrev oZ(J:Nat)(s:Sto)(vc vr vn vo vt vu vk vb a:Value)(h:BitVec 64):Obj:= .cells #[.pointer (some ⟨J,0,none⟩),.int .i64 s.aCZ,vc,vr,vn,vo,.string s.aCS.id,.bool s.aCS.set,.int .i64 s.aCS.alg,vt,vu,vk,vb,.int .i64 s.aC2,a,.int .u64 (n64 h)] 69
theorem aAc:dV prog 66 92 16 208:=fQ (z:= .agg #[.int .i64 0,.string ByteArray.empty,.string ByteArray.empty,.string ByteArray.empty,.string ByteArray.empty,.int .i64 0,.int .i64 0,.string ByteArray.empty,.int .i64 0,.string ByteArray.empty,.string ByteArray.empty,.bool false,.int .i64 0,.complex .f64 0 0,.bool false,.slice none 0 0]) underlying66 (by kernel_rfl) rfl qe
theorem Cu{ok:nP}(E J:Nat)(s:Sto)(vc vr vn vo vt vu vk vb d:Value)(h:BitVec 64)(w:World)(b:eZ w ok s vc vr vn vo vt vu vk vb)(a:w.heap[E]? =some (oZ J s vc vr vn vo vt vu vk vb d h)):Calls prog 6 #[.pointer (some ⟨E,0,none⟩)] w (aO (.agg (aV s vc vr vn vo vt vu vk vb)) w):=by
 obtain⟨g,i,ra,rc,F,G,H,I,K,L,M,N,C,D,e,f,rfl,-,rfl,-,rfl,-,rfl,-,rfl,-,rfl,-,rfl,-,rfl,-⟩:=b.sl;clear b;obtain⟨⟨j,k,r,t,v,x,y,z,A,B,l,m,n,o,p,q⟩,-⟩:=kN a;have O:=aD a;have c:=aA (aB w);unfold aV aO;clear a;go_enter func6,ntmps6;go_wp2;go_returns;exact⟨rfl,c.o _⟩
theorem ZY{w:World}{ok:nP}{s:Sto}{vc vr vn vo vt vu vk vb:Value}(a:eZ w ok s vc vr vn vo vt vu vk vb):(aV s vc vr vn vo vt vu vk vb).all (·.oneCell')=true:=by
 obtain⟨d,e,ra,rc,i,j,k,l,m,n,o,p,f,g,b,c,rfl,-,rfl,-,rfl,-,rfl,-,rfl,-,rfl,-,rfl,-,rfl,-⟩:=a.sl;simp[aV,Value.oneCell']
def Ok(E J base:Nat)(s:Sto)(vc vr vn vo vt vu vk vb:Value)(la:oD)(lu:List Unit)(lc:Nat)(w:World)(e:Ending)(w':World):Prop:=
 e=.returned (.tuple #[])/\∃(c:oD) (d:Nat) (a:List Unit) (f:BitVec 64),a.length=lu.length+1/\w'.heap[E]? =some (oZ J s vc vr vn vo vt vu vk vb (.slice c a.length d) f)/\aM (wG 16) 16 92 w' base (fun _=>False) (.slice c a.length d) a/\(∀b,(Value.slice c a.length d).ownBlock=some b->(Value.slice la lu.length lc).ownBlock=some b\/w.heap.size<=b)/\aN (fun b=>b≠E/\some b≠(Value.slice la lu.length lc).ownBlock) w w'
theorem Ic{ok:nP}(E J base lc:Nat)(s0 s:Sto)(O ur un uo ut uu uk ub vc vr vn vo vt vu vk vb:Value)(la:oD)(lu:List Unit)(h:BitVec 64)(d:Deci)(R:Value)(bw:R.oneCell'=true)(a:oD)(c:Nat)(p:lU)(w:World)(hS:eZ w ok s vc vr vn vo vt vu vk vb)(hE:w.heap[E]? =some (oZ J s0 O ur un uo ut uu uk ub (.slice la lu.length lc) h))(hG:aM (wG 16) 16 92 w base (fun _=>False) (.slice la lu.length lc) lu)(bg:E<base/\base<=w.heap.size)(bh:lu.length<=900000)(hp:gY w (fun b=>b≠E/\some b≠(Value.slice la lu.length lc).ownBlock) a (bF p))(h8:p.length<=8192):
 Calls prog 25 #[.pointer (some ⟨E,0,none⟩),.agg (aV s vc vr vn vo vt vu vk vb),.agg (mT d R),.slice a p.length c] w (Ok E J base s vc vr vn vo vt vu vk vb la lu lc w):=by
 have bo:=aA (ZY hS);obtain⟨Y,Z,ra,rc,na,nc,oa,oc,ta,tc,ua,O,ka,kc,V,W,rfl,-,rfl,-,rfl,-,rfl,-,rfl,-,rfl,-,rfl,-,rfl,-⟩:=hS.sl;obtain⟨W0,aa⟩:=xE ((w.alloc (.cells (aV s (.slice Y s.aCQ.length Z) (.slice ra s.aCU.length rc) (.slice na s.aCY.length nc) (.slice oa s.aC4.length oc) (.slice ta s.aCS.aC1.length tc) (.slice ua s.aCS.aCT.length O) (.slice ka s.aCS.aC5.length kc) (.slice V s.aCS.aC7.length W)) 40)).alloc (.cells (mT d R) 92));have ah:Below w.heap.size w W0:=by rw[aa];exact aC (aB _ _) (aB _ _)
 have A:Hid (W0.heap[w.heap.size]? =some (.cells (aV s (.slice Y s.aCQ.length Z) (.slice ra s.aCU.length rc) (.slice na s.aCY.length nc) (.slice oa s.aC4.length oc) (.slice ta s.aCS.aC1.length tc) (.slice ua s.aCS.aCT.length O) (.slice ka s.aCS.aC5.length kc) (.slice V s.aCS.aC7.length W)) 40 (0,0))):=aA (by rw[aa];exact aE (aK _ _ _ rfl) (aB _ _));have D:Hid (W0.heap[w.heap.size+1]? =some (.cells (mT d R) 92 (0,0))):=aA (by rw[aa];exact aK _ _ _ qs);obtain⟨ar,HG,ab,HS,L,bn⟩:=hD6 (aE hE ah) hG ah hp (And.intro bg (And.intro bh h8)) (aD hE);unfold aV mT oZ at *;have bp:=aA aa;clear aa ah hS hE hG hp bg bh h8;obtain⟨⟨a0,a1,a2,a3,a4,a5,a6,a7,a8,a9,br,bs,a12⟩,-⟩:=bT A.o;have za:=aD A.o;have i:=aD ar.o;go_enter func25,ntmps25;go_upto_region 1 with (fail)
 rw[<-bp.o];go_upto_region 2 with (refine UC rfl _ (.tmp 11) (.tmp 9) rfl E 1 _ rfl rfl _ _ _ ar.o (by kernel_rfl) (by show 1+13<=16;omega) rfl bo.o ?_;intro w1 au P)
 have aq:=qS D P.o (by show (_:Nat)≠_;have:=bn.o;omega);have g:Hid (w1.heap[E]? =some (oZ J s (.slice Y s.aCQ.length Z) (.slice ra s.aCU.length rc) (.slice na s.aCY.length nc) (.slice oa s.aC4.length oc) (.slice ta s.aCS.aC1.length tc) (.slice ua s.aCS.aCT.length O) (.slice ka s.aCS.aC5.length kc) (.slice V s.aCS.aC7.length W) (.slice la lu.length lc) h)/\w1.heap[w.heap.size+1]? =some (.cells #[.int .i64 d.op.aCR,.string d.op.aC6,.string d.op.aCX,.string d.op.aDc,.string d.op.to_,.int .i64 d.op.val.1,.int .i64 d.op.val.2.1,.string d.op.val.2.2,.int .i64 d.op.aDd,.string d.op.text,.string d.op.aDf,.bool d.op.aDk,.int .i64 d.aC2,.complex .f64 (Cm.qb d.mark.1) (Cm.qb d.mark.2),.bool d.aDk,R] 92 (0,0))):=aA ⟨au.o,aq.o⟩;have bl:Hid (aM (wG 16) 16 92 w1 base (fun _=>False) (.slice la lu.length lc) lu):=aA ((HG.o.on (kH 16) ab.o).stays (kH 16) P.o (fun b f e=>qD ((HG.o.lt b f).1) L.o.1.1) (fun _ h _=>h.elim));clear a0 a1 a2 a3 a4 a5 a6 a7 a8 a9 br bs a12 za i;have bd:Below w1.heap.size w1 w1.drew:=(Below.refl _ _).drew;have ad:=aA bd;refine cA 10 [(0,false),(1,false),(2,false),(3,false),(4,false),(5,false),(6,true),(7,true),(8,false),(9,false)] [(10,true)] (fun w'=>w'.heap[E]? =some (oZ J s (.slice Y s.aCQ.length Z) (.slice ra s.aCU.length rc) (.slice na s.aCY.length nc) (.slice oa s.aC4.length oc) (.slice ta s.aCS.aC1.length tc) (.slice ua s.aCS.aCT.length O) (.slice ka s.aCS.aC5.length kc) (.slice V s.aCS.aC7.length W) (.slice la lu.length lc) h)/\w'.heap[w.heap.size+1]? =some (.cells #[.int .i64 d.op.aCR,.string d.op.aC6,.string d.op.aCX,.string d.op.aDc,.string d.op.to_,.int .i64 d.op.val.1,.int .i64 d.op.val.2.1,.string d.op.val.2.2,.int .i64 d.op.aDd,.string d.op.text,.string d.op.aDf,.bool d.op.aDk,.int .i64 d.aC2,.complex .f64 (Cm.qb d.mark.1) (Cm.qb d.mark.2),.bool d.aDk,R] 92 (0,0))) (by kernel_rfl) (by kernel_rfl) g.o ?_
 simp only[List.cons_append,List.nil_append];obtain⟨⟨k,l,x,y,z,B,C,F,G,H,m,n,o,q,r,t⟩,-⟩:=kN g.o.1;have i:=aD g.o.1;obtain⟨⟨d0,d1,d2,d3,d4,d5,d6,d7,d8,d9,d10,d11,d12,d13,d14,d15⟩,-⟩:=kN g.o.2;have S:=aD g.o.2
 repeat (refine cU rfl (fun K M=> ?_);unfold rd;go_simp;refine M _ (fun bx h1=> ?_) ?_;(· clear M K k l x y z B C F G H m n o q r t i d0 d1 d2 d3 d4 d5 d6 d7 d8 d9 d10 d11 d12 d13 d14 d15 S;obtain⟨⟨k,l,x,y,z,B,C,F,G,H,m,n,o,q,r,t⟩,-⟩:=kN h1.1;have i:=aD h1.1;obtain⟨⟨d0,d1,d2,d3,d4,d5,d6,d7,d8,d9,d10,d11,d12,d13,d14,d15⟩,-⟩:=kN h1.2;have S:=aD h1.2;unfold rd;go_simp);clear M K)
 clear k l x y z B C F G H m n o q r t i d0 d1 d2 d3 d4 d5 d6 d7 d8 d9 d10 d11 d12 d13 d14 d15 S bd;refine bG rfl (fun U I=> ?_);unfold mv;go_simp;refine I _ _ (fun _=>⟨aE g.o.1 (aC ad.o (aB _ _)),aE g.o.2 (aC ad.o (aB _ _))⟩) ?_;clear I U;refine bG rfl (fun U I=> ?_);unfold mv;refine iX (base:=base) aAc (kH 16) rfl (.tmp 16) (.tmp 18) rfl _ lu rfl (bl.o.on (kH 16) (aC ad.o (aB _ _))) w1.drew.heap.size 1 _ _ _ () rfl (aK _ _ _ rfl) ⟨rfl,fun v hv=> ?_⟩ (qA L.o) qe (by have:=ab.o.size;have:=P.o.size;have:=L.o.1;simp;omega) ?_
 .simp only[List.mem_cons,List.not_mem_nil,or_false] at hv
  rcases hv with rfl|rfl|rfl|rfl|rfl|rfl|rfl|rfl|rfl|rfl|rfl|rfl|rfl|rfl|rfl|rfl<;>first|rfl|exact bw
 intro N bf T X w3 az be bb;have bu:some E≠(Value.slice la lu.length lc).ownBlock:=fun e=>qD ((HG.o.lt E e.symm).1) L.o.1
 have bt:some (w.heap.size+1)≠(Value.slice la lu.length lc).ownBlock:=fun e=>qA ((HG.o.lt _ e.symm).2)
 have ag:=aA ((aJ (ok:=fun b=>some b≠(Value.slice la lu.length lc).ownBlock) (aC ad.o (aB _ _))).trans (cW be));have j:=And.intro (aF g.o.1 ag.o bu) (aF g.o.2 ag.o bt);have j:=aA j;have av:=aA az;have bm:Hid (N.length=lu.length+1):=aA (by rw[bf.o,aL];rfl);have bj:Hid (∀b,(Value.slice T N.length X).ownBlock=some b->(Value.slice la lu.length lc).ownBlock=some b\/w.heap.size<=b):=aA (fun b f=>by
  rcases bb with h|h
  .exact .inl (h▸f)
  .rw[h] at f;injection f with f
   have h1:=ab.o.size;have h2:=P.o.size;refine .inr ?_;simp at f;omega)
 refine I _ _ (fun _=>j.o) ?_;clear I U az be bb bf;obtain⟨⟨d0,d1,d2,d3,d4,d5,d6,d7,d8,d9,d10,d11,d12,d13,d14,d15⟩,-⟩:=kN j.o.2;have S:=aD j.o.2;obtain⟨⟨k,l,x,y,z,B,C,F,G,H,m,n,o,q,r,t⟩,E0,E1,E2,E3,E4,E5,E6,E7,E8,E9,ai,aj,ak,al,an,ao⟩:=kN j.o.1;have i:=aD j.o.1
 repeat (refine cU rfl (fun K M=> ?_);unfold rd;go_simp;refine M _ (fun bx h1=> ?_) ?_;(· clear M K k l x y z B C F G H m n o q r t i d0 d1 d2 d3 d4 d5 d6 d7 d8 d9 d10 d11 d12 d13 d14 d15 S;obtain⟨⟨k,l,x,y,z,B,C,F,G,H,m,n,o,q,r,t⟩,-⟩:=kN h1.1;have i:=aD h1.1;obtain⟨⟨d0,d1,d2,d3,d4,d5,d6,d7,d8,d9,d10,d11,d12,d13,d14,d15⟩,-⟩:=kN h1.2;have S:=aD h1.2;unfold rd;go_simp);clear M K)
 refine bG rfl (fun U I=> ?_);unfold mv;go_simp;refine I _ _ (fun h=>absurd h qe) ?_;clear I U;unfold cG;obtain⟨Q,ae⟩:=xE (w3.setCell ⟨E,14,none⟩ (.slice T N.length X));have af:Hid (Q.heap[E]? =some (oZ J s (.slice Y s.aCQ.length Z) (.slice ra s.aCU.length rc) (.slice na s.aCY.length nc) (.slice oa s.aC4.length oc) (.slice ta s.aCS.aC1.length tc) (.slice ua s.aCS.aCT.length O) (.slice ka s.aCS.aC5.length kc) (.slice V s.aCS.aC7.length W) (.slice T N.length X) h)):=aA (by rw[ae];exact aG j.o.1 14 _);have ax:Hid (aN (fun b=>b≠E) w3 Q):=aA (by rw[ae];exact aI _);have ay:Hid (aN (fun b=>b≠E/\some b≠(Value.slice la lu.length lc).ownBlock) w Q):=aA ((((aJ ab.o).trans (P.o.mono fun b _ f=>f.1)).trans (ag.o.mono fun b _ f=>f.2)).trans (ax.o.mono fun b _ f=>f.1));have aw:Hid (aM (wG 16) 16 92 Q base (fun _=>False) (.slice T N.length X) N):=aA (av.o.stays (kH 16) ax.o (fun b f e=>qD ((av.o.lt b f).1) L.o.1) (fun _ h _=>h.elim));have bk:=aA (Hw h a c p.length p rfl Q Q.heap.size (qA L.o) (HS.o.aC0 ay.o).lt);have bq:=aA ae;clear ae k l x y z B C F G H m n o q r t E0 E1 E2 E3 E4 E5 E6 E7 E8 E9 ai aj ak al an ao i j g aq au P;obtain⟨⟨k,l,x,y,z,B,C,F,G,H,m,n,o,q,r,t⟩,E0,E1,E2,E3,E4,E5,E6,E7,E8,E9,ai,aj,ak,al,an,ao⟩:=kN af.o;have i:=aD af.o;rw[<-bq.o];go_wp2_with fail;refine bk.o.mono ?_;rintro e w5 ⟨rfl,rfl⟩;go_wp2;go_returns;refine⟨rfl,T,X,N,Fnv.aCP h p,bm.o,aG af.o 15 _,?_,bj.o,ay.o.trans ((aI _).mono fun b _ f=>f.1)⟩;exact aw.o.stays (kH 16) (aI _) (fun b f e=>qD ((aw.o.lt b f).1) L.o.1) (fun _ h _=>h.elim)
end
end Go.Proofs.YtbinmcabjnoliaaGreatDoor

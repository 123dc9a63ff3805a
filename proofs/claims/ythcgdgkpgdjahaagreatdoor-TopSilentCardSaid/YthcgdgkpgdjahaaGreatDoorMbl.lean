/- Lemmas. -/
import Derived.Test.YthcgdgkpgdjahaaGreatDoorMbk
import Derived.Test.YthcgdgkpgdjahaaGreatDoorMbd
namespace Go.Proofs.YthcgdgkpgdjahaaGreatDoor
open Go.RowKit
set_option linter.unusedVariables false
set_option linter.unusedSimpArgs false
set_option maxHeartbeats 16000000
open _root_.Go.Proofs.Tryz
set_option maxRecDepth 20000
def ML(r:(Mk×List Ob)×Int)(w:World)(e:Ending)(w':World):Prop:=∃vo,e=.returned (.tuple #[.agg #[.complex .f64 (Cm.qb r.1.1.1) (Cm.qb r.1.1.2),vo],.int .i64 r.2])/\aH kE w' (fun b=>w.heap.size<=b) vo r.1.2/\Below w.heap.size w w'
theorem Cg{r:(Mk×List Ob)×Int}{a b:Nat}{i:Int}{w w':World}(c:r=(((a,b),[]),i))(h:Below w.heap.size w w'){x y:Nat}(d:Cm.qb a=x)(e:Cm.qb b=y):ML r w (.returned (.tuple #[.agg #[.complex .f64 x y,.slice none 0 0],.int .i64 i])) w':=by
 subst c d e;exact⟨_,rfl,aH.nil,h⟩
theorem Mv{lv:Nat}{ok aa:nP}(p:Po)(vt vr vk vo R:Value)(g:List Gv)(w:World)(hp:fO lv w aa p vt vr vk vo)(h:aH jW w ok R g):
 Calls prog 79 #[.agg #[.string p.id,.bool p.set,.int .i64 p.alg,vt,vr,vk,vo],R] w (ML (rA g p) w):=by
 obtain⟨ga,gc,rfl,_⟩:=h.slice;obtain⟨P,Q,rfl,_⟩:=hp.2.2.1.slice;obtain⟨ra,rc,rfl,_⟩:=hp.2.2.2.1.slice;obtain⟨L,M,rfl,_⟩:=hp.2.2.2.2.1.slice;obtain⟨N,O,rfl,_⟩:=hp.2.2.2.2.2.slice;have V:=aA hp;have X:=aA h;obtain⟨d,y⟩:∃d:Obj,d=.cells (kR p P Q ra rc L M N O) 60:=⟨_,rfl⟩;obtain⟨f,z⟩:∃f:Obj,f=.cells #[.complex .f64 0 0,.slice none 0 0] 96:=⟨_,rfl⟩;obtain⟨W0,r⟩:=xE ((w.alloc d).alloc f);have m:=aA (r▸MC w d f:Kp w w.heap.size (w.heap.size+1) d f W0);rw[y,z] at r;obtain⟨Z,T,U,s⟩:=dH r y z (sM p _ _ _ _ W0 (fO.aDW hp.inb (aJ m.o.1)));obtain⟨t,q⟩:∃t,fE p=t:=⟨_,rfl⟩;rw[q] at s;have c:Hid (rA g p=if t≠0 then (((0,0),[]),1) else (cY g 4 p,0)):=aA (by unfold rA;rw[q]);obtain⟨J,K⟩:∃J,rA g p=J:=⟨_,rfl⟩;rw[K] at c ⊢;obtain⟨W,PB,RB⟩:=aZ q (by have h:=m.o.2.1;rw[T.o] at h;exact h:W0.heap[w.heap.size]? =some (.cells (kR p P Q ra rc L M N O) 60 (0,0))) (by have h:=m.o.2.2;rw[U.o] at h;exact h:W0.heap[w.heap.size+1]? =some (.cells #[.complex .f64 0 0,.slice none 0 0] 96 (0,0)));have af:=uR;clear h hp r y z K q;go_enter func79,ntmps79;go_wp2_with fail;rw[<-Z.o];refine s.o.mono ?_;rintro e C ⟨rfl,o⟩;obtain⟨E,G,n⟩:=aZ (m.o.on o) (aE PB.o o) (aE RB.o o);clear s o;obtain⟨⟨v0,v1,v2,v3,v4,v5,v6⟩,q0,q1,q2,q3,q4,q5,q6⟩:=bI G.o;have zv:=aD G.o;by_cases B:t=0
 .subst B;have l:=aA (by have h:=c.o;rwa [iN qo] at h:J=(cY g 4 p,0));have a:=aA E.o.1;have j:=aA (IX 4 (lR _) lv _ _ p _ _ _ _ _ g C (MJ W.o) (fO.aDW (fO.inb V.o) (aJ a.o)) (X.o.on cA a.o));obtain⟨D,I⟩:∃D,cY g 4 p=D:=⟨_,rfl⟩;rw[I] at j l;unfold nG at j;clear c I;go_wp2_with fail;refine j.o.mono ?_;rintro e w3 ⟨ag,rfl,A,x⟩;obtain⟨ab,ad,rfl,_⟩:=A.slice;obtain⟨H,Y,S,F⟩:=dH (aE n.o x) A (aC a.o x) (aD n.o);clear v0 v1 v2 v3 v4 v5 v6 q0 q1 q2 q3 q4 q5 q6 zv A x j;obtain⟨⟨u0,u1⟩,f0,f1⟩:=fL H.o;have zu:=aD H.o;go_wp2;refine bR (.tuple #[.agg #[.complex .f64 (Cm.qb D.1.1) (Cm.qb D.1.2),.slice ab D.2.length ad],.int .i64 0]) ?_;rw[l.o];exact⟨_,rfl,aH.more aO (aH.aDW aO Y.o (((aI (g:=w.heap.size+1) (i:=0) _).trans (aI (g:=w.heap.size+1) (i:=1) _)).mono fun k hk v=>by have h1:C.heap.size<=k:=v;have h2:=F.o;show k≠w.heap.size+1;omega)) (fun b v=>by have h1:C.heap.size<=b:=v;have h2:=F.o;show w.heap.size<=b;omega),oH S.o (Nat.le_succ _)⟩
 .have l:=aA (by have h:=c.o;rwa [iP B] at h:J=(((0,0),[]),1));have ae:(t==0)=false:=bN.2 B;obtain⟨⟨u0,u1⟩,f0,f1⟩:=fL n.o;have zu:=aD n.o;have a:=aA E.o.1;clear c;go_wp2;refine bR (.tuple #[.agg #[.complex .f64 0 0,.slice none 0 0],.int .i64 1]) ?_;exact Cg l.o (oH a.o (Nat.le_succ _)) rfl rfl
def sQ(m:Ma):Bool:=decide (m.op=1)&& !m.aEe.aEm
theorem Mw{t:Ta}{k:Nat}(a:k<t.length)(h:t[k].length≠1):qI (t.drop k)=qI (t.drop (k+1)):=by
 rw[List.drop_eq_getElem_cons a];unfold qI;rw[List.filter_cons_of_neg (by simpa using h)]
theorem Mx{t:Ta}{k:Nat}(a:k<t.length)(h:t[k].length=1):qI (t.drop k)=match ((t[k].head?).getD []).find? sQ with |some m=>some m|none=>qI (t.drop (k+1)):=by
 rw[List.drop_eq_getElem_cons a];unfold qI;rw[List.filter_cons_of_pos (by simpa using h),List.findSome?_cons];have e:(fun m:Ma=>decide (m.op=1)&& !m.aEe.aEm)=sQ:=rfl;rw[e]
 cases ((t[k].head?).getD []).find? sQ<;>rfl
theorem My{l:List Ma}{j:Nat}(hj:j<l.length):(l.drop j).find? sQ=if sQ l[j]=true then some l[j] else (l.drop (j+1)).find? sQ:=by
 rw[List.drop_eq_getElem_cons hj,List.find?_cons]
 cases sQ l[j]<;>rfl
theorem Mz(g:List Gv)(k:Po):oF g k=match qI k.aDY with |none=>true |some m=>decide (oX g m≠0):=rfl
theorem QCU{p:Prop}(h:p:=by
 go_wp2;go_roundw
 case rel=>exact⟨q+1,qo,by go_num,HE,HB3⟩
 case measure=>simp[intOf];omega):p:=h
def FW(o:Option Ma)(w:World)(e:Ending)(w':World):Prop:=∃m:Ma,e=.returned (.tuple #[kX m,.bool o.isSome])/\(∀x,o=some x->m=x/\uF x)/\Below w.heap.size w w'
theorem Xu{m:Ma}{o:Option Ma}(h:some m=o){w w':World}(hm:uF m)(b:Below w.heap.size w w'):FW o w (.returned (.tuple #[.agg #[.int .i64 m.aEe.cat,.string m.aEe.name,.bool m.aEe.aEm,.int .i64 m.op,.int .i64 m.val.1,.int .i64 m.val.2.1,.string m.val.2.2],.bool true])) w':=by
 subst h;exact⟨m,rfl,fun x a=>by injection a with a;subst a;exact⟨rfl,hm⟩,b⟩
theorem Sk{o:Option Ma}(h:none=o){w w':World}(a:Below w.heap.size w w'):FW o w (.returned (.tuple #[.agg #[.int .i64 0,.string ⟨#[]⟩,.bool false,.int .i64 0,.int .i64 0,.int .i64 0,.string ⟨#[]⟩],.bool false])) w':=by
 subst h;exact⟨⟨⟨0,⟨#[]⟩,false⟩,0,0,0,⟨#[]⟩⟩,rfl,(fun x b=>by cases b),a⟩
def Vc(F K:Option Ma):Option Ma:=match F with |some m=>some m|none=>K
theorem Na{W w:World}{g:Nat}{a b c d e f h:Value}(j:Below W.heap.size W w)(i:W.heap.size<=g):Below W.heap.size W (((((((w.setCell ⟨g,0,none⟩ a).setCell ⟨g,1,none⟩ b).setCell ⟨g,2,none⟩ c).setCell ⟨g,3,none⟩ d).setCell ⟨g,4,none⟩ e).setCell ⟨g,5,none⟩ f).setCell ⟨g,6,none⟩ h):=
 ((((((j.setCell i _).setCell i _).setCell i _).setCell i _).setCell i _).setCell i _).setCell i _
theorem Xv{ok:nP}(vt:Value)(t:Ta)(w:World)(h:oJ w ok vt t):Calls prog 189 #[vt] w (FW (qI t) w):=by
 obtain⟨ta,tc,rfl,_⟩:=h.slice;obtain⟨J,R⟩:∃J,qI t=J:=⟨_,rfl⟩;have Y:Hid (qI (t.drop 0)=J):=aA (by rw[List.drop_zero];exact R);rw[R];obtain⟨W0,z⟩:=xE (w.alloc (.cells Bl 279));have W:Hid (Below w.heap.size w W0):=aA (by rw[z];exact aB _ _);have PB:Hid (W0.heap[w.heap.size]? =some (.cells Bl 279 (0,0))):=aA (by rw[z];exact aK _ _ _ rfl);have HS:Hid (oJ W0 ok (.slice ta t.length tc) t):=aA (aH.on aS h (by rw[z];exact aB _ _));have ae:=aA z;clear h R z;go_enter func189,ntmps189;go_wp2;rw[<-ae.o];go_loopw [5,7,10] (fun _ _ i wr=>∃k:Nat,k<=t.length/\i=.int .i64 k/\Hid (qI (t.drop k)=J)/\Hid (Below W0.heap.size W0 wr)) (fun _ _ i _=>t.length - (intOf i).toNat)
 case atStart=>exact⟨0,Nat.zero_le _,rfl,Y,aA (Below.refl _ _)⟩
 case round=>
  clear Y;obtain⟨x,rfl⟩:∃x:World,x=wr:=⟨_,rfl⟩;obtain⟨k,hk,rfl,v,s⟩:=hrel;have P:=qK PB s.o;by_cases S:k<t.length
  .have af:(k:Int)<(t.length:Int):=qo;obtain⟨b,off,r,rfl,_,ak,⟨vx,rfl,K⟩,f⟩:=aH.at aS (HS.o.on aS s.o) S qe;have B:=f 0 _ rfl;rw[Nat.add_zero,Nat.mul_one] at B;by_cases H:t[k].length=1
   .have d:=aA ((Mx S H).symm.trans v.o);have O:=aA K;clear f v K;generalize t[k]=l at *;obtain⟨L,rfl⟩:=List.length_eq_one_iff.1 H;obtain⟨U,V,rfl⟩:∃U V,vx=.slice U 1 V:=by obtain⟨a,c,e,_⟩:=O.o.slice;exact⟨a,c,e⟩
    obtain⟨b2,ai,r2,rfl,_,al,⟨vy,rfl,T⟩,f⟩:=aH.at dO (k:=0) O.o qs qe;obtain⟨E,G,ah,aj⟩:∃E G,vy=.slice E L.length G/\L.length<=1000000:=by obtain⟨a,c,e,h⟩:=T.slice;exact⟨a,c,e,h⟩
    subst ah;have y0:x.cell? ⟨b2,ai,none⟩=some (.slice E L.length G):=by have:=f 0 _ rfl;simp only[Nat.add_zero,Nat.zero_mul] at this;exact this
    have HL:Hid (aH sB x ok (.slice E L.length G) L):=aA T;obtain⟨F,Q⟩:∃F,L.find? sQ=F:=⟨_,rfl⟩;have X:Hid ((L.drop 0).find? sQ=F):=aA (by rw[List.drop_zero];exact Q);have C:Hid (Vc F (qI (t.drop (k+1)))=J):=aA (by have h:Vc (L.find? sQ) (qI (t.drop (k+1)))=J:=d.o;rw[Q] at h;exact h);clear f d O T H Q;go_wp2;clear B y0;go_loopw [7,21] (fun _ i wr=>∃q:Nat,q<=L.length/\i=.int .i64 q/\Hid ((L.drop q).find? sQ=F)/\Hid (Below x.heap.size x wr)) (fun _ i _=>L.length - (intOf i).toNat)
    case atStart=>exact⟨0,Nat.zero_le _,rfl,X,aA (Below.refl _ _)⟩
    case round=>
     clear X;obtain⟨q,hq,rfl,D,y⟩:=hrel;by_cases ab:q<L.length
     .have ag:(q:Int)<(L.length:Int):=qo;obtain⟨b3,ar,r3,rfl,_,an,⟨rfl,aa⟩,f⟩:=aH.at eV (HL.o.on eV y.o) ab qe;obtain⟨B,x1,x2,x3,x4,x5,x6⟩:=CW f;rw[Nat.add_zero] at B;have d:=aA ((My ab).symm.trans D.o);have ad:=aA aa;clear f D aa;generalize L[q]=m at *;obtain⟨⟨g,j,M⟩,A,n,o,p⟩:=m;dsimp only at B x1 x2 x3 x4 x5 x6;obtain⟨Z,N,HB3⟩:=aZ (aE (aE P.o y.o) (aB wr (.cells #[.int .i64 g,.string j,.bool M,.int .i64 A,.int .i64 n,.int .i64 o,.string p] 279))) (aC (aC (aC W.o s.o) y.o) (aB wr (.cells #[.int .i64 g,.string j,.bool M,.int .i64 A,.int .i64 n,.int .i64 o,.string p] 279))) (aC y.o (aB wr (.cells #[.int .i64 g,.string j,.bool M,.int .i64 A,.int .i64 n,.int .i64 o,.string p] 279)));by_cases I:A=1
      .subst I
       cases M
       .have HE:Hid (some (⟨⟨g,j,false⟩,1,n,o,p⟩:Ma)=J):=aA (by
         have h1:F=some ⟨⟨g,j,false⟩,1,n,o,p⟩:=by rw[<-d.o];rfl
         have:=C.o;rw[h1] at this;exact this)
        clear d C;obtain⟨⟨s0,s1,s2,s3,s4,s5,s6⟩,f0,f1,f2,f3,f4,f5,f6⟩:=bI Z.o;have zs:=aD Z.o;go_wp2;refine bR (.tuple #[.agg #[.int .i64 g,.string j,.bool false,.int .i64 1,.int .i64 n,.int .i64 o,.string p],.bool true]) ?_;exact Xu (m:=⟨⟨g,j,false⟩,1,n,o,p⟩) HE.o ad.o (Na N.o (lR _))
       .have HE:Hid ((L.drop (q+1)).find? sQ=F):=aA d.o;clear d;exact QCU
      .have aq:(A==1)=false:=bN.2 I;have HE:Hid ((L.drop (q+1)).find? sQ=F):=aA (by have:=d.o;rwa [iN (by unfold sQ;simp[I])] at this);clear d I;exact QCU
     .have ag:¬(q:Int)<(L.length:Int):=qo;obtain rfl:q=L.length:=qo;have HE:Hid (qI (t.drop (k+1))=J):=aA (by
       have h1:F=none:=by rw[<-D.o,List.drop_length];rfl
       have:=C.o;rw[h1] at this;exact this)
      clear D C;go_wp2;go_roundw
      case rel=>exact⟨k+1,qo,by go_num,HE,aA (aC s.o y.o)⟩
      case measure=>simp[intOf];omega
   .obtain⟨U,V,rfl,_⟩:=K.slice;have HE:=aA ((Mw S H).symm.trans v.o);clear f v K;generalize t[k]=l at *;have ao:¬(l.length:Int)=1:=qo;go_wp2;go_roundw
    case rel=>exact⟨k+1,qo,by go_num,HE,s⟩
    case measure=>simp[intOf];omega
  .have af:¬(k:Int)<(t.length:Int):=qo;obtain rfl:k=t.length:=qo;have HE:Hid (none=J):=aA (by rw[<-v.o,List.drop_length];rfl);have N:=qB W s.o;clear v;obtain⟨⟨s0,s1,s2,s3,s4,s5,s6⟩,f0,f1,f2,f3,f4,f5,f6⟩:=bI P.o;have zs:=aD P.o;go_wp2;refine bR (.tuple #[.agg #[.int .i64 0,.string ⟨#[]⟩,.bool false,.int .i64 0,.int .i64 0,.int .i64 0,.string ⟨#[]⟩],.bool false]) ?_;exact Sk HE.o (Na N.o (lR _))
theorem QCb{p:Prop}(h:p:=by
 exact⟨k+1,l'.length,A',c2,qo,by go_num,rfl,aA (by rw[HL9.o,HE.o]),aA (by have h:=HG9.o;have e:=HL9.o.trans HE.o.symm;subst e;exact h),HB9⟩):p:=h
def aAx(n:Nat):List Value:=[.int .i64 (n:Int)]
def Sn:Rep Nat:=mS aAx (fun _=>True)
theorem uB:Firm Sn 1:=gK (fun _=>rfl) (fun x v h=>by simp only[aAx,List.mem_cons,List.not_mem_nil,or_false] at h;rw[h];rfl)
theorem elN:dZ prog 228 3 1 8:=fR (z:= .int .i64 0) underlying228 (by kernel_rfl) rfl qe
def gA(g:List Gv)(l:List Po)(k:Nat):List Nat:=(List.range k).filter (fun i=>match l[i]? with |some x=>oF g x|none=>false)
theorem MM{g:List Gv}{l:List Po}{k:Nat}(a:k<l.length):gA g l (k+1)=if oF g l[k]=true then gA g l k++[k] else gA g l k:=by
 unfold gA;rw[List.range_succ,List.filter_append];simp only[List.filter_cons,List.filter_nil,gE a];split<;>simp
theorem RI(g:List Gv)(l:List Po)(k:Nat):(gA g l k).length<=k:=by
 have:=List.length_filter_le (fun i=>match l[i]? with |some x=>oF g x|none=>false) (List.range k);rw[List.length_range] at this;exact this
theorem So{g:List Gv}{l:List Po}{k i:Nat}(h:i∈gA g l k):i<k:=by
 unfold gA at h;exact List.mem_range.1 (List.mem_filter.1 h).1
theorem RJ{α:Type}{g:List Gv}{l:List Po}(f:Po->α)(d:Nat->α)(b:∀i (h:i<l.length),d i=f l[i]):∀k,k<=l.length->(gA g l k).map d=((l.take k).filter (oF g)).map f
 |0,_=>rfl
 |k+1,h=>by
  have a:k<l.length:=qo;rw[MM a,List.take_succ_eq_append_getElem a,List.filter_append,List.map_append,<-RJ f d b k qo];by_cases hm:oF g l[k]=true
  .rw[iP hm,List.map_append];simp[hm,b k a]
  .rw[iN hm];simp[hm]
def XK(L:List Nat)(w:World)(e:Ending)(w':World):Prop:=∃v,e=.returned v/\aH Sn w' (fun b=>w.heap.size<=b) v L/\Below w.heap.size w w'
theorem Sp{n:Nat}{ok aq:nP}(vk vg:Value)(kids:List Po)(g:List Gv)(w:World)(E:aH (qR n) w aq vk kids)(h:aH jW w ok vg g):Calls prog 141 #[vk,vg] w (XK (gA g kids kids.length) w):=by
 obtain⟨ka,kc,rfl,aj⟩:=E.slice;obtain⟨ga,gc,rfl,_⟩:=h.slice;obtain⟨HP,HS,K⟩:=aZ E h aj;clear E h;go_enter func141,ntmps141;go_wp2;go_loopw [5,6,7,8,9,12] (fun v _ _ _ _ i wr=>∃(k y:Nat) (C:oD) (D:Nat),k<=kids.length/\i=.int .i64 k/\v=.slice C y D/\Hid (y=(gA g kids k).length)/\Hid (aM Sn 1 3 wr w.heap.size (fun b=>w.heap.size<=b) (.slice C y D) (gA g kids k))/\Hid (Below w.heap.size w wr)) (fun _ _ _ _ _ i _=>kids.length - (intOf i).toNat)
 case atStart=>exact Uk
 case round=>
  obtain⟨k,y,C,D,E,rfl,rfl,Z,I,F⟩:=hrel;have O:=aA (RI g kids k);by_cases ae:k<kids.length
  .have ai:(k:Int)<(kids.length:Int):=qo;obtain⟨b,off,rr,rfl,_,ax,ad,hc⟩:=aH.at (bC n) (aH.on (bC n) HP.o F.o) ae qe
   rcases n with _|lv
   .exact ad.elim
   obtain⟨bb,ba,a7,a8,rfl,j⟩:=ad;obtain⟨av,aw,rfl,_⟩:=j.2.2.1.slice;obtain⟨ar,au,rfl,_⟩:=j.2.2.2.1.slice;obtain⟨ak,al,rfl,_⟩:=j.2.2.2.2.1.slice;obtain⟨an,ao,rfl,_⟩:=j.2.2.2.2.2.slice;obtain⟨x0,x1,x2,x3,x4,x5,x6⟩:=CW hc;rw[Nat.add_zero] at x0;have a:=aA (MM (g:=g) ae);have Y:=aA (Mz g kids[k]);clear hc;generalize kids[k]=r at *;have ab:=aA j.2.2.1;clear j;rw[Y.o] at a;clear Y;have B:=aA (aB wr (.cells (kR r av aw ar au ak al an ao) 60));obtain⟨H,X,V⟩:=aZ (Xv _ r.aDY _ (aH.on aS ab.o B.o)) (I.o.on uB B.o) (aC F.o B.o);clear ab I;generalize qI r.aDY=ky at *;unfold FW at H;go_wp2_with fail;refine H.o.mono ?_;rintro e U ⟨m,rfl,hm,d⟩;unfold kX;have W:=qB V d;obtain⟨c,f,M⟩:=aZ (aC W.o (aB U (.cells (KS m) 279))) (X.o.on uB (aC d (aB U (.cells (KS m) 279)))) hm;clear H X V B d hm x0 x1 x2 x3 x4 x5 x6
   rcases ky with _|m2
   .have HE:Hid (gA g kids (k+1)=gA g kids k++[k]):=aA (by have:=a.o;rwa [iP rfl] at this);clear a M;obtain⟨p,T⟩:=xE (U.alloc (.cells (KS m) 279));rw[<-T] at c f;have ah:=aA T;clear T;go_upto_region 7 with (fail)
    rw[<-ah.o];obtain⟨N,G,o⟩:=aZ (aK p (.cells #[.int .i64 (k:Int)] 3) p.heap.size qs) (aC c.o (aB p (.cells #[.int .i64 (k:Int)] 3))) (f.o.on uB (aB p (.cells #[.int .i64 (k:Int)] 3)));clear f;go_wp2_with (at_builtin;refine cC (base:=w.heap.size) elN uB rfl (.tmp 31) (.tmp 33) rfl _ (gA g kids k) rfl o.o p.heap.size 1 _ _ _ k rfl N.o ⟨rfl,trivial⟩ (qD O.o K.o) qo (by have:=c.o.size;rw[World.size_alloc];omega) ?_;intro l' x A' c2 w9 s t P;have HG9:=aA s;have HB9:=aA (o.o.below G.o t (lR _) (by have:=c.o.size;rw[World.size_alloc];omega));have HL9:=aA x.o;clear s t P x)
    go_roundw
    case rel=>exact QCb
    case measure=>simp[intOf];omega
   .obtain⟨rfl,R⟩:=M.o m2 rfl;have l:=aA (KZ m R _ g _ (aH.on cA HS.o c.o));unfold aP at l;have aa:Hid (gA g kids (k+1)=if decide (oX g m≠0)=true then gA g kids k++[k] else gA g kids k):=aA a.o;clear a;have a:=aa;clear aa;generalize oX g m=q at *;have af:=aA R;obtain⟨⟨mc,mn,mm⟩,mo,az,a1,a6⟩:=m;unfold kX at l;dsimp only at l c f ⊢;clear M R W;go_wp2_with fail;refine l.o.mono ?_;rintro e z ⟨rfl,d⟩;have A:=qB c d;have J:=aA (f.o.on uB d);clear l c f d af;by_cases S:q=0
    .subst S;have HE:Hid (gA g kids (k+1)=gA g kids k):=aA (by have:=a.o;rwa [iN qe] at this);clear a;go_wp2;go_roundw
     case rel=>exact⟨k+1,y,C,D,qo,by go_num,rfl,aA (by rw[Z.o,HE.o]),aA (by rw[HE.o];exact J.o),A⟩
     case measure=>simp[intOf];omega
    .have ay:((q:Int)==0)=false:=bN.2 qo;have HE:Hid (gA g kids (k+1)=gA g kids k++[k]):=aA (by have:=a.o;rwa [iP (dX S)] at this);clear a S;obtain⟨N,G,o⟩:=aZ (aK z (.cells #[.int .i64 (k:Int)] 3) z.heap.size qs) (aC A.o (aB z (.cells #[.int .i64 (k:Int)] 3))) (J.o.on uB (aB z (.cells #[.int .i64 (k:Int)] 3)));clear J;go_wp2_with (at_builtin;refine cC (base:=w.heap.size) elN uB rfl (.tmp 31) (.tmp 33) rfl _ (gA g kids k) rfl o.o z.heap.size 1 _ _ _ k rfl N.o ⟨rfl,trivial⟩ (qD O.o K.o) qo (by have:=A.o.size;rw[World.size_alloc];omega) ?_;intro l' x A' c2 w9 s t P;have HG9:=aA s;have HB9:=aA (o.o.below G.o t (lR _) (by have:=A.o.size;rw[World.size_alloc];omega));have HL9:=aA x.o;clear s t P x)
     go_roundw
     case rel=>exact QCb
     case measure=>simp[intOf];omega
  .have ai:¬(k:Int)<(kids.length:Int):=qo;obtain rfl:k=kids.length:=qo;have ag:=aA (I.o.sl (qD O.o K.o) (fun b=>w.heap.size<=b) (fun b Q _=>Q) (fun b Q _=>Q) uB);generalize gA g kids kids.length=L at *;obtain rfl:=Z.o;go_wp2;go_returns;exact⟨_,rfl,ag.o,F.o⟩
theorem aDv:dZ prog 57 60 7 128:=fR (z:= .agg #[.string ByteArray.empty,.bool false,.int .i64 0,.slice none 0 0,.slice none 0 0,.slice none 0 0,.slice none 0 0]) underlying57 (by kernel_rfl) rfl qe
theorem Sq{ok:nP}{w:World}{g i:Nat}{v:Value}(h:¬ok g):aN ok w (w.setCell ⟨g,i,none⟩ v):=(aI v).mono fun k _ a (e:k=g)=>h (e▸a)
def OL(lv:Nat)(a:nP)(g:List Gv)(m:Nat)(p:Po)(vt vr vo:Value)(w:World)(e:Ending)(w':World):Prop:=∃vk,e=.returned (.agg #[.string p.id,.bool p.set,.int .i64 p.alg,vt,vr,vk,vo])/\aH (qR lv) w' (fun b=>a b\/w.heap.size<=b) vk ((p.aD2.filter (oF g)).map (kD g m))/\Below w.heap.size w w'
def Sr(lv:Nat):Prop:=∀(m:Nat),lv<=m->∀(ok a:nP) (p:Po) (vt vr vk vo b:Value) (g:List Gv) (w:World),fO lv w a p vt vr vk vo->aH jW w ok b g->
 Calls prog 80 #[.agg #[.string p.id,.bool p.set,.int .i64 p.alg,vt,vr,vk,vo],b] w (OL lv a g m p vt vr vo w)
theorem RM(g:List Gv)(m:Nat)(r:Po):kD g (m+1) r=.mk r.id r.set r.alg r.aDY r.aDR ((r.aD2.filter (oF g)).map (kD g m)) r.aD4:=rfl
theorem IY(lv:Nat)(IH:∀l,lv=l+1->Sr l):Sr lv:=by
 intro m hm ok s p vt vr vk vo vg g w hp h;obtain⟨ga,gc,rfl,_⟩:=h.slice;obtain⟨ta,tc,rfl,_⟩:=hp.2.2.1.slice;obtain⟨ra,rc,rfl,_⟩:=hp.2.2.2.1.slice;obtain⟨ka,kc,rfl,bt⟩:=hp.2.2.2.2.1.slice;obtain⟨oa,oc,rfl,_⟩:=hp.2.2.2.2.2.slice;obtain⟨W0,I⟩:=xE ((w.alloc (.cells (kR p ta tc ra rc ka kc oa oc) 60)).alloc (.cells wN 60));have Z:Hid (Below w.heap.size w W0):=aA (by rw[I];exact aC (aB _ _) (aB _ _));have A:Hid (W0.heap[w.heap.size]? =some (.cells (kR p ta tc ra rc ka kc oa oc) 60 (0,0))):=aA (by rw[I];exact aE (aK _ _ _ rfl) (aB _ _));have R:Hid (W0.heap[w.heap.size+1]? =some (.cells wN 60 (0,0))):=aA (by rw[I];exact aK _ _ _ qs);have bm:=aA I;have bk:Hid (W0.heap.size=w.heap.size+1+1):=aA (by rw[I];simp);obtain⟨HP,HS,bb,HM,aa⟩:=gJ hp.inb h IH hm (Sp _ _ p.aD2 g W0 (aH.on (bC lv) hp.2.2.2.2.1 Z.o) (h.on cA Z.o));have bh:=aA (fun i (hi:i∈gA g p.aD2 p.aD2.length)=>So hi);obtain⟨d,hd⟩:∃d:Nat->Po,d=fun i=>kD g m ((p.aD2[i]?).getD mK):=⟨_,rfl⟩
 have HD:Hid (∀i (h:i<p.aD2.length),d i=kD g m p.aD2[i]):=aA (fun i h=>by rw[hd];dsimp only;rw[gE h];rfl);have K:=aA (RJ (g:=g) (kD g m) d HD.o p.aD2.length (lR _));rw[List.take_of_length_le (lR _)] at K;have bc:=aA (RI g p.aD2 p.aD2.length);unfold XK at aa;generalize gA g p.aD2 p.aD2.length=L at *;obtain⟨T,ae⟩:∃T,(p.aD2.filter (oF g)).map (kD g m)=T:=⟨_,rfl⟩;rw[ae] at K;have bg:=aA ae;obtain⟨⟨a0,U,a2,a3,a4,a5,V⟩,_⟩:=bI A.o;have Y:=aD A.o;have bo:L.length<=1000000:=lT bc.o bt;clear h hp I IH hm hd ae;go_enter func80,ntmps80;go_wp2_with fail;rw[<-bm.o];refine aa.o.mono ?_;rintro e w1 ⟨v,rfl,ag,j⟩;obtain⟨la,lc,rfl,_⟩:=ag.slice;obtain⟨ah,M,HL⟩:=aZ (aC Z.o j) (lT (Nat.le_of_eq bk.o.symm) j.size) ag;clear a0 U a2 a3 a4 a5 V Y;replace A:=qK A j;obtain⟨⟨A0,A1,A2,A3,A4,A5,A6⟩,_⟩:=bI A.o;have zA:=aD A.o;replace R:=qK R j;obtain⟨⟨R0,R1,R2,R3,R4,R5,R6⟩,_⟩:=bI R.o;have zR:=aD R.o;clear j aa ag;go_wp2;go_loopw [5,7,13] (fun v _ i wr=>∃(k f:Nat) (C:oD) (D:Nat),k<=L.length/\i=.int .i64 k/\v=.slice C f D/\Hid (f=k)/\Hid (aM (qR lv) 7 60 wr w1.heap.size (fun b=>(s b/\b<w.heap.size)\/w1.heap.size<=b) (.slice C f D) ((L.take k).map d))/\Hid (Below w1.heap.size w1 wr)) (fun _ _ i _=>L.length - (intOf i).toNat)
 case atStart=>exact Uk
 case round=>
  obtain⟨k,f,C,D,hk,rfl,rfl,bd,J,G⟩:=hrel;clear A0 A1 A2 A3 A4 A5 A6 zA R0 R1 R2 R3 R4 R5 R6 zR;have P:=qK A G.o;by_cases af:k<L.length
  .have bs:(k:Int)<(L.length:Int):=qo;obtain⟨b,off,rr,rfl,_,bz,⟨rfl,_⟩,N⟩:=aH.at uB (aH.on uB HL.o G.o) af qe;have y0:=N 0 _ rfl;rw[Nat.add_zero,Nat.mul_one] at y0;have ak:=aA (bh.o L[k] (List.getElem_mem af));have ar:Hid ((L.take k).map d++[d L[k]]=(L.take (k+1)).map d):=aA (by rw[List.take_succ_eq_append_getElem af,List.map_append];rfl);have an:=aA (show ((L.take k).map d).length=k by rw[List.length_map,List.length_take];omega);have ad:=aA (HD.o L[k] ak.o);have bp:L[k]<p.aD2.length:=ak.o;clear N;generalize L[k]=q at *;have b8:(q:Int)<(p.aD2.length:Int):=qo;have S:=qB ah G.o;obtain⟨b3,b9,ca,rfl,_,b7,av,N⟩:=aH.at (bC lv) (aH.on (bC lv) HP.o.2.2.2.2.1 S.o) bp qe
   rcases lv with _|lv
   .exact av.elim
   obtain⟨cg,cf,cb,cd,rfl,H⟩:=av;obtain⟨y,z,rfl,_⟩:=H.2.2.1.slice;obtain⟨t,x,rfl,_⟩:=H.2.2.2.1.slice;obtain⟨bw,bx,rfl,_⟩:=H.2.2.2.2.1.slice;obtain⟨n,o,rfl,_⟩:=H.2.2.2.2.2.slice;obtain⟨x0,x1,x2,x3,x4,x5,x6⟩:=CW N;rw[Nat.add_zero] at x0;obtain⟨m2,rfl⟩:∃m2,m=m2+1:=⟨m - 1,qA HM.o⟩;have aq:Hid (fO lv wr (fun b=>s b/\b<w.heap.size) p.aD2[q] (.slice y p.aD2[q].aDY.length z) (.slice t p.aD2[q].aDR.length x) (.slice bw p.aD2[q].aD2.length bx) (.slice n p.aD2[q].aD4.length o)):=aA H;have ab:=aA (bb.o lv rfl m2 (qA HM.o) _ _ p.aD2[q] _ _ _ _ _ g wr H (HS.o.on cA S.o));have bn:=aA (RM g m2 p.aD2[q]);clear N H;generalize p.aD2[q]=r at *;rw[bn.o] at ad;unfold OL at ab;obtain⟨⟨a0,U,a2,a3,a4,a5,V⟩,_⟩:=bI P.o;have Y:=aD P.o;go_wp2_with fail;refine ab.o.mono ?_;rintro e B ⟨cc,rfl,W,j⟩;obtain⟨E,F,rfl,bu⟩:=W.slice;obtain⟨a,bq⟩:∃a,(r.aD2.filter (oF g)).map (kD g m2)=a:=⟨_,rfl⟩;rw[bq] at W bu ad ⊢;have ay:=qB G j;obtain⟨Q,bf,ai⟩:=aZ (aC ay.o (aB B (.cells #[.string r.id,.bool r.set,.int .i64 r.alg,.slice y r.aDY.length z,.slice t r.aDR.length x,.slice E a.length F,.slice n r.aD4.length o] 60))) (aK B (.cells #[.string r.id,.bool r.set,.int .i64 r.alg,.slice y r.aDY.length z,.slice t r.aDR.length x,.slice E a.length F,.slice n r.aD4.length o] 60) B.heap.size qs) (aC j (aB B (.cells #[.string r.id,.bool r.set,.int .i64 r.alg,.slice y r.aDY.length z,.slice t r.aDR.length x,.slice E a.length F,.slice n r.aD4.length o] 60)));obtain⟨aj,ao,bl⟩:=aZ (J.o.on (bC (lv+1)) ai.o) J.o.lt G.o.size;have a8:Hid (qR (lv+1) (B.alloc (.cells #[.string r.id,.bool r.set,.int .i64 r.alg,.slice y r.aDY.length z,.slice t r.aDR.length x,.slice E a.length F,.slice n r.aD4.length o] 60)) (fun b=>((s b/\b<w.heap.size)\/w1.heap.size<=b)/\b<(B.alloc (.cells #[.string r.id,.bool r.set,.int .i64 r.alg,.slice y r.aDY.length z,.slice t r.aDR.length x,.slice E a.length F,.slice n r.aD4.length o] 60)).heap.size/\some b≠(Value.slice C f D).ownBlock) [.string r.id,.bool r.set,.int .i64 r.alg,.slice y r.aDY.length z,.slice t r.aDR.length x,.slice E a.length F,.slice n r.aD4.length o] (.mk r.id r.set r.alg r.aDY r.aDR a r.aD4)):=aA (by
    have O:=aq.o.aDW (aJ ai.o);have X:∀b,(s b/\b<w.heap.size)->((s b/\b<w.heap.size)\/w1.heap.size<=b)/\b<(B.alloc (.cells #[.string r.id,.bool r.set,.int .i64 r.alg,.slice y r.aDY.length z,.slice t r.aDR.length x,.slice E a.length F,.slice n r.aD4.length o] 60)).heap.size/\some b≠(Value.slice C f D).ownBlock:=fun b c=>⟨.inl c,by have h1:=c.2;have h2:=Q.o.size;have h3:=M.o;omega,fun e=>absurd (ao.o b e.symm).1 (by have h1:=c.2;have h3:=M.o;omega)⟩
    refine⟨_,_,_,_,rfl,O.1,O.2.1,aH.more aS O.2.2.1 X,aH.more bM O.2.2.2.1 X,?_,aH.more aO O.2.2.2.2.2 X⟩;refine aH.more (bC lv) (aH.inb (bC lv) (aH.on (bC lv) W (aB B (.cells #[.string r.id,.bool r.set,.int .i64 r.alg,.slice y r.aDY.length z,.slice t r.aDR.length x,.slice E a.length F,.slice n r.aD4.length o] 60)))) fun b c=> ?_
    rcases c.1 with h1|h1
    .exact X b h1
    .exact⟨.inr (lT bl.o h1),c.2,fun e=>absurd (ao.o b e.symm).2 (Nat.not_lt.2 h1)⟩)
   clear ab J aq W j a0 U a2 a3 a4 a5 V Y x0 x1 x2 x3 x4 x5 x6;go_wp2_with (at_builtin;refine cC (base:=w1.heap.size) aDv (bC (lv+1)) rfl (.tmp 17) (.tmp 25) rfl _ ((L.take k).map d) rfl aj.o B.heap.size 1 _ _ _ (.mk r.id r.set r.alg r.aDY r.aDR a r.aD4) rfl bf.o a8.o (by rw[an.o];omega) qo Q.o.size ?_;intro l' ax A' c2 w9 hG aw br;have ba:=aA hG;have az:=aA (aj.o.below Q.o aw (lR _) Q.o.size);have al:=aA ax.o;clear hG aw br ax)
   have a7:Hid (l'.length=k+1):=aA (by rw[al.o,aL,an.o];rfl);go_roundw
   case rel=>exact⟨k+1,l'.length,A',c2,qo,by go_num,rfl,a7,aA (by have h:=ba.o;rw[ad.o] at ar;have e:=al.o.trans ar.o;subst e;exact h),az⟩
   case measure=>simp[intOf];omega
  .have bs:¬(k:Int)<(L.length:Int):=qo;obtain rfl:k=L.length:=qo;have be:Hid (f=T.length):=aA (by rw[bd.o,<-K.o,List.length_map]);have bj:Hid (aH (qR lv) wr (fun b=>(s b/\b<w.heap.size)\/w1.heap.size<=b) (.slice C f D) T):=aA (by
    have h:=J.o;rw[List.take_of_length_le (lR _),K.o] at h;have e:=be.o;subst e;exact h.sl (by rw[<-K.o,List.length_map];exact bo) _ (fun b c _=>c) (fun b c _=> .inr c) (bC lv))
   have S:=qB ah G.o;have au:=qK R G.o;clear J;obtain⟨⟨a0,U,a2,a3,a4,a5,V⟩,b0,b1,b2,b3,b4,b5,b6⟩:=bI P.o;have Y:=aD P.o;obtain⟨⟨r0,r1,r2,r3,r4,r5,r6⟩,f0,f1,f2,f3,f4,f5,f6⟩:=bI au.o;have zr:=aD au.o;go_wp2;refine bR (.agg #[.string p.id,.bool p.set,.int .i64 p.alg,.slice ta p.aDY.length tc,.slice ra p.aDR.length rc,.slice C f D,.slice oa p.aD4.length oc]) ?_;have hA:¬((s w.heap.size/\w.heap.size<w.heap.size)\/w1.heap.size<=w.heap.size):=fun h=>by have h3:=M.o;rcases h with h|h<;>omega
   have hR:¬((s (w.heap.size+1)/\w.heap.size+1<w.heap.size)\/w1.heap.size<=w.heap.size+1):=fun h=>by have h3:=M.o;rcases h with h|h<;>omega
   refine⟨.slice C f D,rfl,?_,?_⟩
   .rw[bg.o];refine aH.more (bC lv) (ok:=fun b=>(s b/\b<w.heap.size)\/w1.heap.size<=b) ?_ (fun b c=>c.elim (fun h=> .inl h.1) (fun h=> .inr (by have h3:=M.o;omega)))
    repeat (refine aH.aDW (bC lv) ?_ (Sq (by first|exact hA|exact hR)))
    exact bj.o
   .repeat (refine Below.setCell ?_ (by first|exact lR _|exact Nat.le_succ _) _)
    exact S.o
theorem MN:∀lv,Sr lv
 |0=>IY 0 (fun l h=>by omega)
 |lv+1=>IY (lv+1) (fun l h=>by obtain rfl:lv=l:=qo
                               exact MN lv)
end Go.Proofs.YthcgdgkpgdjahaaGreatDoor

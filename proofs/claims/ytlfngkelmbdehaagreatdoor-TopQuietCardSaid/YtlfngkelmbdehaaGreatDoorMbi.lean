/- Lemmas. -/
import Derived.Test.YtlfngkelmbdehaaGreatDoorMbh
namespace Go.Proofs.YtlfngkelmbdehaaGreatDoor
open Go.RowKit
set_option linter.unusedVariables false
set_option linter.unusedSimpArgs false
set_option maxHeartbeats 16000000
open _root_.Go.Proofs.Tryz
set_option maxRecDepth 20000
namespace Cm
theorem QCU{p:Prop}(h:p:=by
 go_wp2;go_round
 case rel=>exact⟨k+1,qo,by go_num,H1.o⟩
 case measure=>simp[intOf];omega):p:=h
theorem QCH{p:Prop}(h:p:=by
 obtain rfl:k=l.length:=qo;have H0:=aA (Pk hno);clear hno;go_wp2;go_ret;exact⟨by rw[H0.o];rfl,rfl⟩):p:=h
theorem Eb(a:oD)(c n:Nat)(l:List (Nat×Nat))(q:l.length=n)(w:World)(B:Nat)(p:n<=maxLen)(j:DQ l)(m:Sl w B a (vm l)):
 Calls prog 273 #[.slice a n c,.func (.func 274) #[] #[]] w fun e w'=>e=.returned (.int .i64 (rY pC l))/\w=w':=by
 subst q;unfold maxLen at p;have o:=aA j;clear j;go_enter func273,ntmps273;go_wp2;go_loop [8] (fun i=>∃k:Nat,k<=l.length/\i=.int .i64 k/\qC pC l k) (fun i=>l.length - (intOf i).toNat)
 case atStart=>exact⟨0,Nat.zero_le _,rfl,GK _ _⟩
 case round=>
  obtain⟨k,r,rfl,hno⟩:=hrel;by_cases f:k<l.length
  .obtain⟨b,off,rfl,_,g⟩:=m.mark f;have hA:=aA (YD l[k] (o.o.at f) w);have h0:=aA (fun h=>Ac hno f h);have h1:=aA (fun h=>GL hno f h);clear m hno;generalize qb l[k].1=x at g hA;generalize qb l[k].2=y at g hA
   rcases d:pC l[k] with _|_
   .rw[d] at hA h0 h1;have H1:=aA (h1.o rfl);clear h0 h1 d;go_wp2_with fail;refine hA.o.mono ?_;rintro e w' ⟨rfl,rfl⟩;exact QCU
   .rw[d] at hA h0 h1;have H0:=aA (h0.o rfl);clear h0 h1 d;go_wp2_with fail;refine hA.o.mono ?_;rintro e w' ⟨rfl,rfl⟩;go_wp2;go_ret;exact⟨by rw[H0.o];rfl,rfl⟩
  .exact QCH
theorem Vf(a b:Nat×Nat):(((a.1,a.2):Nat×Nat)==(b.1,b.2))=(a==b):=rfl
theorem NT(a:oD)(c n:Nat)(l:List (Nat×Nat))(r:l.length=n)(m:Nat×Nat)(w:World)(B:Nat)(q:n<=maxLen)(hm:QP m)(j:DQ l)(p:Sl w B a (vm l)):
 Calls prog 286 #[.slice a n c,.complex .f64 (qb m.1) (qb m.2)] w fun e w'=>e=.returned (.int .i64 (rY (m== ·) l))/\w=w':=by
 subst r;unfold maxLen at q;have g:=aA (fun (k:Nat) (h:k<l.length)=>(iS m.1 m.2 l[k].1 l[k].2 hm (j.at h).1 (j.at h).2).trans (Vf m l[k]));clear j;generalize hu:qb m.1=u at g ⊢;generalize s:qb m.2=v at g ⊢;clear hu s hm;go_enter func286,ntmps286;go_wp2;go_loop [8] (fun i=>∃k:Nat,k<=l.length/\i=.int .i64 k/\qC (m== ·) l k) (fun i=>l.length - (intOf i).toNat)
 case atStart=>exact⟨0,Nat.zero_le _,rfl,GK _ _⟩
 case round=>
  obtain⟨k,t,rfl,hno⟩:=hrel;by_cases f:k<l.length
  .obtain⟨b,off,rfl,_,o⟩:=p.mark f;have he:=g.o k f;have h0:=aA (fun h=>Ac hno f h);have h1:=aA (fun h=>GL hno f h);clear p hno;generalize qb l[k].1=x at o he;generalize qb l[k].2=y at o he
   rcases d:(m==l[k]) with _|_
   .rw[d] at he h0 h1;have H1:=aA (h1.o rfl);clear h0 h1 d;exact QCU
   .rw[d] at he h0 h1;have H0:=aA (h0.o rfl);clear h0 h1 d;go_wp2;go_ret;exact⟨by rw[H0.o];rfl,rfl⟩
  .exact QCH
theorem Ec(m:Nat×Nat)(l:List (Nat×Nat)):(∃k:Nat,rY (m== ·) l=k/\VA m l=true)\/(rY (m== ·) l= -1/\VA m l=false):=by
 rcases PD (m== ·) l with ⟨k,a,h1,h2,_⟩|⟨h1,h2⟩
 .exact .inl ⟨k,h1,List.any_eq_true.2 ⟨l[k],List.getElem_mem a,h2⟩⟩
 .exact .inr ⟨h1,List.any_eq_false.2 fun x b=>by rw[h2 x b];decide⟩
theorem VC(a:oD)(c n:Nat)(l:List (Nat×Nat))(d:l.length=n)(m:Nat×Nat)(w:World)(B:Nat)(b:n<=maxLen)(hm:QP m)(f:DQ l)(g:Sl w B a (vm l)):
 Calls prog 277 #[.slice a n c,.complex .f64 (qb m.1) (qb m.2)] w fun e w'=>e=.returned (.bool (VA m l))/\w=w':=by
 have h:=NT a c n l d m w B b hm f g;clear hm
 rcases Ec m l with ⟨k,h1,h2⟩|⟨h1,h2⟩
 all_goals
  rw[h1] at h;rw[h2];have H:=aA h;clear h h1 h2 g f d b;generalize qb m.1=u at H ⊢;generalize qb m.2=v at H ⊢;go_enter func277,ntmps277;go_wp2_with fail;refine H.o.mono ?_;exact OL
theorem KV(a:oD)(c n:Nat)(l:List (Nat×Nat))(f:l.length=n)(m o:Nat×Nat)(w:World)(B:Nat)(b:n<=maxLen)(hm:QP m)(g:QP o)(i:DQ l)(j:Sl w B a (vm l)):
 Calls prog 257 #[.slice a n c,.complex .f64 (qb m.1) (qb m.2),.complex .f64 (qb o.1) (qb o.2)] w fun e w'=>e=.returned (.complex .f64 (qb (pL l m o).1) (qb (pL l m o).2))/\w=w':=by
 have H:=aA (VC a c n l f o w B b g i j);unfold pL;clear j i b hm g
 rcases d:VA o l with _|_
 all_goals
  rw[d] at H;simp only[cond_true,cond_false];clear d f;generalize qb m.1=u at H ⊢;generalize qb m.2=v at H ⊢;generalize qb o.1=x at H ⊢;generalize qb o.2=y at H ⊢;go_enter func257,ntmps257;go_wp2_with fail;refine H.o.mono ?_;exact OL
theorem VD(l:List (Nat×Nat)):(∃k,∃h:k<l.length,rY pC l=k/\yO l=l[k])\/(rY pC l= -1/\yO l=(0,0)):=by
 unfold yO
 rcases PD pC l with ⟨k,a,h1,h2,h3⟩|⟨h1,h2⟩
 .exact .inl ⟨k,a,h1,by rw[Pj h3 a h2];rfl⟩
 .refine .inr ⟨h1,?_⟩;rw[List.find?_eq_none.2 fun x b=>by rw[h2 x b];decide];rfl
theorem Ju(a:oD)(c n:Nat)(l:List (Nat×Nat))(i:l.length=n)(w:World)(B:Nat)(f:n<=maxLen)(j:DQ l)(d:Sl w B a (vm l)):
 Calls prog 255 #[.slice a n c] w fun e w'=>e=.returned (.complex .f64 (qb (yO l).1) (qb (yO l).2))/\w=w':=by
 have h:=Eb a c n l i w B f j d;subst i;clear j;unfold maxLen at f
 rcases VD l with ⟨k,m,h1,h2⟩|⟨h1,h2⟩
 .rw[h1] at h;rw[h2];obtain⟨b,off,rfl,_,g⟩:=d.mark m;have H:=aA h;have o:(0:Int)<=(k:Int):=qo;clear h h1 h2 d;generalize qb l[k].1=x at g ⊢;generalize qb l[k].2=y at g ⊢;go_enter func255,ntmps255;go_wp2_with fail;refine H.o.mono ?_;exact OL
 .rw[h1] at h;rw[h2];have H:=aA h;clear h h1 h2 d;go_enter func255,ntmps255;go_wp2_with fail;refine H.o.mono ?_;exact OL
end Cm
namespace Cm
theorem QBw{p:Prop}(h:p:=by
 rw[hb] at hA h1 h2;have H1:=aA (h1.o rfl);clear h1 h2 hb;go_wp2_with fail;refine hA.o.mono ?_;rintro e w' ⟨rfl,rfl⟩;go_wp2_with fail;refine hB.o.mono ?_;rintro e w' ⟨rfl,rfl⟩;go_wp2;go_round
 case rel=>exact⟨k+1,qo,by go_num,H1.o,by rw[HJ.o]⟩
 case measure=>simp[intOf];omega):p:=h
theorem Jv{p:Prop}(h:p:=by
 go_wp2_with fail;refine h1.o.mono ?_;rintro e w' ⟨rfl,rfl⟩;go_wp2;go_ret2
 exact⟨by rw[HR.o];rfl,rfl⟩):p:=h
theorem VE{p:Nat×Nat->Bool}{l:List (Nat×Nat)}{k:Nat}(h:(l.take k).all p=true)(a:k<l.length)(hp:p l[k]=true):(l.take (k+1)).all p=true:=by
 rw[List.take_succ_eq_append_getElem a,List.all_append,h];simp[hp]
theorem Ad{p:Nat×Nat->Bool}{l:List (Nat×Nat)}{k:Nat}(a:k<l.length)(hp:p l[k]=false):l.all p=false:=by
 rw[List.all_eq_false];exact⟨l[k],List.getElem_mem a,by rw[hp];decide⟩
theorem Pm(a:oD)(c n:Nat)(l:List (Nat×Nat))(z:l.length=n)(w:World)(B:Nat)(t:n<=maxLen)(r:DQ l)(s:Sl w B a (vm l)):
 Calls prog 256 #[.slice a n c] w fun e w'=>e=.returned (.complex .f64 (qb (AN l).1) (qb (AN l).2))/\w=w':=by
 subst z;unfold maxLen at t;have j:=aA r;clear r;go_enter func256,ntmps256;go_wp2;go_loop [3,8] (fun v i=>∃k:Nat,k<=l.length/\i=.int .i64 k/\(l.take k).all KU=true/\v=.complex .f64 (qb ((l.take k).foldl (mE 4) (0,0)).1) (qb ((l.take k).foldl (mE 4) (0,0)).2)) (fun _ i=>l.length - (intOf i).toNat)
 case atStart=>exact⟨0,Nat.zero_le _,rfl,qs,rfl⟩
 case round=>
  obtain⟨k,D,rfl,f,rfl⟩:=hrel;by_cases d:k<l.length
  .obtain⟨b,off,rfl,_,q⟩:=s.mark d;have hA:=aA (Pl l[k] (j.o.at d) w);have p:=MV (fun _ _=>Ve 4) (l.take k) (0,0) QP.zero (fun x A=>j.o x (List.mem_of_mem_take A));have hB:=aA (IV 4 qe qe _ l[k] p (j.o.at d) w);have m:=aA (PE (mE 4) (0,0) l k d);have h1:=aA (fun h=>VE f d h);have h2:Hid (KU l[k]=false->AN l=(2,2)):=fun h=>by unfold AN;rw[Ad d h];rfl
   clear s f p;generalize (l.take k).foldl (mE 4) (0,0)=J at hB m ⊢;rw[show (mE 4 J l[k])=((l.take (k+1)).foldl (mE 4) (0,0)) from m.o.symm] at hB;clear m;generalize o:(l.take (k+1)).foldl (mE 4) (0,0)=C at hB ⊢;have HJ:=aA o;clear o;generalize qb l[k].1=x at q hA hB;generalize qb l[k].2=y at q hA hB
   rcases hb:KU l[k] with _|_
   .rw[hb] at hA h1 h2;have g:=aA (h2.o rfl);clear h1 h2 hb;go_wp2_with fail;refine hA.o.mono ?_;rintro e w' ⟨rfl,rfl⟩;go_wp2;go_ret;exact⟨by rw[g.o];rfl,rfl⟩
   .exact QBw
  .obtain rfl:k=l.length:=qo;rw[List.take_length] at f ⊢;have g:Hid (AN l=l.foldl (mE 4) (0,0)):=by unfold AN;rw[f];rfl
   clear f;generalize l.foldl (mE 4) (0,0)=J at g ⊢;go_wp2;go_ret;exact⟨by rw[g.o];rfl,rfl⟩
def iX(alg:Int)(l:List (Nat×Nat)):(Nat×Nat)×Int:=
 if l.all fJ=true/\1<=alg/\alg<=6 then (Yc alg.toNat l,0) else ((0,0),1)
def mkE(r:(Nat×Nat)×Int):Value:= .tuple #[.complex .f64 (qb r.1.1) (qb r.1.2),.int .i64 r.2]
theorem Pn{alg:Int}{l:List (Nat×Nat)}(h:l.all fJ=false):iX alg l=((0,0),1):=by
 unfold iX;rw[iN (by rw[h];simp)]
theorem Vg{alg:Int}{l:List (Nat×Nat)}(h:alg<1\/6<alg):iX alg l=((0,0),1):=by
 unfold iX;rw[iN qo]
theorem Pp{l:List (Nat×Nat)}(k:Nat)(h1:1<=k)(h6:k<=6)(h:l.all fJ=true):iX (k:Int) l=(Yc k l,0):=by
 unfold iX;rw[iP ⟨h,qo,qo⟩];rfl
theorem ZO(alg:Int)(a:oD)(c n:Nat)(l:List (Nat×Nat))(E:l.length=n)(w:World)(B:Nat)(r:n<=maxLen)(z:DQ l)(f:Sl w B a (vm l)):
 Calls prog 234 #[.int .i64 alg,.slice a n c] w fun e w'=>e=.returned (mkE (iX alg l))/\w=w':=by
 subst E;have d:=aA z;have p:=aA r;unfold maxLen at r;clear z;go_enter func234,ntmps234;go_wp2;go_loop [6,11] (fun v i=>∃k:Nat,k<=l.length/\i=.int .i64 k/\(l.take k).all fJ=true/\v=.complex .f64 (qb (fV (l.take k)).1) (qb (fV (l.take k)).2)) (fun _ i=>l.length - (intOf i).toNat)
 case atStart=>exact⟨0,Nat.zero_le _,rfl,qs,rfl⟩
 case round=>
  obtain⟨k,D,rfl,o,rfl⟩:=hrel;by_cases m:k<l.length
  .obtain⟨b,off,rfl,_,s⟩:=f.mark m;have hA:Hid (Calls prog 251 #[.complex .f64 (qb l[k].1) (qb l[k].2)] w fun e w'=>e=.returned (.bool (fJ l[k]))/\w=w'):=aA (Cj l[k] (d.o.at m) w);have g:=VB (l:=l.take k) (fun x F=>d.o x (List.mem_of_mem_take F));have A:Hid (fV (l.take (k+1))=wY (fV (l.take k)) l[k]):=aA (PE wY (0,0) l k m);have hB:Hid (Calls prog 252 #[.complex .f64 (qb (fV (l.take k)).1) (qb (fV (l.take k)).2),.complex .f64 (qb l[k].1) (qb l[k].2)] w fun e w'=>e=.returned (.complex .f64 (qb (fV (l.take (k+1))).1) (qb (fV (l.take (k+1))).2))/\w=w'):=by
    rw[A.o];exact vZ _ _ g (d.o.at m) w
   have h1:=aA (fun h=>VE o m h);have h2:Hid (fJ l[k]=false->iX alg l=((0,0),1)):=fun h=>Pn (Ad m h)
   clear f o g A;generalize fV (l.take k)=J at hB ⊢;generalize q:fV (l.take (k+1))=I at hB ⊢;have HJ:=aA q;clear q;generalize qb l[k].1=x at s hA hB;generalize qb l[k].2=y at s hA hB
   rcases hb:fJ l[k] with _|_
   .rw[hb] at hA h1 h2;have C:=aA (h2.o rfl);clear h1 h2 hb hB;go_wp2_with fail;refine hA.o.mono ?_;rintro e w' ⟨rfl,rfl⟩;go_wp2;go_ret2
    exact⟨by rw[C.o];rfl,rfl⟩
   .exact QBw
  .obtain rfl:k=l.length:=qo;rw[List.take_length] at o ⊢;have j:=aA o;have g:=aA (VB d.o);clear o D m;by_cases t:1<=alg/\alg<=6
   .obtain⟨K,rfl⟩:∃K:Nat,alg=(K:Int):=⟨alg.toNat,qo⟩;obtain⟨S,R⟩:=t;have HR:=aA (Pp (l:=l) K qo qo j.o);obtain rfl|rfl|rfl|rfl|rfl|rfl:K=1\/K=2\/K=3\/K=4\/K=5\/K=6:=qo
    .have h1:=aA (TS (fV l) g.o w);unfold mk at h1;clear f d j g;generalize qb (fV l).1=G at h1 ⊢;generalize qb (fV l).2=H at h1 ⊢;exact Jv
    .have h1:=aA (TR (fV l) w);have h2:=aA (TS (qM (fV l)) g.o.swap w);have h3:=aA (TR (rT (qM (fV l))) w);unfold mk at h1 h2 h3;clear f d j g;generalize qb (fV l).1=G at h1 ⊢;generalize qb (fV l).2=H at h1 ⊢;generalize qb (qM (fV l)).1=t1 at h1 h2;generalize qb (qM (fV l)).2=t2 at h1 h2;generalize qb (rT (qM (fV l))).1=T at h2 h3;generalize qb (rT (qM (fV l))).2=U at h2 h3;go_wp2_with fail;refine h1.o.mono ?_;rintro e w' ⟨rfl,rfl⟩;go_wp2_with fail;refine h2.o.mono ?_;rintro e w' ⟨rfl,rfl⟩;go_wp2_with fail;refine h3.o.mono ?_;rintro e w' ⟨rfl,rfl⟩;go_wp2;go_ret2
     exact⟨by rw[HR.o];rfl,rfl⟩
    .have h1:=aA (Ju a c _ l rfl w B p.o d.o f);clear f d j g;exact Jv
    .have h1:=aA (Pm a c _ l rfl w B p.o d.o f);clear f d j g;exact Jv
    .have h1:Hid (Calls prog 257 #[.slice a l.length c,.complex .f64 0 4607182418800017408,.complex .f64 4607182418800017408 0] w fun e w'=>e=.returned (.complex .f64 (qb (pL l (0,4) (4,0)).1) (qb (pL l (0,4) (4,0)).2))/\w=w'):=KV a c _ l rfl (0,4) (4,0) w B p.o ⟨qe,qe⟩ ⟨qe,qe⟩ d.o f;clear f d j g;exact Jv
    .have h1:Hid (Calls prog 257 #[.slice a l.length c,.complex .f64 4607182418800017408 0,.complex .f64 0 4607182418800017408] w fun e w'=>e=.returned (.complex .f64 (qb (pL l (4,0) (0,4)).1) (qb (pL l (4,0) (0,4)).2))/\w=w'):=KV a c _ l rfl (4,0) (0,4) w B p.o ⟨qe,qe⟩ ⟨qe,qe⟩ d.o f;clear f d j g;exact Jv
   .have HR:=aA (Vg (l:=l) (alg:=alg) qo);have L:(alg==1)=false:=by simp;omega
    have M:(alg==2)=false:=by simp;omega
    have N:(alg==3)=false:=by simp;omega
    have O:(alg==4)=false:=by simp;omega
    have P:(alg==5)=false:=by simp;omega
    have Q:(alg==6)=false:=by simp;omega
    clear t f d j g;go_wp2;go_ret2
    exact⟨by rw[HR.o];rfl,rfl⟩
end Cm
theorem VF:dV prog 36 200 3 32:=fO (z:= .agg #[.int .i64 0,.int .i64 0,.string ByteArray.empty]) underlying36 (by kernel_rfl) rfl qe
theorem rZ(m n:Mk):((m.1,m.2)==n)=decide (m=n):=by rw[Bool.eq_iff_iff];simp
def wI(l:List Ob)(w:World)(e:Ending)(w':World):Prop:=∃v,e=.returned v/\aH jT w' (fun b=>w.heap.size<=b) v l/\Below w.heap.size w w'
theorem YE{α:Type}(p:α->Bool)(l:List α)(k:Nat)(a:k<l.length):(l.take (k+1)).filter p=(l.take k).filter p++(if p l[k]=true then [l[k]] else []):=by
 rw[List.take_succ_eq_append_getElem a,List.filter_append]
 congr 1
 by_cases h:p l[k]=true
 .rw[iP h,List.filter_cons_of_pos h];rfl
 .rw[iN h,List.filter_cons_of_neg (by simpa using h)];rfl
theorem YF{α:Type}(p:α->Bool)(l:List α)(k:Nat):((l.take k).filter p).length<=k:=by
 have h1:=List.length_filter_le p (l.take k);have h2:(l.take k).length<=k:=List.length_take_le _ _;omega
theorem xU{ok:nP}(v:Value)(l:List Ob)(m:Mk)(hm:Cm.QP m)(w:World)(h:aH jT w ok v l):Calls prog 236 #[v,.complex .f64 (Cm.qb m.1) (Cm.qb m.2)] w (wI (gN l m) w):=by
 obtain⟨a,c,rfl,aj⟩:=h.slice;have HS:=aA h;obtain⟨P,J⟩:∃P,decide (m=(4,0))=P:=⟨_,rfl⟩;obtain⟨D,H⟩:∃D,decide (m=(0,4))=D:=⟨_,rfl⟩;have E:((FloatKind.f64.format.order (Cm.qb m.1) 4607182418800017408==some .eq)&&(FloatKind.f64.format.order (Cm.qb m.2) 0==some .eq))=P:=(Cm.iS m.1 m.2 4 0 hm qe qe).trans ((rZ m (4,0)).trans J);have G:((FloatKind.f64.format.order (Cm.qb m.1) 0==some .eq)&&(FloatKind.f64.format.order (Cm.qb m.2) 4607182418800017408==some .eq))=D:=(Cm.iS m.1 m.2 0 4 hm qe qe).trans ((rZ m (0,4)).trans H);obtain⟨F,I⟩:∃F:Ob->Bool,F=(fun o=>(decide (o.on=1)&&P)||(decide (o.on=2)&&D)):=⟨_,rfl⟩;have HR:Hid (gN l m=l.filter F):=aA (by unfold gN;rw[I,J,H]);have HF:=aA (show ∀x,F x=((decide (x.on=1)&&P)||(decide (x.on=2)&&D)) from fun x=>by rw[I]);generalize Cm.qb m.1=ma at *;generalize Cm.qb m.2=mb at *;have Q:=aA aj;clear h J H I hm;unfold wI;rw[HR.o];have E1:=aA E;have E2:=aA G;clear E G
 rcases P with _|_<;>rcases D with _|_
 all_goals
  have E:=E1.o;have G:=E2.o;go_enter func236,ntmps236;go_wp2;go_loopw [5,10] (fun v i wr=>∃(k:Nat) (t:oD) (n y:Nat) (st:List Ob),k<=l.length/\i=.int .i64 k/\v=.slice t n y/\Hid (st=(l.take k).filter F)/\Hid (aM jT 3 200 wr w.heap.size (fun b=>w.heap.size<=b) (.slice t n y) st)/\Hid (Below w.heap.size w wr)) (fun _ i _=>l.length - (intOf i).toNat)
  case atStart=>exact⟨0,none,0,0,[],qo,rfl,rfl,aA qs,aA aM.nil,aA (Below.refl _ _)⟩
  case round=>
   obtain⟨k,t,n,y,st,hk,rfl,rfl,e,p,g⟩:=hrel;by_cases Y:k<l.length
   .have ai:(k:Int)<(l.length:Int):=qo;obtain⟨b,off,r,rfl,_,ao,⟨rfl,V⟩,U⟩:=aH.at aO (HS.o.on aO g.o) Y qe;obtain⟨x0,x1,x2⟩:=cR3 U;rw[Nat.add_zero] at x0;obtain⟨j,d,ae,ag,S,ak⟩:=hD6 (YE F l k Y) (HF.o l[k]) V (YF F l k) g.o.size hk;clear U V;generalize hx:l[k]=x at *;clear hx;have N:=qB g (aB wr (.cells #[.int .i64 x.on,.int .i64 x.aCF,.string x.arg] 200));obtain⟨aa,R,A⟩:=aY (aC N.o (aB _ (.cells #[.int .i64 x.on,.int .i64 x.aCF,.string x.arg] 200))) (aK (wr.alloc (.cells #[.int .i64 x.on,.int .i64 x.aCF,.string x.arg] 200)) (.cells #[.int .i64 x.on,.int .i64 x.aCF,.string x.arg] 200) (wr.heap.size+1) qs) (p.o.on aO (aB wr (.cells #[.int .i64 x.on,.int .i64 x.aCF,.string x.arg] 200)));have z:=aA (A.o.on aO (aB _ (.cells #[.int .i64 x.on,.int .i64 x.aCF,.string x.arg] 200)));have af:Hid (st.length<=1000000):=aA (by rw[e.o];have:=ag.o;have:=Q.o;omega);obtain⟨q,K⟩:∃q,decide (x.on=1)=q:=⟨_,rfl⟩;obtain⟨s,L⟩:∃s,decide (x.on=2)=s:=⟨_,rfl⟩;rw[K,L] at d;have al:(x.on==1)=q:=K;have an:(x.on==2)=s:=L;clear K L
    rcases q with _|_<;>rcases s with _|_
    all_goals first
     |(have f:F x=false:=d.o
       have C:Hid (st=(l.take (k+1)).filter F):=aA (by rw[j.o,iN (by rw[f];decide),List.append_nil];exact e.o);clear j f d R z p;go_wp2;go_roundw
       case rel=>exact⟨k+1,t,n,y,st,qo,by go_num,rfl,C,A,N⟩
       case measure=>simp[intOf];omega)
     |(have f:F x=true:=d.o
       have C:=aA (by rw[j.o,iP f,<-e.o]:(l.take (k+1)).filter F=st++[x]);clear j f d p A;go_wp2_with (at_builtin;refine cA (base:=w.heap.size) VF aO rfl (.tmp 30) (.tmp 32) rfl _ st rfl z.o (wr.heap.size+1) 1 _ _ _ x rfl R.o ⟨rfl,ae.o⟩ af.o qo (by have:=S.o;simp only[World.size_alloc];omega) ?_;intro l' X Z c2 w9 T W ah;have ad:=aA T;have ab:=aA (z.o.below aa.o W (lR _) (by have:=S.o;simp only[World.size_alloc];omega));have B:=aA X.o;clear T W ah X)
       go_roundw
       case rel=>exact⟨k+1,Z,l'.length,c2,l',qo,by go_num,rfl,aA (by rw[B.o,C.o]),ad,ab⟩
       case measure=>simp[intOf];omega)
   .have ai:¬(k:Int)<(l.length:Int):=qo;obtain rfl:k=l.length:=qo;have O:Hid (st=l.filter F):=aA (by have:=e.o;rwa [List.take_of_length_le (lR _)] at this);have B:Hid (st.length<=1000000):=aA (by rw[O.o];have h1:=List.length_filter_le F l;have:=Q.o;omega);clear e;go_wp2;go_returns;rw[<-O.o];refine⟨_,rfl,?_,g.o⟩;exact p.o.sl B.o _ (fun b M _=>M) (fun b M _=>M) aO
theorem QBW{p:Prop}(h:p:=by
 refine⟨_,rfl,?_,nV HB1.o (Nat.le_succ _)⟩;exact aH.more aO (aH.aCM aO HS1.o (((aI _).trans (aI _)).mono fun k _ hk=>hk.2)) (fun b hb=>hb.1)):p:=h
theorem So{p:Prop}(h:p:=by
 go_enter func232,ntmps232;go_wp2;refine bR (.agg #[.complex .f64 0 0,.slice none 0 0]) ?_;exact tB rfl (aC (aB _ _) (aB _ _)) rfl rfl):p:=h
theorem QAZ{p:Prop}(h:p:=by
 cases deny
 .go_enter func232,ntmps232;go_wp2_with fail;refine(HIP.o _).mono ?_;rintro e w1 ⟨rfl,rfl⟩;go_wp2;refine bR (.agg #[.complex .f64 4602678819172646912 0,.slice none 0 0]) ?_;exact tB rfl (aC (aB _ _) (aB _ _)) rfl rfl
 .go_enter func232,ntmps232;go_wp2_with fail;refine(HID.o _).mono ?_;rintro e w1 ⟨rfl,rfl⟩;go_wp2;refine bR (.agg #[.complex .f64 0 4602678819172646912,.slice none 0 0]) ?_;exact tB rfl (aC (aB _ _) (aB _ _)) rfl rfl):p:=h
def mU(r:Mk×List Ob)(w:World)(e:Ending)(w':World):Prop:=∃vo,e=.returned (.agg #[.complex .f64 (Cm.qb r.1.1) (Cm.qb r.1.2),vo])/\aH jT w' (fun b=>w.heap.size<=b) vo r.2/\Below w.heap.size w w'
theorem tB{r:Mk×List Ob}{a b:Nat}{w w':World}(c:r=((a,b),[]))(h:Below w.heap.size w w'){x y:Nat}(d:Cm.qb a=x)(e:Cm.qb b=y):mU r w (.returned (.agg #[.complex .f64 x y,.slice none 0 0])) w':=by
 subst c d e;exact⟨_,rfl,aH.nil,h⟩
theorem nV{W w:World}{g:Nat}{a b:Value}(h:Below W.heap.size W w)(c:W.heap.size<=g):Below W.heap.size W ((w.setCell ⟨g,0,none⟩ a).setCell ⟨g,1,none⟩ b):=(h.setCell c _).setCell c _
theorem uB(p:Addr)(x y:Nat)(w:World):(store p (.complex .f64 x y)).run prog w=stored prog w p (.complex .f64 x y) .plain:=run_store prog w p _ _ rfl
theorem Ed{ok:nP}(r:Ru)(p m i:oD)(s q o n j:Nat)(t c:Nat)(G:t<=2)(E:c<=2)(w:World)(D:aH jT w ok (.slice i r.aCU.length j) r.aCU):
 Calls prog 232 #[.agg #[.string r.id,.bool r.aDf,.slice p s q,.slice m o n,.slice i r.aCU.length j],.int .i64 t,.int .i64 c] w (mU (DZ r t c) w):=by
 have x:=aA (aC (aB w (.cells #[.string r.id,.bool r.aDf,.slice p s q,.slice m o n,.slice i r.aCU.length j] 277)) (aB _ (.cells #[.complex .f64 0 0,.slice none 0 0] 135)));have B:=aA (D.on aO x.o);have C:Hid (((w.alloc (.cells #[.string r.id,.bool r.aDf,.slice p s q,.slice m o n,.slice i r.aCU.length j] 277)).alloc (.cells #[.complex .f64 0 0,.slice none 0 0] 135)).heap[w.heap.size+1]? =some (.cells #[.complex .f64 0 0,.slice none 0 0] 135 (0,0))):=aA (aK (w.alloc (.cells #[.string r.id,.bool r.aDf,.slice p s q,.slice m o n,.slice i r.aCU.length j] 277)) (.cells #[.complex .f64 0 0,.slice none 0 0] 135) _ qs);have HIP:Hid (∀w,Calls prog 235 #[.complex .f64 4607182418800017408 0] w fun e w'=>e=.returned (.complex .f64 4602678819172646912 0)/\w=w'):=aA (fun w=>Cm.aAM (4,0) ⟨qe,qe⟩ w);have HID:Hid (∀w,Calls prog 235 #[.complex .f64 0 4607182418800017408] w fun e w'=>e=.returned (.complex .f64 0 4602678819172646912)/\w=w'):=aA (fun w=>Cm.aAM (0,4) ⟨qe,qe⟩ w);have A:Hid (∀w ok v l,aH jT w ok v l->Calls prog 236 #[v,.complex .f64 4607182418800017408 0] w (wI (gN l (4,0)) w)):=aA (fun w ok v l h=>xU v l (4,0) ⟨qe,qe⟩ w h);have z:Hid (∀w ok v l,aH jT w ok v l->Calls prog 236 #[v,.complex .f64 0 4607182418800017408] w (wI (gN l (0,4)) w)):=aA (fun w ok v l h=>xU v l (0,4) ⟨qe,qe⟩ w h);unfold wI at A z;have J:=uB;obtain⟨id,deny,target,cond,obls⟩:=r;simp only at *;clear D;have H:t=0\/t=1\/t=2:=qo;have F:c=0\/c=1\/c=2:=qo;clear G E
 rcases H with rfl|rfl|rfl
 .show Calls prog _ #[_,.int .i64 0,_] w _
  cases deny
  .exact So
  .exact So
 .show Calls prog _ #[_,.int .i64 1,_] w _;exact QAZ
 .rcases F with rfl|rfl|rfl
  .show Calls prog _ #[_,.int .i64 2,.int .i64 0] w _
   cases deny
   .exact So
   .exact So
  .show Calls prog _ #[_,.int .i64 2,.int .i64 1] w _;exact QAZ
  .show Calls prog _ #[_,.int .i64 2,.int .i64 2] w _
   cases deny
   .have f:=aA (A.o _ _ _ _ B.o);go_enter func232,ntmps232;go_wp2_with fail;refine f.o.mono ?_;rintro e w1 ⟨v,rfl,d,a⟩;obtain⟨y,vc,rfl,_⟩:=d.slice;have HB1:=qB x a;have HS1:=aA (d.more aO (ok':=fun b=>w.heap.size<=b/\b≠w.heap.size+1) (fun b hb=>by simp only[World.size_alloc] at hb;exact⟨qo,qo⟩));have g:=qK C a;obtain⟨⟨u0,u1⟩,_⟩:=fH g.o;have I:=aD g.o;clear d a f;go_wp2;refine bR (.agg #[.complex .f64 4607182418800017408 0,.slice y (gN obls (4,0)).length vc]) ?_;exact QBW
   .have f:=aA (z.o _ _ _ _ B.o);go_enter func232,ntmps232;go_wp2_with fail;refine f.o.mono ?_;rintro e w1 ⟨v,rfl,d,a⟩;obtain⟨y,vc,rfl,_⟩:=d.slice;have HB1:=qB x a;have HS1:=aA (d.more aO (ok':=fun b=>w.heap.size<=b/\b≠w.heap.size+1) (fun b hb=>by simp only[World.size_alloc] at hb;exact⟨qo,qo⟩));have g:=qK C a;obtain⟨⟨u0,u1⟩,_⟩:=fH g.o;have I:=aD g.o;clear d a f;go_wp2;refine bR (.agg #[.complex .f64 0 4607182418800017408,.slice y (gN obls (0,4)).length vc]) ?_;exact QBW
theorem KW{α:Type}(f:α->Nat):∀(l:List α) (n:Nat),n<=2->l.foldl (fun out x=>min out (f x)) n<=2
 | [],n,h=>h
 |x::l,n,h=>KW f l _ (lT (Nat.min_le_left _ _) h)
theorem Ae(g:List Gv)(t:Ta):xK g t<=2:=KW _ t 2 (lR _)
theorem Pq(g:List Gv)(l:List No):tH g l<=2:=by
 unfold tH;split
 .decide
 dsimp only;split
 .decide
 split<;>decide
def Kp(w:World)(p q:Nat)(a b:Obj)(w':World):Prop:=Below w.heap.size w w'/\w'.heap[p]? =some a/\w'.heap[q]? =some b
theorem Kp.on{w w' d:World}{p q:Nat}{b c:Obj}(h:Kp w p q b c w')(a:Below w'.heap.size w' d):Kp w p q b c d:=⟨aC h.1 a,aE h.2.1 a,aE h.2.2 a⟩
theorem KX(w:World)(a b:Obj):Kp w w.heap.size (w.heap.size+1) a b ((w.alloc a).alloc b):=
 ⟨aC (aB w a) (aB _ b),aE (aK w a _ rfl) (aB _ b),aK (w.alloc a) b _ qs⟩
theorem Jw{ok ok':nP}(r:Ru)(vt vc vo:Value)(R:Value)(g:List Gv)(w:World)(y:rL w ok' r vt vc vo)(h:aH jM w ok R g):
 Calls prog 199 #[.agg #[.string r.id,.bool r.aDf,vt,vc,vo],R] w (mU (iA g r) w):=by
 obtain⟨J,gc,rfl,_⟩:=h.slice;obtain⟨o,q,rfl,_⟩:=y.2.1.slice;obtain⟨m,n,rfl,_⟩:=y.2.2.1.slice;obtain⟨s,x,rfl,_⟩:=y.2.2.2.slice;have D:=aA y;have H:=aA h;obtain⟨f,P⟩:∃f:Obj,f=.cells #[.string r.id,.bool r.aDf,.slice o r.aCO.length q,.slice m r.cond.length n,.slice s r.aCU.length x] 277:=⟨_,rfl⟩;obtain⟨j,Q⟩:∃j:Obj,j=.cells #[.complex .f64 0 0,.slice none 0 0] 135:=⟨_,rfl⟩;obtain⟨T,A,C⟩:=aY ((KX w f j).on ((Below.refl _ _).drew)) P Q;have I:Hid (∀w',Kp w w.heap.size (w.heap.size+1) f j w'->Calls prog 198 #[.slice o r.aCO.length q,.slice J g.length gc] w' (aP (.int .i64 (xK g r.aCO:Nat)) w')):=aA (fun w' l=>ZJ _ _ _ g w' (D.o.2.1.aCM aS (aJ l.1)) (H.o.on bZ l.1));have F:Hid (∀w',Kp w w.heap.size (w.heap.size+1) f j w'->Calls prog 233 #[.slice m r.cond.length n,.slice J g.length gc] w' (aP (.int .i64 (tH g r.cond:Nat)) w')):=aA (fun w' l=>Jt _ _ _ g w' (D.o.2.2.1.aCM dO (aJ l.1)) (H.o.on bZ l.1));have G:Hid (∀w',Kp w w.heap.size (w.heap.size+1) f j w'->Calls prog 232 #[.agg #[.string r.id,.bool r.aDf,.slice o r.aCO.length q,.slice m r.cond.length n,.slice s r.aCU.length x],.int .i64 (xK g r.aCO:Nat),.int .i64 (tH g r.cond:Nat)] w' (mU (iA g r) w')):=aA (fun w' l=>Ed r o m s _ q _ n x _ _ (Ae _ _) (Pq _ _) w' (D.o.2.2.2.aCM aO (aJ l.1)));unfold aP at I F;unfold mU at G;have z:Hid (∀w',Kp w w.heap.size (w.heap.size+1) f j w'->(w'.cell? ⟨w.heap.size,0,none⟩=some (.string r.id)/\w'.cell? ⟨w.heap.size,1,none⟩=some (.bool r.aDf)/\w'.cell? ⟨w.heap.size,2,none⟩=some (.slice o r.aCO.length q)/\w'.cell? ⟨w.heap.size,3,none⟩=some (.slice m r.cond.length n)/\w'.cell? ⟨w.heap.size,4,none⟩=some (.slice s r.aCU.length x))):=aA (fun w' l=>by
  have h1:=l.2.1;rw[A.o] at h1;obtain⟨⟨a,b,c,d,e⟩,_⟩:=dL h1;exact⟨a,b,c,d,e⟩)
 have S:Hid (∀w',Kp w w.heap.size (w.heap.size+1) f j w'->(w'.cell? ⟨w.heap.size+1,0,none⟩=some (.complex .f64 0 0)/\w'.cell? ⟨w.heap.size+1,1,none⟩=some (.slice none 0 0)/\w'.frozen? ⟨w.heap.size+1,0,none⟩=false/\w'.frozen? ⟨w.heap.size+1,1,none⟩=false/\w.heap.size+1<w'.heap.size)):=aA (fun w' l=>by
  have h1:=l.2.2;rw[C.o] at h1;obtain⟨⟨a,b⟩,c,d⟩:=fH h1;exact⟨a,b,c,d,aD h1⟩)
 have W:Hid (∀w',Kp w w.heap.size (w.heap.size+1) f j w'->∀b,w'.heap.size<=b->w.heap.size<=b/\b≠w.heap.size+1):=aA (fun w' l b L=>by
  have:=aD l.2.2;exact⟨qo,qo⟩)
 have Y:Hid (∀(w':World) (a b:Value),Kp w w.heap.size (w.heap.size+1) f j w'->(((w'.setCell ⟨w.heap.size+1,0,none⟩ a).setCell ⟨w.heap.size+1,1,none⟩ b).cell? ⟨w.heap.size,0,none⟩=some (.string r.id)/\((w'.setCell ⟨w.heap.size+1,0,none⟩ a).setCell ⟨w.heap.size+1,1,none⟩ b).cell? ⟨w.heap.size,1,none⟩=some (.bool r.aDf)/\((w'.setCell ⟨w.heap.size+1,0,none⟩ a).setCell ⟨w.heap.size+1,1,none⟩ b).cell? ⟨w.heap.size,2,none⟩=some (.slice o r.aCO.length q)/\((w'.setCell ⟨w.heap.size+1,0,none⟩ a).setCell ⟨w.heap.size+1,1,none⟩ b).cell? ⟨w.heap.size,3,none⟩=some (.slice m r.cond.length n)/\((w'.setCell ⟨w.heap.size+1,0,none⟩ a).setCell ⟨w.heap.size+1,1,none⟩ b).cell? ⟨w.heap.size,4,none⟩=some (.slice s r.aCU.length x))):=aA (fun w' a b l=>by
  have h1:=bE (b':=w.heap.size+1) (i:=1) (v:=b) (bE (b':=w.heap.size+1) (i:=0) (v:=a) l.2.1 qo) qo;rw[A.o] at h1;obtain⟨⟨a,b,c,d,e⟩,_⟩:=dL h1;exact⟨a,b,c,d,e⟩)
 have K:=z.o _ T.o;rw[A.o,C.o] at K;generalize xK g r.aCO=t at *;generalize tH g r.cond=c at *;generalize iA g r=res at *;have ae:=uB;clear h y P Q;go_enter func199,ntmps199;go_wp2;rw[<-A.o,<-C.o] at K ⊢;go_region_held3 (fun w'=>w'.cell? ⟨w.heap.size,0,none⟩=some (.string r.id)/\w'.cell? ⟨w.heap.size,1,none⟩=some (.bool r.aDf)/\w'.cell? ⟨w.heap.size,2,none⟩=some (.slice o r.aCO.length q)/\w'.cell? ⟨w.heap.size,3,none⟩=some (.slice m r.cond.length n)/\w'.cell? ⟨w.heap.size,4,none⟩=some (.slice s r.aCU.length x))
  (first|assumption |exact Y.o _ _ _ (Hid.o (p:=Kp w w.heap.size (w.heap.size+1) f j _) (by assumption)))
  ((first
    |(go_at_call 198;refine(I.o _ (Hid.o (p:=Kp w w.heap.size (w.heap.size+1) f j _) (by assumption))).mono ?_;rintro e wa ⟨rfl,M⟩;have U:=aA (Kp.on (Hid.o (p:=Kp w w.heap.size (w.heap.size+1) f j _) (by assumption)) M);have aa:=z.o _ U.o;clear M)
    |(go_at_call 233;refine(F.o _ (Hid.o (p:=Kp w w.heap.size (w.heap.size+1) f j _) (by assumption))).mono ?_;rintro e wc ⟨rfl,N⟩;have V:=aA (Kp.on (Hid.o (p:=Kp w w.heap.size (w.heap.size+1) f j _) (by assumption)) N);have ab:=z.o _ V.o;clear N)
    |(go_at_call 232;refine(G.o _ (Hid.o (p:=Kp w w.heap.size (w.heap.size+1) f j _) (by assumption))).mono ?_;rintro e we ⟨v,rfl,E,O⟩;obtain⟨Z,vc,rfl,_⟩:=E.slice;have B:=aA (Kp.on (Hid.o (p:=Kp w w.heap.size (w.heap.size+1) f j _) (by assumption)) O);have ad:=z.o _ B.o;have X:=aA (aH.more (ok':=fun b=>w.heap.size<=b/\b≠w.heap.size+1) aO E (W.o _ (Hid.o (p:=Kp w w.heap.size (w.heap.size+1) f j _) (by assumption))));have hu:=S.o _ B.o;obtain⟨u0,u1,f0,f1,zu⟩:=hu;clear O E)))
 all_goals
  go_wp2;refine bR (.agg #[.complex .f64 (Cm.qb res.1.1) (Cm.qb res.1.2),.slice Z res.2.length vc]) ?_;refine⟨_,rfl,?_,nV B.o.1 (Nat.le_succ _)⟩;exact aH.more aO (aH.aCM aO X.o (((aI _).trans (aI _)).mono fun k _ l=>l.2)) (fun b L=>L.1)
def Sp(m:Mk):List Value:=[.complex .f64 (Cm.qb m.1) (Cm.qb m.2)]
def Yd(m:Mk):Prop:=Cm.fJ m=true
def Ye:Rep Mk:=mG Sp Yd
theorem Jx:Firm Ye 1:=gC (fun _=>rfl) (fun x v h=>by simp only[Sp,List.mem_cons,List.not_mem_nil,or_false] at h;rcases h with rfl;rfl)
theorem DR{m:Mk}(h:Cm.fJ m=true):m=(0,0)\/m=(4,0)\/m=(0,4)\/m=(2,0)\/m=(0,2)\/m=(2,2):=by
 unfold Cm.fJ at h;by_cases h0:m=(0,0);exact .inl h0;by_cases h1:m=(4,0);exact .inr (.inl h1);by_cases h2:m=(0,4);exact .inr (.inr (.inl h2));by_cases h3:m=(2,0);exact .inr (.inr (.inr (.inl h3)));by_cases h4:m=(0,2);exact .inr (.inr (.inr (.inr (.inl h4))));by_cases h5:m=(2,2);exact .inr (.inr (.inr (.inr (.inr h5))));rw[iN h0,iN h1,iN h2,iN h3,iN h4,iN h5] at h
 cases h
theorem yP{m:Mk}(h:Cm.fJ m=true):Cm.QP m:=by
 rcases DR h with rfl|rfl|rfl|rfl|rfl|rfl<;>exact⟨qe,qe⟩
theorem KY(m:Mk):Cm.fJ (QZ m)=true:=by
 unfold QZ;split;rfl;split;rfl;split;rfl;split;rfl;split<;>rfl
theorem Ee{m:Mk}(h:Cm.fJ m=true):Cm.fJ (Av m)=true:=by
 rcases DR h with rfl|rfl|rfl|rfl|rfl|rfl<;>rfl
theorem GM{m:Mk}(h:Cm.fJ m=true):Cm.fJ (tO m)=true:=by
 rcases DR h with rfl|rfl|rfl|rfl|rfl|rfl<;>rfl
theorem Ef{j m:Mk}(hj:Cm.fJ j=true)(h:Cm.fJ m=true):Cm.fJ (EA j m)=true:=by
 unfold EA;split;exact h;split;exact hj;rfl
theorem GP:∀(l:List Mk) (j:Mk),Cm.fJ j=true->(∀m∈l,Cm.fJ m=true)->Cm.fJ (l.foldl EA j)=true
 | [],j,hj,_=>hj
 |m::l,j,hj,h=>GP l _ (Ef hj (h m (List.mem_cons_self ..))) (fun x a=>h x (List.mem_cons_of_mem _ a))
theorem PF(alg:Int)(l:List Mk)(h:∀m∈l,Cm.fJ m=true):Cm.fJ (BM alg l)=true:=by
 unfold BM;split;exact KY _;split;exact Ee (KY _);split
 .unfold BL
  cases a:l.find? (fun m=>decide (m≠(0,0))) with
  |none=>rfl
  |some m=>exact h m (List.mem_of_find?_eq_some a)
 split
 .unfold RG;split
  .exact GP l _ rfl h
  .rfl
 split
 .unfold qW;split<;>rfl
 split
 .unfold qW;split<;>rfl
 rfl
theorem Zv:Cm.mE 4=EA:=by
 funext j m
 show (bif j==(0,0) then m else bif m==(0,0) then j else (2,2))=_;unfold EA;by_cases h1:j=(0,0)
 .rw[iP h1,bQ.2 h1];rfl
 .rw[iN h1,bN.2 h1];by_cases h2:m=(0,0)
  .rw[iP h2,bQ.2 h2];rfl
  .rw[iN h2,bN.2 h2];rfl
theorem wJ(a b:Mk):(a==b)=decide (a=b):=by rw[Bool.eq_iff_iff];simp
theorem Zw:Cm.KU=RF:=by
 funext m
 unfold Cm.KU RF;rw[wJ,wJ,wJ,Bool.or_assoc]
theorem Yf(l:List Mk):Cm.yO l=BL l:=by
 unfold Cm.yO BL
 congr 2
 funext m
 unfold Cm.pC;rw[wJ,<-decide_not]
theorem Af(l:List Mk)(m o:Mk):Cm.pL l m o=qW l m o:=by
 unfold Cm.pL qW Cm.VA;have e:(fun x:Mk=>o==x)=fun x=>decide (x=o):=by funext x;rw[wJ,Bool.eq_iff_iff];simp[eq_comm]
 rw[e]
 cases l.any (fun x=>decide (x=o))<;>rfl
theorem Vh(alg:Int)(l:List Mk)(h:∀m∈l,Cm.fJ m=true):(Cm.iX alg l).1=BM alg l:=by
 have ha:l.all Cm.fJ=true:=List.all_eq_true.2 h;by_cases h1:1<=alg/\alg<=6
 .have:alg=1\/alg=2\/alg=3\/alg=4\/alg=5\/alg=6:=qo;unfold Cm.iX;rw[iP ⟨ha,h1.1,h1.2⟩]
  rcases this with rfl|rfl|rfl|rfl|rfl|rfl
  .rfl
  .rfl
  .show Cm.yO l=BL l;exact Yf l
  .show Cm.AN l=RG l;unfold Cm.AN RG;rw[Zv,Zw]
   cases l.all RF<;>rfl
  .show Cm.pL l (0,4) (4,0)=qW l (0,4) (4,0);exact Af _ _ _
  .show Cm.pL l (4,0) (0,4)=qW l (4,0) (0,4);exact Af _ _ _
 .unfold Cm.iX BM;rw[iN (fun h=>h1 h.2),iN qo,iN qo,iN qo,iN qo,iN qo,iN qo]
theorem VG{w:World}{ok:nP}:∀{l:List Mk} {cs:List Value},aX (Ye w ok) cs l->cs=Cm.vm l
 | [],_,h=>h
 |m::l,_,⟨r,t,e,hr,ht⟩=>by rw[e,hr.1,VG ht];rfl
theorem aCm:dV prog 326 75 1 16:=fO (z:= .complex .f64 0 0) underlying326 (by kernel_rfl) rfl qe
abbrev Rs:=Mk×List Ob
def ReP(w:World)(ok:nP)(r:Rs)(vo:Value):Prop:=Cm.fJ r.1=true/\aH jT w ok vo r.2
def Jy:Rep Rs:=fun w ok cs r=>∃vo,cs=[.complex .f64 (Cm.qb r.1.1) (Cm.qb r.1.2),vo]/\ReP w ok r vo
theorem kI:Firm Jy 2:={
 aCM:=fun⟨vo,e,h⟩ b=>⟨vo,e,h.1,aH.aCM aO h.2 b⟩
 more:=fun⟨vo,e,h⟩ c=>⟨vo,e,h.1,aH.more aO h.2 c⟩
 len:=fun⟨vo,e,h⟩=>by rw[e];rfl
 one:=fun⟨vo,e,h⟩=>by
  intro v a;rw[e] at a;simp only[List.mem_cons,List.not_mem_nil,or_false] at a
  rcases a with rfl|rfl
  .rfl
  .exact kR h.2
 inb:=fun⟨vo,e,h⟩=>⟨vo,e,h.1,aH.inb aO h.2⟩}
theorem Yg:dV prog 282 135 2 40:=fO (z:= .agg #[.complex .f64 0 0,.slice none 0 0]) underlying282 (by kernel_rfl) rfl qe
section
variable {α:Type} {R:Rep α} {s:Nat} {P:Program} {w:World} {t e:TypeId} {bytes:Nat} {base:Nat} {ok ok':nP}
theorem Jz(E:dV P t e s bytes)(F:Firm R s){o:Oper}{a:Act}{K:Act->World->Prop}{Q:Exit->Act->World->Prop}(g x:Operand)
 (z:o.op=.call {callee:= .builtin .append,args:=#[g,x],argTypes:=#[t,t]})
 (v:Value)(l:List α)(B:a.eval g=v)(m:aM R s e w base ok v l)
 (i:Value)(y:List α)(C:a.eval x=i)(D:aH R w (fun b=>ok b/\b<w.heap.size/\some b≠v.ownBlock) i y)
 (h63:l.length+y.length<=1000000)(p:bytes<=10000)(n:base<=w.heap.size)
 (h:∀l',Hid (l'=l++y)->∀c d w',aM R s e w' base ok (.slice c l'.length d) l'->w.grownBy w' v.ownBlock->((Value.slice c l'.length d).ownBlock=v.ownBlock\/(Value.slice c l'.length d).ownBlock=some w.heap.size)->K (a.put o.dst (.slice c l'.length d)) w'):o.wp P a w K Q:=by
 obtain⟨xs,A,q⟩:=m;obtain⟨j,k,cs,rfl,h1,h2,_⟩:=D;refine RV E g x z base v l.length xs B A j y.length k cs C (h2.len (fun _ _ f=>F.len f)) h1.lt (h2.aDb (fun _ _ f=>F.one f)) (by unfold maxLen;omega) ?_ n fun c d w' h3 h4 h5=> ?_
 .calc (l.length+y.length) * bytes<=(1000000+1) * 10000:=Nat.mul_le_mul qo p
   _<=140737488355328:=qe
 .have r:(l++y).length=l.length+y.length:=aL;have:=h _ rfl c d w';rw[r] at this;exact this (aM.put F q h2 h3 h4 h5) h4 h5
theorem AO(E:dV P t e s bytes)(F:Firm R s){ops:Array Oper}{rest:List Oper}{o:Oper}{a:Act}{Q:Exit->Act->World->Prop}(n:o.guard=none)(f x:Operand)
 (q:o.op=.call {callee:= .builtin .append,args:=#[f,x],argTypes:=#[t,t]})
 (v:Value)(l:List α)(r:a.eval f=v)(i:aM R s e w base ok v l)
 (g:Value)(y:List α)(z:a.eval x=g)(A:aH R w (fun b=>ok b/\b<w.heap.size/\some b≠v.ownBlock) g y)
 (h63:l.length+y.length<=1000000)(m:bytes<=10000)(k:base<=w.heap.size)
 (h:∀l',Hid (l'=l++y)->∀c d w',aM R s e w' base ok (.slice c l'.length d) l'->w.grownBy w' v.ownBlock->((Value.slice c l'.length d).ownBlock=v.ownBlock\/(Value.slice c l'.length d).ownBlock=some w.heap.size)->wpList P ops Q rest (a.put o.dst (.slice c l'.length d)) w'):wpList P ops Q (o::rest) a w:=
 wpList_plain n fun _ j=>Jz E F f x q v l r i g y z A h63 m k fun l' p c d w' h2 h3 h4=>j _ _ (h l' p c d w' h2 h3 h4)
end
end Go.Proofs.YtlfngkelmbdehaaGreatDoor

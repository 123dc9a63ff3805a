/- Lemmas. -/
import Derived.Test.YtbpimcljljlbnaaGreatDoorMbq
namespace Go.Proofs.YtbpimcljljlbnaaGreatDoor
open Go.RowKit
set_option linter.unusedVariables false
set_option linter.unusedSimpArgs false
set_option maxHeartbeats 16000000
open _root_.Go.Proofs.Tryz
set_option maxRecDepth 20000
theorem QCO{p:Prop}(h:p:=by
 rintro e w2 ⟨rfl,hb⟩;have HB2:=qB HB1 hb;clear hb;go_wp2;go_ret;exact⟨by rw[HE4.o];rfl,HB2.o⟩):p:=h
theorem Zs{p:Prop}(h:p:=by
 rintro e w2 ⟨rfl,hb⟩;have HB2:=qB HB1 hb;clear hb;go_wp2;go_ret;exact⟨by rw[HE2.o];rfl,HB2.o⟩):p:=h
theorem Tw{p:Prop}(h:p:=by
 go_upto_region 8 with (fail)
 refine qM 14 (by kernel_rfl) (by kernel_rfl) ?_;simp only[List.take_succ_cons,List.take_zero,List.drop_succ_cons,List.drop_zero]
 repeat still_step
 refine wpStill_nil ?_;go_wp2_with fail;refine HQW.o.mono ?_;rintro e w2 ⟨rfl,hi,hb⟩;have HI2:=aA (HQR.o w2 (.inr hi));have HB2:=aA (HB.o.trans (Fo.trans hb));clear hi hb HI HB HQW HQR;go_wp2;go_roundw
 case rel=>exact⟨k+1,qo,by go_num,HI2,HB2⟩
 case measure=>simp[intOf];omega):p:=h
def Fm:ByteArray:=⟨#[48,49,50,51,52,53,54,55,56,57,97,98,99,100,101,102]⟩
theorem Ly:∀k:Fin 16,Fm.extract k.val (k.val+1)=⟨#[JG k.val]⟩:=by decide +kernel
theorem EC(a b:lU):Lib.byteCells a++Lib.byteCells b=Lib.byteCells (a++b):=by unfold Lib.byteCells;rw[List.map_append]
theorem QH(l:lU):(Lib.byteCells l).length=l.length:=by unfold Lib.byteCells;rw[List.length_map]
def tK(l:lU):List UInt8:=34 ::l.flatMap uK
theorem BC(l:lU):(tK l).length<=1+3 * l.length:=by
 unfold tK;rw[List.length_cons];have h:(l.flatMap uK).length<=3 * l.length:=by
  induction l with
  |nil=>simp
  |cons c l a=>
   rw[List.flatMap_cons,aL,List.length_cons];have:(uK c).length<=3:=by unfold uK;split<;>simp
   omega
 omega
theorem QI(l:lU)(c:UInt8):tK (l++[c])=tK l++uK c:=by unfold tK;rw[List.flatMap_append,List.flatMap_cons,List.flatMap_nil,List.append_nil,List.cons_append]
theorem QJ{c:UInt8}:fD c=true↔¬c.toNat<32/\¬126<c.toNat/\c.toNat≠34/\c.toNat≠92:=by
 unfold fD;simp only[Bool.and_eq_true,decide_eq_true_eq];omega
theorem Mb{s:bY}{k:Nat}(h:k<s.size):s.data.toList.take (k+1)=s.data.toList.take k++[s[k]]:=by
 rw[List.take_add_one,gE (by rw[Array.length_toList];exact h),Option.toList_some];rfl
theorem aAH:∀x:Fin 256,bits .and .u8 (x.val:Int) 15=((x.val % 16:Nat):Int):=by decide +kernel
theorem Mc:∀x:Fin 16,IntKind.u8.wrap ((x.val:Int)+1)=((x.val+1:Nat):Int):=by decide +kernel
theorem Fo{n:Nat}{w:World}:Below n w w.drew:=(Below.refl n w).drew
theorem Fp(s:bY)(R:s.size<=64)(w:World):Calls prog 49 #[.string s] w (lE (.string (bs (FH s.data.toList))) w):=by
 have y:Below w.heap.size w (w.alloc (.cells #[.pointer none,.slice none 0 0] 163)):=aB _ _;have z:IC w.heap.size w.heap.size (Lib.byteCells []) (w.alloc (.cells #[.pointer none,.slice none 0 0] 163)):= .inl ⟨lR _,.slice none 0 0,aK _ _ _ rfl,World.ownsRowF_of (World.ownsRow_nil _ _ _ _),by simp[Value.ownBlock]⟩;have o:=aA (fun (l:lU) (c:UInt8) (w1:World) (h:IC w.heap.size w.heap.size (Lib.byteCells l) w1) (Q:l.length<=1000) (hb:w.heap.size<=w1.heap.size)=>RQ w.heap.size w.heap.size (Lib.byteCells l) (c.toNat:Int) w1 h (by rw[QH];omega) hb);have r:=aA z;have n:=aA y;unfold lE;clear z y;go_enter func49,ntmps49;go_wp2_with fail;refine(o.o [] 34 _ r.o qs n.o.size).mono ?_;rintro e w1 ⟨rfl,hi,hb⟩;have HI:=aA (Or.inr hi:IC w.heap.size w.heap.size (Lib.byteCells (tK [])) w1);have HB:=aA (n.o.trans hb);clear hi hb r n;go_wp2;go_loopw [9] (fun i wr=>∃(k:Nat),k<=s.size/\i=.int .i64 k/\Hid (IC w.heap.size w.heap.size (Lib.byteCells (tK (s.data.toList.take k))) wr)/\Hid (Below w.heap.size w wr)) (fun i _=>s.size - (intOf i).toNat)
 case atStart=>exact⟨0,qo,rfl,HI,HB⟩
 case round=>
  obtain⟨k,P,rfl,HI,HB⟩:=hrel;by_cases E:k<s.size
  .have O:(s[k].toNat:Int)<256:=qA (s[k].toNat_lt);obtain⟨c,d⟩:=xE (s[k]);have A:s.data.toList.take (k+1)=s.data.toList.take k++[c]:=by rw[d];exact Mb E
   by_cases hp:fD c=true
   .obtain⟨m,p,q,B⟩:¬c.toNat<32/\¬126<c.toNat/\c.toNat≠34/\c.toNat≠92:=QJ.1 hp;have d1:decide ((c.toNat:Int)<32)=false:=dF qo;have d2:decide ((c.toNat:Int) > 126)=false:=dF qo;have d3:((c.toNat:Int)==34)=false:=bN.2 qo;have d4:((c.toNat:Int)==92)=false:=bN.2 qo;rw[d] at d1 d2 d3 d4;go_wp2_with fail;refine(o.o _ s[k] _ HI.o (by have:=BC (s.data.toList.take k);rw[List.length_take] at this;omega) HB.o.size).mono ?_;rintro e w2 ⟨rfl,hi,hb⟩;have HI2:Hid (IC w.heap.size w.heap.size (Lib.byteCells (tK (s.data.toList.take (k+1)))) w2):=aA (by rw[A,QI,<-EC];unfold uK;rw[iP hp,d];exact .inr hi);have HB2:=aA (HB.o.trans hb);clear hi hb HI HB;go_wp2;go_roundw
    case rel=>exact⟨k+1,qo,by go_num,HI2,HB2⟩
    case measure=>simp[intOf];omega
   .have F:s[k].toNat<32\/(¬s[k].toNat<32/\126<s[k].toNat)\/(¬s[k].toNat<32/\¬126<s[k].toNat/\s[k].toNat=34)\/(¬s[k].toNat<32/\¬126<s[k].toNat/\s[k].toNat≠34/\s[k].toNat=92):=by
     rw[QJ,d] at hp;omega
    obtain⟨a,ha⟩:=xE (s[k].toNat / 16);obtain⟨b,hb⟩:=xE (s[k].toNat % 16);have S:(s[k].toNat:Int) / 16=(a:Int):=qo;have qb:bits .and .u8 (s[k].toNat:Int) 15=(b:Int):=by rw[hb];exact aAH ⟨s[k].toNat,s[k].toNat_lt⟩
    have v:a<16:=qo;have x:b<16:=qo;have G:=Mc ⟨a,v⟩;have H:=Mc ⟨b,x⟩;have L:(0:Int)<=(a:Int):=qo;have a2:(a:Int)<=(a:Int)+1:=qo;have a3:(a:Int)+1<=16:=qo;have a4:(0:Int)<=(a:Int)+1:=qo;have b2:(b:Int)<=(b:Int)+1:=qo;have M:(b:Int)+1<=16:=qo;have N:(0:Int)<=(b:Int)+1:=qo;obtain⟨X,f⟩:∃X:bY,X=⟨#[JG a]⟩:=⟨_,rfl⟩;obtain⟨Y,g⟩:∃Y:bY,Y=⟨#[JG b]⟩:=⟨_,rfl⟩;have I:Fm.extract a (a+1)=X:=(Ly ⟨a,v⟩).trans f.symm;have J:Fm.extract b (b+1)=Y:=(Ly ⟨b,x⟩).trans g.symm;unfold Fm at I J;have U:X.size=1:=by rw[f];rfl
    have V:Y.size=1:=by rw[g];rfl
    have j:(⟨#[92]⟩++X++Y:bY)=⟨#[92,JG a,JG b]⟩:=by rw[f,g];rfl
    have HQW:=aA (MD w.heap.size w.heap.size (Lib.byteCells (tK (s.data.toList.take k))) (⟨#[92]⟩++X++Y) wr.drew HI.o (by rw[QH];have:=BC (s.data.toList.take k);rw[List.length_take] at this;omega) (by rw[j];show 0<3;decide) (by rw[j];show 3<=100000;decide) HB.o.size);have HQR:Hid (∀w2:World,IC w.heap.size w.heap.size (Lib.byteCells (tK (s.data.toList.take k))++Lib.strCells (⟨#[92]⟩++X++Y)) w2->IC w.heap.size w.heap.size (Lib.byteCells (tK (s.data.toList.take (k+1)))) w2):=aA (fun w2 h=>by rw[A,QI,<-EC];rw[j] at h;unfold uK;rw[iN hp,d,<-ha,<-hb];exact h);have K:=aA (And.intro ha hb);clear f g j;clear ha hb;dsimp only at G H
    rcases F with m|⟨m,p⟩|⟨m,p,q⟩|⟨m,p,q,B⟩
    .have d1:decide ((s[k].toNat:Int)<32)=true:=dX qo;exact Tw
    .have d1:decide ((s[k].toNat:Int)<32)=false:=dF qo;have d2:decide ((s[k].toNat:Int) > 126)=true:=dX qo;exact Tw
    .have d1:decide ((s[k].toNat:Int)<32)=false:=dF qo;have d2:decide ((s[k].toNat:Int) > 126)=false:=dF qo;have d3:((s[k].toNat:Int)==34)=true:=bQ.2 qo;clear q;exact Tw
    .have d1:decide ((s[k].toNat:Int)<32)=false:=dF qo;have d2:decide ((s[k].toNat:Int) > 126)=false:=dF qo;have d3:((s[k].toNat:Int)==34)=false:=bN.2 qo;have d4:((s[k].toNat:Int)==92)=true:=bQ.2 qo;clear B;exact Tw
  .have D:k=s.size:=qo;rw[D,List.take_of_length_le (by rw[Array.length_toList];exact lR _)] at HI;go_wp2_with fail;refine(o.o _ 34 _ HI.o (by have:=BC s.data.toList;have h2:s.data.toList.length=s.size:=(by rw[Array.length_toList];rfl);omega) HB.o.size).mono ?_;rintro e w2 ⟨rfl,hi,hb⟩;have t:=aA (Builder_String_any_k w.heap.size w.heap.size (tK s.data.toList++[34]) w2 (by rw[<-EC];exact .inr hi) (HB.o.trans hb).size);have HB2:=aA (HB.o.trans hb);clear hi hb HI HB;go_wp2_with fail;refine t.o.mono ?_;rintro e T ⟨rfl,-,hb,-⟩;have C:=aA (HB2.o.trans hb);clear hb t HB2;go_wp2;go_ret;exact⟨rfl,C.o⟩
theorem Fq(B:Nat)(w:World)(k:Nat)(os:Array Obj)(h:B<=w.heap.size):Below B w (Go.Sort.grow (w.drewN k) os):=by
 have h1:Below B w (w.drewN k):=fK (Below.refl B w) ⟨k,rfl⟩;have h2:w.heap.size<=(w.drewN k).heap.size:=h1.size;exact⟨h1.os,h1.tape,h1.output,by show _<=((w.drewN k).heap++os).size;rw[Array.size_append];omega,fun j hj=>by
  show ((w.drewN k).heap++os)[j]? =_;rw[Array.getElem?_append_left qo];exact h1.block j hj⟩
theorem BF(n:Int)(a:bK n)(w:World)(b:Gl w):Calls prog 26 #[.int .i64 n] w (lE (.string (bs (mI n))) w):=by
 refine(strconv_Itoa n a.1 a.2 w b.tab).mono ?_;rintro e w' ⟨rfl,k,os,rfl⟩;exact⟨rfl,Fq _ w k os (lR _)⟩
theorem Bj(b:Bool)(w:World):Calls prog 48 #[.bool b] w (lE (.string (bs (if b=true then dA "true" else dA "false"))) w):=by
 refine(strconv_FormatBool b w).mono ?_;rintro e w' ⟨rfl,rfl⟩;refine⟨?_,Below.refl _ _⟩
 cases b<;>rfl
theorem Rn{v:V3}(h:aT v=false):vK v=[]:=iP h
theorem Ro{k n:Int}{s:bY}(h:aT (k,n,s)=true):vK (k,n,s)=(if k=1 then (if n=1 then dA "true" else dA "false") else if k=4 then [64]++mI n else if k=5 then [35]++s.data.toList else if k=3 then FH s.data.toList else mI n):=by
 unfold vK;rw[iN (by rw[h];decide)]
theorem ID{n:Int}{s:bY}(h:aT (3,n,s)=true):s.size<=64:=by
 unfold aT at h;simp at h;exact h.2
theorem uL(n:Int)(b:bK n):(bs (mI n)).size<=100:=by
 have a:∀k u:Nat,u<10 ^ (k+1)->(Lib.decDigits u).length<=k+1:=by
  intro k
  induction k with
  |zero=>intro u hu;rw[Lib.decDigits_one qo];exact lR _
  |succ k c=>
   intro u hu;rw[Lib.decDigits];split
   .simp
   .rw[aL];have:=c (u / 10) (by rw[Nat.pow_succ] at hu;omega);simp only[List.length_cons,List.length_nil];omega
 have h0:=b.1;have h1:=b.2;have h2:(bs (mI n)).size=(mI n).length:=by unfold bs;exact List.size_toArray
 rw[h2];unfold mI Lib.itoa;split
 .have:=a 19 n.natAbs qo;rw[List.length_cons];omega
 .have:=a 19 n.toNat qo;omega
theorem Md(v:V3)(x:cS v)(w:World)(C:Gl w):Calls prog 27 #[dD v] w (lE (.string (bs (vK v))) w):=by
 obtain⟨k,n,s⟩:=v;obtain⟨W0,i⟩:=xE (w.alloc (.cells #[.int .i64 k,.int .i64 n,.string s] 56));have r:Below w.heap.size w W0:=by rw[i];exact aB _ _
 have R:Hid (W0.heap[w.heap.size]? =some (.cells #[.int .i64 k,.int .i64 n,.string s] 56 (0,0))):=aA (by rw[i];exact aK _ _ _ rfl);obtain⟨O,t⟩:=xE (vK (k,n,s));rw[<-t];obtain⟨A,J,f,z,I,N⟩:=hD6 (nF k n s (by have:s.size<=cQ:=x.2.2;unfold cQ at this;unfold maxLen;omega) W0) (C.on r) x t r i;unfold lE dD;clear r i C x t;obtain⟨⟨E,F,G⟩,-⟩:=cE R.o;have H:=aD R.o;go_enter func27,ntmps27;go_upto_region 1 with (fail)
 rw[<-N.o];go_wp2_with fail;refine A.o.mono ?_;rintro e w1 ⟨rfl,hb⟩;obtain⟨HB1,B,y⟩:=aY (aC I.o hb) (aE R.o hb) (J.o.on hb);clear E F G H hb A;obtain⟨⟨E,F,G⟩,-⟩:=cE B.o;have H:=aD B.o
 cases g:aT (k,n,s)
 .have c:=aA (z.o.trans (Rn g));go_wp2;go_ret;exact⟨by rw[c.o];rfl,HB1.o⟩
 .have c:=aA (z.o.trans (Ro g));have M:=aA g;clear g;by_cases j:k=1
  .have b:=aA (c.o.trans (iP j));subst j;by_cases a:n=1
   .have d1:(n==(1:Int))=true:=bQ.2 a;have p:=aA (Bj true w1);have HE2:=aA (b.o.trans (iP a));clear a;go_wp2_with fail;refine p.o.mono ?_;exact Zs
   .have d1:(n==(1:Int))=false:=bN.2 a;have p:=aA (Bj false w1);have HE2:=aA (b.o.trans (iN a));clear a;go_wp2_with fail;refine p.o.mono ?_;exact Zs
  .have c1:(k==(1:Int))=false:=bN.2 j;have b:=aA (c.o.trans (iN j));by_cases m:k=4
   .have HE2:=aA (b.o.trans (iP m));subst m;have q:=aA (BF n f.o.2.1 w1 y.o);have D:=uL n f.o.2.1;generalize mI n=L at *;go_wp2_with fail;refine q.o.mono ?_;exact Zs
   .have c4:(k==(4:Int))=false:=bN.2 m;have HE2:=aA (b.o.trans (iN m));by_cases o:k=5
    .have d:=aA (HE2.o.trans (iP o));subst o;have D:s.size<=cQ:=f.o.2.2;unfold cQ at D;go_wp2;go_ret;exact⟨by rw[d.o];rfl,HB1.o⟩
    .have c5:(k==(5:Int))=false:=bN.2 o;have d:=aA (HE2.o.trans (iN o));by_cases l:k=3
     .have HE4:=aA (d.o.trans (iP l));subst l;have K:=aA (Fp s (ID M.o) w1);go_wp2_with fail;refine K.o.mono ?_;exact QCO
     .have c3:(k==(3:Int))=false:=bN.2 l;have HE4:=aA (d.o.trans (iN l));have q:=aA (BF n f.o.2.1 w1 y.o);go_wp2_with fail;refine q.o.mono ?_;exact QCO
theorem QAl{p:Prop}(h:p:=by
 by_cases z5:0<r.at_
 .have HN2:=aA (HN.o.trans (iP ⟨z0,z5⟩));have d5:decide (r.at_ > (0:Int))=true:=dX z5;have p0:∀p:In (BJ W0),p.w.cell? ⟨w.heap.size,0,none⟩=some (.int .i64 r.err):=fun p=>(p.h.cell zr).trans r0
  have p7:∀p:In (BJ W0),p.w.cell? ⟨w.heap.size,7,none⟩=some (.int .i64 r.at_):=fun p=>(p.h.cell zr).trans r7
  have HX:=aA (fun (n:Int) (hn:bK n) w' (hb':Below W0.heap.size W0 w')=>(BF n hn w' (HG.o.on hb')).mono fun e w2 (h:lE _ w' e w2)=>(⟨h.1,aC hb' h.2⟩:e=_/\Below W0.heap.size W0 w2));have hs1:=uL r.err HE.o;have hs2:=uL r.at_ HA.o;have HX1:=aA (HX.o r.err HE.o);have HX2:=aA (HX.o r.at_ HA.o);obtain⟨L1,hL1⟩:=xE (mI r.err);obtain⟨L2,hL2⟩:=xE (mI r.at_);rw[<-hL1,<-hL2] at HN2;rw[<-hL1] at hs1 HX1;rw[<-hL2] at hs2 HX2;obtain⟨l1,hl1⟩:=xE (bs L1);obtain⟨l2,hl2⟩:=xE (bs L2);rw[<-hl1] at hs1 HX1;rw[<-hl2] at hs2 HX2;have HL1:=aA hl1;have HL2:=aA hl2;clear hL1 hL2 z0 z5 HX hl1 hl2;go_upto_region 4 with (fail)
  refine CD (C:=BJ W0) (by kernel_rfl) (by kernel_rfl) (SN W0) ?_
  repeat (go_big_quiet_step (first|exact in_call fun w' hb=>HX1.o w' hb|exact in_call fun w' hb=>HX2.o w' hb))
  refine wpQuiet_nil ?_;intro w2 hb2;have HB2:=qB HB0 (show Below W0.heap.size W0 w2 from hb2);clear hb2;go_wp2;go_ret;exact⟨by rw[HN2.o,HL1.o,HL2.o];rfl,HB2.o⟩
 .have HN2:=aA (HN.o.trans ((iN (fun h=>z5 h.2)).trans (iP z0)));have d5:decide (r.at_ > (0:Int))=false:=dF z5;have HX:=aA (BF r.err HE.o W0 HG.o);have hs1:=uL r.err HE.o;generalize mI r.err=L1 at *;clear z0 z5;go_wp2_with fail;refine HX.o.mono ?_;rintro e w2 ⟨rfl,hb⟩;have HB2:=qB HB0 hb;clear hb;go_wp2;go_ret;exact⟨by rw[HN2.o];rfl,HB2.o⟩):p:=h
theorem Me(m:Mk):Cm.bT m=bs (FG m):=by
 unfold Cm.bT FG;split
 .rfl
 split
 .rfl
 split
 .rfl
 split
 .rfl
 split
 .rfl
 split
 .rfl
 rfl
theorem Mf(m:Mk):(bs (FG m)).size<=100:=by
 unfold FG
 repeat (split;(· decide))
 decide
theorem Mg(v:V3)(a:cS v):(bs (vK v)).size<=1000100:=by
 have b:=uL v.2.1 a.2.1;rw[cH] at b ⊢;have e:v.2.2.data.toList.length<=1000000:=by rw[Array.length_toList];exact a.2.2
 unfold vK;split
 .simp
 rename_i c;split
 .split<;>decide
 split
 .rw[aL];simp only[List.length_cons,List.length_nil];omega
 split
 .rw[aL];simp only[List.length_cons,List.length_nil];omega
 split
 .rename_i h3;have h64:v.2.2.size<=64:=ID (n:=v.2.1) (s:=v.2.2) (by
   have h4:v=(3,v.2.1,v.2.2):=by rw[<-h3]
   rw[<-h4];simpa using c)
  have d:=BC v.2.2.data.toList;have h5:v.2.2.data.toList.length=v.2.2.size:=by rw[Array.length_toList];rfl
  have h6:FH v.2.2.data.toList=tK v.2.2.data.toList++[34]:=rfl;rw[h6,aL];simp only[List.length_cons,List.length_nil];omega
 .omega
theorem Fs(r:Rpl)(hm:Cm.QP r.mark)(A:cS r.val)(he:bK r.err)(ha:bK r.at_)(w:World)(z:Gl w):Calls prog 13 #[.agg (eU r)] w (lE (.string (tF r)) w):=by
 obtain⟨O,q⟩:=xE (yX r);unfold tF;rw[<-q];obtain⟨k,B,v,HE,HA⟩:=gC q (Cm.AH r.mark hm) A he ha;obtain⟨W0,c⟩:=xE (w.alloc (.cells (eU r) 66));have o:Below w.heap.size w W0:=by rw[c];exact aB _ _
 have R:Hid (W0.heap[w.heap.size]? =some (.cells (eU r) 66 (0,0))):=aA (by rw[c];exact aK _ _ _ rfl);have HB0:=aA o;have HG:=aA (z.on o);unfold eU at c R ⊢;have D:=aA c;unfold lE;clear o c q A he ha z;obtain⟨⟨r0,I,J,K,M,N,P,r7⟩,-⟩:=nL R.o;have zr:=aD R.o;obtain⟨y,s⟩:∃b,decide (r.mark=((4,0):Mk))=b:=⟨_,rfl⟩;have G:((FloatKind.f64.format.order (Cm.qb r.mark.1) 4607182418800017408==some .eq)&&(FloatKind.f64.format.order (Cm.qb r.mark.2) 0==some .eq))=y:=(Cm.iT r.mark.1 r.mark.2 4 0 hm qe qe).trans ((sD r.mark (4,0)).trans s);have t:=aA s;clear s hm;go_enter func13,ntmps13;go_upto_region 1 with (fail)
 rw[<-D.o];by_cases h12:r.err=12
 .have d12:(r.err==(12:Int))=true:=bQ.2 h12;have z0:r.err≠0:=qo;have m:(r.err != (0:Int))=true:=bne_iff_ne.2 z0
  cases y
  .have HN:=aA (k.o.trans (iP ⟨h12,of_decide_eq_false t.o⟩));have H:=Mf r.mark;have l:=aA (B.o W0);rw[Me r.mark] at l;clear h12 z0 m;generalize FG r.mark=L at *;unfold Cm.mk at l;go_wp2_with fail;refine l.o.mono ?_;rintro e w1 ⟨rfl,rfl⟩;go_wp2;go_ret;exact⟨by rw[HN.o];rfl,HB0.o⟩
  .have HN:=aA (k.o.trans (iN (fun h=>h.2 (of_decide_eq_true t.o))));clear h12;exact QAl
 .have d12:(r.err==(12:Int))=false:=bN.2 h12;have HN:=aA (k.o.trans (iN (fun h=>h12 h.1)));clear h12;by_cases z0:r.err=0
  .have m:(r.err != (0:Int))=false:=by rw[z0];rfl
   have HN2:=aA (HN.o.trans ((iN (fun h=>h.1 z0)).trans (iN (fun h=>h z0))));clear z0;by_cases g:r.aDG=true
   .have d:=aA (HN2.o.trans (iP g));go_wp2;go_ret;exact⟨by rw[d.o];rfl,HB0.o⟩
   .have d:=aA (HN2.o.trans (iN g));have dg:r.aDG=false:=by simpa using g
    clear g;by_cases i:r.hidden=true
    .have f:=aA (d.o.trans (iP i));go_wp2;go_ret;exact⟨by rw[f.o];rfl,HB0.o⟩
    .have f:=aA (d.o.trans (iN i));have F:r.hidden=false:=by simpa using i
     clear i;by_cases a:r.val=bD
     .have j:=aA (f.o.trans (iN (fun h=>h a)));have E:∀w,Sem.run prog (binOp .neq 56 (.agg #[.int .i64 r.val.1,.int .i64 r.val.2.1,.string r.val.2.2]) (.agg #[.int .i64 0,.int .i64 0,.string ⟨#[]⟩])) w=.ok (.bool false) w:=fun w=>(yR r.val bD w).trans (by rw[dX a];rfl)
      clear a;go_wp2;go_ret;exact⟨by rw[j.o];rfl,HB0.o⟩
     .have j:=aA (f.o.trans (iP a));have E:∀w,Sem.run prog (binOp .neq 56 (.agg #[.int .i64 r.val.1,.int .i64 r.val.2.1,.string r.val.2.2]) (.agg #[.int .i64 0,.int .i64 0,.string ⟨#[]⟩])) w=.ok (.bool true) w:=fun w=>(yR r.val bD w).trans (by rw[dF a];rfl)
      have HX:=aA (Md r.val v.o W0 HG.o);have hs1:=Mg r.val v.o;unfold dD at HX;clear a;generalize vK r.val=L at *;go_wp2_with fail;refine HX.o.mono ?_;rintro e w2 ⟨rfl,hb⟩;have HB2:=qB HB0 hb;clear hb;go_wp2;go_ret;exact⟨by rw[j.o];rfl,HB2.o⟩
  .have m:(r.err != (0:Int))=true:=bne_iff_ne.2 z0;exact QAl
structure eF (p:PS):Prop where
 b0:0<=p.bad
 b1:p.bad<=100
 q0:0<=p.place
 q1:p.place<=1000000
section
variable {L:List Tok} (T:Toks L)
theorem WZ{e q:Int}{p:PS}(h:eF p)(h0:0<=e)(h1:e<=100)(h2:0<=q)(h3:q<=1000000):eF (eN e q p):=by
 unfold eN;split
 .exact⟨h0,h1,h2,h3⟩
 .exact h
include T
theorem Wr(p:PS):0<=(aU L p).at_/\(aU L p).at_<=4096:=by
 unfold aU
 rcases h:L[p.at_]? with _|t
 .exact⟨qe,qe⟩
 .exact T.place t (List.mem_of_getElem? h)
theorem BG{e:Int}(r:PS){p:PS}(h:eF p)(h0:0<=e)(h1:e<=100):eF (eN e (aU L r).at_ p):=by
 have:=Wr T r;exact WZ h h0 h1 this.1 qo
theorem pH{p:PS}(h:eF p):eF (dM L p):=BG T p h qe qe
theorem tL(b:Bool){p:PS}(h:eF p):eF (cR L b p):=by
 unfold cR;split
 .exact BG T p h qe qe
 .exact h
omit T in
theorem mX{p:PS}{n:Nat}(h:eF p):eF {p with at_:=n}:=⟨h.b0,h.b1,h.q0,h.q1⟩
omit T in
theorem Ws(s:bY){p:PS}(h:eF p):eF (kL L s p).2:=by
 unfold kL;split
 .exact mX h
 .exact h
theorem pQ(s:bY){p:PS}(h:eF p):eF (eH L s p):=by
 unfold eH;split
 .exact mX h
 .exact pH T h
theorem yY{p:PS}(h:eF p):eF (bT L p).2:=by
 unfold bT;dsimp only;by_cases a:(aU L p).aDe≠1
 .rw[iP a];split
  .exact pH T h
  .exact mX (pH T h)
 .rw[iN a];split
  .exact h
  .exact mX h
theorem pI(words:List ByteArray){p:PS}(h:eF p):eF (aZ L words p).2:=by
 unfold aZ;dsimp only;split
 .exact mX h
 .exact pH T h
theorem Bk{p:PS}(h:eF p):eF (cD L p).2:=by
 unfold cD;dsimp only;exact Ws _ (yY T (pQ T _ (pI T _ h)))
theorem QK{p:PS}(h:eF p):eF (eP L p).2:=by
 unfold eP;dsimp only
 repeat (split;(· exact h))
 exact pH T h
theorem XA{p:PS}(h:eF p):eF (dC L p).2:=by
 rw[zJ];split
 .exact QK T h
 .exact mX (QK T h)
theorem aAI{p:PS}(h:eF p):eF (sJ L p).2:=by
 unfold sJ
 repeat (split;(· exact mX h))
 exact pH T h
theorem XB{p:PS}(h:eF p):eF (eC L p).2:=by
 unfold eC;dsimp only;exact XA T (aAI T (Bk T h))
theorem yZ{α:Type}{one:PS->α×PS}(a:∀{p:PS},eF p->eF (one p).2)(sep:bY):∀(f:Nat) (l:List α) {p:PS},eF p->eF (jR L one sep f l p).2
 |0,l,p,h=>h
 |f+1,l,p,h=>by
  unfold jR;split
  .exact yZ a sep f _ (tL T _ (a (mX h)))
  .exact h
theorem Mh{p:PS}(h:eF p):eF (iY L p).2:=by
 unfold iY;dsimp only;exact yZ T (XB T) _ _ _ (XB T h)
theorem Mi{p:PS}(h:eF p):eF (mC L p).2:=by
 unfold mC;dsimp only;exact pQ T _ (yZ T (Mh T) _ _ _ (Mh T (pQ T _ h)))
theorem ED{p:PS}(h:eF p):eF (bU L p).2:=by
 unfold bU;split
 .dsimp only;exact yZ T (Mi T) _ _ _ (Mi T (mX h))
 .exact h
theorem Wt{p:PS}(h:eF p):eF (tN L p).2:=by
 unfold tN;dsimp only;exact yY T (pI T _ (pI T _ h))
theorem BH{p:PS}(h:eF p):eF (gM L p).2:=yZ T (Wt T) _ _ _ h
theorem Bl:∀(f:Nat) (l:List No) {p:PS},eF p->eF (eV L f l p).2
 |0,l,p,h=>by unfold eV;exact h
 |f+1,l,p,h=>by
  have c:∀{l:List No} {p:PS} (must:Bool),eF p->eF (dE L f (l,p) must).2:=by
   intro l p must h;unfold dE;dsimp only;split
   .exact h
   .have h1:=Bl f l h;split
    .exact BG T _ h1 qe qe
    .exact h1
  have b:∀(ms:List Bool) {l:List No} {p:PS},eF p->eF (ms.foldl (dE L f) (l,p)).2:=by
   intro ms
   induction ms with
   |nil=>intro l p h;exact h
   |cons m ms d=>
    intro l p h;have h1:=c (l:=l) m h;exact d h1
  unfold eV;dsimp only;by_cases a:cL L (str "(") p=true
  .rw[iP a];exact tL T _ (pQ T _ (b (fM (2+(aZ L eB {p with at_:=p.at_+1}).1)) (l:=l) (pI T _ (mX h))))
  .rw[iN a];split
   .exact tL T _ (Bk T h)
   .exact tL T _ (XA T h)
theorem Ft(l:List No)(must:Bool){p:PS}(h:eF p):eF (jA L l must p).2:=by
 unfold jA;dsimp only;have h1:=Bl T L.length l h;split
 .exact BG T _ h1 qe qe
 .exact h1
theorem Wu(deny:Bool){p:PS}(h:eF p):eF (kM L deny p).2:=by
 unfold kM;dsimp only;refine pQ T _ (BH T ?_);have h2:=ED T (yY T h);split
 .exact Ft T _ _ (mX h2)
 .exact h2
theorem NQ:∀(f:Nat) (l:List Ru) {p:PS},eF p->eF (iI L f l p).2
 |0,l,p,h=>by unfold iI;exact h
 |f+1,l,p,h=>by
  unfold iI;split
  .dsimp only;have h1:=tL T (decide (l.length=16)||decide (p.aDg=64)) h;split
   .exact h1
   .exact NQ f _ (Wu T _ ⟨h1.b0,h1.b1,h1.q0,h1.q1⟩)
  .exact h
theorem NR{one:PS->Po×PS}(a:∀{p:PS},eF p->eF (one p).2)(deep:Bool):∀(f:Nat) (l:List Po) {p:PS},eF p->eF (gN L one deep f l p).2
 |0,l,p,h=>by unfold gN;exact h
 |f+1,l,p,h=>by
  unfold gN;split
  .dsimp only;have h1:=tL T (decide (l.length=16)||deep) h;split
   .exact h1
   .exact NR a deep f _ (a h1)
  .exact h
theorem Mj:∀(n:Nat) {p:PS},eF p->eF (cP L n p).2:=by
 intro n
 induction n with
 |zero=>
  intro p h;unfold cP;dsimp only;refine BH T (pQ T _ ?_);have h5:=pQ T qY (ED T (pI T dH (yY T (pI T [str "policy",str "set"] h))));split
  .exact NR T (one:=fun q=>(mB,q)) (fun h=>h) true L.length [] h5
  .exact NQ T L.length [] h5
 |succ n a=>
  intro p h;unfold cP;dsimp only;refine BH T (pQ T _ ?_);have h5:=pQ T qY (ED T (pI T dH (yY T (pI T [str "policy",str "set"] h))));split
  .exact NR T a false L.length [] h5
  .exact NQ T L.length [] h5
end
def Sm(x:List Tok×Int×Int):Prop:=0<=x.2.1/\x.2.1<=100/\0<=x.2.2/\x.2.2<=1000000
theorem Ml{n:Nat}(h:n<=10000):Sm ([],5,(n:Int)):=⟨by show (0:Int)<=5;decide,by show (5:Int)<=100;decide,by show (0:Int)<=(n:Int);omega,by show (n:Int)<=1000000;omega⟩
theorem Zt(l:List Tok):Sm (l,0,0):=⟨by show (0:Int)<=0;decide,by show (0:Int)<=100;decide,by show (0:Int)<=0;decide,by show (0:Int)<=1000000;decide⟩
theorem JK:∀(f:Nat) (l:lU) (n:Nat) (out:List Tok),n+l.length<=4096->Sm (jH f l n out)
 |0,l,n,out,h=>Ml qo
 |f+1,[],n,out,h=>Zt _
 |f+1,c::r,n,out,h=>by
  have a:=(qC (c::r) qo).le;rw[List.length_cons] at h a;unfold jH;dsimp only;split
  .exact JK f r (n+1) out qo
  .split
   .exact Ml qo
   .refine JK f _ _ _ ?_;rw[List.length_drop,List.length_cons];omega
theorem Zu(l:lU):Sm (jL l):=by
 unfold jL;split
 .exact⟨by show (0:Int)<=6;decide,by show (6:Int)<=100;decide,by show (0:Int)<=4096;decide,by show (4096:Int)<=1000000;decide⟩
 .exact JK _ _ _ _ qo
theorem Zv{l:List Tok}(T:Toks l)(S:bY)(b:S.size<=1000000)(X:Po×PS)(a:eF X.2):eF (wP S X.1 (Av l X.2)):=by
 have h2:eF (Av l X.2):=by
  unfold Av;split
  .exact pH T a
  .exact a
 unfold wP;split
 .exact WZ h2 qe qe qo qo
 .exact h2
theorem Zw(P:Po){p:PS}(h:eF p):(0<=(uS P p).2.1/\(uS P p).2.1<=100)/\0<=(uS P p).2.2/\(uS P p).2.2<=1000000:=by
 unfold uS;split
 .exact⟨⟨h.b0,h.b1⟩,h.q0,h.q1⟩
 .exact⟨⟨Int.le_refl _,by show (0:Int)<=100;decide⟩,Int.le_refl _,by show (0:Int)<=1000000;decide⟩
theorem XC(S:bY)(c:S.size<=1000000):(0<=(fE S).2.1/\(fE S).2.1<=100)/\0<=(fE S).2.2/\(fE S).2.2<=1000000:=by
 have h:=Zu S.data.toList;have b:=SS (l:=S.data.toList);obtain⟨x,a⟩:=xE (jL S.data.toList);rw[<-a] at h b;obtain⟨l,e,q⟩:=x;by_cases he:e=0
 .subst he;have T:=(b rfl).1;rw[PO a.symm];exact Zw _ (Zv T S c _ (Mj T 3 ⟨qe,qe,qe,qe⟩))
 .rw[VM a.symm he];exact⟨⟨h.1,h.2.1⟩,h.2.2.1,h.2.2.2⟩
structure NS (r:Rpl):Prop where
 mark:Cm.QP r.mark
 val:cS r.val
 err:bK r.err
 at_:bK r.at_
theorem xQ:cS bD:=⟨by unfold bD bK;simp,by unfold bD bK;simp,Nat.zero_le _⟩
theorem Fu{w:World}{ok:nP}{s:Sto}{vc vr vn vo vt vu vk vb:Value}{N:bY}{c:cF}(h:eZ w ok s vc vr vn vo vt vu vk vb)(a:eS s N=some c)(F:bY):cS (gJ c F):=by
 rcases EV s N with ⟨e,_⟩|⟨k,n,_,e⟩
 .rw[e] at a;cases a
 .rw[e] at a;injection a with a;subst a;have g:=h.aDc;obtain⟨o,p,rfl,_⟩:=g.slice;obtain⟨b,off,r,_,_,_,⟨v,x,_,m⟩,_⟩:=aH.at dI g n qe;have i:=m.2.2.2.1;obtain⟨q,t,rfl,_⟩:=i.slice;unfold gJ
  rcases d:s.aDc[k].aDi.find? (fun f=>decide (f.1=F)) with _|f
  .rw[d];exact xQ
  .rw[d];obtain⟨j,hj,he⟩:=List.getElem_of_mem (List.mem_of_find?_eq_some d);obtain⟨_,_,_,_,_,_,⟨_,l⟩,_⟩:=aH.at bO i hj qe;rw[he] at l;exact l.2
theorem ZG(s:Sto)(o:Op):0<=eG s o/\eG s o<=100:=by
 unfold eG iG iR
 repeat' split
 all_goals exact⟨qe,qe⟩
theorem Mm(g:List Gv)(p:Po):0<=(gH g p).2/\(gH g p).2<=1:=by
 unfold gH qL
 repeat' split
 all_goals first|exact⟨qe,qe⟩|exact⟨Int.le_refl _,by show (0:Int)<=1;decide⟩
theorem qW{n:Int}(h0:0<=n)(h1:n<=1000000):bK n:=by unfold bK;omega
theorem XD:bK 0:=qW (Int.le_refl _) qe
theorem Wv{c:Prop}[Decidable c]{x y:Sto×Rpl×Option Deci×Int}(a:NS x.2.1)(b:NS y.2.1):NS (if c then x else y).2.1:=by
 split
 .exact a
 .exact b
theorem NT{e q:Int}(he:bK e)(a:bK q):NS {qO with err:=e,at_:=q}:=⟨⟨Nat.zero_le _,Nat.zero_le _⟩,xQ,he,a⟩
theorem Rp{w:World}{ok:nP}{s:Sto}{vc vr vn vo vt vu vk vb:Value}(h:eZ w ok s vc vr vn vo vt vu vk vb)(o:Op)(g:o.text.size<=1000000):NS (cV s o).2.1:=by
 have i:=ZG s o;have hp:=XC o.text g;have j:=Mm (pW s o) s.aDd;have h1:bK (oM s o).1/\bK (oM s o).2:=by
  unfold oM;split
  .exact⟨qW hp.1.1 qo,qW hp.2.1 hp.2.2⟩
  .exact⟨qW i.1 qo,XD⟩
 by_cases a:(oM s o).1≠0
 .rw[LR a];exact NT h1.1 h1.2
 .have b:(oM s o).1=0:=by simpa using a
  by_cases d:(gH (pW s o) s.aDd).2≠0
  .rw[LS b d];exact NT (qW j.1 qo) h1.2
  .rw[LU b rfl (by simpa using d) rfl rfl rfl rfl rfl];refine Wv (NT (e:=6) (qW qe qe) h1.2) ?_
   .refine⟨(vJ _ _).1,?_,?_,XD⟩
    .unfold nW;dsimp only;split
     .rcases f:eS s o.aDj with _|c
      .exact xQ
      .exact Fu h f o.aDy
     .exact xQ
    .unfold nW;dsimp only;split
     .exact XD
     .exact qW qe qe
end Go.Proofs.YtbpimcljljlbnaaGreatDoor

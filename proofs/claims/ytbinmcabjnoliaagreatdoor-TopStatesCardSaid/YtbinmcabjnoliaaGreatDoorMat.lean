/- Lemmas. -/
import Derived.Test.YtbinmcabjnoliaaGreatDoorMas
namespace Go.Proofs.YtbinmcabjnoliaaGreatDoor
open Go.RowKit
set_option linter.unusedVariables false
set_option linter.unusedSimpArgs false
set_option maxHeartbeats 16000000
open _root_.Go.Proofs.Tryz
set_option maxRecDepth 20000
theorem QCm{p:Prop}(h:p:=by
 simp only[Program.fieldsOf,underlying55];go_simp;by_cases h1:x0=y0<;>by_cases h2:x1=y1<;>by_cases h3:x2=y2<;>simp[h1,h2,h3,tY]):p:=h
theorem Yc{p:Prop}(h:p:=by
 have hb1:b<w1.heap.size:=lL hbl HB1.o.size;replace B0:=qK B0 hb_;obtain⟨⟨B00,B01,B02⟩,_⟩:=cE B0.o;have zB0:=aD B0.o;clear hb_ HM;go_wp2_with fail;refine(HK.o _ HB1.o).mono ?_;rintro e w2 ⟨rfl,hb_⟩;have HB2:=qB HB1 hb_
 try clear B00 B01 B02 zB0
 replace B0:=qK B0 hb_;obtain⟨⟨B00,B01,B02⟩,_⟩:=cE B0.o;have zB0:=aD B0.o;clear hb_ HK;go_wp2;refine bR (.tuple #[.agg #[.int .i64 0,.int .i64 0,.string ⟨#[]⟩],.int .i64 2]) ?_;unfold eA;rw[HV.o];exact⟨rfl,(((HB2.o).setCell (lR _) _).setCell (lR _) _).setCell (lR _) _⟩):p:=h
theorem QAu{p:Prop}(h:p:=by
 go_wp2_with fail;refine(HE.o _).mono ?_;rintro e w3 ⟨rfl,hb_⟩;have HB3:=aA (aC (HB2.o) hb_);have B3:=aA (aE (show (w2).heap[w.heap.size]? =_ from B0.o) hb_);obtain⟨⟨u0,u1,u2⟩,_⟩:=cE B3.o;have zu:=aD B3.o;clear hb_ HE;go_wp2;refine bR (.tuple #[.agg #[.int .i64 1,.int .i64 n,.string ByteArray.empty],.int .i64 0]) ?_;unfold eA;rw[HV.o];exact⟨rfl,(((HB3.o).setCell (lR _) _).setCell (lR _) _).setCell (lR _) _⟩):p:=h
theorem QAp{p:Prop}(h:p:=by
 have dp:(x.2.1==1)=p:=hp;have dq:(y.2.1==1)=q:=hq;clear h hr e ek HRR gx gy hk HV0 hp hq HT
 cases p<;>cases q
 all_goals
  subst ht;clear hbl;have hbl:b<w.heap.size:=by obtain⟨b',off',e',h',_⟩:=iT HS.o;injection e' with e';injection e' with e';omega
  go_enter func287,ntmps287;go_wp2_with fail;refine HM.o.mono ?_;rintro e w1 ⟨rfl,hb_⟩;have HB1:=qB HB0 hb_;have HS1:=aA (HS.o.on bH HB1.o);obtain⟨x0,x1,x2,y0,y1,y2⟩:=mU HS1.o;have hb1:b<w1.heap.size:=lL hbl HB1.o.size;replace B0:=qK B0 hb_;obtain⟨⟨B00,B01,B02⟩,_⟩:=cE B0.o;have zB0:=aD B0.o;clear hb_ HM;go_wp2_with fail;refine(HK.o _ HB1.o).mono ?_;rintro e w2 ⟨rfl,hb_⟩;have HB2:=qB HB1 hb_;have HS2:=aA (HS.o.on bH HB2.o);clear x0 x1 x2 y0 y1 y2;obtain⟨x0,x1,x2,y0,y1,y2⟩:=mU HS2.o
  try clear B00 B01 B02 zB0
  replace B0:=qK B0 hb_;obtain⟨⟨B00,B01,B02⟩,_⟩:=cE B0.o;have zB0:=aD B0.o;clear hb_ HK;go_wp2_with fail;refine(HE.o _).mono ?_;rintro e w3 ⟨rfl,hb_⟩;have HB3:=aA (aC (HB2.o) hb_);have B3:=aA (aE (show (w2).heap[w.heap.size]? =_ from B0.o) hb_);obtain⟨⟨u0,u1,u2⟩,_⟩:=cE B3.o;have zu:=aD B3.o;clear hb_ HE;go_wp2;refine bR (.tuple #[.agg #[.int .i64 1,.int .i64 n,.string ByteArray.empty],.int .i64 0]) ?_;unfold eA;rw[HV.o];exact⟨rfl,(((HB3.o).setCell (lR _) _).setCell (lR _) _).setCell (lR _) _⟩):p:=h
theorem Yd{p:Prop}(h:p:=by
 obtain⟨⟨r0,r1,r2⟩,en⟩:=r;simp only at HN;clear h hr e HRR gx gy;go_enter func287,ntmps287;go_wp2_with fail;refine HM.o.mono ?_;rintro e w1 ⟨rfl,hb_⟩;have HB1:=qB HB0 hb_;have HS1:=aA (HS.o.on bH HB1.o);obtain⟨x0,x1,x2,y0,y1,y2⟩:=mU HS1.o;have hb1:b<w1.heap.size:=lL hbl HB1.o.size;replace B0:=qK B0 hb_;obtain⟨⟨B00,B01,B02⟩,_⟩:=cE B0.o;have zB0:=aD B0.o;clear hb_ HM;go_wp2_with fail;refine(HN.o _ HB1.o).mono ?_;rintro e w2 ⟨rfl,hb_⟩;have HB2:=qB HB1 hb_;replace B0:=qK B0 hb_;obtain⟨⟨B00,B01,B02⟩,_⟩:=cE B0.o;have zB0:=aD B0.o;clear hb_ HN;go_wp2;refine bR (.tuple #[.agg #[.int .i64 r0,.int .i64 r1,.string r2],.int .i64 en]) ?_;unfold eA;rw[HV.o];exact⟨rfl,(((HB2.o).setCell (lR _) _).setCell (lR _) _).setCell (lR _) _⟩):p:=h
theorem EX(x y:V3)(w:World):Sem.run prog (binOp .eql 55 (.agg #[.int .i64 x.1,.int .i64 x.2.1,.string x.2.2]) (.agg #[.int .i64 y.1,.int .i64 y.2.1,.string y.2.2])) w=.ok (.bool (decide (x=y))) w:=by
 obtain⟨x0,x1,x2⟩:=x;obtain⟨y0,y1,y2⟩:=y;have u3:=underlying3;have a3:=isAgg3;have z3:=sizeOf3;have u9:=underlying9;have a9:=isAgg9;have z9:=sizeOf9;have a:prog.underlying 55=some (.struct (prog.fieldsOf 55)):=by kernel_rfl
 have hp:prog.stoodInHeld 55=false:=by kernel_rfl
 rw[run_eql_struct,show (10000:Nat)=9999+1 from rfl,run_equalIn_agg w 9999 55 _ _ a hp];exact QCm
theorem GA{ok:nP}(op:Int)(v:Value)(l:List V3)(w:World)(h:aH VR w ok v l)(h6:6<=op)(h13:op<=13)(i:l.length=RV op)(j:l.all aT=false):Calls prog 287 #[.int .i64 op,v] w (eA (bD,1) w):=by
 have g:=aA (aB w (.cells fV 55));have b:=aA (aK w (.cells fV 55) _ rfl);have d:=aA (nO op v l _ (h.on bH g.o) h6 h13 i);obtain⟨a,c,rfl,_⟩:=h.slice;unfold aO at d;rw[j] at d;clear h h6 h13 i j;go_enter func287,ntmps287;go_wp2_with fail;refine d.o.mono ?_;rintro e w1 ⟨rfl,f⟩;have k:=qB g f;replace b:=qK b f;obtain⟨⟨m,n,o⟩,_⟩:=cE b.o;have p:=aD b.o;clear f d;go_wp2;refine bR (.tuple #[.agg #[.int .i64 0,.int .i64 0,.string ⟨#[]⟩],.int .i64 1]) ?_;unfold eA;exact⟨rfl,((k.o.setCell (lR _) _).setCell (lR _) _).setCell (lR _) _⟩
theorem Ih{ok:nP}(v:Value)(x y:V3)(w:World)(h:aH VR w ok v [x,y])(l:aT x=true/\aT y=true):Calls prog 287 #[.int .i64 6,v] w (eA (dJ 6 x y) w):=by
 have p:=aA (aB w (.cells fV 55));have g:=aA (aK w (.cells fV 55) _ rfl);have j:=aA (nO 6 v [x,y] _ (h.on bH p.o) qe qe rfl);have B:=aA h;obtain⟨a,c,rfl,_⟩:=h.slice;obtain⟨b,off,rfl,G,E,F,_⟩:=iT h;unfold aO at j;have e:[x,y].all aT=true:=by simp[l.1,l.2]
 rw[e] at j;have o:¬(aT x=false\/aT y=false):=by rw[l.1,l.2];decide
 by_cases k:x.1=y.1
 case neg=>
  have r:Hid (dJ 6 x y=(bD,2)):=aA (by unfold dJ;rw[iN o,iP rfl,iP k]);have d:(x.1 != y.1)=true:=bne_iff_ne.2 k;clear h l e o E F k;go_enter func287,ntmps287;go_wp2_with fail;refine j.o.mono ?_;rintro e w1 ⟨rfl,f⟩;have i:=qB p f;have q:=aA (B.o.on bH i.o);obtain⟨N,O,P,Q,R,S⟩:=mU q.o;have L:b<w1.heap.size:=lL G i.o.size;replace g:=qK g f;obtain⟨⟨H,I,J⟩,_⟩:=cE g.o;have T:=aD g.o;clear f j;go_wp2;go_quiet (fail)
  go_wp2;refine bR (.tuple #[.agg #[.int .i64 0,.int .i64 0,.string ⟨#[]⟩],.int .i64 2]) ?_;unfold eA;rw[r.o];exact⟨rfl,(((fJ i.o ⟨_,rfl⟩).setCell (lR _) _).setCell (lR _) _).setCell (lR _) _⟩
 have M:=EX x y;obtain⟨t,z⟩:∃t:Bool,decide (x=y)=t:=⟨_,rfl⟩;obtain⟨n,s⟩:∃n:Int,(if t=true then (1:Int) else 0)=n:=⟨_,rfl⟩;have m:=aA (fun w'=>rX t w');have D:dD (cI t)=.agg #[.int .i64 1,.int .i64 n,.string ByteArray.empty]:=by unfold dD cI;simp only[s]
 unfold aO at m;rw[D] at m;have C:Hid (cI t=(1,n,ByteArray.empty)):=aA (by unfold cI;rw[s]);clear D s;have r:Hid (dJ 6 x y=((1,n,ByteArray.empty),0)):=aA (by unfold dJ;rw[iN o,iP rfl,iN (fun h=>h k),z,C.o]);have d:(x.1 != y.1)=false:=by rw[k];simp
 rw[z] at M;clear h l e o E F k z C;go_enter func287,ntmps287;go_wp2_with fail;refine j.o.mono ?_;rintro e w1 ⟨rfl,f⟩;have i:=qB p f;have q:=aA (B.o.on bH i.o);obtain⟨N,O,P,Q,R,S⟩:=mU q.o;have L:b<w1.heap.size:=lL G i.o.size;replace g:=qK g f;obtain⟨⟨H,I,J⟩,_⟩:=cE g.o;have T:=aD g.o;clear f j;go_wp2;go_quiet (fail)
 go_wp2;refine qJ 7 (by kernel_rfl) (by kernel_rfl) ?_;simp only[List.take_succ_cons,List.take_zero,List.drop_succ_cons,List.drop_zero]
 repeat still_step
 refine wpStill_nil ?_;go_wp2_with fail;refine(m.o _).mono ?_;rintro e U ⟨rfl,f⟩;have K:=aA (aC ((fJ i.o ⟨nq,rfl⟩).drew) f);have A:=aA (aE (show ((w1.drewN nq).drew).heap[w.heap.size]? =_ from g.o) f);obtain⟨⟨u0,u1,u2⟩,_⟩:=cE A.o;have V:=aD A.o;clear f m;go_wp2;refine bR (.tuple #[.agg #[.int .i64 1,.int .i64 n,.string ByteArray.empty],.int .i64 0]) ?_;unfold eA;rw[r.o];exact⟨rfl,(((K.o).setCell (lR _) _).setCell (lR _) _).setCell (lR _) _⟩
theorem Ii{ok:nP}(v:Value)(x y:V3)(w:World)(h:aH VR w ok v [x,y])(j:aT x=true/\aT y=true):Calls prog 287 #[.int .i64 7,v] w (eA (dJ 7 x y) w):=by
 have A:=aA (aB w (.cells fV 55));have B0:=aA (aK w (.cells fV 55) _ rfl);have l:=aA (nO 7 v [x,y] _ (h.on bH A.o) qe qe rfl);have O:=aA h;obtain⟨a,c,rfl,_⟩:=h.slice;obtain⟨b,off,rfl,Q,F,G,_⟩:=iT h;unfold aO at l;have e:[x,y].all aT=true:=by simp[j.1,j.2]
 rw[e] at l;have B:¬(aT x=false\/aT y=false):=by rw[j.1,j.2];decide
 have k:=aA (fun w'=>CU x y F G w');have f:Hid (dJ 7 x y=if (jT x y).2≠0 then (bD,(jT x y).2) else (cI (jT x y).1,0)):=aA (by unfold dJ;rw[iN B,iN qe,iP rfl]);unfold sX dD at k;generalize jT x y=r at *;obtain⟨t0,i⟩:=r;simp only at k f;obtain⟨t,R⟩:∃t:Bool,t0=t:=⟨_,rfl⟩;obtain⟨n,o⟩:∃n:Int,(if t=true then (1:Int) else 0)=n:=⟨_,rfl⟩;have HE:=aA (fun w'=>rX t w');have E:dD (cI t)=.agg #[.int .i64 1,.int .i64 n,.string ByteArray.empty]:=by unfold dD cI;simp only[o]
 unfold aO at HE;rw[E] at HE;have D:Hid (cI t=(1,n,ByteArray.empty)):=aA (by unfold cI;rw[o]);clear E o;subst R;rw[D.o] at f;clear h j e B F G D;go_enter func287,ntmps287;go_wp2_with fail;refine l.o.mono ?_;rintro e w1 ⟨rfl,hb_⟩;have m:=qB A hb_;have P:=aA (O.o.on bH m.o);obtain⟨H,I,J,K,L,M⟩:=mU P.o;have g:b<w1.heap.size:=lL Q m.o.size;replace B0:=qK B0 hb_;obtain⟨⟨q,s,z⟩,_⟩:=cE B0.o;have N:=aD B0.o;clear hb_ l;go_wp2;have T:∀p:In (BH w1),p.w.cell? ⟨b,off,none⟩=some (.int .i64 x.1):=fun p=>(p.h.cell (p:=⟨b,off,none⟩) g).trans H
 have U:∀p:In (BH w1),p.w.cell? ⟨b,off+1,none⟩=some (.int .i64 x.2.1):=fun p=>(p.h.cell (p:=⟨b,off+1,none⟩) g).trans I
 have V:∀p:In (BH w1),p.w.cell? ⟨b,off+2,none⟩=some (.string x.2.2):=fun p=>(p.h.cell (p:=⟨b,off+2,none⟩) g).trans J
 have W:∀p:In (BH w1),p.w.cell? ⟨b,off+3,none⟩=some (.int .i64 y.1):=fun p=>(p.h.cell (p:=⟨b,off+3,none⟩) g).trans K
 have X:∀p:In (BH w1),p.w.cell? ⟨b,off+3+1,none⟩=some (.int .i64 y.2.1):=fun p=>(p.h.cell (p:=⟨b,off+3+1,none⟩) g).trans L
 have Y:∀p:In (BH w1),p.w.cell? ⟨b,off+3+2,none⟩=some (.string y.2.2):=fun p=>(p.h.cell (p:=⟨b,off+3+2,none⟩) g).trans M
 clear H I J K L M;refine CA (C:=BH w1) (by kernel_rfl) (by kernel_rfl) (SI w1) ?_
 repeat (go_big_quiet_step (exact in_call fun _ S=>(k.o _).mono fun e Z h=>⟨h.1,aC S h.2⟩))
 refine wpQuiet_nil ?_;intro w2 hb_;have HB2:=qB m hb_;clear T U V W X Y
 try clear q s z N
 replace B0:=qK B0 hb_;obtain⟨⟨q,s,z⟩,_⟩:=cE B0.o;have N:=aD B0.o;clear hb_ k;by_cases he:i=0
 .have d:(i != 0)=false:=by rw[he];rfl
  have HV:Hid (dJ 7 x y=((1,n,ByteArray.empty),0)):=aA (by have:=f.o;rwa [iN (fun h=>h he)] at this);clear he f;exact QAu
 .have d:(i != 0)=true:=bne_iff_ne.2 he;have HV:Hid (dJ 7 x y=(bD,i)):=aA (by have:=f.o;rwa [iP he] at this);clear he f HE;go_wp2;refine bR (.tuple #[.agg #[.int .i64 0,.int .i64 0,.string ⟨#[]⟩],.int .i64 i]) ?_;unfold eA;rw[HV.o];exact⟨rfl,(((HB2.o).setCell (lR _) _).setCell (lR _) _).setCell (lR _) _⟩
theorem Ij{ok:nP}(v:Value)(x y:V3)(w:World)(h:aH VR w ok v [x,y])(hr:aT x=true/\aT y=true):Calls prog 287 #[.int .i64 8,v] w (eA (dJ 8 x y) w):=by
 have HB0:=aA (aB w (.cells fV 55));have B0:=aA (aK w (.cells fV 55) _ rfl);have HM:=aA (nO 8 v [x,y] _ (h.on bH HB0.o) qe qe rfl);have HS:=aA h;obtain⟨a,c,rfl,_⟩:=h.slice;obtain⟨b,off,rfl,hbl,gx,gy,_⟩:=iT h;unfold aO at HM;have e:[x,y].all aT=true:=by simp[hr.1,hr.2]
 rw[e] at HM;have HRR:¬(aT x=false\/aT y=false):=by rw[hr.1,hr.2];decide
 have HN:=aA (fun w' (h:Below w.heap.size w w')=>Cw _ x y w' (HS.o.on bH h));have HV:Hid (dJ 8 x y=eE sQ x y):=aA (by unfold dJ;rw[iN HRR,iN qe,iN qe,iP rfl]);unfold eA dD at HN;generalize eE sQ x y=r at *;exact Yd
theorem Ik{ok:nP}(v:Value)(x y:V3)(w:World)(h:aH VR w ok v [x,y])(hr:aT x=true/\aT y=true):Calls prog 287 #[.int .i64 9,v] w (eA (dJ 9 x y) w):=by
 have HB0:=aA (aB w (.cells fV 55));have B0:=aA (aK w (.cells fV 55) _ rfl);have HM:=aA (nO 9 v [x,y] _ (h.on bH HB0.o) qe qe rfl);have HS:=aA h;obtain⟨a,c,rfl,_⟩:=h.slice;obtain⟨b,off,rfl,hbl,gx,gy,_⟩:=iT h;unfold aO at HM;have e:[x,y].all aT=true:=by simp[hr.1,hr.2]
 rw[e] at HM;have HRR:¬(aT x=false\/aT y=false):=by rw[hr.1,hr.2];decide
 have HN:=aA (fun w' (h:Below w.heap.size w w')=>Cx _ x y w' (HS.o.on bH h));have HV:Hid (dJ 9 x y=eE sR x y):=aA (by unfold dJ;rw[iN HRR,iN qe,iN qe,iN qe,iP rfl]);unfold eA dD at HN;generalize eE sR x y=r at *;exact Yd
theorem Cz{ok:nP}(v:Value)(x y:V3)(w:World)(h:aH VR w ok v [x,y])(hr:aT x=true/\aT y=true):Calls prog 287 #[.int .i64 10,v] w (eA (dJ 10 x y) w):=by
 have HB0:=aA (aB w (.cells fV 55));have B0:=aA (aK w (.cells fV 55) _ rfl);have HM:=aA (nO 10 v [x,y] _ (h.on bH HB0.o) qe qe rfl);have HS:=aA h;obtain⟨a,c,rfl,_⟩:=h.slice;obtain⟨b,off,rfl,hbl,gx,gy,_⟩:=iT h;unfold aO at HM;have e:[x,y].all aT=true:=by simp[hr.1,hr.2]
 rw[e] at HM;have HRR:¬(aT x=false\/aT y=false):=by rw[hr.1,hr.2];decide
 have HN:=aA (fun w' (h:Below w.heap.size w w')=>Cy _ x y w' (HS.o.on bH h));have HV:Hid (dJ 10 x y=eE mD x y):=aA (by unfold dJ;rw[iN HRR,iN qe,iN qe,iN qe,iN qe,iP rfl]);unfold eA dD at HN;generalize eE mD x y=r at *;exact Yd
theorem Da{ok:nP}(v:Value)(x y:V3)(w:World)(h:aH VR w ok v [x,y])(hr:aT x=true/\aT y=true):Calls prog 287 #[.int .i64 12,v] w (eA (dJ 12 x y) w):=by
 have HB0:=aA (aB w (.cells fV 55));have B0:=aA (aK w (.cells fV 55) _ rfl);have HM:=aA (nO 12 v [x,y] _ (h.on bH HB0.o) qe qe rfl);have HS:=aA h;obtain⟨a,c,rfl,_⟩:=h.slice;obtain⟨b,off,rfl,hbl,gx,gy,_⟩:=iT h;unfold aO at HM;have e:[x,y].all aT=true:=by simp[hr.1,hr.2]
 rw[e] at HM;have HRR:¬(aT x=false\/aT y=false):=by rw[hr.1,hr.2];decide
 have HK:=aA (fun w' (h:Below w.heap.size w w')=>tA 1 _ [x,y] w' (HS.o.on bH h));unfold aO at HK;have HV0:Hid (dJ 12 x y=if x.1≠1\/y.1≠1 then (bD,2) else (cI (decide (x.2.1=1)&&decide (y.2.1=1)),0)):=aA (by unfold dJ;rw[iN HRR,iN qe,iN qe,iN qe,iN qe,iN qe];rfl);by_cases hk:x.1=1/\y.1=1
 case neg=>
  have ek:[x,y].all (fun z=>decide (z.1=1))=false:=by
   rw[Bool.eq_false_iff];intro h;simp at h;exact hk h
  have HV:Hid (dJ 12 x y=(bD,2)):=aA (by have:=HV0.o;rwa [iP (by by_cases h1:x.1=1;exact .inr (fun h2=>hk ⟨h1,h2⟩);exact .inl h1)] at this);rw[ek] at HK;clear h hr e ek HRR gx gy hk HV0;go_enter func287,ntmps287;go_wp2_with fail;refine HM.o.mono ?_;rintro e w1 ⟨rfl,hb_⟩;have HB1:=qB HB0 hb_;have HS1:=aA (HS.o.on bH HB1.o);obtain⟨x0,x1,x2,y0,y1,y2⟩:=mU HS1.o;exact Yc
 have ek:[x,y].all (fun z=>decide (z.1=1))=true:=by simp[hk.1,hk.2]
 rw[ek] at HK;obtain⟨p,hp⟩:∃p,decide (x.2.1=1)=p:=⟨_,rfl⟩;obtain⟨q,hq⟩:∃q,decide (y.2.1=1)=q:=⟨_,rfl⟩;obtain⟨t,ht⟩:∃t:Bool,(p&&q)=t:=⟨_,rfl⟩;obtain⟨n,d⟩:∃n:Int,(if t=true then (1:Int) else 0)=n:=⟨_,rfl⟩;have HE:=aA (fun w'=>rX t w');have f:dD (cI t)=.agg #[.int .i64 1,.int .i64 n,.string ByteArray.empty]:=by unfold dD cI;simp only[d]
 unfold aO at HE;rw[f] at HE;have HT:Hid (cI t=(1,n,ByteArray.empty)):=aA (by unfold cI;rw[d]);clear f d;have HV:Hid (dJ 12 x y=((1,n,ByteArray.empty),0)):=aA (by have:=HV0.o;rwa [iN (fun h=>h.elim (fun h=>h hk.1) (fun h=>h hk.2)),hp,hq,ht,HT.o] at this);exact QAp
theorem Db{ok:nP}(v:Value)(x y:V3)(w:World)(h:aH VR w ok v [x,y])(hr:aT x=true/\aT y=true):Calls prog 287 #[.int .i64 13,v] w (eA (dJ 13 x y) w):=by
 have HB0:=aA (aB w (.cells fV 55));have B0:=aA (aK w (.cells fV 55) _ rfl);have HM:=aA (nO 13 v [x,y] _ (h.on bH HB0.o) qe qe rfl);have HS:=aA h;obtain⟨a,c,rfl,_⟩:=h.slice;obtain⟨b,off,rfl,hbl,gx,gy,_⟩:=iT h;unfold aO at HM;have e:[x,y].all aT=true:=by simp[hr.1,hr.2]
 rw[e] at HM;have HRR:¬(aT x=false\/aT y=false):=by rw[hr.1,hr.2];decide
 have HK:=aA (fun w' (h:Below w.heap.size w w')=>tA 1 _ [x,y] w' (HS.o.on bH h));unfold aO at HK;have HV0:Hid (dJ 13 x y=if x.1≠1\/y.1≠1 then (bD,2) else (cI (decide (x.2.1=1)||decide (y.2.1=1)),0)):=aA (by unfold dJ;rw[iN HRR,iN qe,iN qe,iN qe,iN qe,iN qe];rfl);by_cases hk:x.1=1/\y.1=1
 case neg=>
  have ek:[x,y].all (fun z=>decide (z.1=1))=false:=by
   rw[Bool.eq_false_iff];intro h;simp at h;exact hk h
  have HV:Hid (dJ 13 x y=(bD,2)):=aA (by have:=HV0.o;rwa [iP (by by_cases h1:x.1=1;exact .inr (fun h2=>hk ⟨h1,h2⟩);exact .inl h1)] at this);rw[ek] at HK;clear h hr e ek HRR gx gy hk HV0;go_enter func287,ntmps287;go_wp2_with fail;refine HM.o.mono ?_;rintro e w1 ⟨rfl,hb_⟩;have HB1:=qB HB0 hb_;have HS1:=aA (HS.o.on bH HB1.o);obtain⟨x0,x1,x2,y0,y1,y2⟩:=mU HS1.o;exact Yc
 have ek:[x,y].all (fun z=>decide (z.1=1))=true:=by simp[hk.1,hk.2]
 rw[ek] at HK;obtain⟨p,hp⟩:∃p,decide (x.2.1=1)=p:=⟨_,rfl⟩;obtain⟨q,hq⟩:∃q,decide (y.2.1=1)=q:=⟨_,rfl⟩;obtain⟨t,ht⟩:∃t:Bool,(p||q)=t:=⟨_,rfl⟩;obtain⟨n,d⟩:∃n:Int,(if t=true then (1:Int) else 0)=n:=⟨_,rfl⟩;have HE:=aA (fun w'=>rX t w');have f:dD (cI t)=.agg #[.int .i64 1,.int .i64 n,.string ByteArray.empty]:=by unfold dD cI;simp only[d]
 unfold aO at HE;rw[f] at HE;have HT:Hid (cI t=(1,n,ByteArray.empty)):=aA (by unfold cI;rw[d]);clear f d;have HV:Hid (dJ 13 x y=((1,n,ByteArray.empty),0)):=aA (by have:=HV0.o;rwa [iN (fun h=>h.elim (fun h=>h hk.1) (fun h=>h hk.2)),hp,hq,ht,HT.o] at this);exact QAp
theorem Dc{ok:nP}(v:Value)(x:V3)(w:World)(h:aH VR w ok v [x])(i:aT x=true):Calls prog 287 #[.int .i64 11,v] w (eA (nS 11 x) w):=by
 have j:=aA (aB w (.cells fV 55));have B0:=aA (aK w (.cells fV 55) _ rfl);have HM:=aA (nO 11 v [x] _ (h.on bH j.o) qe qe rfl);have f:=aA h;obtain⟨a,c,rfl,_⟩:=h.slice;obtain⟨b,off,rfl,hbl,A,_⟩:=KM h;unfold aO at HM;have e:[x].all aT=true:=by simp[i]
 rw[e] at HM;have g:Hid (nS 11 x=if x.1≠1 then (bD,2) else (cI (decide (x.2.1=0)),0)):=aA (iN (by rw[i];decide));have HK:=aA (fun w' (h:Below w.heap.size w w')=>tA 1 _ [x] w' (f.o.on bH h));unfold aO at HK;have l:[x].all (fun z=>decide (z.1=1))=decide (x.1=1):=by simp
 rw[l] at HK;by_cases d:x.1=1
 case neg=>
  have HV:Hid (nS 11 x=(bD,2)):=aA (by have:=g.o;rwa [iP d] at this);rw[dF d] at HK;clear h i e l A d g;go_enter func287,ntmps287;go_wp2_with fail;refine HM.o.mono ?_;rintro e w1 ⟨rfl,hb_⟩;have HB1:=qB j hb_;have k:=aA (f.o.on bH HB1.o);obtain⟨p,q,r⟩:=EW k.o;exact Yc
 rw[dX d] at HK;obtain⟨t,o⟩:∃t:Bool,decide (x.2.1=0)=t:=⟨_,rfl⟩;obtain⟨n,m⟩:∃n:Int,(if t=true then (1:Int) else 0)=n:=⟨_,rfl⟩;have HE:=aA (fun w'=>rX t w');have y:dD (cI t)=.agg #[.int .i64 1,.int .i64 n,.string ByteArray.empty]:=by unfold dD cI;simp only[m]
 unfold aO at HE;rw[y] at HE;have s:Hid (cI t=(1,n,ByteArray.empty)):=aA (by unfold cI;rw[m]);clear y m;have HV:Hid (nS 11 x=((1,n,ByteArray.empty),0)):=aA (by have:=g.o;rwa [iN (fun h=>h d),o,s.o] at this);have C:(x.2.1==0)=t:=o;clear h i e l A d g o s;go_enter func287,ntmps287;go_wp2_with fail;refine HM.o.mono ?_;rintro e w1 ⟨rfl,hb_⟩;have HB1:=qB j hb_;have k:=aA (f.o.on bH HB1.o);obtain⟨p,q,r⟩:=EW k.o;have hb1:b<w1.heap.size:=lL hbl HB1.o.size;replace B0:=qK B0 hb_;obtain⟨⟨B00,B01,B02⟩,_⟩:=cE B0.o;have zB0:=aD B0.o;clear hb_ HM;go_wp2_with fail;refine(HK.o _ HB1.o).mono ?_;rintro e w2 ⟨rfl,hb_⟩;have HB2:=qB HB1 hb_;have B:=aA (f.o.on bH HB2.o);clear p q r;obtain⟨p,q,r⟩:=EW B.o
 try clear B00 B01 B02 zB0
 replace B0:=qK B0 hb_;obtain⟨⟨B00,B01,B02⟩,_⟩:=cE B0.o;have zB0:=aD B0.o;clear hb_ HK;exact QAu
theorem Ye{p:Prop}(h:p:=by
 go_wp2;go_returns;exact⟨by rw[HE.o];rfl,aC (aB _ _) (aB _ _)⟩):p:=h
theorem yR(x y:V3)(w:World):Sem.run prog (binOp .neq 55 (.agg #[.int .i64 x.1,.int .i64 x.2.1,.string x.2.2]) (.agg #[.int .i64 y.1,.int .i64 y.2.1,.string y.2.2])) w=.ok (.bool (!decide (x=y))) w:=by
 obtain⟨x0,x1,x2⟩:=x;obtain⟨y0,y1,y2⟩:=y;have u3:=underlying3;have a3:=isAgg3;have z3:=sizeOf3;have u9:=underlying9;have a9:=isAgg9;have z9:=sizeOf9;have a:prog.underlying 55=some (.struct (prog.fieldsOf 55)):=by kernel_rfl
 have hp:prog.stoodInHeld 55=false:=by kernel_rfl
 rw[run_neq_struct,show (10000:Nat)=9999+1 from rfl,run_equalIn_agg w 9999 55 _ _ a hp];exact QCm
theorem pA(x y:Op)(w:World):Sem.run prog (binOp .eql 71 (fF x) (fF y)) w=.ok (.bool (decide (x=y))) w:=by
 obtain⟨n,o,r,s,t,⟨d,e,f⟩,v,z,p,q⟩:=x;obtain⟨A,B,E,F,G,⟨g,i,j⟩,H,I,C,D⟩:=y;unfold fF cB;have u3:=underlying3;have a3:=isAgg3;have z3:=sizeOf3;have u9:=underlying9;have a9:=isAgg9;have z9:=sizeOf9;have u4:=underlying4;have a4:=isAgg4;have z4:=sizeOf4;have J:=isAgg55;have L:=sizeOf55;have k:prog.underlying 71=some (.struct (prog.fieldsOf 71)):=by kernel_rfl
 have hp:prog.stoodInHeld 71=false:=by kernel_rfl
 have l:prog.underlying 55=some (.struct (prog.fieldsOf 55)):=by kernel_rfl
 have m:prog.stoodInHeld 55=false:=by kernel_rfl
 have K:∀w,Sem.run prog (Op.equalIn 9999 55 (.agg #[.int .i64 d,.int .i64 e,.string f]) (.agg #[.int .i64 g,.int .i64 i,.string j])) w=.ok (decide (d=g/\e=i/\f=j)) w:=fun w=>by
  rw[show (9999:Nat)=9998+1 from rfl,run_equalIn_agg w 9998 55 _ _ l m];simp only[Program.fieldsOf,underlying55];go_simp;by_cases h1:d=g<;>by_cases h2:e=i<;>by_cases h3:f=j<;>simp[h1,h2,h3,tY]
 rw[run_eql_struct,show (10000:Nat)=9999+1 from rfl,run_equalIn_agg w 9999 71 _ _ k hp];simp only[Program.fieldsOf,underlying71];go_simp;simp only[tY];by_cases h0:n=A
 case neg=>simp[h0]
 rw[iP h0];by_cases h1:o=B
 case neg=>simp[h1]
 rw[iP h1];by_cases h2:r=E
 case neg=>simp[h2]
 rw[iP h2];by_cases h3:s=F
 case neg=>simp[h3]
 rw[iP h3];by_cases h4:t=G
 case neg=>simp[h4]
 rw[iP h4];by_cases h5:d=g/\e=i/\f=j
 case neg=>
  rw[iP (fun a b c=>h5 ⟨a,b,c⟩)];have h6:(decide (d=g)&&(decide (e=i)&&decide (f=j)))=false:=by rw[Bool.eq_false_iff];simpa using h5
  simp[h6]
 obtain⟨h5,h6,h7⟩:=h5;rw[iN (fun h=>h h5 h6 h7)];by_cases h8:v=H
 case neg=>simp[h8]
 rw[iP h8];by_cases h9:z=I
 case neg=>simp[h9]
 rw[iP h9];by_cases h10:p=C
 case neg=>simp[h10]
 rw[iP h10];by_cases h11:q=D
 case neg=>simp[h11]
 rw[iP h11];simp[h0,h1,h2,h3,h4,h5,h6,h7,h8,h9,h10,h11]
theorem Ov(o:Op)(w:World):Calls prog 121 #[fF o] w (aO (fF (RR o)) w):=by
 obtain⟨k,su,a,b,d,⟨v1,v2,v3⟩,c,e,g,f⟩:=o;unfold aO fF cB RR;dsimp only;go_enter func121,ntmps121;go_wp2;refine bR (.agg #[.int .i64 k,.string ⟨#[]⟩,.string a,.string b,.string d,.int .i64 v1,.int .i64 v2,.string v3,.int .i64 c,.string e,.string ⟨#[]⟩,.bool false]) ?_;refine⟨rfl,?_⟩
 repeat (refine Below.setCell ?_ (by first|exact lR _|exact Nat.le_succ _) _)
 exact aC (aB _ _) (aB _ _)
theorem yS{p:Prop}(h:p:=by
 rw[HT.o];first|(rw[HG0.o];rfl)|(rw[HG0.o,Bool.and_false];rfl)):p:=h
theorem pQ{p:Prop}(h:p:=by
 repeat (first|refine Below.setCell ?_ (show w.heap.size<=w1.heap.size+1 by have:=HSZ.o;omega) _|refine Below.drew ?_)
 exact aC (aC HB1.o (aB _ _)) (aB _ _)):p:=h
theorem Il(o:Op)(w:World):Calls prog 72 #[fF o] w (aO (.bool (fW o)) w):=by
 obtain⟨k,su,a,b,d,⟨v1,v2,v3⟩,c,f,F,D⟩:=o;have P:=aA (fun W=>Ov (⟨k,su,a,b,d,(v1,v2,v3),c,f,F,D⟩:Op) W);unfold aO fF cB RR at P;unfold fF cB;dsimp only at P ⊢;unfold aO;obtain⟨W0,Z⟩:=xE (w.alloc (.cells #[.int .i64 k,.string su,.string a,.string b,.string d,.int .i64 v1,.int .i64 v2,.string v3,.int .i64 c,.string f,.string F,.bool D] 71));have ae:Hid (Below w.heap.size w W0):=aA (by rw[Z];exact aB _ _);have A:Hid (W0.heap[w.heap.size]? =some (.cells #[.int .i64 k,.string su,.string a,.string b,.string d,.int .i64 v1,.int .i64 v2,.string v3,.int .i64 c,.string f,.string F,.bool D] 71 (0,0))):=aA (by rw[Z];exact aK _ _ _ rfl);have i:=aA Z;have HI:=aA (P.o W0);clear Z P;go_enter func72,ntmps72;go_wp2_with fail;rw[<-i.o];refine HI.o.mono ?_;rintro e w1 ⟨rfl,ad⟩;have HB1:=qB ae ad;replace A:=qK A ad;obtain⟨⟨l,m,q,r,s,t,v,x,y,z,n,p⟩,_⟩:=bO A.o;have zA:=aD A.o;clear ad HI;have HSZ:=aA HB1.o.size;by_cases Q:k=1
 .subst Q;have j:fW ⟨1,su,a,b,d,(v1,v2,v3),c,f,F,D⟩=(decide (a.size≠0)&&decide ((⟨1,ByteArray.empty,a,b,d,(v1,v2,v3),c,f,ByteArray.empty,false⟩:Op)=(⟨1,⟨#[]⟩,a,⟨#[]⟩,⟨#[]⟩,(0,0,⟨#[]⟩),0,⟨#[]⟩,⟨#[]⟩,false⟩:Op))):=by
   unfold fW;dsimp only;rw[iP rfl];rfl
  have heq:=pA (⟨1,ByteArray.empty,a,b,d,(v1,v2,v3),c,f,ByteArray.empty,false⟩:Op) (⟨1,⟨#[]⟩,a,⟨#[]⟩,⟨#[]⟩,(0,0,⟨#[]⟩),0,⟨#[]⟩,⟨#[]⟩,false⟩:Op);unfold fF cB at heq;dsimp only at heq;generalize decide ((⟨1,ByteArray.empty,a,b,d,(v1,v2,v3),c,f,ByteArray.empty,false⟩:Op)=(⟨1,⟨#[]⟩,a,⟨#[]⟩,⟨#[]⟩,(0,0,⟨#[]⟩),0,⟨#[]⟩,⟨#[]⟩,false⟩:Op))=E at *;have HT:=aA j;clear j;by_cases g:a.size=0
  .obtain⟨H,I⟩:=fO a [] (mS g);have HG0:Hid (decide (a.size≠0)=false):=aA (dF (fun h=>h g));clear g;go_wp2
   all_goals
    clear A l m q r s t v x y z n p i;go_returns;refine⟨bI ?_,?_⟩
    .exact yS
    .exact pQ
  .obtain⟨H,I⟩:=fH a [] (kV g);have G:Hid (decide (a.size≠0)=true):=aA (dX g);clear g;go_wp2
   all_goals
    clear A l m q r s t v x y z n p i;go_returns;refine⟨bI ?_,?_⟩
    .rw[HT.o];simp only[G.o,Bool.true_and]
    .exact pQ
 have an:(k==1)=false:=bN.2 Q;by_cases R:k=2
 .subst R;have j:fW ⟨2,su,a,b,d,(v1,v2,v3),c,f,F,D⟩=((decide (a.size≠0)&&decide (b.size≠0))&&decide ((⟨2,ByteArray.empty,a,b,d,(v1,v2,v3),c,f,ByteArray.empty,false⟩:Op)=(⟨2,⟨#[]⟩,a,b,⟨#[]⟩,(0,0,⟨#[]⟩),0,⟨#[]⟩,⟨#[]⟩,false⟩:Op))):=by
   unfold fW;dsimp only;rw[iN qe,iP (.inl rfl)];rfl
  have heq:=pA (⟨2,ByteArray.empty,a,b,d,(v1,v2,v3),c,f,ByteArray.empty,false⟩:Op) (⟨2,⟨#[]⟩,a,b,⟨#[]⟩,(0,0,⟨#[]⟩),0,⟨#[]⟩,⟨#[]⟩,false⟩:Op);unfold fF cB at heq;dsimp only at heq;generalize decide ((⟨2,ByteArray.empty,a,b,d,(v1,v2,v3),c,f,ByteArray.empty,false⟩:Op)=(⟨2,⟨#[]⟩,a,b,⟨#[]⟩,(0,0,⟨#[]⟩),0,⟨#[]⟩,⟨#[]⟩,false⟩:Op))=E at *;have HT:=aA j;clear j;by_cases g:a.size=0
  .obtain⟨H,I⟩:=fO a [] (mS g);have HG0:Hid (decide (a.size≠0)=false):=aA (dF (fun h=>h g));clear g;go_wp2;go_region
   all_goals go_wp2
   all_goals
    clear A l m q r s t v x y z n p i;go_returns;refine⟨bI ?_,?_⟩
    .exact yS
    .exact pQ
  .obtain⟨H,I⟩:=fH a [] (kV g);have G:Hid (decide (a.size≠0)=true):=aA (dX g);clear g;by_cases B:b.size=0
   .obtain⟨N,O⟩:=fO b [] (mS B);have HG0:Hid (decide (b.size≠0)=false):=aA (dF (fun h=>h B));clear B;go_wp2;go_region
    all_goals go_wp2
    all_goals
     clear A l m q r s t v x y z n p i;go_returns;refine⟨bI ?_,?_⟩
     .exact yS
     .exact pQ
   .obtain⟨N,O⟩:=fH b [] (kV B);have M:Hid (decide (b.size≠0)=true):=aA (dX B);clear B;go_wp2;go_region
    all_goals go_wp2
    all_goals
     clear A l m q r s t v x y z n p i;go_returns;refine⟨bI ?_,?_⟩
     .rw[HT.o];simp only[G.o,M.o,Bool.true_and]
     .exact pQ
 have ao:(k==2)=false:=bN.2 R;by_cases V:k=6
 .subst V;have j:fW ⟨6,su,a,b,d,(v1,v2,v3),c,f,F,D⟩=((decide (a.size≠0)&&decide (b.size≠0))&&decide ((⟨6,ByteArray.empty,a,b,d,(v1,v2,v3),c,f,ByteArray.empty,false⟩:Op)=(⟨6,⟨#[]⟩,a,b,⟨#[]⟩,(0,0,⟨#[]⟩),0,⟨#[]⟩,⟨#[]⟩,false⟩:Op))):=by
   unfold fW;dsimp only;rw[iN qe,iP (.inr rfl)];rfl
  have heq:=pA (⟨6,ByteArray.empty,a,b,d,(v1,v2,v3),c,f,ByteArray.empty,false⟩:Op) (⟨6,⟨#[]⟩,a,b,⟨#[]⟩,(0,0,⟨#[]⟩),0,⟨#[]⟩,⟨#[]⟩,false⟩:Op);unfold fF cB at heq;dsimp only at heq;generalize decide ((⟨6,ByteArray.empty,a,b,d,(v1,v2,v3),c,f,ByteArray.empty,false⟩:Op)=(⟨6,⟨#[]⟩,a,b,⟨#[]⟩,(0,0,⟨#[]⟩),0,⟨#[]⟩,⟨#[]⟩,false⟩:Op))=E at *;have HT:=aA j;clear j;by_cases g:a.size=0
  .obtain⟨H,I⟩:=fO a [] (mS g);have HG0:Hid (decide (a.size≠0)=false):=aA (dF (fun h=>h g));clear g;go_wp2;go_region
   all_goals go_wp2
   all_goals
    clear A l m q r s t v x y z n p i;go_returns;refine⟨bI ?_,?_⟩
    .exact yS
    .exact pQ
  .obtain⟨H,I⟩:=fH a [] (kV g);have G:Hid (decide (a.size≠0)=true):=aA (dX g);clear g;by_cases B:b.size=0
   .obtain⟨N,O⟩:=fO b [] (mS B);have HG0:Hid (decide (b.size≠0)=false):=aA (dF (fun h=>h B));clear B;go_wp2;go_region
    all_goals go_wp2
    all_goals
     clear A l m q r s t v x y z n p i;go_returns;refine⟨bI ?_,?_⟩
     .exact yS
     .exact pQ
   .obtain⟨N,O⟩:=fH b [] (kV B);have M:Hid (decide (b.size≠0)=true):=aA (dX B);clear B;go_wp2;go_region
    all_goals go_wp2
    all_goals
     clear A l m q r s t v x y z n p i;go_returns;refine⟨bI ?_,?_⟩
     .rw[HT.o];simp only[G.o,M.o,Bool.true_and]
     .exact pQ
 have av:(k==6)=false:=bN.2 V;by_cases S:k=3
 .subst S;have j:fW ⟨3,su,a,b,d,(v1,v2,v3),c,f,F,D⟩=(((decide (a.size≠0)&&decide (b.size≠0))&&decide (((v1,v2,v3):V3)≠bD))&&decide ((⟨3,ByteArray.empty,a,b,d,(v1,v2,v3),c,f,ByteArray.empty,false⟩:Op)=(⟨3,⟨#[]⟩,a,b,⟨#[]⟩,(v1,v2,v3),0,⟨#[]⟩,⟨#[]⟩,false⟩:Op))):=by
   unfold fW;dsimp only;rw[iN qe,iN qe,iP rfl];rfl
  have heq:=pA (⟨3,ByteArray.empty,a,b,d,(v1,v2,v3),c,f,ByteArray.empty,false⟩:Op) (⟨3,⟨#[]⟩,a,b,⟨#[]⟩,(v1,v2,v3),0,⟨#[]⟩,⟨#[]⟩,false⟩:Op);unfold fF cB at heq;dsimp only at heq;generalize decide ((⟨3,ByteArray.empty,a,b,d,(v1,v2,v3),c,f,ByteArray.empty,false⟩:Op)=(⟨3,⟨#[]⟩,a,b,⟨#[]⟩,(v1,v2,v3),0,⟨#[]⟩,⟨#[]⟩,false⟩:Op))=E at *;have HT:=aA j;clear j;by_cases g:a.size=0
  .obtain⟨H,I⟩:=fO a [] (mS g);have HG0:Hid (decide (a.size≠0)=false):=aA (dF (fun h=>h g));clear g;go_wp2;go_region
   all_goals go_wp2
   all_goals
    clear A l m q r s t v x y z n p i;go_returns;refine⟨bI ?_,?_⟩
    .exact yS
    .exact pQ
  .obtain⟨H,I⟩:=fH a [] (kV g);have G:Hid (decide (a.size≠0)=true):=aA (dX g);clear g;by_cases B:b.size=0
   .obtain⟨N,O⟩:=fO b [] (mS B);have HG0:Hid (decide (b.size≠0)=false):=aA (dF (fun h=>h B));clear B;go_wp2;go_region
    all_goals go_wp2
    all_goals
     clear A l m q r s t v x y z n p i;go_returns;refine⟨bI ?_,?_⟩
     .exact yS
     .exact pQ
   .obtain⟨N,O⟩:=fH b [] (kV B);have M:Hid (decide (b.size≠0)=true):=aA (dX B);clear B;by_cases L:((v1,v2,v3):V3)=bD
    .have aj:∀w,Sem.run prog (binOp .neq 55 (.agg #[.int .i64 v1,.int .i64 v2,.string v3]) (.agg #[.int .i64 0,.int .i64 0,.string ⟨#[]⟩])) w=.ok (.bool false) w:=fun w=>(yR (v1,v2,v3) bD w).trans (by rw[dX L];rfl)
     have HG0:Hid (decide (((v1,v2,v3):V3)≠bD)=false):=aA (dF (fun h=>h L));clear L;go_wp2;go_region
     all_goals go_wp2
     all_goals
      clear A l m q r s t v x y z n p i;go_returns;refine⟨bI ?_,?_⟩
      .exact yS
      .exact pQ
    .have aj:∀w,Sem.run prog (binOp .neq 55 (.agg #[.int .i64 v1,.int .i64 v2,.string v3]) (.agg #[.int .i64 0,.int .i64 0,.string ⟨#[]⟩])) w=.ok (.bool true) w:=fun w=>(yR (v1,v2,v3) bD w).trans (by rw[dF L];rfl)
     have ah:Hid (decide (((v1,v2,v3):V3)≠bD)=true):=aA (dX L);clear L;go_wp2;go_region
     all_goals go_wp2
     all_goals
      clear A l m q r s t v x y z n p i;go_returns;refine⟨bI ?_,?_⟩
      .rw[HT.o];simp only[G.o,M.o,ah.o,Bool.true_and]
      .exact pQ
 have aq:(k==3)=false:=bN.2 S;by_cases T:k=4
 .subst T;have j:fW ⟨4,su,a,b,d,(v1,v2,v3),c,f,F,D⟩=((decide (a.size≠0)&&decide (d.size≠0))&&decide ((⟨4,ByteArray.empty,a,b,d,(v1,v2,v3),c,f,ByteArray.empty,false⟩:Op)=(⟨4,⟨#[]⟩,a,⟨#[]⟩,d,(0,0,⟨#[]⟩),0,⟨#[]⟩,⟨#[]⟩,false⟩:Op))):=by
   unfold fW;dsimp only;rw[iN qe,iN qe,iN qe,iP rfl];rfl
  have heq:=pA (⟨4,ByteArray.empty,a,b,d,(v1,v2,v3),c,f,ByteArray.empty,false⟩:Op) (⟨4,⟨#[]⟩,a,⟨#[]⟩,d,(0,0,⟨#[]⟩),0,⟨#[]⟩,⟨#[]⟩,false⟩:Op);unfold fF cB at heq;dsimp only at heq;generalize decide ((⟨4,ByteArray.empty,a,b,d,(v1,v2,v3),c,f,ByteArray.empty,false⟩:Op)=(⟨4,⟨#[]⟩,a,⟨#[]⟩,d,(0,0,⟨#[]⟩),0,⟨#[]⟩,⟨#[]⟩,false⟩:Op))=E at *;have HT:=aA j;clear j;by_cases g:a.size=0
  .obtain⟨H,I⟩:=fO a [] (mS g);have HG0:Hid (decide (a.size≠0)=false):=aA (dF (fun h=>h g));clear g;go_wp2;go_region
   all_goals go_wp2
   all_goals
    clear A l m q r s t v x y z n p i;go_returns;refine⟨bI ?_,?_⟩
    .exact yS
    .exact pQ
  .obtain⟨H,I⟩:=fH a [] (kV g);have G:Hid (decide (a.size≠0)=true):=aA (dX g);clear g;by_cases K:d.size=0
   .obtain⟨ak,al⟩:=fO d [] (mS K);have HG0:Hid (decide (d.size≠0)=false):=aA (dF (fun h=>h K));clear K;go_wp2;go_region
    all_goals go_wp2
    all_goals
     clear A l m q r s t v x y z n p i;go_returns;refine⟨bI ?_,?_⟩
     .exact yS
     .exact pQ
   .obtain⟨ak,al⟩:=fH d [] (kV K);have ag:Hid (decide (d.size≠0)=true):=aA (dX K);clear K;go_wp2;go_region
    all_goals go_wp2
    all_goals
     clear A l m q r s t v x y z n p i;go_returns;refine⟨bI ?_,?_⟩
     .rw[HT.o];simp only[G.o,ag.o,Bool.true_and]
     .exact pQ
 have ar:(k==4)=false:=bN.2 T;by_cases U:k=5
 .subst U;have j:fW ⟨5,su,a,b,d,(v1,v2,v3),c,f,F,D⟩=(decide (0<c)&&decide ((⟨5,ByteArray.empty,a,b,d,(v1,v2,v3),c,f,ByteArray.empty,false⟩:Op)=(⟨5,⟨#[]⟩,⟨#[]⟩,⟨#[]⟩,⟨#[]⟩,(0,0,⟨#[]⟩),c,⟨#[]⟩,⟨#[]⟩,false⟩:Op))):=by
   unfold fW;dsimp only;rw[iN qe,iN qe,iN qe,iN qe,iP rfl];rfl
  have heq:=pA (⟨5,ByteArray.empty,a,b,d,(v1,v2,v3),c,f,ByteArray.empty,false⟩:Op) (⟨5,⟨#[]⟩,⟨#[]⟩,⟨#[]⟩,⟨#[]⟩,(0,0,⟨#[]⟩),c,⟨#[]⟩,⟨#[]⟩,false⟩:Op);unfold fF cB at heq;dsimp only at heq;generalize decide ((⟨5,ByteArray.empty,a,b,d,(v1,v2,v3),c,f,ByteArray.empty,false⟩:Op)=(⟨5,⟨#[]⟩,⟨#[]⟩,⟨#[]⟩,⟨#[]⟩,(0,0,⟨#[]⟩),c,⟨#[]⟩,⟨#[]⟩,false⟩:Op))=E at *;have HT:=aA j;clear j;by_cases C:¬0<c
  .have ab:decide (c > 0)=false:=dF C;have HG0:Hid (decide (0<c)=false):=aA (dF C);clear C;go_wp2
   all_goals
    clear A l m q r s t v x y z n p i;go_returns;refine⟨bI ?_,?_⟩
    .exact yS
    .exact pQ
  .have ab:decide (c > 0)=true:=dX (Decidable.not_not.1 C);have aa:Hid (decide (0<c)=true):=aA (dX (Decidable.not_not.1 C));clear C;go_wp2
   all_goals
    clear A l m q r s t v x y z n p i;go_returns;refine⟨bI ?_,?_⟩
    .rw[HT.o];simp only[aa.o,Bool.true_and]
    .exact pQ
 have au:(k==5)=false:=bN.2 U;by_cases X:k=7
 .subst X;have j:fW ⟨7,su,a,b,d,(v1,v2,v3),c,f,F,D⟩=decide ((⟨7,ByteArray.empty,a,b,d,(v1,v2,v3),c,f,ByteArray.empty,false⟩:Op)=(⟨7,⟨#[]⟩,⟨#[]⟩,⟨#[]⟩,⟨#[]⟩,(0,0,⟨#[]⟩),0,f,⟨#[]⟩,false⟩:Op)):=by
   unfold fW;dsimp only;rw[iN qe,iN qe,iN qe,iN qe,iN qe,iP rfl];rfl
  have heq:=pA (⟨7,ByteArray.empty,a,b,d,(v1,v2,v3),c,f,ByteArray.empty,false⟩:Op) (⟨7,⟨#[]⟩,⟨#[]⟩,⟨#[]⟩,⟨#[]⟩,(0,0,⟨#[]⟩),0,f,⟨#[]⟩,false⟩:Op);unfold fF cB at heq;dsimp only at heq;generalize decide ((⟨7,ByteArray.empty,a,b,d,(v1,v2,v3),c,f,ByteArray.empty,false⟩:Op)=(⟨7,⟨#[]⟩,⟨#[]⟩,⟨#[]⟩,⟨#[]⟩,(0,0,⟨#[]⟩),0,f,⟨#[]⟩,false⟩:Op))=E at *;have HT:=aA j;clear j;go_wp2
  all_goals
   clear A l m q r s t v x y z n p i;go_returns;refine⟨bI ?_,?_⟩
   .rw[HT.o]
   .exact pQ
 have aw:(k==7)=false:=bN.2 X;by_cases Y:k=8
 .subst Y;have j:fW ⟨8,su,a,b,d,(v1,v2,v3),c,f,F,D⟩=((decide (0<c)&&decide (c<=1099511627776))&&decide ((⟨8,ByteArray.empty,a,b,d,(v1,v2,v3),c,f,ByteArray.empty,false⟩:Op)=(⟨8,⟨#[]⟩,⟨#[]⟩,⟨#[]⟩,⟨#[]⟩,(0,0,⟨#[]⟩),c,⟨#[]⟩,⟨#[]⟩,false⟩:Op))):=by
   unfold fW;dsimp only;rw[iN qe,iN qe,iN qe,iN qe,iN qe,iN qe,iP rfl];rfl
  have heq:=pA (⟨8,ByteArray.empty,a,b,d,(v1,v2,v3),c,f,ByteArray.empty,false⟩:Op) (⟨8,⟨#[]⟩,⟨#[]⟩,⟨#[]⟩,⟨#[]⟩,(0,0,⟨#[]⟩),c,⟨#[]⟩,⟨#[]⟩,false⟩:Op);unfold fF cB at heq;dsimp only at heq;generalize decide ((⟨8,ByteArray.empty,a,b,d,(v1,v2,v3),c,f,ByteArray.empty,false⟩:Op)=(⟨8,⟨#[]⟩,⟨#[]⟩,⟨#[]⟩,⟨#[]⟩,(0,0,⟨#[]⟩),c,⟨#[]⟩,⟨#[]⟩,false⟩:Op))=E at *;have HT:=aA j;clear j;by_cases C:¬0<c
  .have ab:decide (c > 0)=false:=dF C;have HG0:Hid (decide (0<c)=false):=aA (dF C);clear C;go_wp2
   all_goals
    clear A l m q r s t v x y z n p i;go_returns;refine⟨bI ?_,?_⟩
    .exact yS
    .exact pQ
  .have ab:decide (c > 0)=true:=dX (Decidable.not_not.1 C);have aa:Hid (decide (0<c)=true):=aA (dX (Decidable.not_not.1 C));clear C;by_cases J:¬c<=1099511627776
   .have ai:decide (c<=1099511627776)=false:=dF J;have HG0:Hid (decide (c<=1099511627776)=false):=aA (dF J);clear J;go_wp2
    all_goals
     clear A l m q r s t v x y z n p i;go_returns;refine⟨bI ?_,?_⟩
     .exact yS
     .exact pQ
   .have ai:decide (c<=1099511627776)=true:=dX (Decidable.not_not.1 J);have af:Hid (decide (c<=1099511627776)=true):=aA (dX (Decidable.not_not.1 J));clear J;go_wp2
    all_goals
     clear A l m q r s t v x y z n p i;go_returns;refine⟨bI ?_,?_⟩
     .rw[HT.o];simp only[aa.o,af.o,Bool.true_and]
     .exact pQ
 have ax:(k==8)=false:=bN.2 Y;have HT:Hid (fW ⟨k,su,a,b,d,(v1,v2,v3),c,f,F,D⟩=false):=aA (by
  unfold fW;rw[iN Q,iN (fun h=>h.elim R V),iN S,iN T,iN U,iN X,iN Y])
 clear Q R S T U V X Y;go_wp2
 all_goals
  clear A l m q r s t v x y z n p i;go_returns;refine⟨bI ?_,?_⟩
  .rw[HT.o]
  .exact pQ
end Go.Proofs.YtbinmcabjnoliaaGreatDoor

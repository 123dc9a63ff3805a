/- Lemmas. -/
import Derived.Test.YthcgdgkpgdjahaaGreatDoorMaj
namespace Go.Proofs.YthcgdgkpgdjahaaGreatDoor
open Go.RowKit
set_option linter.unusedVariables false
set_option linter.unusedSimpArgs false
set_option maxHeartbeats 16000000
open _root_.Go.Proofs.Tryz
set_option maxRecDepth 20000
theorem Ug{p:Prop}(h:p:=by
 go_wp2_with fail;refine HI.o.mono ?_;rintro e w1 ⟨rfl,hb_⟩;have HB1:=aA hb_;clear hb_ HI;go_wp2;go_returns;exact⟨by rw[<-HA.o];rfl,HB1.o⟩):p:=h
theorem ZF{ok:nP}(v:Value)(l:List uI)(N:bY)(p:Nat)(w:World)(h:aH nB w ok v l)(b:jH w p 0 (.string N)):Calls prog 191 #[v,.func (.func 192) #[] #[.pointer (some ⟨p,0,none⟩)]] w (aP (.bool (l.any (fun x=>decide (x.aEn=N)))) w):=by
 have HI:=aA (YZ v l N p w h b);have HA:=aA (tK (fun x=>decide (x.aEn=N)) l);obtain⟨a,c,rfl,f⟩:=h.slice;unfold aP at *;generalize fA (fun x=>decide (x.aEn=N)) l=n at *;generalize l.any (fun x=>decide (x.aEn=N))=d at *;clear h;go_enter func191,ntmps191;exact Ug
theorem ZG{ok:nP}(v:Value)(l:List cB)(w:World)(h:aH qN w ok v l)(b:True):Calls prog 99 #[v,.func (.func 100) #[] #[]] w (aP (.bool (l.any (fun x=>decide (256<x.log.length)))) w):=by
 have HI:=aA (ZC v l w h b);have HA:=aA (tK (fun x=>decide (256<x.log.length)) l);obtain⟨a,c,rfl,f⟩:=h.slice;unfold aP at *;generalize fA (fun x=>decide (256<x.log.length)) l=n at *;generalize l.any (fun x=>decide (256<x.log.length))=d at *;clear h;go_enter func99,ntmps99;exact Ug
theorem UX{ok:nP}(v:Value)(l:List Ob)(N:bY)(p:Nat)(w:World)(h:aH kE w ok v l)(b:jH w p 0 (.string N)):Calls prog 93 #[v,.func (.func 94) #[] #[.pointer (some ⟨p,0,none⟩)]] w (aP (.bool (l.any (fun x=>decide (x.aDN=2)&&decide (x.arg=N)))) w):=by
 have HI:=aA (UW v l N p w h b);have HA:=aA (tK (fun x=>decide (x.aDN=2)&&decide (x.arg=N)) l);obtain⟨a,c,rfl,f⟩:=h.slice;unfold aP at *;generalize fA (fun x=>decide (x.aDN=2)&&decide (x.arg=N)) l=n at *;generalize l.any (fun x=>decide (x.aDN=2)&&decide (x.arg=N))=d at *;clear h;go_enter func93,ntmps93;exact Ug
theorem ZH{ok:nP}(v:Value)(l:List wJ)(N:bY)(T:Int)(p q:Nat)(w:World)(h:aH tG w ok v l)(b:jH w p 0 (.string N)/\jH w q 0 (.int .i64 T)/\(∀x∈l,0<=x.aDX/\x.aDX<=T/\T<=1099511627776)):Calls prog 143 #[v,.func (.func 144) #[] #[.pointer (some ⟨p,0,none⟩),.pointer (some ⟨q,0,none⟩)]] w (aP (.bool (l.any (fun x=>decide (x.aD3=N)&&(x.open_&&decide (100<=T - x.aDX))))) w):=by
 have HI:=aA (ZD v l N T p q w h b);have HA:=aA (tK (fun x=>decide (x.aD3=N)&&(x.open_&&decide (100<=T - x.aDX))) l);obtain⟨a,c,rfl,f⟩:=h.slice;unfold aP at *;generalize fA (fun x=>decide (x.aD3=N)&&(x.open_&&decide (100<=T - x.aDX))) l=n at *;generalize l.any (fun x=>decide (x.aD3=N)&&(x.open_&&decide (100<=T - x.aDX)))=d at *;clear h;go_enter func143,ntmps143;exact Ug
theorem Jp(x y:ByteArray×ByteArray)(w:World):Sem.run prog (binOp .eql 157 (.agg #[.string x.1,.string x.2]) (.agg #[.string y.1,.string y.2])) w=.ok (.bool (decide (x=y))) w:=by
 obtain⟨b,c⟩:=x;obtain⟨d,e⟩:=y;have u9:=underlying9;have a9:=isAgg9;have z9:=sizeOf9;have a:prog.underlying 157=some (.struct (prog.fieldsOf 157)):=by kernel_rfl
 have hp:prog.stoodInHeld 157=false:=by kernel_rfl
 rw[run_eql_struct,show (10000:Nat)=9999+1 from rfl,run_equalIn_agg w 9999 157 _ _ a hp];simp only[Program.fieldsOf,underlying157];go_simp;by_cases h1:b=d<;>by_cases h2:c=e<;>simp[h1,h2,DN]
theorem Eb{ok:nP}(v:Value)(l:List xG)(x:xG)(w:World)(h:aH rH w ok v l):Calls prog 177 #[v,.agg #[.string x.1,.string x.2]] w (aP (.int .i64 (fA (fun y=>decide (x=y)) l)) w):=by
 obtain⟨a,c,rfl,F⟩:=h.slice;have HB0:=aA (aB w (.cells #[.string x.1,.string x.2] 157));have m:=aA (aK w (.cells #[.string x.1,.string x.2] 157) _ rfl);have o:=aA (h.on dB HB0.o);obtain⟨w1,j⟩:=xE (w.alloc (.cells #[.string x.1,.string x.2] 157));rw[<-j] at o HB0 m;have z:=aA j;clear h j;obtain⟨d,f⟩:∃d:xG->Bool,d=(fun y=>decide (x=y)):=⟨_,rfl⟩;have t:=aA f;rw[<-f];clear f;unfold aP;go_enter func177,ntmps177;go_wp2;rw[<-z.o];go_loopw [5,8] (fun _ i wr=>∃k:Nat,k<=l.length/\i=.int .i64 k/\Hid (∀i (hi:i<l.length),i<k->d l[i]=false)/\Hid (Below w1.heap.size w1 wr)) (fun _ i _=>l.length - (intOf i).toNat)
 case atStart=>exact BU
 case round=>
  obtain⟨k,E,rfl,HR,HB⟩:=hrel;by_cases q:k<l.length
  .have hk1:(k:Int)<(l.length:Int):=qo;obtain⟨b,off,r,rfl,_,D,⟨rfl,A⟩,e⟩:=aH.at dB (o.o.on dB HB.o) q qe;have C:=e 0 _ rfl;have G:=e 1 _ rfl;rw[Nat.add_zero] at C;have n:=qK m HB.o;obtain⟨⟨H,I⟩,_⟩:=fL n.o;have J:=aD n.o;have p:=Jp x l[k];have HL:Hid (∀g,d l[k]=g->((if g=true then fA d l=(k:Int) else ∀i (hi:i<l.length),i<k+1->d l[i]=false):Prop)):=aA (fun g hg=>by
    cases g
    .exact Zb
    .rw[iP rfl];exact JP q HR.o hg)
   have s:d l[k]=decide (x=l[k]):=by rw[t.o]
   rw[<-s] at p;clear HR e A s;generalize B:l[k]=y at *;generalize d y=g at *;clear B;go_wp2;go_quiet (fail)
   have HB':=aA (gB HB.o ⟨nq,rfl⟩);clear p
   cases g
   .exact Zc
   .exact QCd
  .exact QBL
theorem SH{ok:nP}(v:Value)(l:List xG)(x:xG)(w:World)(h:aH rH w ok v l):Calls prog 131 #[v,.agg #[.string x.1,.string x.2]] w (aP (.bool (l.any (fun y=>decide (x=y)))) w):=by
 have HB0:=aA (aB w (.cells #[.string x.1,.string x.2] 157));have HI:=aA (Eb v l x _ (h.on dB HB0.o));have HA:=aA (tK (fun y=>decide (x=y)) l);obtain⟨a,c,rfl,b⟩:=h.slice;unfold aP at *;generalize fA (fun y=>decide (x=y)) l=n at *;clear h;go_enter func131,ntmps131;exact QCf
theorem QBT{p:Prop}(h:p:=by
 exact⟨rfl,((HB1.o.setCell (show w.heap.size<=w.heap.size+1+1 by omega) _).setCell (show w.heap.size<=w.heap.size+1+1 by omega) _).setCell (show w.heap.size<=w.heap.size+1+1 by omega) _⟩):p:=h
theorem aDn{w:World}{g:Nat}{a0:Value}{t:TypeId}(h:w.heap[g]? =some (.cells #[a0] t (0,0))):(w.cell? ⟨g,0,none⟩=some a0)/\w.frozen? ⟨g,0,none⟩=false:=⟨aQ h 0 _ rfl,aR h 0⟩
theorem bW{w:World}{g:Nat}{a0 a a2 a3 a4 a5 d e f a9 b c a12:Value}{t:TypeId}(h:w.heap[g]? =some (.cells #[a0,a,a2,a3,a4,a5,d,e,f,a9,b,c,a12] t (0,0))):(w.cell? ⟨g,0,none⟩=some a0/\w.cell? ⟨g,1,none⟩=some a/\w.cell? ⟨g,2,none⟩=some a2/\w.cell? ⟨g,3,none⟩=some a3/\w.cell? ⟨g,4,none⟩=some a4/\w.cell? ⟨g,5,none⟩=some a5/\w.cell? ⟨g,6,none⟩=some d/\w.cell? ⟨g,7,none⟩=some e/\w.cell? ⟨g,8,none⟩=some f/\w.cell? ⟨g,9,none⟩=some a9/\w.cell? ⟨g,10,none⟩=some b/\w.cell? ⟨g,11,none⟩=some c/\w.cell? ⟨g,12,none⟩=some a12)/\w.frozen? ⟨g,0,none⟩=false/\w.frozen? ⟨g,1,none⟩=false/\w.frozen? ⟨g,2,none⟩=false/\w.frozen? ⟨g,3,none⟩=false/\w.frozen? ⟨g,4,none⟩=false/\w.frozen? ⟨g,5,none⟩=false/\w.frozen? ⟨g,6,none⟩=false/\w.frozen? ⟨g,7,none⟩=false/\w.frozen? ⟨g,8,none⟩=false/\w.frozen? ⟨g,9,none⟩=false/\w.frozen? ⟨g,10,none⟩=false/\w.frozen? ⟨g,11,none⟩=false/\w.frozen? ⟨g,12,none⟩=false:=⟨⟨aQ h 0 _ rfl,aQ h 1 _ rfl,aQ h 2 _ rfl,aQ h 3 _ rfl,aQ h 4 _ rfl,aQ h 5 _ rfl,aQ h 6 _ rfl,aQ h 7 _ rfl,aQ h 8 _ rfl,aQ h 9 _ rfl,aQ h 10 _ rfl,aQ h 11 _ rfl,aQ h 12 _ rfl⟩,aR h 0,aR h 1,aR h 2,aR h 3,aR h 4,aR h 5,aR h 6,aR h 7,aR h 8,aR h 9,aR h 10,aR h 11,aR h 12⟩
theorem PY(s:Sto)(N:bY):(fA (fun x=>fK N x.id) s.aDO= -1/\aV s N=(s.aDO.length,false))\/∃(k:Nat) (a:k<s.aDO.length),fA (fun x=>fK N x.id) s.aDO=(k:Int)/\aV s N=(k,decide (s.aDO[k].id=N)):=by
 by_cases h:s.aDO.findIdx (fun x=>fK N x.id)<s.aDO.length
 .refine .inr ⟨_,h,by unfold fA;rw[iP h],?_⟩;unfold aV;dsimp only;rw[iP h,gE h];simp
 .refine .inl ⟨by unfold fA;rw[iN h],?_⟩;unfold aV;dsimp only;rw[iN h]
theorem FN(s:Sto)(N:bY):(dU s N=none/\(aV s N).2=false)\/∃(k:Nat) (a:k<s.aDO.length),aV s N=(k,true)/\dU s N=some s.aDO[k]:=by
 rcases PY s N with ⟨_,h⟩|⟨k,a,_,h⟩
 .exact .inl ⟨by unfold dU;rw[h];rfl,by rw[h]⟩
 .by_cases b:s.aDO[k].id=N
  .rw[dX b] at h;exact .inr ⟨k,a,h,by unfold dU;rw[h];simp[a]⟩
  .rw[dF b] at h;exact .inl ⟨by unfold dU;rw[h];rfl,by rw[h]⟩
theorem fM.sl{w:World}{ok:nP}{s:Sto}{vc vr vn vo vt vu vk vb:Value}(h:fM w ok s vc vr vn vo vt vu vk vb):∃c d ra rc g i j k l m n o e f a b,vc=.slice c s.aDO.length d/\s.aDO.length<=1000000/\vr=.slice ra s.aDQ.length rc/\s.aDQ.length<=1000000/\vn=.slice g s.aDV.length i/\s.aDV.length<=1000000/\vo=.slice j s.aD1.length k/\s.aD1.length<=1000000/\vt=.slice l s.aDP.aDY.length m/\s.aDP.aDY.length<=1000000/\vu=.slice n s.aDP.aDR.length o/\s.aDP.aDR.length<=1000000/\vk=.slice e s.aDP.aD2.length f/\s.aDP.aD2.length<=1000000/\vb=.slice a s.aDP.aD4.length b/\s.aDP.aD4.length<=1000000:=by
 obtain⟨c,d,rfl,b0⟩:=h.aDO.slice;obtain⟨ra,rc,rfl,b1⟩:=h.aDQ.slice;obtain⟨g,i,rfl,b2⟩:=h.aDV.slice;obtain⟨j,k,rfl,p⟩:=h.aD1.slice;obtain⟨l,m,rfl,q⟩:=h.aDP.2.2.1.slice;obtain⟨n,o,rfl,b5⟩:=h.aDP.2.2.2.1.slice;obtain⟨e,f,rfl,b6⟩:=h.aDP.2.2.2.2.1.slice;obtain⟨a,b,rfl,b7⟩:=h.aDP.2.2.2.2.2.slice;exact⟨c,d,ra,rc,g,i,j,k,l,m,n,o,e,f,a,b,rfl,b0,rfl,b1,rfl,b2,rfl,p,rfl,q,rfl,b5,rfl,b6,rfl,b7⟩
abbrev fU(s:Sto)(a:oD)(b:Nat)(j:oD)(k:Nat)(l:oD)(m:Nat)(n:oD)(o:Nat)(p:oD)(q:Nat)(c:oD)(d:Nat)(e:oD)(f:Nat)(g:oD)(i:Nat):Array Value:=#[.int .i64 s.aDX,.slice a s.aDO.length b,.slice j s.aDQ.length k,.slice l s.aDV.length m,.slice n s.aD1.length o,.string s.aDP.id,.bool s.aDP.set,.int .i64 s.aDP.alg,.slice p s.aDP.aDY.length q,.slice c s.aDP.aDR.length d,.slice e s.aDP.aD2.length f,.slice g s.aDP.aD4.length i,.int .i64 s.aD0]
theorem JR{ok:nP}(s:Sto)(vc vr vn vo vt vu vk vb:Value)(N:bY)(w:World)(h:fM w ok s vc vr vn vo vt vu vk vb):Calls prog 70 #[.agg (aX s vc vr vn vo vt vu vk vb),.string N] w (aP (.tuple #[.int .i64 ((aV s N).1:Nat),.bool (aV s N).2]) w):=by
 obtain⟨q,t,ra,rc,E,G,H,I,J,K,L,M,C,D,o,p,rfl,_,rfl,_,rfl,_,rfl,_,rfl,_,rfl,_,rfl,_,rfl,_⟩:=h.sl;obtain⟨W0,c⟩:=xE ((w.alloc (.cells (fU s q t ra rc E G H I J K L M C D o p) 62)).alloc (.cells #[.string N] 9));have f:Hid (Below w.heap.size w W0):=aA (by rw[c];exact aC (aB _ _) (aB _ _));have A:Hid (W0.heap[w.heap.size]? =some (.cells (fU s q t ra rc E G H I J K L M C D o p) 62 (0,0))):=aA (by rw[c];exact aE (aK _ _ _ rfl) (aB _ _));have B:Hid (W0.heap[w.heap.size+1]? =some (.cells #[.string N] 9 (0,0))):=aA (by rw[c];exact aK _ _ _ qs);obtain⟨R,m,l,d⟩:=dH c (YY _ s.aDO N (w.heap.size+1) W0 (aH.on dW h.aDO f.o) ⟨aQ B.o 0 _ rfl,aD B.o⟩) (aH.on dW h.aDO f.o) (PY s N);obtain⟨F,v⟩:∃F,aV s N=F:=⟨_,rfl⟩;rw[v] at d ⊢;unfold aP aX at *;generalize fA (fun x=>fK N x.id) s.aDO=n at *;clear h c v;go_enter func70,ntmps70;go_wp2_with fail;rw[<-R.o];refine m.o.mono ?_;rintro e w1 ⟨rfl,a⟩;have j:=qB f a;have P:=aA (l.o.on dW a);replace A:=qK A a;obtain⟨⟨V,W,A2,A3,A4,A5,A6,A7,A8,A9,X,Y,Z⟩,_⟩:=bW A.o;have zA:=aD A.o;replace B:=qK B a;obtain⟨B0,_⟩:=aDn B.o;have zB:=aD B.o;clear a m l
 rcases d.o with ⟨g,i⟩|⟨k,T,g,i⟩
 .subst g i;clear d;go_wp2;go_returns;exact⟨rfl,j.o⟩
 .subst g i;obtain⟨b,off,r,rfl,_,ab,⟨vf,vl,rfl,S⟩,z⟩:=aH.at dW P.o T qe;have U:=z 0 _ rfl;rw[Nat.add_zero] at U;have ae:(k:Int)<(s.aDO.length:Int):=qo;have ad:¬(k:Int)<0:=qo;clear d z S;generalize y:s.aDO[k].id=aa at *;have Q:=aA y;clear y;go_wp2;go_quiet (fail)
  have O:=aA (gB j.o ⟨nq,rfl⟩);go_wp2;go_returns;exact⟨by rw[Q.o,<-jL];rfl,O.o⟩
theorem JS{ok:nP}(s:Sto)(vc vr vn vo vt vu vk vb:Value)(N M:bY)(w:World)(h:fM w ok s vc vr vn vo vt vu vk vb):Calls prog 73 #[.agg (aX s vc vr vn vo vt vu vk vb),.string N,.string M] w (aP (.bool (qL s N M)) w):=by
 obtain⟨d,f,ra,rc,j,k,l,m,o,p,q,r,g,i,b,c,rfl,_,rfl,_,rfl,_,rfl,_,rfl,_,rfl,_,rfl,_,rfl,_⟩:=h.sl;obtain⟨W0,a⟩:=xE (w.alloc (.cells (fU s d f ra rc j k l m o p q r g i b c) 62));have HB0:Hid (Below w.heap.size w W0):=aA (by rw[a];exact aB _ _);have A:Hid (W0.heap[w.heap.size]? =some (.cells (fU s d f ra rc j k l m o p q r g i b c) 62 (0,0))):=aA (by rw[a];exact aK _ _ _ rfl);have t:=aA a;have HI:=aA (SH _ s.aD1 (N,M) W0 (aH.on dB h.aD1 HB0.o));have e:qL s N M=s.aD1.any (fun y=>decide ((N,M)=y)):=by unfold qL;congr 1;funext y;rw[Bool.eq_iff_iff];simp[eq_comm]
 rw[e];unfold aP aX at *;generalize s.aD1.any (fun y=>decide ((N,M)=y))=n at *;dsimp only at HI;clear h a e;obtain⟨⟨a0,v,a2,a3,a4,a5,B,C,D,a9,x,z,a12⟩,_⟩:=bW A.o;go_enter func73,ntmps73;go_wp2_with fail;rw[<-t.o];exact Uf
theorem Ec(c:cB)(N:bY):(fA (fun x:qE=>decide (x.1=N)) c.aDT= -1/\eB c N=aY)\/∃(k:Nat) (b:k<c.aDT.length),fA (fun x:qE=>decide (x.1=N)) c.aDT=(k:Int)/\eB c N=c.aDT[k].2:=by
 have a:c.aDT.find? (fun f=>decide (f.1=N))=c.aDT[c.aDT.findIdx (fun f=>decide (f.1=N))]? :=List.find?_eq_getElem?_findIdx;by_cases h:c.aDT.findIdx (fun x=>decide (x.1=N))<c.aDT.length
 .refine .inr ⟨_,h,by unfold fA;rw[iP h],?_⟩;unfold eB;rw[a,gE h];rfl
 .refine .inl ⟨by unfold fA;rw[iN h],?_⟩;unfold eB;rw[a,List.getElem?_eq_none qo];rfl
abbrev pH(c:cB)(a:oD)(b:Nat)(d:oD)(e:Nat):Array Value:=#[.string c.id,.string c.aEg,.string c.aD9,.slice a c.aDT.length b,.slice d c.log.length e]
theorem LA{ok:nP}(c:cB)(y z:Value)(N:bY)(w:World)(h:pD w ok c y z):Calls prog 42 #[.agg #[.string c.id,.string c.aEg,.string c.aD9,y,z],.string N] w (aP (dC (eB c N)) w):=by
 obtain⟨p,q,rfl,_⟩:=h.2.2.2.1.slice;obtain⟨la,lc,rfl,_⟩:=h.2.2.2.2.slice;obtain⟨W0,a⟩:=xE (((w.alloc (.cells (pH c p q la lc) 113)).alloc (.cells #[.string N] 9)).alloc (.cells fW 30));have i:Hid (Below w.heap.size w W0):=aA (by rw[a];exact aC (aC (aB _ _) (aB _ _)) (aB _ _));have A:Hid (W0.heap[w.heap.size]? =some (.cells (pH c p q la lc) 113 (0,0))):=aA (by rw[a];exact aE (aE (aK _ _ _ rfl) (aB _ _)) (aB _ _));have B:Hid (W0.heap[w.heap.size+1]? =some (.cells #[.string N] 9 (0,0))):=aA (by rw[a];exact aE (aK _ _ _ qs) (aB _ _));have R:Hid (W0.heap[w.heap.size+1+1]? =some (.cells fW 30 (0,0))):=aA (by rw[a];exact aK _ _ _ qs);obtain⟨E,o,m,f⟩:=dH a (UT _ c.aDT N (w.heap.size+1) W0 (aH.on bS h.2.2.2.1 i.o) ⟨aQ B.o 0 _ rfl,aD B.o⟩) (aH.on bS h.2.2.2.1 i.o) (Ec c N);obtain⟨F,s⟩:∃F,eB c N=F:=⟨_,rfl⟩;rw[s] at f ⊢;unfold aP at *;generalize fA (fun x:qE=>decide (x.1=N)) c.aDT=n at *;clear h a s;go_enter func42,ntmps42;go_wp2_with fail;rw[<-E.o];refine o.o.mono ?_;rintro e w1 ⟨rfl,d⟩;have HB1:=qB i d;have C:=aA (m.o.on bS d);replace A:=qK A d;obtain⟨⟨L,M,O,P,Q⟩,_⟩:=dM A.o;have Y:=aD A.o;replace R:=qK R d;obtain⟨⟨S,T,U⟩,_⟩:=cF R.o;have Z:=aD R.o;have f0:=aR R.o 0;have f1:=aR R.o 1;have f2:=aR R.o 2;clear d o m
 rcases f.o with ⟨j,l⟩|⟨k,H,j,l⟩
 .subst j l;clear f;go_wp2;refine bR (.agg #[.int .i64 0,.int .i64 0,.string ⟨#[]⟩]) ?_;exact QBT
 .subst j l;obtain⟨b,off,r,rfl,_,V,⟨rfl,G⟩,g⟩:=aH.at bS C.o H qe;have I:=g 1 _ rfl;have J:=g 2 _ rfl;have K:=g 3 _ rfl;have X:(k:Int)<(c.aDT.length:Int):=qo;have W:decide ((k:Int) ≥ 0)=true:=dX qo;clear f g G;generalize t:c.aDT[k].2=v at *;have D:=aA t;clear t;obtain⟨v1,v2,v3⟩:=v;dsimp only at I J K;go_wp2;refine bR (.agg #[.int .i64 v1,.int .i64 v2,.string v3]) ?_;exact⟨by rw[D.o];rfl,((HB1.o.setCell (show w.heap.size<=w.heap.size+1+1 by omega) _).setCell (show w.heap.size<=w.heap.size+1+1 by omega) _).setCell (show w.heap.size<=w.heap.size+1+1 by omega) _⟩
theorem QCG{p:Prop}(h:p:=by
 repeat (refine Below.setCell ?_ (by first|exact lR _|exact Nat.le_succ _) _)
 first|exact HKc.o.1|exact HKa.o.1):p:=h
def Kq(w:World)(p q:Nat)(a b:Obj)(w':World):Prop:=Below w.heap.size w w'/\w'.heap[p]? =some a/\w'.heap[q]? =some b
theorem Kq.on{w w' d:World}{p q:Nat}{b c:Obj}(h:Kq w p q b c w')(a:Below w'.heap.size w' d):Kq w p q b c d:=⟨aC h.1 a,aE h.2.1 a,aE h.2.2 a⟩
theorem LB(w:World)(a b:Obj):Kq w w.heap.size (w.heap.size+1) a b ((w.alloc a).alloc b):=
 ⟨aC (aB _ _) (aB _ _),aE (aK w a _ rfl) (aB _ _),aK _ b _ qs⟩
def UY(c:cB)(w:World)(a b:Value)(w':World):Prop:=aM lO 4 185 w' w.heap.size (fun _=>True) a c.aDT/\aM nB 3 173 w' w.heap.size (fun _=>True) b c.log/\Below w.heap.size w w'
def yB(c:cB)(w:World)(e:Ending)(w':World):Prop:=∃a b,e=.returned (.agg #[.string c.id,.string c.aEg,.string c.aD9,a,b])/\UY c w a b w'
theorem Bj{W w:World}{g:Nat}{a b c d e:Value}(h:Below W.heap.size W w)(f:W.heap.size<=g):Below W.heap.size W (((((w.setCell ⟨g,0,none⟩ a).setCell ⟨g,1,none⟩ b).setCell ⟨g,2,none⟩ c).setCell ⟨g,3,none⟩ d).setCell ⟨g,4,none⟩ e):=
 ((((h.setCell f _).setCell f _).setCell f _).setCell f _).setCell f _
theorem aM.aEN{α:Type}{R:Rep α}{s:Nat}{e:TypeId}{w:World}{base:Nat}{v:Value}{l:List α}{g i:Nat}{x:Value}(F:Firm R s)(h:aM R s e w base (fun _=>True) v l)(f:g<base)(a:∀w ok ok' cs x,R w ok cs x->R w ok' cs x):aM R s e (w.setCell ⟨g,i,none⟩ x) base (fun _=>True) v l:=by
 obtain⟨cs,h1,h2⟩:=h;refine⟨cs,lY h1 (aI x) (fun b c=>qA ((h1.lt b c).1)),h2.mono fun r y d=> ?_⟩;exact a _ _ _ _ _ (F.aDW (ok:=fun b=>b≠g) (a _ _ _ _ _ d) (aI x))
theorem AH{α:Type}{enc:α->List Value}{good:α->Prop}(w:World)(ok ok':nP)(cs:List Value)(x:α)(h:mS enc good w ok cs x):mS enc good w ok' cs x:=h
theorem GW{ok:nP}(c:cB)(B C:Value)(w:World)(h:pD w ok c B C):Calls prog 95 #[.agg #[.string c.id,.string c.aEg,.string c.aD9,B,C]] w (yB c w):=by
 obtain⟨l,m,rfl,_⟩:=h.2.2.2.1.slice;obtain⟨la,lc,rfl,_⟩:=h.2.2.2.2.slice;obtain⟨a,g⟩:∃a:Obj,a=.cells (pH c l m la lc) 113:=⟨_,rfl⟩;obtain⟨b,t⟩:∃b:Obj,b=.cells #[.string ⟨#[]⟩,.string ⟨#[]⟩,.string ⟨#[]⟩,.slice none 0 0,.slice none 0 0] 113:=⟨_,rfl⟩;obtain⟨W0,f⟩:=xE ((w.alloc a).alloc b);have k:=aA (f▸LB w a b:Kq w w.heap.size (w.heap.size+1) a b W0);have R:=aA (show W0.heap.size=w.heap.size+1+1 by rw[f];simp);rw[g,t] at f;have F:=aA f;have i:Hid (∀w',Kq w w.heap.size (w.heap.size+1) a b w'->w'.cell? ⟨w.heap.size,0,none⟩=some (.string c.id)/\w'.cell? ⟨w.heap.size,1,none⟩=some (.string c.aEg)/\w'.cell? ⟨w.heap.size,2,none⟩=some (.string c.aD9)/\w'.cell? ⟨w.heap.size,3,none⟩=some (.slice l c.aDT.length m)/\w'.cell? ⟨w.heap.size,4,none⟩=some (.slice la c.log.length lc)):=aA (fun w' d=>by
  have h:=d.2.1;rw[g] at h;exact(dM h).1)
 have j:Hid (∀w',Kq w w.heap.size (w.heap.size+1) a b w'->(w'.frozen? ⟨w.heap.size,3,none⟩=false/\w'.frozen? ⟨w.heap.size,4,none⟩=false/\w.heap.size<w'.heap.size)/\(w'.cell? ⟨w.heap.size+1,0,none⟩=some (.string ⟨#[]⟩)/\w'.cell? ⟨w.heap.size+1,1,none⟩=some (.string ⟨#[]⟩)/\w'.cell? ⟨w.heap.size+1,2,none⟩=some (.string ⟨#[]⟩)/\w'.cell? ⟨w.heap.size+1,3,none⟩=some (.slice none 0 0)/\w'.cell? ⟨w.heap.size+1,4,none⟩=some (.slice none 0 0))/\w'.frozen? ⟨w.heap.size+1,0,none⟩=false/\w'.frozen? ⟨w.heap.size+1,1,none⟩=false/\w'.frozen? ⟨w.heap.size+1,2,none⟩=false/\w'.frozen? ⟨w.heap.size+1,3,none⟩=false/\w'.frozen? ⟨w.heap.size+1,4,none⟩=false/\w.heap.size+1<w'.heap.size):=aA (fun w' d=>by
  have h:=d.2.2;rw[t] at h;have h1:=d.2.1;rw[g] at h1;obtain⟨q,L,M,N,O,P⟩:=dM h;exact⟨⟨aR h1 3,aR h1 4,aD h1⟩,q,L,M,N,O,P,aD h⟩)
 have y:Hid (∀w',Kq w w.heap.size (w.heap.size+1) a b w'->w.heap.size+1+1<=w'.heap.size):=aA (fun w' d=>qA (aD d.2.2));have z:Hid (∀w',Kq w w.heap.size (w.heap.size+1) a b w'->Calls prog 152 #[.slice l c.aDT.length m] w' (bV lO 4 185 ok c.aDT w')):=aA (fun w' d=>UR _ _ _ (aH.on bS h.2.2.2.1 d.1));have A:Hid (∀w',Kq w w.heap.size (w.heap.size+1) a b w'->Calls prog 88 #[.slice la c.log.length lc] w' (bV nB 3 173 ok c.log w')):=aA (fun w' d=>DJ _ _ _ (aH.on cE h.2.2.2.2 d.1));unfold bV at z A;have I:=i.o _ k.o;have X:=j.o _ k.o;clear h f g t;go_enter func95,ntmps95;go_wp2;rw[<-F.o];have Q:=aA (Kq.on k.o (Below.refl _ _).drew);obtain⟨S,T,U,V,W⟩:=I;go_region_law
  ((first
    |(go_simp;go_at_call 152;refine(z.o _ (Hid.o (p:=Kq w w.heap.size (w.heap.size+1) a b _) (by assumption))).mono ?_;rintro e wa ⟨va,rfl,r,n⟩;obtain⟨G,H,rfl⟩:=r.slice;have v:=aA (aM.less (eO (enc:=uJ) (good:=FF) (ok':=fun _=>True) r) (y.o _ (Hid.o (p:=Kq w w.heap.size (w.heap.size+1) a b _) (by assumption))));(first|(have E:=aA (aM.on cE x.o n))|skip);have HKa:=aA (Kq.on (Hid.o (p:=Kq w w.heap.size (w.heap.size+1) a b _) (by assumption)) n);obtain⟨bb,bc,bd,be,bf⟩:=i.o _ HKa.o;obtain⟨⟨Y,af,ag⟩,⟨ah,ai,aj,ak,al⟩,an,Z,aa,ab,ad,ae⟩:=j.o _ HKa.o;clear n r)
    |(go_simp;go_at_call 88;refine(A.o _ (Hid.o (p:=Kq w w.heap.size (w.heap.size+1) a b _) (by assumption))).mono ?_;rintro e wc ⟨vc,rfl,s,o⟩;obtain⟨J,K,rfl⟩:=s.slice;have x:=aA (aM.less (eO (enc:=CZ) (good:=vW) (ok':=fun _=>True) s) (y.o _ (Hid.o (p:=Kq w w.heap.size (w.heap.size+1) a b _) (by assumption))));(first|(have D:=aA (aM.on bS v.o o))|skip);have HKc:=aA (Kq.on (Hid.o (p:=Kq w w.heap.size (w.heap.size+1) a b _) (by assumption)) o);obtain⟨bg,bh,bj,bk,bl⟩:=i.o _ HKc.o;obtain⟨⟨ao,ax,ay⟩,⟨az,a1,a6,a7,a8⟩,ba,aq,ar,au,av,aw⟩:=j.o _ HKc.o;clear o s)))
 all_goals
  go_wp2;refine bR (.agg #[.string c.id,.string c.aEg,.string c.aD9,.slice G c.aDT.length H,.slice J c.log.length K]) ?_;refine⟨_,_,rfl,aM.less ?_ (show w.heap.size<=w.heap.size+1+1 by omega),aM.less ?_ (show w.heap.size<=w.heap.size+1+1 by omega),?_⟩
  .repeat (refine aM.aEN bS ?_ (show _<w.heap.size+1+1 by first|exact Nat.lt_succ_self _|exact Nat.lt_succ_of_lt (Nat.lt_succ_self _)) AH)
   first|exact D.o|exact v.o
  .repeat (refine aM.aEN cE ?_ (show _<w.heap.size+1+1 by first|exact Nat.lt_succ_self _|exact Nat.lt_succ_of_lt (Nat.lt_succ_self _)) AH)
   first|exact x.o|exact E.o
  .exact QCG
theorem aW.setCell{α:Type}{R:List Value->α->Prop}{s:Nat}(c:∀r x,R r x->r.length=s){j:Nat}(hj:j<s){x:Value}{y:α}:∀{l:List α} {cs:List Value} {k:Nat} (h:aW R cs l) (b:k<l.length),(∀r,R r l[k]->R (r.set j x) y)->aW R (cs.set (k * s+j) x) (l.set k y)
 | [],_,_,_,b,_=>absurd b qs
 |a::l,cs,0,⟨r,t,e,hr,ht⟩,b,hy=>by
  have d:=c _ _ hr;rw[e,Nat.zero_mul,Nat.zero_add,List.set_append_left _ _ qo];exact⟨_,_,rfl,hy r hr,ht⟩
 |a::l,cs,k+1,⟨r,t,e,hr,ht⟩,b,hy=>by
  have d:=c _ _ hr;have h1:(k+1) * s=k * s+s:=by rw[Nat.add_mul,Nat.one_mul]
  rw[e,List.set_append_right _ _ qo,show (k+1) * s+j - r.length=k * s+j by omega];exact⟨r,_,rfl,hr,aW.setCell c hj ht (by simpa using b) hy⟩
theorem UZ{w:World}{base:Nat}{e:TypeId}{s n g c i:Nat}{x:Value}{xs:List Value}(h:w.ownsRow base e s (.slice (some ⟨g,0,none⟩) n c) n xs):(w.setCell ⟨g,i,none⟩ x).ownsRow base e s (.slice (some ⟨g,0,none⟩) n c) n (xs.set i x):=by
 obtain⟨h1,h2⟩:=h;refine⟨by rw[List.length_set];exact h1,?_⟩
 rcases h2 with ⟨a,_⟩|⟨o,cap,cur,a,d,j,k,f,m,l⟩
 .cases a
 .injection a with a _ b;injection a with a;injection a with a _ _;subst a b;refine .inr ⟨g,c,cur.setIfInBounds i x,rfl,d,aG j i x,k,f,by rw[Array.size_setIfInBounds];exact m,?_⟩;rw[Array.toList_setIfInBounds,List.take_set,l]
theorem jT(w:World)(g i:Nat)(x:Value):(w.setCell ⟨g,i,none⟩ x).heap.size=w.heap.size:=by simp[World.setCell]
section
variable {α:Type} {R:Rep α} {s:Nat} {e:TypeId} {w:World} {base:Nat} {ok:nP}
theorem aM.at(F:Firm R s){a:oD}{n c:Nat}{l:List α}{k:Nat}(h:aM R s e w base ok (.slice a n c) l)(q:k<l.length)(h0:0<s):
 ∃g r,a=some ⟨g,0,none⟩/\base<=g/\g<w.heap.size/\R w (fun b=>ok b/\b<w.heap.size/\b≠g) r l[k]/\(∀j x,r[j]? =some x->w.cell? ⟨g,k * s+j,none⟩=some x)/\∀i,w.frozen? ⟨g,i,none⟩=false:=by
 obtain⟨cs,⟨h1,h2⟩,h3⟩:=h
 rcases h2 with ⟨_,y⟩|⟨g,cap,cur,f,d,m,C,B,D,t⟩
 .omega
 .injection f with f z A;subst f;obtain⟨r,o,p⟩:=h3.at (fun r x o=>F.len o) q;refine⟨g,r,rfl,d,aD m,F.more o fun b d=>⟨d.1,d.2.1,fun e=>d.2.2 (by rw[e];rfl)⟩,fun j x v=> ?_,fun i=>aR m i⟩;have h4:=p j x v;rw[<-t] at h4;have h5:cur.toList[k * s+j]? =some x:=by
   rw[List.getElem?_take] at h4;split at h4
   .exact h4
   .cases h4
  simp only[World.cell?,m];simpa using h5
theorem aM.setAt(F:Firm R s){g n c k j:Nat}{x:Value}{y:α}{l:List α}(h:aM R s e w base ok (.slice (some ⟨g,0,none⟩) n c) l)(m:k<l.length)(hj:j<s)(d:∀r,R w (fun b=>ok b/\b<w.heap.size/\b≠g) r l[k]->R w (fun b=>ok b/\b<w.heap.size/\b≠g) (r.set j x) y):
 aM R s e (w.setCell ⟨g,k * s+j,none⟩ x) base ok (.slice (some ⟨g,0,none⟩) n c) (l.set k y):=by
 obtain⟨cs,h1,h2⟩:=h;have o:n=l.length:=by
  rcases h1.2 with ⟨f,_⟩|⟨_,_,_,f,_⟩
  .cases f
  .injection f
 subst o;refine⟨cs.set (k * s+j) x,by rw[List.length_set];exact UZ h1,?_⟩;have h3:=aW.setCell (fun r x d=>F.len d) hj (x:=x) (y:=y) (h2.mono fun r x d=>F.more d fun b a=>(⟨a.1,a.2.1,fun e=>a.2.2 (by rw[e];rfl)⟩:ok b/\b<w.heap.size/\b≠g)) m d;refine h3.mono fun r z d=> ?_
 have h4:=F.aDW d ((aI (g:=g) (i:=k * s+j) x).mono fun b _ a=>a.2.2);exact F.more h4 fun b a=>⟨a.1,by rw[(jT w g (k * s+j) x)];exact a.2.1,fun e=>a.2.2 (by injection e)⟩
theorem aM.off(F:Firm R s){v:Value}{l:List α}{g i:Nat}{x:Value}(h:aM R s e w base ok v l)(c:¬ok g)(f:v.ownBlock≠some g):aM R s e (w.setCell ⟨g,i,none⟩ x) base ok v l:=by
 obtain⟨cs,h1,h2⟩:=h;refine⟨cs,lY h1 (aI x) (fun b a e=>f (by rw[a,show b=g from e])),h2.mono fun r y d=> ?_⟩;have h4:=F.aDW d ((aI (g:=g) (i:=i) x).mono fun b _ a (e:b=g)=>c (e▸a.1));exact F.more h4 fun b a=>⟨a.1,by rw[(jT w g i x)];exact a.2.1,a.2.2⟩
end
theorem fI{ok:nP}{w:World}{g i:Nat}{v:Value}(h:¬ok g):aN ok w (w.setCell ⟨g,i,none⟩ v):=(aI v).mono fun k _ a (e:k=g)=>h (e▸a)
theorem aM.aEK{α:Type}{R:Rep α}{s:Nat}(F:Firm R s){e:TypeId}{w:World}{base:Nat}{ok:nP}{v:Value}{l:List α}(h:aM R s e w base ok v l)(i:l.length<=1000000):aH R w (fun b=>(ok b/\b<w.heap.size/\some b≠v.ownBlock)\/some b=v.ownBlock) v l:=by
 obtain⟨cs,h1,h2⟩:=h;obtain⟨a,c,e,_,h3,h4⟩:=lX h1;subst e;refine⟨a,c,cs,rfl,?_,h2.mono (fun r x k=>F.more k fun b f=> .inl f),i⟩;intro j;obtain⟨b,off,d,m,g⟩:=h3 j;subst d;exact⟨b,off,rfl,.inr rfl,g⟩
theorem aM.stays{α:Type}{R:Rep α}{s:Nat}(F:Firm R s){e:TypeId}{w w':World}{base:Nat}{ok ok':nP}{v:Value}{l:List α}(h:aM R s e w base ok v l)(hk:aN ok' w w')(a:∀b,v.ownBlock=some b->ok' b)(ho:∀b,ok b->b<w.heap.size->ok' b):aM R s e w' base ok v l:=by
 obtain⟨cs,h1,h2⟩:=h;refine⟨cs,lY h1 hk a,h2.mono fun r x hr=> ?_⟩;exact QCJ
theorem vX{α β:Type}{R:Rep α}{b:Rep β}{s g:Nat}{e a:TypeId}{w:World}{base c:Nat}{ok ok':nP}{v v':Value}{l:List α}{l':List β}(h:aM R s e w base ok v l)(d:aM b g a w c ok' v' l')(f:e≠a):v.ownBlock=none\/v.ownBlock≠v'.ownBlock:=by
 obtain⟨_,h1,_⟩:=h;obtain⟨_,h2,_⟩:=d;exact Yq h1 h2 f
theorem xJ{w w1 w2:World}{g:Nat}(h:∀i,w.frozen? ⟨g,i,none⟩=false)(b:Below w.heap.size w w1)(c:g<w.heap.size)(d:Below w1.heap.size w1 w2):∀i,w2.frozen? ⟨g,i,none⟩=false:=fun i=>
 ((World.frozen?_of_block (a:=⟨g,i,none⟩) (d.block g (lL c b.size))).trans (World.frozen?_of_block (a:=⟨g,i,none⟩) (b.block g c))).trans (h i)
section
variable {w:World} {base:Nat} {ok:nP} {e:TypeId} {g n c k:Nat}
theorem eJ{α:Type}{R:Rep α}{s:Nat}(F:Firm R s){i:Nat}{x v:Value}{l:List α}(h:aH R w (fun b=>ok b/\b<w.heap.size/\b≠g) v l):aH R (w.setCell ⟨g,i,none⟩ x) (fun b=>ok b/\b<(w.setCell ⟨g,i,none⟩ x).heap.size/\b≠g) v l:=
 aH.more F (aH.aDW F h (fI (fun h=>h.2.2 rfl))) (fun b a=>⟨a.1,by rw[jT];exact a.2.1,a.2.2⟩)
theorem Zw{l:List Ru}(h:aM yP 5 e w base ok (.slice (some ⟨g,0,none⟩) n c) l)(m:k<l.length){vt vc vo:Value}(t:oJ w (fun b=>ok b/\b<w.heap.size/\b≠g) vt l[k].aDY)(o:aH KJ w (fun b=>ok b/\b<w.heap.size/\b≠g) vc l[k].cond)(q:aH kE w (fun b=>ok b/\b<w.heap.size/\b≠g) vo l[k].aD4):
 aM yP 5 e (((w.setCell ⟨g,k * 5+2,none⟩ vt).setCell ⟨g,k * 5+3,none⟩ vc).setCell ⟨g,k * 5+4,none⟩ vo) base ok (.slice (some ⟨g,0,none⟩) n c) l:=by
 have h1:=aM.setAt bM (j:=2) (x:=vt) (y:=l[k]) h m qe (by rintro r ⟨a,b,d,rfl,f⟩;exact⟨vt,b,d,rfl,f.1,t,f.2.2.1,f.2.2.2⟩);rw[List.set_getElem_self] at h1;have p:=eJ dQ (i:=k * 5+2) (x:=vt) o;have h2:=aM.setAt bM (j:=3) (x:=vc) (y:=l[k]) h1 m qe (by rintro r ⟨a,b,d,rfl,f⟩;exact⟨a,vc,d,rfl,f.1,f.2.1,p,f.2.2.2⟩);rw[List.set_getElem_self] at h2;have s:=eJ aO (i:=k * 5+3) (x:=vc) (eJ aO (i:=k * 5+2) (x:=vt) q);have h3:=aM.setAt bM (j:=4) (x:=vo) (y:=l[k]) h2 m qe (by rintro r ⟨a,b,d,rfl,f⟩;exact⟨a,b,vo,rfl,f.1,f.2.1,f.2.2.1,s⟩);rw[List.set_getElem_self] at h3;exact h3
theorem Zx{lv:Nat}{l:List Po}(h:aM (qR (lv+1)) 7 e w base ok (.slice (some ⟨g,0,none⟩) n c) l)(o:k<l.length){vt vr vk vo:Value}(hp:fO lv w (fun b=>ok b/\b<w.heap.size/\b≠g) l[k] vt vr vk vo):
 aM (qR (lv+1)) 7 e (((((((w.setCell ⟨g,k * 7,none⟩ (.string l[k].id)).setCell ⟨g,k * 7+1,none⟩ (.bool l[k].set)).setCell ⟨g,k * 7+2,none⟩ (.int .i64 l[k].alg)).setCell ⟨g,k * 7+3,none⟩ vt).setCell ⟨g,k * 7+4,none⟩ vr).setCell ⟨g,k * 7+5,none⟩ vk).setCell ⟨g,k * 7+6,none⟩ vo) base ok (.slice (some ⟨g,0,none⟩) n c) l:=by
 have g0:=aM.setAt (bC (lv+1)) (j:=0) (x:= .string l[k].id) (y:=l[k]) h o qe (by rintro r ⟨a,b,d,f,rfl,m⟩;exact⟨a,b,d,f,rfl,m⟩);rw[List.set_getElem_self] at g0;have g1:=aM.setAt (bC (lv+1)) (j:=1) (x:= .bool l[k].set) (y:=l[k]) g0 o qe (by rintro r ⟨a,b,d,f,rfl,m⟩;exact⟨a,b,d,f,rfl,m⟩);rw[List.set_getElem_self] at g1;have g2:=aM.setAt (bC (lv+1)) (j:=2) (x:= .int .i64 l[k].alg) (y:=l[k]) g1 o qe (by rintro r ⟨a,b,d,f,rfl,m⟩;exact⟨a,b,d,f,rfl,m⟩);rw[List.set_getElem_self] at g2;have p:=(eJ aS (i:=k * 7+2) (x:= .int .i64 l[k].alg) (eJ aS (i:=k * 7+1) (x:= .bool l[k].set) (eJ aS (i:=k * 7+0) (x:= .string l[k].id) hp.2.2.1)));have g3:=aM.setAt (bC (lv+1)) (j:=3) (x:=vt) (y:=l[k]) g2 o qe (by rintro r ⟨a,b,d,f,rfl,m⟩;exact⟨vt,b,d,f,rfl,m.1,m.2.1,p,m.2.2.2.1,m.2.2.2.2.1,m.2.2.2.2.2⟩);rw[List.set_getElem_self] at g3;have q:=(eJ bM (i:=k * 7+3) (x:=vt) (eJ bM (i:=k * 7+2) (x:= .int .i64 l[k].alg) (eJ bM (i:=k * 7+1) (x:= .bool l[k].set) (eJ bM (i:=k * 7+0) (x:= .string l[k].id) hp.2.2.2.1))));have g4:=aM.setAt (bC (lv+1)) (j:=4) (x:=vr) (y:=l[k]) g3 o qe (by rintro r ⟨a,b,d,f,rfl,m⟩;exact⟨a,vr,d,f,rfl,m.1,m.2.1,m.2.2.1,q,m.2.2.2.2.1,m.2.2.2.2.2⟩);rw[List.set_getElem_self] at g4;have s:=(eJ (bC lv) (i:=k * 7+4) (x:=vr) (eJ (bC lv) (i:=k * 7+3) (x:=vt) (eJ (bC lv) (i:=k * 7+2) (x:= .int .i64 l[k].alg) (eJ (bC lv) (i:=k * 7+1) (x:= .bool l[k].set) (eJ (bC lv) (i:=k * 7+0) (x:= .string l[k].id) hp.2.2.2.2.1)))));have g5:=aM.setAt (bC (lv+1)) (j:=5) (x:=vk) (y:=l[k]) g4 o qe (by rintro r ⟨a,b,d,f,rfl,m⟩;exact⟨a,b,vk,f,rfl,m.1,m.2.1,m.2.2.1,m.2.2.2.1,s,m.2.2.2.2.2⟩)
 rw[List.set_getElem_self] at g5;have t:=(eJ aO (i:=k * 7+5) (x:=vk) (eJ aO (i:=k * 7+4) (x:=vr) (eJ aO (i:=k * 7+3) (x:=vt) (eJ aO (i:=k * 7+2) (x:= .int .i64 l[k].alg) (eJ aO (i:=k * 7+1) (x:= .bool l[k].set) (eJ aO (i:=k * 7+0) (x:= .string l[k].id) hp.2.2.2.2.2))))));have g6:=aM.setAt (bC (lv+1)) (j:=6) (x:=vo) (y:=l[k]) g5 o qe (by rintro r ⟨a,b,d,f,rfl,m⟩;exact⟨a,b,d,vo,rfl,m.1,m.2.1,m.2.2.1,m.2.2.2.1,m.2.2.2.2.1,t⟩);rw[List.set_getElem_self] at g6;exact g6
end
end Go.Proofs.YthcgdgkpgdjahaaGreatDoor

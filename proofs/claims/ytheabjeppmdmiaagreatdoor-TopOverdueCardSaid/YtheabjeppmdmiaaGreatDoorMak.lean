/- Lemmas. -/
import Derived.Test.YtheabjeppmdmiaaGreatDoorMaj
namespace Go.Proofs.YtheabjeppmdmiaaGreatDoor
open Go.RowKit
set_option linter.unusedVariables false
set_option linter.unusedSimpArgs false
set_option maxHeartbeats 16000000
open _root_.Go.Proofs.Tryz
set_option maxRecDepth 20000
theorem Tr{p:Prop}(h:p:=by
 go_wp2_with fail;refine HI.o.mono ?_;rintro e w1 ⟨rfl,hb_⟩;have HB1:=aA hb_;clear hb_ HI;go_wp2;go_returns;exact⟨by rw[<-HA.o];rfl,HB1.o⟩):p:=h
theorem YR{ok:nP}(v:Value)(l:List uC)(N:bY)(p:Nat)(w:World)(h:aH mZ w ok v l)(b:jF w p 0 (.string N)):Calls prog 176 #[v,.func (.func 177) #[] #[.pointer (some ⟨p,0,none⟩)]] w (aP (.bool (l.any (fun x=>decide (x.aEg=N)))) w):=by
 have HI:=aA (YM v l N p w h b);have HA:=aA (tF (fun x=>decide (x.aEg=N)) l);obtain⟨a,c,rfl,f⟩:=h.slice;unfold aP at *;generalize eX (fun x=>decide (x.aEg=N)) l=n at *;generalize l.any (fun x=>decide (x.aEg=N))=d at *;clear h;go_enter func176,ntmps176;exact Tr
theorem YS{ok:nP}(v:Value)(l:List cH)(w:World)(h:aH qI w ok v l)(b:True):Calls prog 85 #[v,.func (.func 86) #[] #[]] w (aP (.bool (l.any (fun x=>decide (256<x.log.length)))) w):=by
 have HI:=aA (YO v l w h b);have HA:=aA (tF (fun x=>decide (256<x.log.length)) l);obtain⟨a,c,rfl,f⟩:=h.slice;unfold aP at *;generalize eX (fun x=>decide (256<x.log.length)) l=n at *;generalize l.any (fun x=>decide (256<x.log.length))=d at *;clear h;go_enter func85,ntmps85;exact Tr
theorem UL{ok:nP}(v:Value)(l:List Ob)(N:bY)(p:Nat)(w:World)(h:aH kB w ok v l)(b:jF w p 0 (.string N)):Calls prog 79 #[v,.func (.func 80) #[] #[.pointer (some ⟨p,0,none⟩)]] w (aP (.bool (l.any (fun x=>decide (x.aDG=2)&&decide (x.arg=N)))) w):=by
 have HI:=aA (UK v l N p w h b);have HA:=aA (tF (fun x=>decide (x.aDG=2)&&decide (x.arg=N)) l);obtain⟨a,c,rfl,f⟩:=h.slice;unfold aP at *;generalize eX (fun x=>decide (x.aDG=2)&&decide (x.arg=N)) l=n at *;generalize l.any (fun x=>decide (x.aDG=2)&&decide (x.arg=N))=d at *;clear h;go_enter func79,ntmps79;exact Tr
theorem YT{ok:nP}(v:Value)(l:List wF)(N:bY)(T:Int)(p q:Nat)(w:World)(h:aH tB w ok v l)(b:jF w p 0 (.string N)/\jF w q 0 (.int .i64 T)/\(∀x∈l,0<=x.aDP/\x.aDP<=T/\T<=1099511627776)):Calls prog 20 #[v,.func (.func 21) #[] #[.pointer (some ⟨p,0,none⟩),.pointer (some ⟨q,0,none⟩)]] w (aP (.bool (l.any (fun x=>decide (x.aDW=N)&&(x.open_&&decide (100<=T - x.aDP))))) w):=by
 have HI:=aA (YP v l N T p q w h b);have HA:=aA (tF (fun x=>decide (x.aDW=N)&&(x.open_&&decide (100<=T - x.aDP))) l);obtain⟨a,c,rfl,f⟩:=h.slice;unfold aP at *;generalize eX (fun x=>decide (x.aDW=N)&&(x.open_&&decide (100<=T - x.aDP))) l=n at *;generalize l.any (fun x=>decide (x.aDW=N)&&(x.open_&&decide (100<=T - x.aDP)))=d at *;clear h;go_enter func20,ntmps20;exact Tr
theorem Is(x y:ByteArray×ByteArray)(w:World):Sem.run prog (binOp .eql 147 (.agg #[.string x.1,.string x.2]) (.agg #[.string y.1,.string y.2])) w=.ok (.bool (decide (x=y))) w:=by
 obtain⟨b,c⟩:=x;obtain⟨d,e⟩:=y;have u9:=underlying9;have a9:=isAgg9;have z9:=sizeOf9;have a:prog.underlying 147=some (.struct (prog.fieldsOf 147)):=by kernel_rfl
 have hp:prog.stoodInHeld 147=false:=by kernel_rfl
 rw[run_eql_struct,show (10000:Nat)=9999+1 from rfl,run_equalIn_agg w 9999 147 _ _ a hp];simp only[Program.fieldsOf,underlying147];go_simp;by_cases h1:b=d<;>by_cases h2:c=e<;>simp[h1,h2,DK]
theorem Di{ok:nP}(v:Value)(l:List xD)(x:xD)(w:World)(h:aH rD w ok v l):Calls prog 157 #[v,.agg #[.string x.1,.string x.2]] w (aP (.int .i64 (eX (fun y=>decide (x=y)) l)) w):=by
 obtain⟨a,c,rfl,F⟩:=h.slice;have HB0:=aA (aB w (.cells #[.string x.1,.string x.2] 147));have m:=aA (aK w (.cells #[.string x.1,.string x.2] 147) _ rfl);have o:=aA (h.on dD HB0.o);obtain⟨w1,j⟩:=xE (w.alloc (.cells #[.string x.1,.string x.2] 147));rw[<-j] at o HB0 m;have z:=aA j;clear h j;obtain⟨d,f⟩:∃d:xD->Bool,d=(fun y=>decide (x=y)):=⟨_,rfl⟩;have t:=aA f;rw[<-f];clear f;unfold aP;go_enter func157,ntmps157;go_wp2;rw[<-z.o];go_loopw [5,8] (fun _ i wr=>∃k:Nat,k<=l.length/\i=.int .i64 k/\Hid (∀i (hi:i<l.length),i<k->d l[i]=false)/\Hid (Below w1.heap.size w1 wr)) (fun _ i _=>l.length - (intOf i).toNat)
 case atStart=>exact BS
 case round=>
  obtain⟨k,E,rfl,HR,HB⟩:=hrel;by_cases q:k<l.length
  .have hk1:(k:Int)<(l.length:Int):=qo;obtain⟨b,off,r,rfl,_,D,⟨rfl,A⟩,e⟩:=aH.at dD (o.o.on dD HB.o) q qe;have C:=e 0 _ rfl;have G:=e 1 _ rfl;rw[Nat.add_zero] at C;have n:=qK m HB.o;obtain⟨⟨H,I⟩,_⟩:=fM n.o;have J:=aD n.o;have p:=Is x l[k];have HL:Hid (∀g,d l[k]=g->((if g=true then eX d l=(k:Int) else ∀i (hi:i<l.length),i<k+1->d l[i]=false):Prop)):=aA (fun g hg=>by
    cases g
    .exact Yr
    .rw[iP rfl];exact JI q HR.o hg)
   have s:d l[k]=decide (x=l[k]):=by rw[t.o]
   rw[<-s] at p;clear HR e A s;generalize B:l[k]=y at *;generalize d y=g at *;clear B;go_wp2;go_quiet (fail)
   have HB':=aA (gA HB.o ⟨nq,rfl⟩);clear p
   cases g
   .exact Ys
   .exact QCf
  .exact QBN
theorem SA{ok:nP}(v:Value)(l:List xD)(x:xD)(w:World)(h:aH rD w ok v l):Calls prog 116 #[v,.agg #[.string x.1,.string x.2]] w (aP (.bool (l.any (fun y=>decide (x=y)))) w):=by
 have HB0:=aA (aB w (.cells #[.string x.1,.string x.2] 147));have HI:=aA (Di v l x _ (h.on dD HB0.o));have HA:=aA (tF (fun y=>decide (x=y)) l);obtain⟨a,c,rfl,b⟩:=h.slice;unfold aP at *;generalize eX (fun y=>decide (x=y)) l=n at *;clear h;go_enter func116,ntmps116;exact QCh
theorem QBU{p:Prop}(h:p:=by
 exact⟨rfl,((HB1.o.setCell (show w.heap.size<=w.heap.size+1+1 by omega) _).setCell (show w.heap.size<=w.heap.size+1+1 by omega) _).setCell (show w.heap.size<=w.heap.size+1+1 by omega) _⟩):p:=h
theorem aDd{w:World}{g:Nat}{a0:Value}{t:TypeId}(h:w.heap[g]? =some (.cells #[a0] t (0,0))):(w.cell? ⟨g,0,none⟩=some a0)/\w.frozen? ⟨g,0,none⟩=false:=⟨aQ h 0 _ rfl,aR h 0⟩
theorem bS{w:World}{g:Nat}{a0 a a2 a3 a4 a5 d e f a9 b c a12:Value}{t:TypeId}(h:w.heap[g]? =some (.cells #[a0,a,a2,a3,a4,a5,d,e,f,a9,b,c,a12] t (0,0))):(w.cell? ⟨g,0,none⟩=some a0/\w.cell? ⟨g,1,none⟩=some a/\w.cell? ⟨g,2,none⟩=some a2/\w.cell? ⟨g,3,none⟩=some a3/\w.cell? ⟨g,4,none⟩=some a4/\w.cell? ⟨g,5,none⟩=some a5/\w.cell? ⟨g,6,none⟩=some d/\w.cell? ⟨g,7,none⟩=some e/\w.cell? ⟨g,8,none⟩=some f/\w.cell? ⟨g,9,none⟩=some a9/\w.cell? ⟨g,10,none⟩=some b/\w.cell? ⟨g,11,none⟩=some c/\w.cell? ⟨g,12,none⟩=some a12)/\w.frozen? ⟨g,0,none⟩=false/\w.frozen? ⟨g,1,none⟩=false/\w.frozen? ⟨g,2,none⟩=false/\w.frozen? ⟨g,3,none⟩=false/\w.frozen? ⟨g,4,none⟩=false/\w.frozen? ⟨g,5,none⟩=false/\w.frozen? ⟨g,6,none⟩=false/\w.frozen? ⟨g,7,none⟩=false/\w.frozen? ⟨g,8,none⟩=false/\w.frozen? ⟨g,9,none⟩=false/\w.frozen? ⟨g,10,none⟩=false/\w.frozen? ⟨g,11,none⟩=false/\w.frozen? ⟨g,12,none⟩=false:=⟨⟨aQ h 0 _ rfl,aQ h 1 _ rfl,aQ h 2 _ rfl,aQ h 3 _ rfl,aQ h 4 _ rfl,aQ h 5 _ rfl,aQ h 6 _ rfl,aQ h 7 _ rfl,aQ h 8 _ rfl,aQ h 9 _ rfl,aQ h 10 _ rfl,aQ h 11 _ rfl,aQ h 12 _ rfl⟩,aR h 0,aR h 1,aR h 2,aR h 3,aR h 4,aR h 5,aR h 6,aR h 7,aR h 8,aR h 9,aR h 10,aR h 11,aR h 12⟩
theorem PN(s:Sto)(N:bY):(eX (fun x=>gW N x.id) s.aDH= -1/\aW s N=(s.aDH.length,false))\/∃(k:Nat) (a:k<s.aDH.length),eX (fun x=>gW N x.id) s.aDH=(k:Int)/\aW s N=(k,decide (s.aDH[k].id=N)):=by
 by_cases h:s.aDH.findIdx (fun x=>gW N x.id)<s.aDH.length
 .refine .inr ⟨_,h,by unfold eX;rw[iP h],?_⟩;unfold aW;dsimp only;rw[iP h,gE h];simp
 .refine .inl ⟨by unfold eX;rw[iN h],?_⟩;unfold aW;dsimp only;rw[iN h]
theorem FG(s:Sto)(N:bY):(eW s N=none/\(aW s N).2=false)\/∃(k:Nat) (a:k<s.aDH.length),aW s N=(k,true)/\eW s N=some s.aDH[k]:=by
 rcases PN s N with ⟨_,h⟩|⟨k,a,_,h⟩
 .exact .inl ⟨by unfold eW;rw[h];rfl,by rw[h]⟩
 .by_cases b:s.aDH[k].id=N
  .rw[dX b] at h;exact .inr ⟨k,a,h,by unfold eW;rw[h];simp[a]⟩
  .rw[dF b] at h;exact .inl ⟨by unfold eW;rw[h];rfl,by rw[h]⟩
theorem fD.sl{w:World}{ok:nP}{s:Sto}{vc vr vn vo vt vu vk vb:Value}(h:fD w ok s vc vr vn vo vt vu vk vb):∃c d ra rc g i j k l m n o e f a b,vc=.slice c s.aDH.length d/\s.aDH.length<=1000000/\vr=.slice ra s.aDJ.length rc/\s.aDJ.length<=1000000/\vn=.slice g s.aDO.length i/\s.aDO.length<=1000000/\vo=.slice j s.aDU.length k/\s.aDU.length<=1000000/\vt=.slice l s.aDI.aDR.length m/\s.aDI.aDR.length<=1000000/\vu=.slice n s.aDI.aDK.length o/\s.aDI.aDK.length<=1000000/\vk=.slice e s.aDI.aDV.length f/\s.aDI.aDV.length<=1000000/\vb=.slice a s.aDI.aDX.length b/\s.aDI.aDX.length<=1000000:=by
 obtain⟨c,d,rfl,b0⟩:=h.aDH.slice;obtain⟨ra,rc,rfl,b1⟩:=h.aDJ.slice;obtain⟨g,i,rfl,b2⟩:=h.aDO.slice;obtain⟨j,k,rfl,p⟩:=h.aDU.slice;obtain⟨l,m,rfl,q⟩:=h.aDI.2.2.1.slice;obtain⟨n,o,rfl,b5⟩:=h.aDI.2.2.2.1.slice;obtain⟨e,f,rfl,b6⟩:=h.aDI.2.2.2.2.1.slice;obtain⟨a,b,rfl,b7⟩:=h.aDI.2.2.2.2.2.slice;exact⟨c,d,ra,rc,g,i,j,k,l,m,n,o,e,f,a,b,rfl,b0,rfl,b1,rfl,b2,rfl,p,rfl,q,rfl,b5,rfl,b6,rfl,b7⟩
abbrev fU(s:Sto)(a:oD)(b:Nat)(j:oD)(k:Nat)(l:oD)(m:Nat)(n:oD)(o:Nat)(p:oD)(q:Nat)(c:oD)(d:Nat)(e:oD)(f:Nat)(g:oD)(i:Nat):Array Value:=#[.int .i64 s.aDP,.slice a s.aDH.length b,.slice j s.aDJ.length k,.slice l s.aDO.length m,.slice n s.aDU.length o,.string s.aDI.id,.bool s.aDI.set,.int .i64 s.aDI.alg,.slice p s.aDI.aDR.length q,.slice c s.aDI.aDK.length d,.slice e s.aDI.aDV.length f,.slice g s.aDI.aDX.length i,.int .i64 s.aDT]
theorem JL{ok:nP}(s:Sto)(vc vr vn vo vt vu vk vb:Value)(N:bY)(w:World)(h:fD w ok s vc vr vn vo vt vu vk vb):Calls prog 55 #[.agg (aV s vc vr vn vo vt vu vk vb),.string N] w (aP (.tuple #[.int .i64 ((aW s N).1:Nat),.bool (aW s N).2]) w):=by
 obtain⟨q,t,ra,rc,E,G,H,I,J,K,L,M,C,D,o,p,rfl,_,rfl,_,rfl,_,rfl,_,rfl,_,rfl,_,rfl,_,rfl,_⟩:=h.sl;obtain⟨W0,c⟩:=xE ((w.alloc (.cells (fU s q t ra rc E G H I J K L M C D o p) 52)).alloc (.cells #[.string N] 9));have f:Hid (Below w.heap.size w W0):=aA (by rw[c];exact aC (aB _ _) (aB _ _));have A:Hid (W0.heap[w.heap.size]? =some (.cells (fU s q t ra rc E G H I J K L M C D o p) 52 (0,0))):=aA (by rw[c];exact aE (aK _ _ _ rfl) (aB _ _));have B:Hid (W0.heap[w.heap.size+1]? =some (.cells #[.string N] 9 (0,0))):=aA (by rw[c];exact aK _ _ _ qs);obtain⟨R,m,l,d⟩:=dI c (YL _ s.aDH N (w.heap.size+1) W0 (aH.on dY h.aDH f.o) ⟨aQ B.o 0 _ rfl,aD B.o⟩) (aH.on dY h.aDH f.o) (PN s N);obtain⟨F,v⟩:∃F,aW s N=F:=⟨_,rfl⟩;rw[v] at d ⊢;unfold aP aV at *;generalize eX (fun x=>gW N x.id) s.aDH=n at *;clear h c v;go_enter func55,ntmps55;go_wp2_with fail;rw[<-R.o];refine m.o.mono ?_;rintro e w1 ⟨rfl,a⟩;have j:=qB f a;have P:=aA (l.o.on dY a);replace A:=qK A a;obtain⟨⟨V,W,A2,A3,A4,A5,A6,A7,A8,A9,X,Y,Z⟩,_⟩:=bS A.o;have zA:=aD A.o;replace B:=qK B a;obtain⟨B0,_⟩:=aDd B.o;have zB:=aD B.o;clear a m l
 rcases d.o with ⟨g,i⟩|⟨k,T,g,i⟩
 .subst g i;clear d;go_wp2;go_returns;exact⟨rfl,j.o⟩
 .subst g i;obtain⟨b,off,r,rfl,_,ab,⟨vf,vl,rfl,S⟩,z⟩:=aH.at dY P.o T qe;have U:=z 0 _ rfl;rw[Nat.add_zero] at U;have ae:(k:Int)<(s.aDH.length:Int):=qo;have ad:¬(k:Int)<0:=qo;clear d z S;generalize y:s.aDH[k].id=aa at *;have Q:=aA y;clear y;go_wp2;go_quiet (fail)
  have O:=aA (gA j.o ⟨nq,rfl⟩);go_wp2;go_returns;exact⟨by rw[Q.o,<-jJ];rfl,O.o⟩
theorem JM{ok:nP}(s:Sto)(vc vr vn vo vt vu vk vb:Value)(N M:bY)(w:World)(h:fD w ok s vc vr vn vo vt vu vk vb):Calls prog 58 #[.agg (aV s vc vr vn vo vt vu vk vb),.string N,.string M] w (aP (.bool (rC s N M)) w):=by
 obtain⟨d,f,ra,rc,j,k,l,m,o,p,q,r,g,i,b,c,rfl,_,rfl,_,rfl,_,rfl,_,rfl,_,rfl,_,rfl,_,rfl,_⟩:=h.sl;obtain⟨W0,a⟩:=xE (w.alloc (.cells (fU s d f ra rc j k l m o p q r g i b c) 52));have HB0:Hid (Below w.heap.size w W0):=aA (by rw[a];exact aB _ _);have A:Hid (W0.heap[w.heap.size]? =some (.cells (fU s d f ra rc j k l m o p q r g i b c) 52 (0,0))):=aA (by rw[a];exact aK _ _ _ rfl);have t:=aA a;have HI:=aA (SA _ s.aDU (N,M) W0 (aH.on dD h.aDU HB0.o));have e:rC s N M=s.aDU.any (fun y=>decide ((N,M)=y)):=by unfold rC;congr 1;funext y;rw[Bool.eq_iff_iff];simp[eq_comm]
 rw[e];unfold aP aV at *;generalize s.aDU.any (fun y=>decide ((N,M)=y))=n at *;dsimp only at HI;clear h a e;obtain⟨⟨a0,v,a2,a3,a4,a5,B,C,D,a9,x,z,a12⟩,_⟩:=bS A.o;go_enter func58,ntmps58;go_wp2_with fail;rw[<-t.o];exact Tq
theorem Dj(c:cH)(N:bY):(eX (fun x:pY=>decide (x.1=N)) c.aDM= -1/\gL c N=bD)\/∃(k:Nat) (b:k<c.aDM.length),eX (fun x:pY=>decide (x.1=N)) c.aDM=(k:Int)/\gL c N=c.aDM[k].2:=by
 have a:c.aDM.find? (fun f=>decide (f.1=N))=c.aDM[c.aDM.findIdx (fun f=>decide (f.1=N))]? :=List.find?_eq_getElem?_findIdx;by_cases h:c.aDM.findIdx (fun x=>decide (x.1=N))<c.aDM.length
 .refine .inr ⟨_,h,by unfold eX;rw[iP h],?_⟩;unfold gL;rw[a,gE h];rfl
 .refine .inl ⟨by unfold eX;rw[iN h],?_⟩;unfold gL;rw[a,List.getElem?_eq_none qo];rfl
abbrev pE(c:cH)(a:oD)(b:Nat)(d:oD)(e:Nat):Array Value:=#[.string c.id,.string c.aEa,.string c.aD2,.slice a c.aDM.length b,.slice d c.log.length e]
theorem KW{ok:nP}(c:cH)(y z:Value)(N:bY)(w:World)(h:pA w ok c y z):Calls prog 32 #[.agg #[.string c.id,.string c.aEa,.string c.aD2,y,z],.string N] w (aP (dE (gL c N)) w):=by
 obtain⟨p,q,rfl,_⟩:=h.2.2.2.1.slice;obtain⟨la,lc,rfl,_⟩:=h.2.2.2.2.slice;obtain⟨W0,a⟩:=xE (((w.alloc (.cells (pE c p q la lc) 99)).alloc (.cells #[.string N] 9)).alloc (.cells fW 34));have i:Hid (Below w.heap.size w W0):=aA (by rw[a];exact aC (aC (aB _ _) (aB _ _)) (aB _ _));have A:Hid (W0.heap[w.heap.size]? =some (.cells (pE c p q la lc) 99 (0,0))):=aA (by rw[a];exact aE (aE (aK _ _ _ rfl) (aB _ _)) (aB _ _));have B:Hid (W0.heap[w.heap.size+1]? =some (.cells #[.string N] 9 (0,0))):=aA (by rw[a];exact aE (aK _ _ _ qs) (aB _ _));have R:Hid (W0.heap[w.heap.size+1+1]? =some (.cells fW 34 (0,0))):=aA (by rw[a];exact aK _ _ _ qs);obtain⟨E,o,m,f⟩:=dI a (UI _ c.aDM N (w.heap.size+1) W0 (aH.on bP h.2.2.2.1 i.o) ⟨aQ B.o 0 _ rfl,aD B.o⟩) (aH.on bP h.2.2.2.1 i.o) (Dj c N);obtain⟨F,s⟩:∃F,gL c N=F:=⟨_,rfl⟩;rw[s] at f ⊢;unfold aP at *;generalize eX (fun x:pY=>decide (x.1=N)) c.aDM=n at *;clear h a s;go_enter func32,ntmps32;go_wp2_with fail;rw[<-E.o];refine o.o.mono ?_;rintro e w1 ⟨rfl,d⟩;have HB1:=qB i d;have C:=aA (m.o.on bP d);replace A:=qK A d;obtain⟨⟨L,M,O,P,Q⟩,_⟩:=dN A.o;have Y:=aD A.o;replace R:=qK R d;obtain⟨⟨S,T,U⟩,_⟩:=cG R.o;have Z:=aD R.o;have f0:=aR R.o 0;have f1:=aR R.o 1;have f2:=aR R.o 2;clear d o m
 rcases f.o with ⟨j,l⟩|⟨k,H,j,l⟩
 .subst j l;clear f;go_wp2;refine bR (.agg #[.int .i64 0,.int .i64 0,.string ⟨#[]⟩]) ?_;exact QBU
 .subst j l;obtain⟨b,off,r,rfl,_,V,⟨rfl,G⟩,g⟩:=aH.at bP C.o H qe;have I:=g 1 _ rfl;have J:=g 2 _ rfl;have K:=g 3 _ rfl;have X:(k:Int)<(c.aDM.length:Int):=qo;have W:decide ((k:Int) ≥ 0)=true:=dX qo;clear f g G;generalize t:c.aDM[k].2=v at *;have D:=aA t;clear t;obtain⟨v1,v2,v3⟩:=v;dsimp only at I J K;go_wp2;refine bR (.agg #[.int .i64 v1,.int .i64 v2,.string v3]) ?_;exact⟨by rw[D.o];rfl,((HB1.o.setCell (show w.heap.size<=w.heap.size+1+1 by omega) _).setCell (show w.heap.size<=w.heap.size+1+1 by omega) _).setCell (show w.heap.size<=w.heap.size+1+1 by omega) _⟩
theorem QCH{p:Prop}(h:p:=by
 repeat (refine Below.setCell ?_ (by first|exact lR _|exact Nat.le_succ _) _)
 first|exact HKc.o.1|exact HKa.o.1):p:=h
def Kq(w:World)(p q:Nat)(a b:Obj)(w':World):Prop:=Below w.heap.size w w'/\w'.heap[p]? =some a/\w'.heap[q]? =some b
theorem Kq.on{w w' d:World}{p q:Nat}{b c:Obj}(h:Kq w p q b c w')(a:Below w'.heap.size w' d):Kq w p q b c d:=⟨aC h.1 a,aE h.2.1 a,aE h.2.2 a⟩
theorem KX(w:World)(a b:Obj):Kq w w.heap.size (w.heap.size+1) a b ((w.alloc a).alloc b):=
 ⟨aC (aB _ _) (aB _ _),aE (aK w a _ rfl) (aB _ _),aK _ b _ qs⟩
def UM(c:cH)(w:World)(a b:Value)(w':World):Prop:=aM lN 4 172 w' w.heap.size (fun _=>True) a c.aDM/\aM mZ 3 160 w' w.heap.size (fun _=>True) b c.log/\Below w.heap.size w w'
def yA(c:cH)(w:World)(e:Ending)(w':World):Prop:=∃a b,e=.returned (.agg #[.string c.id,.string c.aEa,.string c.aD2,a,b])/\UM c w a b w'
theorem As{W w:World}{g:Nat}{a b c d e:Value}(h:Below W.heap.size W w)(f:W.heap.size<=g):Below W.heap.size W (((((w.setCell ⟨g,0,none⟩ a).setCell ⟨g,1,none⟩ b).setCell ⟨g,2,none⟩ c).setCell ⟨g,3,none⟩ d).setCell ⟨g,4,none⟩ e):=
 ((((h.setCell f _).setCell f _).setCell f _).setCell f _).setCell f _
theorem aM.aEG{α:Type}{R:Rep α}{s:Nat}{e:TypeId}{w:World}{base:Nat}{v:Value}{l:List α}{g i:Nat}{x:Value}(F:Firm R s)(h:aM R s e w base (fun _=>True) v l)(f:g<base)(a:∀w ok ok' cs x,R w ok cs x->R w ok' cs x):aM R s e (w.setCell ⟨g,i,none⟩ x) base (fun _=>True) v l:=by
 obtain⟨cs,h1,h2⟩:=h;refine⟨cs,lW h1 (aI x) (fun b c=>qA ((h1.lt b c).1)),h2.mono fun r y d=> ?_⟩;exact a _ _ _ _ _ (F.aDQ (ok:=fun b=>b≠g) (a _ _ _ _ _ d) (aI x))
theorem AG{α:Type}{enc:α->List Value}{good:α->Prop}(w:World)(ok ok':nP)(cs:List Value)(x:α)(h:mS enc good w ok cs x):mS enc good w ok' cs x:=h
theorem GP{ok:nP}(c:cH)(B C:Value)(w:World)(h:pA w ok c B C):Calls prog 81 #[.agg #[.string c.id,.string c.aEa,.string c.aD2,B,C]] w (yA c w):=by
 obtain⟨l,m,rfl,_⟩:=h.2.2.2.1.slice;obtain⟨la,lc,rfl,_⟩:=h.2.2.2.2.slice;obtain⟨a,g⟩:∃a:Obj,a=.cells (pE c l m la lc) 99:=⟨_,rfl⟩;obtain⟨b,t⟩:∃b:Obj,b=.cells #[.string ⟨#[]⟩,.string ⟨#[]⟩,.string ⟨#[]⟩,.slice none 0 0,.slice none 0 0] 99:=⟨_,rfl⟩;obtain⟨W0,f⟩:=xE ((w.alloc a).alloc b);have k:=aA (f▸KX w a b:Kq w w.heap.size (w.heap.size+1) a b W0);have R:=aA (show W0.heap.size=w.heap.size+1+1 by rw[f];simp);rw[g,t] at f;have F:=aA f;have i:Hid (∀w',Kq w w.heap.size (w.heap.size+1) a b w'->w'.cell? ⟨w.heap.size,0,none⟩=some (.string c.id)/\w'.cell? ⟨w.heap.size,1,none⟩=some (.string c.aEa)/\w'.cell? ⟨w.heap.size,2,none⟩=some (.string c.aD2)/\w'.cell? ⟨w.heap.size,3,none⟩=some (.slice l c.aDM.length m)/\w'.cell? ⟨w.heap.size,4,none⟩=some (.slice la c.log.length lc)):=aA (fun w' d=>by
  have h:=d.2.1;rw[g] at h;exact(dN h).1)
 have j:Hid (∀w',Kq w w.heap.size (w.heap.size+1) a b w'->(w'.frozen? ⟨w.heap.size,3,none⟩=false/\w'.frozen? ⟨w.heap.size,4,none⟩=false/\w.heap.size<w'.heap.size)/\(w'.cell? ⟨w.heap.size+1,0,none⟩=some (.string ⟨#[]⟩)/\w'.cell? ⟨w.heap.size+1,1,none⟩=some (.string ⟨#[]⟩)/\w'.cell? ⟨w.heap.size+1,2,none⟩=some (.string ⟨#[]⟩)/\w'.cell? ⟨w.heap.size+1,3,none⟩=some (.slice none 0 0)/\w'.cell? ⟨w.heap.size+1,4,none⟩=some (.slice none 0 0))/\w'.frozen? ⟨w.heap.size+1,0,none⟩=false/\w'.frozen? ⟨w.heap.size+1,1,none⟩=false/\w'.frozen? ⟨w.heap.size+1,2,none⟩=false/\w'.frozen? ⟨w.heap.size+1,3,none⟩=false/\w'.frozen? ⟨w.heap.size+1,4,none⟩=false/\w.heap.size+1<w'.heap.size):=aA (fun w' d=>by
  have h:=d.2.2;rw[t] at h;have h1:=d.2.1;rw[g] at h1;obtain⟨q,L,M,N,O,P⟩:=dN h;exact⟨⟨aR h1 3,aR h1 4,aD h1⟩,q,L,M,N,O,P,aD h⟩)
 have y:Hid (∀w',Kq w w.heap.size (w.heap.size+1) a b w'->w.heap.size+1+1<=w'.heap.size):=aA (fun w' d=>qA (aD d.2.2));have z:Hid (∀w',Kq w w.heap.size (w.heap.size+1) a b w'->Calls prog 136 #[.slice l c.aDM.length m] w' (bV lN 4 172 ok c.aDM w')):=aA (fun w' d=>UG _ _ _ (aH.on bP h.2.2.2.1 d.1));have A:Hid (∀w',Kq w w.heap.size (w.heap.size+1) a b w'->Calls prog 74 #[.slice la c.log.length lc] w' (bV mZ 3 160 ok c.log w')):=aA (fun w' d=>DG _ _ _ (aH.on cD h.2.2.2.2 d.1));unfold bV at z A;have I:=i.o _ k.o;have X:=j.o _ k.o;clear h f g t;go_enter func81,ntmps81;go_wp2;rw[<-F.o];have Q:=aA (Kq.on k.o (Below.refl _ _).drew);obtain⟨S,T,U,V,W⟩:=I;go_region_law
  ((first
    |(go_simp;go_at_call 136;refine(z.o _ (Hid.o (p:=Kq w w.heap.size (w.heap.size+1) a b _) (by assumption))).mono ?_;rintro e wa ⟨va,rfl,r,n⟩;obtain⟨G,H,rfl⟩:=r.slice;have v:=aA (aM.less (eN (enc:=uD) (good:=EZ) (ok':=fun _=>True) r) (y.o _ (Hid.o (p:=Kq w w.heap.size (w.heap.size+1) a b _) (by assumption))));(first|(have E:=aA (aM.on cD x.o n))|skip);have HKa:=aA (Kq.on (Hid.o (p:=Kq w w.heap.size (w.heap.size+1) a b _) (by assumption)) n);obtain⟨bb,bc,bd,be,bf⟩:=i.o _ HKa.o;obtain⟨⟨Y,af,ag⟩,⟨ah,ai,aj,ak,al⟩,an,Z,aa,ab,ad,ae⟩:=j.o _ HKa.o;clear n r)
    |(go_simp;go_at_call 74;refine(A.o _ (Hid.o (p:=Kq w w.heap.size (w.heap.size+1) a b _) (by assumption))).mono ?_;rintro e wc ⟨vc,rfl,s,o⟩;obtain⟨J,K,rfl⟩:=s.slice;have x:=aA (aM.less (eN (enc:=CW) (good:=vS) (ok':=fun _=>True) s) (y.o _ (Hid.o (p:=Kq w w.heap.size (w.heap.size+1) a b _) (by assumption))));(first|(have D:=aA (aM.on bP v.o o))|skip);have HKc:=aA (Kq.on (Hid.o (p:=Kq w w.heap.size (w.heap.size+1) a b _) (by assumption)) o);obtain⟨bg,bh,bj,bk,bl⟩:=i.o _ HKc.o;obtain⟨⟨ao,ax,ay⟩,⟨az,a1,a6,a7,a8⟩,ba,aq,ar,au,av,aw⟩:=j.o _ HKc.o;clear o s)))
 all_goals
  go_wp2;refine bR (.agg #[.string c.id,.string c.aEa,.string c.aD2,.slice G c.aDM.length H,.slice J c.log.length K]) ?_;refine⟨_,_,rfl,aM.less ?_ (show w.heap.size<=w.heap.size+1+1 by omega),aM.less ?_ (show w.heap.size<=w.heap.size+1+1 by omega),?_⟩
  .repeat (refine aM.aEG bP ?_ (show _<w.heap.size+1+1 by first|exact Nat.lt_succ_self _|exact Nat.lt_succ_of_lt (Nat.lt_succ_self _)) AG)
   first|exact D.o|exact v.o
  .repeat (refine aM.aEG cD ?_ (show _<w.heap.size+1+1 by first|exact Nat.lt_succ_self _|exact Nat.lt_succ_of_lt (Nat.lt_succ_self _)) AG)
   first|exact x.o|exact E.o
  .exact QCH
theorem aX.setCell{α:Type}{R:List Value->α->Prop}{s:Nat}(c:∀r x,R r x->r.length=s){j:Nat}(hj:j<s){x:Value}{y:α}:∀{l:List α} {cs:List Value} {k:Nat} (h:aX R cs l) (b:k<l.length),(∀r,R r l[k]->R (r.set j x) y)->aX R (cs.set (k * s+j) x) (l.set k y)
 | [],_,_,_,b,_=>absurd b qs
 |a::l,cs,0,⟨r,t,e,hr,ht⟩,b,hy=>by
  have d:=c _ _ hr;rw[e,Nat.zero_mul,Nat.zero_add,List.set_append_left _ _ qo];exact⟨_,_,rfl,hy r hr,ht⟩
 |a::l,cs,k+1,⟨r,t,e,hr,ht⟩,b,hy=>by
  have d:=c _ _ hr;have h1:(k+1) * s=k * s+s:=by rw[Nat.add_mul,Nat.one_mul]
  rw[e,List.set_append_right _ _ qo,show (k+1) * s+j - r.length=k * s+j by omega];exact⟨r,_,rfl,hr,aX.setCell c hj ht (by simpa using b) hy⟩
theorem UN{w:World}{base:Nat}{e:TypeId}{s n g c i:Nat}{x:Value}{xs:List Value}(h:w.ownsRow base e s (.slice (some ⟨g,0,none⟩) n c) n xs):(w.setCell ⟨g,i,none⟩ x).ownsRow base e s (.slice (some ⟨g,0,none⟩) n c) n (xs.set i x):=by
 obtain⟨h1,h2⟩:=h;refine⟨by rw[List.length_set];exact h1,?_⟩
 rcases h2 with ⟨a,_⟩|⟨o,cap,cur,a,d,j,k,f,m,l⟩
 .cases a
 .injection a with a _ b;injection a with a;injection a with a _ _;subst a b;refine .inr ⟨g,c,cur.setIfInBounds i x,rfl,d,aG j i x,k,f,by rw[Array.size_setIfInBounds];exact m,?_⟩;rw[Array.toList_setIfInBounds,List.take_set,l]
theorem jQ(w:World)(g i:Nat)(x:Value):(w.setCell ⟨g,i,none⟩ x).heap.size=w.heap.size:=by simp[World.setCell]
section
variable {α:Type} {R:Rep α} {s:Nat} {e:TypeId} {w:World} {base:Nat} {ok:nP}
theorem aM.at(F:Firm R s){a:oD}{n c:Nat}{l:List α}{k:Nat}(h:aM R s e w base ok (.slice a n c) l)(q:k<l.length)(h0:0<s):
 ∃g r,a=some ⟨g,0,none⟩/\base<=g/\g<w.heap.size/\R w (fun b=>ok b/\b<w.heap.size/\b≠g) r l[k]/\(∀j x,r[j]? =some x->w.cell? ⟨g,k * s+j,none⟩=some x)/\∀i,w.frozen? ⟨g,i,none⟩=false:=by
 obtain⟨cs,⟨h1,h2⟩,h3⟩:=h
 rcases h2 with ⟨_,y⟩|⟨g,cap,cur,f,d,m,C,B,D,t⟩
 .omega
 .injection f with f z A;subst f;obtain⟨r,o,p⟩:=h3.at (fun r x o=>F.len o) q;refine⟨g,r,rfl,d,aD m,F.more o fun b d=>⟨d.1,d.2.1,fun e=>d.2.2 (by rw[e];rfl)⟩,fun j x v=> ?_,fun i=>aR m i⟩;have h4:=p j x v;rw[<-t] at h4;have h5:cur.toList[k * s+j]? =some x:=by
   rw[List.getElem?_take] at h4;split at h4
   .exact h4
   .cases h4
  simp only[World.cell?,m];simpa using h5
theorem aM.setAt(F:Firm R s){g n c k j:Nat}{x:Value}{y:α}{l:List α}(h:aM R s e w base ok (.slice (some ⟨g,0,none⟩) n c) l)(m:k<l.length)(hj:j<s)(d:∀r,R w (fun b=>ok b/\b<w.heap.size/\b≠g) r l[k]->R w (fun b=>ok b/\b<w.heap.size/\b≠g) (r.set j x) y):
 aM R s e (w.setCell ⟨g,k * s+j,none⟩ x) base ok (.slice (some ⟨g,0,none⟩) n c) (l.set k y):=by
 obtain⟨cs,h1,h2⟩:=h;have o:n=l.length:=by
  rcases h1.2 with ⟨f,_⟩|⟨_,_,_,f,_⟩
  .cases f
  .injection f
 subst o;refine⟨cs.set (k * s+j) x,by rw[List.length_set];exact UN h1,?_⟩;have h3:=aX.setCell (fun r x d=>F.len d) hj (x:=x) (y:=y) (h2.mono fun r x d=>F.more d fun b a=>(⟨a.1,a.2.1,fun e=>a.2.2 (by rw[e];rfl)⟩:ok b/\b<w.heap.size/\b≠g)) m d;refine h3.mono fun r z d=> ?_
 have h4:=F.aDQ d ((aI (g:=g) (i:=k * s+j) x).mono fun b _ a=>a.2.2);exact F.more h4 fun b a=>⟨a.1,by rw[(jQ w g (k * s+j) x)];exact a.2.1,fun e=>a.2.2 (by injection e)⟩
theorem aM.off(F:Firm R s){v:Value}{l:List α}{g i:Nat}{x:Value}(h:aM R s e w base ok v l)(c:¬ok g)(f:v.ownBlock≠some g):aM R s e (w.setCell ⟨g,i,none⟩ x) base ok v l:=by
 obtain⟨cs,h1,h2⟩:=h;refine⟨cs,lW h1 (aI x) (fun b a e=>f (by rw[a,show b=g from e])),h2.mono fun r y d=> ?_⟩;have h4:=F.aDQ d ((aI (g:=g) (i:=i) x).mono fun b _ a (e:b=g)=>c (e▸a.1));exact F.more h4 fun b a=>⟨a.1,by rw[(jQ w g i x)];exact a.2.1,a.2.2⟩
end
theorem fI{ok:nP}{w:World}{g i:Nat}{v:Value}(h:¬ok g):aN ok w (w.setCell ⟨g,i,none⟩ v):=(aI v).mono fun k _ a (e:k=g)=>h (e▸a)
theorem aM.aEE{α:Type}{R:Rep α}{s:Nat}(F:Firm R s){e:TypeId}{w:World}{base:Nat}{ok:nP}{v:Value}{l:List α}(h:aM R s e w base ok v l)(i:l.length<=1000000):aH R w (fun b=>(ok b/\b<w.heap.size/\some b≠v.ownBlock)\/some b=v.ownBlock) v l:=by
 obtain⟨cs,h1,h2⟩:=h;obtain⟨a,c,e,_,h3,h4⟩:=lV h1;subst e;refine⟨a,c,cs,rfl,?_,h2.mono (fun r x k=>F.more k fun b f=> .inl f),i⟩;intro j;obtain⟨b,off,d,m,g⟩:=h3 j;subst d;exact⟨b,off,rfl,.inr rfl,g⟩
theorem aM.stays{α:Type}{R:Rep α}{s:Nat}(F:Firm R s){e:TypeId}{w w':World}{base:Nat}{ok ok':nP}{v:Value}{l:List α}(h:aM R s e w base ok v l)(hk:aN ok' w w')(a:∀b,v.ownBlock=some b->ok' b)(ho:∀b,ok b->b<w.heap.size->ok' b):aM R s e w' base ok v l:=by
 obtain⟨cs,h1,h2⟩:=h;refine⟨cs,lW h1 hk a,h2.mono fun r x hr=> ?_⟩;exact QCK
theorem vT{α β:Type}{R:Rep α}{b:Rep β}{s g:Nat}{e a:TypeId}{w:World}{base c:Nat}{ok ok':nP}{v v':Value}{l:List α}{l':List β}(h:aM R s e w base ok v l)(d:aM b g a w c ok' v' l')(f:e≠a):v.ownBlock=none\/v.ownBlock≠v'.ownBlock:=by
 obtain⟨_,h1,_⟩:=h;obtain⟨_,h2,_⟩:=d;exact Yg h1 h2 f
theorem xH{w w1 w2:World}{g:Nat}(h:∀i,w.frozen? ⟨g,i,none⟩=false)(b:Below w.heap.size w w1)(c:g<w.heap.size)(d:Below w1.heap.size w1 w2):∀i,w2.frozen? ⟨g,i,none⟩=false:=fun i=>
 ((World.frozen?_of_block (a:=⟨g,i,none⟩) (d.block g (lL c b.size))).trans (World.frozen?_of_block (a:=⟨g,i,none⟩) (b.block g c))).trans (h i)
section
variable {w:World} {base:Nat} {ok:nP} {e:TypeId} {g n c k:Nat}
theorem eI{α:Type}{R:Rep α}{s:Nat}(F:Firm R s){i:Nat}{x v:Value}{l:List α}(h:aH R w (fun b=>ok b/\b<w.heap.size/\b≠g) v l):aH R (w.setCell ⟨g,i,none⟩ x) (fun b=>ok b/\b<(w.setCell ⟨g,i,none⟩ x).heap.size/\b≠g) v l:=
 aH.more F (aH.aDQ F h (fI (fun h=>h.2.2 rfl))) (fun b a=>⟨a.1,by rw[jQ];exact a.2.1,a.2.2⟩)
theorem Zn{l:List Ru}(h:aM yP 5 e w base ok (.slice (some ⟨g,0,none⟩) n c) l)(m:k<l.length){vt vc vo:Value}(t:oG w (fun b=>ok b/\b<w.heap.size/\b≠g) vt l[k].aDR)(o:aH KD w (fun b=>ok b/\b<w.heap.size/\b≠g) vc l[k].cond)(q:aH kB w (fun b=>ok b/\b<w.heap.size/\b≠g) vo l[k].aDX):
 aM yP 5 e (((w.setCell ⟨g,k * 5+2,none⟩ vt).setCell ⟨g,k * 5+3,none⟩ vc).setCell ⟨g,k * 5+4,none⟩ vo) base ok (.slice (some ⟨g,0,none⟩) n c) l:=by
 have h1:=aM.setAt bL (j:=2) (x:=vt) (y:=l[k]) h m qe (by rintro r ⟨a,b,d,rfl,f⟩;exact⟨vt,b,d,rfl,f.1,t,f.2.2.1,f.2.2.2⟩);rw[List.set_getElem_self] at h1;have p:=eI dU (i:=k * 5+2) (x:=vt) o;have h2:=aM.setAt bL (j:=3) (x:=vc) (y:=l[k]) h1 m qe (by rintro r ⟨a,b,d,rfl,f⟩;exact⟨a,vc,d,rfl,f.1,f.2.1,p,f.2.2.2⟩);rw[List.set_getElem_self] at h2;have s:=eI aO (i:=k * 5+3) (x:=vc) (eI aO (i:=k * 5+2) (x:=vt) q);have h3:=aM.setAt bL (j:=4) (x:=vo) (y:=l[k]) h2 m qe (by rintro r ⟨a,b,d,rfl,f⟩;exact⟨a,b,vo,rfl,f.1,f.2.1,f.2.2.1,s⟩);rw[List.set_getElem_self] at h3;exact h3
theorem Zo{lv:Nat}{l:List Po}(h:aM (qM (lv+1)) 7 e w base ok (.slice (some ⟨g,0,none⟩) n c) l)(o:k<l.length){vt vr vk vo:Value}(hp:fO lv w (fun b=>ok b/\b<w.heap.size/\b≠g) l[k] vt vr vk vo):
 aM (qM (lv+1)) 7 e (((((((w.setCell ⟨g,k * 7,none⟩ (.string l[k].id)).setCell ⟨g,k * 7+1,none⟩ (.bool l[k].set)).setCell ⟨g,k * 7+2,none⟩ (.int .i64 l[k].alg)).setCell ⟨g,k * 7+3,none⟩ vt).setCell ⟨g,k * 7+4,none⟩ vr).setCell ⟨g,k * 7+5,none⟩ vk).setCell ⟨g,k * 7+6,none⟩ vo) base ok (.slice (some ⟨g,0,none⟩) n c) l:=by
 have g0:=aM.setAt (bB (lv+1)) (j:=0) (x:= .string l[k].id) (y:=l[k]) h o qe (by rintro r ⟨a,b,d,f,rfl,m⟩;exact⟨a,b,d,f,rfl,m⟩);rw[List.set_getElem_self] at g0;have g1:=aM.setAt (bB (lv+1)) (j:=1) (x:= .bool l[k].set) (y:=l[k]) g0 o qe (by rintro r ⟨a,b,d,f,rfl,m⟩;exact⟨a,b,d,f,rfl,m⟩);rw[List.set_getElem_self] at g1;have g2:=aM.setAt (bB (lv+1)) (j:=2) (x:= .int .i64 l[k].alg) (y:=l[k]) g1 o qe (by rintro r ⟨a,b,d,f,rfl,m⟩;exact⟨a,b,d,f,rfl,m⟩);rw[List.set_getElem_self] at g2;have p:=(eI aS (i:=k * 7+2) (x:= .int .i64 l[k].alg) (eI aS (i:=k * 7+1) (x:= .bool l[k].set) (eI aS (i:=k * 7+0) (x:= .string l[k].id) hp.2.2.1)));have g3:=aM.setAt (bB (lv+1)) (j:=3) (x:=vt) (y:=l[k]) g2 o qe (by rintro r ⟨a,b,d,f,rfl,m⟩;exact⟨vt,b,d,f,rfl,m.1,m.2.1,p,m.2.2.2.1,m.2.2.2.2.1,m.2.2.2.2.2⟩);rw[List.set_getElem_self] at g3;have q:=(eI bL (i:=k * 7+3) (x:=vt) (eI bL (i:=k * 7+2) (x:= .int .i64 l[k].alg) (eI bL (i:=k * 7+1) (x:= .bool l[k].set) (eI bL (i:=k * 7+0) (x:= .string l[k].id) hp.2.2.2.1))));have g4:=aM.setAt (bB (lv+1)) (j:=4) (x:=vr) (y:=l[k]) g3 o qe (by rintro r ⟨a,b,d,f,rfl,m⟩;exact⟨a,vr,d,f,rfl,m.1,m.2.1,m.2.2.1,q,m.2.2.2.2.1,m.2.2.2.2.2⟩);rw[List.set_getElem_self] at g4;have s:=(eI (bB lv) (i:=k * 7+4) (x:=vr) (eI (bB lv) (i:=k * 7+3) (x:=vt) (eI (bB lv) (i:=k * 7+2) (x:= .int .i64 l[k].alg) (eI (bB lv) (i:=k * 7+1) (x:= .bool l[k].set) (eI (bB lv) (i:=k * 7+0) (x:= .string l[k].id) hp.2.2.2.2.1)))));have g5:=aM.setAt (bB (lv+1)) (j:=5) (x:=vk) (y:=l[k]) g4 o qe (by rintro r ⟨a,b,d,f,rfl,m⟩;exact⟨a,b,vk,f,rfl,m.1,m.2.1,m.2.2.1,m.2.2.2.1,s,m.2.2.2.2.2⟩)
 rw[List.set_getElem_self] at g5;have t:=(eI aO (i:=k * 7+5) (x:=vk) (eI aO (i:=k * 7+4) (x:=vr) (eI aO (i:=k * 7+3) (x:=vt) (eI aO (i:=k * 7+2) (x:= .int .i64 l[k].alg) (eI aO (i:=k * 7+1) (x:= .bool l[k].set) (eI aO (i:=k * 7+0) (x:= .string l[k].id) hp.2.2.2.2.2))))));have g6:=aM.setAt (bB (lv+1)) (j:=6) (x:=vo) (y:=l[k]) g5 o qe (by rintro r ⟨a,b,d,f,rfl,m⟩;exact⟨a,b,d,vo,rfl,m.1,m.2.1,m.2.2.1,m.2.2.2.1,m.2.2.2.2.1,t⟩);rw[List.set_getElem_self] at g6;exact g6
end
end Go.Proofs.YtheabjeppmdmiaaGreatDoor

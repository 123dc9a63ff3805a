/- Lemmas. -/
import Derived.Test.YtlfngkelmbdehaaGreatDoorMaj
namespace Go.Proofs.YtlfngkelmbdehaaGreatDoor
open Go.RowKit
set_option linter.unusedVariables false
set_option linter.unusedSimpArgs false
set_option maxHeartbeats 16000000
open _root_.Go.Proofs.Tryz
set_option maxRecDepth 20000
theorem Rq{p:Prop}(h:p:=by
 go_wp2_with fail;refine HI.o.mono ?_;rintro e w1 ⟨rfl,hb_⟩;have HB1:=aA hb_;clear hb_ HI;go_wp2;go_returns;exact⟨by rw[<-HA.o];rfl,HB1.o⟩):p:=h
theorem XM{ok:nP}(v:Value)(l:List tS)(N:bY)(p:Nat)(w:World)(h:aH mP w ok v l)(b:iZ w p 0 (.string N)):Calls prog 203 #[v,.func (.func 204) #[] #[.pointer (some ⟨p,0,none⟩)]] w (aP (.bool (l.any (fun x=>decide (x.aDd=N)))) w):=by
 have HI:=aA (XH v l N p w h b);have HA:=aA (sV (fun x=>decide (x.aDd=N)) l);obtain⟨a,c,rfl,f⟩:=h.slice;unfold aP at *;generalize eS (fun x=>decide (x.aDd=N)) l=n at *;generalize l.any (fun x=>decide (x.aDd=N))=d at *;clear h;go_enter func203,ntmps203;exact Rq
theorem XN{ok:nP}(v:Value)(l:List cF)(w:World)(h:aH pU w ok v l)(b:True):Calls prog 119 #[v,.func (.func 120) #[] #[]] w (aP (.bool (l.any (fun x=>decide (256<x.log.length)))) w):=by
 have HI:=aA (XJ v l w h b);have HA:=aA (sV (fun x=>decide (256<x.log.length)) l);obtain⟨a,c,rfl,f⟩:=h.slice;unfold aP at *;generalize eS (fun x=>decide (256<x.log.length)) l=n at *;generalize l.any (fun x=>decide (256<x.log.length))=d at *;clear h;go_enter func119,ntmps119;exact Rq
theorem TG{ok:nP}(v:Value)(l:List Ob)(N:bY)(p:Nat)(w:World)(h:aH jT w ok v l)(b:iZ w p 0 (.string N)):Calls prog 116 #[v,.func (.func 117) #[] #[.pointer (some ⟨p,0,none⟩)]] w (aP (.bool (l.any (fun x=>decide (x.aCF=2)&&decide (x.arg=N)))) w):=by
 have HI:=aA (TF v l N p w h b);have HA:=aA (sV (fun x=>decide (x.aCF=2)&&decide (x.arg=N)) l);obtain⟨a,c,rfl,f⟩:=h.slice;unfold aP at *;generalize eS (fun x=>decide (x.aCF=2)&&decide (x.arg=N)) l=n at *;generalize l.any (fun x=>decide (x.aCF=2)&&decide (x.arg=N))=d at *;clear h;go_enter func116,ntmps116;exact Rq
theorem XO{ok:nP}(v:Value)(l:List vQ)(N:bY)(T:Int)(p q:Nat)(w:World)(h:aH sQ w ok v l)(b:iZ w p 0 (.string N)/\iZ w q 0 (.int .i64 T)/\(∀x∈l,0<=x.aCN/\x.aCN<=T/\T<=1099511627776)):Calls prog 162 #[v,.func (.func 163) #[] #[.pointer (some ⟨p,0,none⟩),.pointer (some ⟨q,0,none⟩)]] w (aP (.bool (l.any (fun x=>decide (x.aCT=N)&&(x.open_&&decide (100<=T - x.aCN))))) w):=by
 have HI:=aA (XK v l N T p q w h b);have HA:=aA (sV (fun x=>decide (x.aCT=N)&&(x.open_&&decide (100<=T - x.aCN))) l);obtain⟨a,c,rfl,f⟩:=h.slice;unfold aP at *;generalize eS (fun x=>decide (x.aCT=N)&&(x.open_&&decide (100<=T - x.aCN))) l=n at *;generalize l.any (fun x=>decide (x.aCT=N)&&(x.open_&&decide (100<=T - x.aCN)))=d at *;clear h;go_enter func162,ntmps162;exact Rq
theorem Hb(x y:ByteArray×ByteArray)(w:World):Sem.run prog (binOp .eql 122 (.agg #[.string x.1,.string x.2]) (.agg #[.string y.1,.string y.2])) w=.ok (.bool (decide (x=y))) w:=by
 obtain⟨b,c⟩:=x;obtain⟨d,e⟩:=y;have u9:=underlying9;have a9:=isAgg9;have z9:=sizeOf9;have a:prog.underlying 122=some (.struct (prog.fieldsOf 122)):=by kernel_rfl
 have hp:prog.stoodInHeld 122=false:=by kernel_rfl
 rw[run_eql_struct,show (10000:Nat)=9999+1 from rfl,run_equalIn_agg w 9999 122 _ _ a hp];simp only[Program.fieldsOf,underlying122];go_simp;by_cases h1:b=d<;>by_cases h2:c=e<;>simp[h1,h2,CT]
theorem By{ok:nP}(v:Value)(l:List wQ)(x:wQ)(w:World)(h:aH qQ w ok v l):Calls prog 87 #[v,.agg #[.string x.1,.string x.2]] w (aP (.int .i64 (eS (fun y=>decide (x=y)) l)) w):=by
 obtain⟨a,c,rfl,F⟩:=h.slice;have HB0:=aA (aB w (.cells #[.string x.1,.string x.2] 122));have m:=aA (aK w (.cells #[.string x.1,.string x.2] 122) _ rfl);have o:=aA (h.on cZ HB0.o);obtain⟨w1,j⟩:=xE (w.alloc (.cells #[.string x.1,.string x.2] 122));rw[<-j] at o HB0 m;have z:=aA j;clear h j;obtain⟨d,f⟩:∃d:wQ->Bool,d=(fun y=>decide (x=y)):=⟨_,rfl⟩;have t:=aA f;rw[<-f];clear f;unfold aP;go_enter func87,ntmps87;go_wp2;rw[<-z.o];go_loopw [5,8] (fun _ i wr=>∃k:Nat,k<=l.length/\i=.int .i64 k/\Hid (∀i (hi:i<l.length),i<k->d l[i]=false)/\Hid (Below w1.heap.size w1 wr)) (fun _ i _=>l.length - (intOf i).toNat)
 case atStart=>exact AY
 case round=>
  obtain⟨k,E,rfl,HR,HB⟩:=hrel;by_cases q:k<l.length
  .have hk1:(k:Int)<(l.length:Int):=qo;obtain⟨b,off,r,rfl,_,D,⟨rfl,A⟩,e⟩:=aH.at cZ (o.o.on cZ HB.o) q qe;have C:=e 0 _ rfl;have G:=e 1 _ rfl;rw[Nat.add_zero] at C;have n:=qK m HB.o;obtain⟨⟨H,I⟩,_⟩:=fH n.o;have J:=aD n.o;have p:=Hb x l[k];have HL:Hid (∀g,d l[k]=g->((if g=true then eS d l=(k:Int) else ∀i (hi:i<l.length),i<k+1->d l[i]=false):Prop)):=aA (fun g hg=>by
    cases g
    .exact Wm
    .rw[iP rfl];exact IL q HR.o hg)
   have s:d l[k]=decide (x=l[k]):=by rw[t.o]
   rw[<-s] at p;clear HR e A s;generalize B:l[k]=y at *;generalize d y=g at *;clear B;go_wp2;go_quiet (fail)
   have HB':=aA (fX HB.o ⟨nq,rfl⟩);clear p
   cases g
   .exact Wn
   .exact QCc
  .exact QBK
theorem QI{ok:nP}(v:Value)(l:List wQ)(x:wQ)(w:World)(h:aH qQ w ok v l):Calls prog 53 #[v,.agg #[.string x.1,.string x.2]] w (aP (.bool (l.any (fun y=>decide (x=y)))) w):=by
 have HB0:=aA (aB w (.cells #[.string x.1,.string x.2] 122));have HI:=aA (By v l x _ (h.on cZ HB0.o));have HA:=aA (sV (fun y=>decide (x=y)) l);obtain⟨a,c,rfl,b⟩:=h.slice;unfold aP at *;generalize eS (fun y=>decide (x=y)) l=n at *;clear h;go_enter func53,ntmps53;exact QCe
theorem QBS{p:Prop}(h:p:=by
 exact⟨rfl,((HB1.o.setCell (show w.heap.size<=w.heap.size+1+1 by omega) _).setCell (show w.heap.size<=w.heap.size+1+1 by omega) _).setCell (show w.heap.size<=w.heap.size+1+1 by omega) _⟩):p:=h
theorem aCf{w:World}{g:Nat}{a0:Value}{t:TypeId}(h:w.heap[g]? =some (.cells #[a0] t (0,0))):(w.cell? ⟨g,0,none⟩=some a0)/\w.frozen? ⟨g,0,none⟩=false:=⟨aQ h 0 _ rfl,aR h 0⟩
theorem bT{w:World}{g:Nat}{a0 a a2 a3 a4 a5 d e f a9 b c a12:Value}{t:TypeId}(h:w.heap[g]? =some (.cells #[a0,a,a2,a3,a4,a5,d,e,f,a9,b,c,a12] t (0,0))):(w.cell? ⟨g,0,none⟩=some a0/\w.cell? ⟨g,1,none⟩=some a/\w.cell? ⟨g,2,none⟩=some a2/\w.cell? ⟨g,3,none⟩=some a3/\w.cell? ⟨g,4,none⟩=some a4/\w.cell? ⟨g,5,none⟩=some a5/\w.cell? ⟨g,6,none⟩=some d/\w.cell? ⟨g,7,none⟩=some e/\w.cell? ⟨g,8,none⟩=some f/\w.cell? ⟨g,9,none⟩=some a9/\w.cell? ⟨g,10,none⟩=some b/\w.cell? ⟨g,11,none⟩=some c/\w.cell? ⟨g,12,none⟩=some a12)/\w.frozen? ⟨g,0,none⟩=false/\w.frozen? ⟨g,1,none⟩=false/\w.frozen? ⟨g,2,none⟩=false/\w.frozen? ⟨g,3,none⟩=false/\w.frozen? ⟨g,4,none⟩=false/\w.frozen? ⟨g,5,none⟩=false/\w.frozen? ⟨g,6,none⟩=false/\w.frozen? ⟨g,7,none⟩=false/\w.frozen? ⟨g,8,none⟩=false/\w.frozen? ⟨g,9,none⟩=false/\w.frozen? ⟨g,10,none⟩=false/\w.frozen? ⟨g,11,none⟩=false/\w.frozen? ⟨g,12,none⟩=false:=⟨⟨aQ h 0 _ rfl,aQ h 1 _ rfl,aQ h 2 _ rfl,aQ h 3 _ rfl,aQ h 4 _ rfl,aQ h 5 _ rfl,aQ h 6 _ rfl,aQ h 7 _ rfl,aQ h 8 _ rfl,aQ h 9 _ rfl,aQ h 10 _ rfl,aQ h 11 _ rfl,aQ h 12 _ rfl⟩,aR h 0,aR h 1,aR h 2,aR h 3,aR h 4,aR h 5,aR h 6,aR h 7,aR h 8,aR h 9,aR h 10,aR h 11,aR h 12⟩
theorem OC(s:Sto)(N:bY):(eS (fun x=>gR N x.id) s.aCD= -1/\aW s N=(s.aCD.length,false))\/∃(k:Nat) (a:k<s.aCD.length),eS (fun x=>gR N x.id) s.aCD=(k:Int)/\aW s N=(k,decide (s.aCD[k].id=N)):=by
 by_cases h:s.aCD.findIdx (fun x=>gR N x.id)<s.aCD.length
 .refine .inr ⟨_,h,by unfold eS;rw[iP h],?_⟩;unfold aW;dsimp only;rw[iP h,gE h];simp
 .refine .inl ⟨by unfold eS;rw[iN h],?_⟩;unfold aW;dsimp only;rw[iN h]
theorem EN(s:Sto)(N:bY):(eR s N=none/\(aW s N).2=false)\/∃(k:Nat) (a:k<s.aCD.length),aW s N=(k,true)/\eR s N=some s.aCD[k]:=by
 rcases OC s N with ⟨_,h⟩|⟨k,a,_,h⟩
 .exact .inl ⟨by unfold eR;rw[h];rfl,by rw[h]⟩
 .by_cases b:s.aCD[k].id=N
  .rw[dX b] at h;exact .inr ⟨k,a,h,by unfold eR;rw[h];simp[a]⟩
  .rw[dF b] at h;exact .inl ⟨by unfold eR;rw[h];rfl,by rw[h]⟩
theorem eY.sl{w:World}{ok:nP}{s:Sto}{vc vr vn vo vt vu vk vb:Value}(h:eY w ok s vc vr vn vo vt vu vk vb):∃c d ra rc g i j k l m n o e f a b,vc=.slice c s.aCD.length d/\s.aCD.length<=1000000/\vr=.slice ra s.aCG.length rc/\s.aCG.length<=1000000/\vn=.slice g s.aCL.length i/\s.aCL.length<=1000000/\vo=.slice j s.aCR.length k/\s.aCR.length<=1000000/\vt=.slice l s.aCE.aCO.length m/\s.aCE.aCO.length<=1000000/\vu=.slice n s.aCE.aCH.length o/\s.aCE.aCH.length<=1000000/\vk=.slice e s.aCE.aCS.length f/\s.aCE.aCS.length<=1000000/\vb=.slice a s.aCE.aCU.length b/\s.aCE.aCU.length<=1000000:=by
 obtain⟨c,d,rfl,b0⟩:=h.aCD.slice;obtain⟨ra,rc,rfl,b1⟩:=h.aCG.slice;obtain⟨g,i,rfl,b2⟩:=h.aCL.slice;obtain⟨j,k,rfl,p⟩:=h.aCR.slice;obtain⟨l,m,rfl,q⟩:=h.aCE.2.2.1.slice;obtain⟨n,o,rfl,b5⟩:=h.aCE.2.2.2.1.slice;obtain⟨e,f,rfl,b6⟩:=h.aCE.2.2.2.2.1.slice;obtain⟨a,b,rfl,b7⟩:=h.aCE.2.2.2.2.2.slice;exact⟨c,d,ra,rc,g,i,j,k,l,m,n,o,e,f,a,b,rfl,b0,rfl,b1,rfl,b2,rfl,p,rfl,q,rfl,b5,rfl,b6,rfl,b7⟩
abbrev fR(s:Sto)(a:oD)(b:Nat)(j:oD)(k:Nat)(l:oD)(m:Nat)(n:oD)(o:Nat)(p:oD)(q:Nat)(c:oD)(d:Nat)(e:oD)(f:Nat)(g:oD)(i:Nat):Array Value:=#[.int .i64 s.aCN,.slice a s.aCD.length b,.slice j s.aCG.length k,.slice l s.aCL.length m,.slice n s.aCR.length o,.string s.aCE.id,.bool s.aCE.set,.int .i64 s.aCE.alg,.slice p s.aCE.aCO.length q,.slice c s.aCE.aCH.length d,.slice e s.aCE.aCS.length f,.slice g s.aCE.aCU.length i,.int .i64 s.aCQ]
theorem IN{ok:nP}(s:Sto)(vc vr vn vo vt vu vk vb:Value)(N:bY)(w:World)(h:eY w ok s vc vr vn vo vt vu vk vb):Calls prog 22 #[.agg (aV s vc vr vn vo vt vu vk vb),.string N] w (aP (.tuple #[.int .i64 ((aW s N).1:Nat),.bool (aW s N).2]) w):=by
 obtain⟨q,t,ra,rc,E,G,H,I,J,K,L,M,C,D,o,p,rfl,_,rfl,_,rfl,_,rfl,_,rfl,_,rfl,_,rfl,_,rfl,_⟩:=h.sl;obtain⟨W0,c⟩:=xE ((w.alloc (.cells (fR s q t ra rc E G H I J K L M C D o p) 40)).alloc (.cells #[.string N] 9));have f:Hid (Below w.heap.size w W0):=aA (by rw[c];exact aC (aB _ _) (aB _ _));have A:Hid (W0.heap[w.heap.size]? =some (.cells (fR s q t ra rc E G H I J K L M C D o p) 40 (0,0))):=aA (by rw[c];exact aE (aK _ _ _ rfl) (aB _ _));have B:Hid (W0.heap[w.heap.size+1]? =some (.cells #[.string N] 9 (0,0))):=aA (by rw[c];exact aK _ _ _ qs);obtain⟨R,m,l,d⟩:=dC c (XG _ s.aCD N (w.heap.size+1) W0 (aH.on dS h.aCD f.o) ⟨aQ B.o 0 _ rfl,aD B.o⟩) (aH.on dS h.aCD f.o) (OC s N);obtain⟨F,v⟩:∃F,aW s N=F:=⟨_,rfl⟩;rw[v] at d ⊢;unfold aP aV at *;generalize eS (fun x=>gR N x.id) s.aCD=n at *;clear h c v;go_enter func22,ntmps22;go_wp2_with fail;rw[<-R.o];refine m.o.mono ?_;rintro e w1 ⟨rfl,a⟩;have j:=qB f a;have P:=aA (l.o.on dS a);replace A:=qK A a;obtain⟨⟨V,W,A2,A3,A4,A5,A6,A7,A8,A9,X,Y,Z⟩,_⟩:=bT A.o;have zA:=aD A.o;replace B:=qK B a;obtain⟨B0,_⟩:=aCf B.o;have zB:=aD B.o;clear a m l
 rcases d.o with ⟨g,i⟩|⟨k,T,g,i⟩
 .subst g i;clear d;go_wp2;go_returns;exact⟨rfl,j.o⟩
 .subst g i;obtain⟨b,off,r,rfl,_,ab,⟨vf,vl,rfl,S⟩,z⟩:=aH.at dS P.o T qe;have U:=z 0 _ rfl;rw[Nat.add_zero] at U;have ae:(k:Int)<(s.aCD.length:Int):=qo;have ad:¬(k:Int)<0:=qo;clear d z S;generalize y:s.aCD[k].id=aa at *;have Q:=aA y;clear y;go_wp2;go_quiet (fail)
  have O:=aA (fX j.o ⟨nq,rfl⟩);go_wp2;go_returns;exact⟨by rw[Q.o,<-jD];rfl,O.o⟩
theorem IP{ok:nP}(s:Sto)(vc vr vn vo vt vu vk vb:Value)(N M:bY)(w:World)(h:eY w ok s vc vr vn vo vt vu vk vb):Calls prog 25 #[.agg (aV s vc vr vn vo vt vu vk vb),.string N,.string M] w (aP (.bool (rQ s N M)) w):=by
 obtain⟨d,f,ra,rc,j,k,l,m,o,p,q,r,g,i,b,c,rfl,_,rfl,_,rfl,_,rfl,_,rfl,_,rfl,_,rfl,_,rfl,_⟩:=h.sl;obtain⟨W0,a⟩:=xE (w.alloc (.cells (fR s d f ra rc j k l m o p q r g i b c) 40));have HB0:Hid (Below w.heap.size w W0):=aA (by rw[a];exact aB _ _);have A:Hid (W0.heap[w.heap.size]? =some (.cells (fR s d f ra rc j k l m o p q r g i b c) 40 (0,0))):=aA (by rw[a];exact aK _ _ _ rfl);have t:=aA a;have HI:=aA (QI _ s.aCR (N,M) W0 (aH.on cZ h.aCR HB0.o));have e:rQ s N M=s.aCR.any (fun y=>decide ((N,M)=y)):=by unfold rQ;congr 1;funext y;rw[Bool.eq_iff_iff];simp[eq_comm]
 rw[e];unfold aP aV at *;generalize s.aCR.any (fun y=>decide ((N,M)=y))=n at *;dsimp only at HI;clear h a e;obtain⟨⟨a0,v,a2,a3,a4,a5,B,C,D,a9,x,z,a12⟩,_⟩:=bT A.o;go_enter func25,ntmps25;go_wp2_with fail;rw[<-t.o];exact Rp
theorem Bz(c:cF)(N:bY):(eS (fun x:pO=>decide (x.1=N)) c.aCJ= -1/\gH c N=bD)\/∃(k:Nat) (b:k<c.aCJ.length),eS (fun x:pO=>decide (x.1=N)) c.aCJ=(k:Int)/\gH c N=c.aCJ[k].2:=by
 have a:c.aCJ.find? (fun f=>decide (f.1=N))=c.aCJ[c.aCJ.findIdx (fun f=>decide (f.1=N))]? :=List.find?_eq_getElem?_findIdx;by_cases h:c.aCJ.findIdx (fun x=>decide (x.1=N))<c.aCJ.length
 .refine .inr ⟨_,h,by unfold eS;rw[iP h],?_⟩;unfold gH;rw[a,gE h];rfl
 .refine .inl ⟨by unfold eS;rw[iN h],?_⟩;unfold gH;rw[a,List.getElem?_eq_none qo];rfl
abbrev oU(c:cF)(a:oD)(b:Nat)(d:oD)(e:Nat):Array Value:=#[.string c.id,.string c.aC6,.string c.aCZ,.slice a c.aCJ.length b,.slice d c.log.length e]
theorem JX{ok:nP}(c:cF)(y z:Value)(N:bY)(w:World)(h:oR w ok c y z):Calls prog 51 #[.agg #[.string c.id,.string c.aC6,.string c.aCZ,y,z],.string N] w (aP (dA (gH c N)) w):=by
 obtain⟨p,q,rfl,_⟩:=h.2.2.2.1.slice;obtain⟨la,lc,rfl,_⟩:=h.2.2.2.2.slice;obtain⟨W0,a⟩:=xE (((w.alloc (.cells (oU c p q la lc) 113)).alloc (.cells #[.string N] 9)).alloc (.cells fT 44));have i:Hid (Below w.heap.size w W0):=aA (by rw[a];exact aC (aC (aB _ _) (aB _ _)) (aB _ _));have A:Hid (W0.heap[w.heap.size]? =some (.cells (oU c p q la lc) 113 (0,0))):=aA (by rw[a];exact aE (aE (aK _ _ _ rfl) (aB _ _)) (aB _ _));have B:Hid (W0.heap[w.heap.size+1]? =some (.cells #[.string N] 9 (0,0))):=aA (by rw[a];exact aE (aK _ _ _ qs) (aB _ _));have R:Hid (W0.heap[w.heap.size+1+1]? =some (.cells fT 44 (0,0))):=aA (by rw[a];exact aK _ _ _ qs);obtain⟨E,o,m,f⟩:=dC a (TD _ c.aCJ N (w.heap.size+1) W0 (aH.on bP h.2.2.2.1 i.o) ⟨aQ B.o 0 _ rfl,aD B.o⟩) (aH.on bP h.2.2.2.1 i.o) (Bz c N);obtain⟨F,s⟩:∃F,gH c N=F:=⟨_,rfl⟩;rw[s] at f ⊢;unfold aP at *;generalize eS (fun x:pO=>decide (x.1=N)) c.aCJ=n at *;clear h a s;go_enter func51,ntmps51;go_wp2_with fail;rw[<-E.o];refine o.o.mono ?_;rintro e w1 ⟨rfl,d⟩;have HB1:=qB i d;have C:=aA (m.o.on bP d);replace A:=qK A d;obtain⟨⟨L,M,O,P,Q⟩,_⟩:=dL A.o;have Y:=aD A.o;replace R:=qK R d;obtain⟨⟨S,T,U⟩,_⟩:=cE R.o;have Z:=aD R.o;have f0:=aR R.o 0;have f1:=aR R.o 1;have f2:=aR R.o 2;clear d o m
 rcases f.o with ⟨j,l⟩|⟨k,H,j,l⟩
 .subst j l;clear f;go_wp2;refine bR (.agg #[.int .i64 0,.int .i64 0,.string ⟨#[]⟩]) ?_;exact QBS
 .subst j l;obtain⟨b,off,r,rfl,_,V,⟨rfl,G⟩,g⟩:=aH.at bP C.o H qe;have I:=g 1 _ rfl;have J:=g 2 _ rfl;have K:=g 3 _ rfl;have X:(k:Int)<(c.aCJ.length:Int):=qo;have W:decide ((k:Int) ≥ 0)=true:=dX qo;clear f g G;generalize t:c.aCJ[k].2=v at *;have D:=aA t;clear t;obtain⟨v1,v2,v3⟩:=v;dsimp only at I J K;go_wp2;refine bR (.agg #[.int .i64 v1,.int .i64 v2,.string v3]) ?_;exact⟨by rw[D.o];rfl,((HB1.o.setCell (show w.heap.size<=w.heap.size+1+1 by omega) _).setCell (show w.heap.size<=w.heap.size+1+1 by omega) _).setCell (show w.heap.size<=w.heap.size+1+1 by omega) _⟩
theorem QCF{p:Prop}(h:p:=by
 repeat (refine Below.setCell ?_ (by first|exact lR _|exact Nat.le_succ _) _)
 first|exact HKc.o.1|exact HKa.o.1):p:=h
def Kq(w:World)(p q:Nat)(a b:Obj)(w':World):Prop:=Below w.heap.size w w'/\w'.heap[p]? =some a/\w'.heap[q]? =some b
theorem Kq.on{w w' d:World}{p q:Nat}{b c:Obj}(h:Kq w p q b c w')(a:Below w'.heap.size w' d):Kq w p q b c d:=⟨aC h.1 a,aE h.2.1 a,aE h.2.2 a⟩
theorem JY(w:World)(a b:Obj):Kq w w.heap.size (w.heap.size+1) a b ((w.alloc a).alloc b):=
 ⟨aC (aB _ _) (aB _ _),aE (aK w a _ rfl) (aB _ _),aK _ b _ qs⟩
def TH(c:cF)(w:World)(a b:Value)(w':World):Prop:=aM lC 4 161 w' w.heap.size (fun _=>True) a c.aCJ/\aM mP 3 193 w' w.heap.size (fun _=>True) b c.log/\Below w.heap.size w w'
def xO(c:cF)(w:World)(e:Ending)(w':World):Prop:=∃a b,e=.returned (.agg #[.string c.id,.string c.aC6,.string c.aCZ,a,b])/\TH c w a b w'
theorem ZK{W w:World}{g:Nat}{a b c d e:Value}(h:Below W.heap.size W w)(f:W.heap.size<=g):Below W.heap.size W (((((w.setCell ⟨g,0,none⟩ a).setCell ⟨g,1,none⟩ b).setCell ⟨g,2,none⟩ c).setCell ⟨g,3,none⟩ d).setCell ⟨g,4,none⟩ e):=
 ((((h.setCell f _).setCell f _).setCell f _).setCell f _).setCell f _
theorem aM.aDD{α:Type}{R:Rep α}{s:Nat}{e:TypeId}{w:World}{base:Nat}{v:Value}{l:List α}{g i:Nat}{x:Value}(F:Firm R s)(h:aM R s e w base (fun _=>True) v l)(f:g<base)(a:∀w ok ok' cs x,R w ok cs x->R w ok' cs x):aM R s e (w.setCell ⟨g,i,none⟩ x) base (fun _=>True) v l:=by
 obtain⟨cs,h1,h2⟩:=h;refine⟨cs,lI h1 (aI x) (fun b c=>qA ((h1.lt b c).1)),h2.mono fun r y d=> ?_⟩;exact a _ _ _ _ _ (F.aCM (ok:=fun b=>b≠g) (a _ _ _ _ _ d) (aI x))
theorem zL{α:Type}{enc:α->List Value}{good:α->Prop}(w:World)(ok ok':nP)(cs:List Value)(x:α)(h:mG enc good w ok cs x):mG enc good w ok' cs x:=h
theorem FP{ok:nP}(c:cF)(B C:Value)(w:World)(h:oR w ok c B C):Calls prog 84 #[.agg #[.string c.id,.string c.aC6,.string c.aCZ,B,C]] w (xO c w):=by
 obtain⟨l,m,rfl,_⟩:=h.2.2.2.1.slice;obtain⟨la,lc,rfl,_⟩:=h.2.2.2.2.slice;obtain⟨a,g⟩:∃a:Obj,a=.cells (oU c l m la lc) 113:=⟨_,rfl⟩;obtain⟨b,t⟩:∃b:Obj,b=.cells #[.string ⟨#[]⟩,.string ⟨#[]⟩,.string ⟨#[]⟩,.slice none 0 0,.slice none 0 0] 113:=⟨_,rfl⟩;obtain⟨W0,f⟩:=xE ((w.alloc a).alloc b);have k:=aA (f▸JY w a b:Kq w w.heap.size (w.heap.size+1) a b W0);have R:=aA (show W0.heap.size=w.heap.size+1+1 by rw[f];simp);rw[g,t] at f;have F:=aA f;have i:Hid (∀w',Kq w w.heap.size (w.heap.size+1) a b w'->w'.cell? ⟨w.heap.size,0,none⟩=some (.string c.id)/\w'.cell? ⟨w.heap.size,1,none⟩=some (.string c.aC6)/\w'.cell? ⟨w.heap.size,2,none⟩=some (.string c.aCZ)/\w'.cell? ⟨w.heap.size,3,none⟩=some (.slice l c.aCJ.length m)/\w'.cell? ⟨w.heap.size,4,none⟩=some (.slice la c.log.length lc)):=aA (fun w' d=>by
  have h:=d.2.1;rw[g] at h;exact(dL h).1)
 have j:Hid (∀w',Kq w w.heap.size (w.heap.size+1) a b w'->(w'.frozen? ⟨w.heap.size,3,none⟩=false/\w'.frozen? ⟨w.heap.size,4,none⟩=false/\w.heap.size<w'.heap.size)/\(w'.cell? ⟨w.heap.size+1,0,none⟩=some (.string ⟨#[]⟩)/\w'.cell? ⟨w.heap.size+1,1,none⟩=some (.string ⟨#[]⟩)/\w'.cell? ⟨w.heap.size+1,2,none⟩=some (.string ⟨#[]⟩)/\w'.cell? ⟨w.heap.size+1,3,none⟩=some (.slice none 0 0)/\w'.cell? ⟨w.heap.size+1,4,none⟩=some (.slice none 0 0))/\w'.frozen? ⟨w.heap.size+1,0,none⟩=false/\w'.frozen? ⟨w.heap.size+1,1,none⟩=false/\w'.frozen? ⟨w.heap.size+1,2,none⟩=false/\w'.frozen? ⟨w.heap.size+1,3,none⟩=false/\w'.frozen? ⟨w.heap.size+1,4,none⟩=false/\w.heap.size+1<w'.heap.size):=aA (fun w' d=>by
  have h:=d.2.2;rw[t] at h;have h1:=d.2.1;rw[g] at h1;obtain⟨q,L,M,N,O,P⟩:=dL h;exact⟨⟨aR h1 3,aR h1 4,aD h1⟩,q,L,M,N,O,P,aD h⟩)
 have y:Hid (∀w',Kq w w.heap.size (w.heap.size+1) a b w'->w.heap.size+1+1<=w'.heap.size):=aA (fun w' d=>qA (aD d.2.2));have z:Hid (∀w',Kq w w.heap.size (w.heap.size+1) a b w'->Calls prog 144 #[.slice l c.aCJ.length m] w' (bV lC 4 161 ok c.aCJ w')):=aA (fun w' d=>TB _ _ _ (aH.on bP h.2.2.2.1 d.1));have A:Hid (∀w',Kq w w.heap.size (w.heap.size+1) a b w'->Calls prog 111 #[.slice la c.log.length lc] w' (bV mP 3 193 ok c.log w')):=aA (fun w' d=>CN _ _ _ (aH.on cC h.2.2.2.2 d.1));unfold bV at z A;have I:=i.o _ k.o;have X:=j.o _ k.o;clear h f g t;go_enter func84,ntmps84;go_wp2;rw[<-F.o];have Q:=aA (Kq.on k.o (Below.refl _ _).drew);obtain⟨S,T,U,V,W⟩:=I;go_region_law
  ((first
    |(go_simp;go_at_call 144;refine(z.o _ (Hid.o (p:=Kq w w.heap.size (w.heap.size+1) a b _) (by assumption))).mono ?_;rintro e wa ⟨va,rfl,r,n⟩;obtain⟨G,H,rfl⟩:=r.slice;have v:=aA (aM.less (eH (enc:=tT) (good:=EG) (ok':=fun _=>True) r) (y.o _ (Hid.o (p:=Kq w w.heap.size (w.heap.size+1) a b _) (by assumption))));(first|(have E:=aA (aM.on cC x.o n))|skip);have HKa:=aA (Kq.on (Hid.o (p:=Kq w w.heap.size (w.heap.size+1) a b _) (by assumption)) n);obtain⟨bb,bc,bd,be,bf⟩:=i.o _ HKa.o;obtain⟨⟨Y,af,ag⟩,⟨ah,ai,aj,ak,al⟩,an,Z,aa,ab,ad,ae⟩:=j.o _ HKa.o;clear n r)
    |(go_simp;go_at_call 111;refine(A.o _ (Hid.o (p:=Kq w w.heap.size (w.heap.size+1) a b _) (by assumption))).mono ?_;rintro e wc ⟨vc,rfl,s,o⟩;obtain⟨J,K,rfl⟩:=s.slice;have x:=aA (aM.less (eH (enc:=CE) (good:=vG) (ok':=fun _=>True) s) (y.o _ (Hid.o (p:=Kq w w.heap.size (w.heap.size+1) a b _) (by assumption))));(first|(have D:=aA (aM.on bP v.o o))|skip);have HKc:=aA (Kq.on (Hid.o (p:=Kq w w.heap.size (w.heap.size+1) a b _) (by assumption)) o);obtain⟨bg,bh,bj,bk,bl⟩:=i.o _ HKc.o;obtain⟨⟨ao,ax,ay⟩,⟨az,a1,a6,a7,a8⟩,ba,aq,ar,au,av,aw⟩:=j.o _ HKc.o;clear o s)))
 all_goals
  go_wp2;refine bR (.agg #[.string c.id,.string c.aC6,.string c.aCZ,.slice G c.aCJ.length H,.slice J c.log.length K]) ?_;refine⟨_,_,rfl,aM.less ?_ (show w.heap.size<=w.heap.size+1+1 by omega),aM.less ?_ (show w.heap.size<=w.heap.size+1+1 by omega),?_⟩
  .repeat (refine aM.aDD bP ?_ (show _<w.heap.size+1+1 by first|exact Nat.lt_succ_self _|exact Nat.lt_succ_of_lt (Nat.lt_succ_self _)) zL)
   first|exact D.o|exact v.o
  .repeat (refine aM.aDD cC ?_ (show _<w.heap.size+1+1 by first|exact Nat.lt_succ_self _|exact Nat.lt_succ_of_lt (Nat.lt_succ_self _)) zL)
   first|exact x.o|exact E.o
  .exact QCF
theorem aX.setCell{α:Type}{R:List Value->α->Prop}{s:Nat}(c:∀r x,R r x->r.length=s){j:Nat}(hj:j<s){x:Value}{y:α}:∀{l:List α} {cs:List Value} {k:Nat} (h:aX R cs l) (b:k<l.length),(∀r,R r l[k]->R (r.set j x) y)->aX R (cs.set (k * s+j) x) (l.set k y)
 | [],_,_,_,b,_=>absurd b qs
 |a::l,cs,0,⟨r,t,e,hr,ht⟩,b,hy=>by
  have d:=c _ _ hr;rw[e,Nat.zero_mul,Nat.zero_add,List.set_append_left _ _ qo];exact⟨_,_,rfl,hy r hr,ht⟩
 |a::l,cs,k+1,⟨r,t,e,hr,ht⟩,b,hy=>by
  have d:=c _ _ hr;have h1:(k+1) * s=k * s+s:=by rw[Nat.add_mul,Nat.one_mul]
  rw[e,List.set_append_right _ _ qo,show (k+1) * s+j - r.length=k * s+j by omega];exact⟨r,_,rfl,hr,aX.setCell c hj ht (by simpa using b) hy⟩
theorem TI{w:World}{base:Nat}{e:TypeId}{s n g c i:Nat}{x:Value}{xs:List Value}(h:w.ownsRow base e s (.slice (some ⟨g,0,none⟩) n c) n xs):(w.setCell ⟨g,i,none⟩ x).ownsRow base e s (.slice (some ⟨g,0,none⟩) n c) n (xs.set i x):=by
 obtain⟨h1,h2⟩:=h;refine⟨by rw[List.length_set];exact h1,?_⟩
 rcases h2 with ⟨a,_⟩|⟨o,cap,cur,a,d,j,k,f,m,l⟩
 .cases a
 .injection a with a _ b;injection a with a;injection a with a _ _;subst a b;refine .inr ⟨g,c,cur.setIfInBounds i x,rfl,d,aG j i x,k,f,by rw[Array.size_setIfInBounds];exact m,?_⟩;rw[Array.toList_setIfInBounds,List.take_set,l]
theorem jK(w:World)(g i:Nat)(x:Value):(w.setCell ⟨g,i,none⟩ x).heap.size=w.heap.size:=by simp[World.setCell]
section
variable {α:Type} {R:Rep α} {s:Nat} {e:TypeId} {w:World} {base:Nat} {ok:nP}
theorem aM.at(F:Firm R s){a:oD}{n c:Nat}{l:List α}{k:Nat}(h:aM R s e w base ok (.slice a n c) l)(q:k<l.length)(h0:0<s):
 ∃g r,a=some ⟨g,0,none⟩/\base<=g/\g<w.heap.size/\R w (fun b=>ok b/\b<w.heap.size/\b≠g) r l[k]/\(∀j x,r[j]? =some x->w.cell? ⟨g,k * s+j,none⟩=some x)/\∀i,w.frozen? ⟨g,i,none⟩=false:=by
 obtain⟨cs,⟨h1,h2⟩,h3⟩:=h
 rcases h2 with ⟨_,y⟩|⟨g,cap,cur,f,d,m,C,B,D,t⟩
 .omega
 .injection f with f z A;subst f;obtain⟨r,o,p⟩:=h3.at (fun r x o=>F.len o) q;refine⟨g,r,rfl,d,aD m,F.more o fun b d=>⟨d.1,d.2.1,fun e=>d.2.2 (by rw[e];rfl)⟩,fun j x v=> ?_,fun i=>aR m i⟩;have h4:=p j x v;rw[<-t] at h4;have h5:cur.toList[k * s+j]? =some x:=by
   rw[List.getElem?_take] at h4;split at h4
   .exact h4
   .cases h4
  simp only[World.cell?,m];simpa using h5
theorem aM.setAt(F:Firm R s){g n c k j:Nat}{x:Value}{y:α}{l:List α}(h:aM R s e w base ok (.slice (some ⟨g,0,none⟩) n c) l)(m:k<l.length)(hj:j<s)(d:∀r,R w (fun b=>ok b/\b<w.heap.size/\b≠g) r l[k]->R w (fun b=>ok b/\b<w.heap.size/\b≠g) (r.set j x) y):
 aM R s e (w.setCell ⟨g,k * s+j,none⟩ x) base ok (.slice (some ⟨g,0,none⟩) n c) (l.set k y):=by
 obtain⟨cs,h1,h2⟩:=h;have o:n=l.length:=by
  rcases h1.2 with ⟨f,_⟩|⟨_,_,_,f,_⟩
  .cases f
  .injection f
 subst o;refine⟨cs.set (k * s+j) x,by rw[List.length_set];exact TI h1,?_⟩;have h3:=aX.setCell (fun r x d=>F.len d) hj (x:=x) (y:=y) (h2.mono fun r x d=>F.more d fun b a=>(⟨a.1,a.2.1,fun e=>a.2.2 (by rw[e];rfl)⟩:ok b/\b<w.heap.size/\b≠g)) m d;refine h3.mono fun r z d=> ?_
 have h4:=F.aCM d ((aI (g:=g) (i:=k * s+j) x).mono fun b _ a=>a.2.2);exact F.more h4 fun b a=>⟨a.1,by rw[(jK w g (k * s+j) x)];exact a.2.1,fun e=>a.2.2 (by injection e)⟩
theorem aM.off(F:Firm R s){v:Value}{l:List α}{g i:Nat}{x:Value}(h:aM R s e w base ok v l)(c:¬ok g)(f:v.ownBlock≠some g):aM R s e (w.setCell ⟨g,i,none⟩ x) base ok v l:=by
 obtain⟨cs,h1,h2⟩:=h;refine⟨cs,lI h1 (aI x) (fun b a e=>f (by rw[a,show b=g from e])),h2.mono fun r y d=> ?_⟩;have h4:=F.aCM d ((aI (g:=g) (i:=i) x).mono fun b _ a (e:b=g)=>c (e▸a.1));exact F.more h4 fun b a=>⟨a.1,by rw[(jK w g i x)];exact a.2.1,a.2.2⟩
end
end Go.Proofs.YtlfngkelmbdehaaGreatDoor

/- Lemmas. -/
import Derived.Test.YthcgdgkpgdjahaaGreatDoorMae
namespace Go.Proofs.YthcgdgkpgdjahaaGreatDoor
open Go.RowKit
set_option linter.unusedVariables false
set_option linter.unusedSimpArgs false
set_option maxHeartbeats 16000000
open _root_.Go.Proofs.Tryz
set_option maxRecDepth 20000
theorem QCO{p:Prop}(h:p:=by
 have:(s.extract 1 s.size).data.toList.length=(s.extract 1 s.size).size:=by rw[Array.length_toList];rfl
 omega):p:=h
theorem Zd{p:Prop}(h:p:=by
 go_wp2_with fail;refine(HN.o _).mono ?_;rintro e w' ⟨rfl,rfl⟩;go_wp2;go_returns;exact⟨rfl,((Below.refl _ _).alloc (lR _) _).alloc qs _⟩):p:=h
theorem QAY{p:Prop}(h:p:=by
 go_enter func111,ntmps111;go_wp2_with fail;refine(HD.o _).mono ?_;rintro e w' ⟨rfl,rfl⟩;go_wp2_with fail;refine(HN.o _ (HG.o.on (aC (aB w _) (aB _ _)))).mono ?_;rintro e w1 ⟨rfl,hb1⟩;obtain⟨b0,b1,hlt,hb⟩:=rR hb1;obtain⟨⟨x0,x1,x2,x3⟩,f0,f1,f2,f3⟩:=nV b1;obtain⟨⟨y0,y1,y2,y3⟩,g0,g1,g2,g3⟩:=nV b0;have HB:=aA hb;clear b0 b1 hb hb1 HN;clear HD;go_wp2;refine bR (.tuple #[.agg #[.int .i64 3,.int .i64 0,.int .i64 nm.1,.string ⟨#[]⟩],.int .i64 0]) ?_;exact⟨rfl,by have hb:=HB.o;go_grown⟩):p:=h
theorem bR{fn:Func}{R:Ending->World->Prop}{a:Act}{w:World}(v:Value)(q:R (.returned v) w)(c:(results fn a.tmps).run prog w=.ok v w:=by simp[results,results7,results9,results15,results22,results26,results33,results34,results37,results39,results41,results42,results74,results79,results80,results81,results82,results89,results95,results104,results111,results115,results140,results142,results146,results183,results187,results188,results189,results227,results245,results249,results262,results263,results264,results270,results283,results285,results289,results290,go_sem, *];try rfl)(b:a.defers=[]:=by rfl):bodyPost prog fn R .ret a w:=bodyPost_ret c b q
def qJ(t:Tok)(n:Nat)(w:World)(e:Ending)(w':World):Prop:=e=.returned (.tuple #[iD t,.int .i64 n])/\Below w.heap.size w w'
theorem pB(s:bY)(a:0<s.size):s.data.toList=s[0] ::(s.extract 1 s.size).data.toList:=by
 rw[yR s 1 qo];have:0<s.data.toList.length:=by rw[Array.length_toList];exact a
 exact(List.drop_eq_getElem_cons this:s.data.toList.drop 0=_)
section
variable {s:bY} {c:UInt8} {r:lU}
theorem Bb(c:UInt8):yL c=true↔97<=(c.toNat:Int)/\(c.toNat:Int)<=122:=by unfold yL;rw[Bool.and_eq_true,decide_eq_true_eq,decide_eq_true_eq];omega
theorem Ip(h1:97<=(c.toNat:Int))(h2:(c.toNat:Int)<=122):bZ (c::r)=(⟨1,0,0,bs (gF (c::r))⟩,(gF (c::r)).length):=by
 unfold bZ;dsimp only;rw[iP ((Bb c).2 ⟨h1,h2⟩)]
theorem vV(h:¬(97<=(c.toNat:Int)/\(c.toNat:Int)<=122)):¬yL c=true:=fun e=>h ((Bb c).1 e)
theorem Iq(h:bB c=true):bZ (c::r)=(⟨2,0,(eA false (c::r)).1,bs []⟩,(eA false (c::r)).2):=by
 have:=(eY c).1 h;unfold bZ;dsimp only;rw[iN (vV qo),iP h]
theorem Ir(h:(c.toNat:Int)=45):bZ (c::r)=if (eA true r).1=0 then (⟨2,0,0,bs []⟩,0) else (⟨2,0,(eA true r).1,bs []⟩,(eA true r).2+1):=by
 unfold bZ;dsimp only;rw[iN (vV qo),iN (fun e=>qA ((eY c).1 e)),iP qo]
theorem Pq(h:(c.toNat:Int)=64):bZ (c::r)=if (eA false r).2=0\/1099511627776<(eA false r).1 then (⟨3,0,(eA false r).1,bs []⟩,0) else (⟨3,0,(eA false r).1,bs []⟩,(eA false r).2+1):=by
 unfold bZ;dsimp only;rw[iN (vV qo),iN (fun e=>qA ((eY c).1 e)),iN qo,iP qo]
theorem Pr(h:(c.toNat:Int)=35):bZ (c::r)=(⟨4,0,0,bs (gF r)⟩,if gF r=[] then 0 else (gF r).length+1):=by
 unfold bZ;dsimp only;rw[iN (vV qo),iN (fun e=>qA ((eY c).1 e)),iN qo,iN qo,iP qo]
theorem Dj(h:(c.toNat:Int)=34):bZ (c::r)=(⟨5,0,0,bs (kA (c::r)).1⟩,(kA (c::r)).2):=by
 unfold bZ;dsimp only;rw[iN (vV qo),iN (fun e=>qA ((eY c).1 e)),iN qo,iN qo,iN qo,iP qo]
structure Tt (c:UInt8):Prop where
 low:¬(97<=(c.toNat:Int)/\(c.toNat:Int)<=122)
 dig:bB c=false
 n45:(c.toNat:Int)≠45
 n64:(c.toNat:Int)≠64
 n35:(c.toNat:Int)≠35
 n34:(c.toNat:Int)≠34
theorem YO(h:Tt c):bZ (c::r)=if EX c then (⟨6,0,0,bs [c]⟩,1) else (⟨0,0,0,bs []⟩,0):=by
 unfold bZ;dsimp only;have h1:=h.n45;have h2:=h.n64;have h3:=h.n35;have h4:=h.n34;rw[iN (vV h.low),iN (by rw[h.dig];decide),iN qo,iN qo,iN qo,iN qo]
theorem Dk(c:UInt8):decide (Lib.indexByte [123,125,40,41,46,44,59,61,60,62,33] c ≥ 0)=EX c:=by
 have h:∀n:Fin 256,decide (Lib.indexByte [123,125,40,41,46,44,59,61,60,62,33] (UInt8.ofNat n) ≥ 0)=EX (UInt8.ofNat n):=by decide +kernel
 have:=h ⟨c.toNat,c.toNat_lt⟩;simpa using this
end
theorem rR{w w1:World}{A B:Obj}(h:Below ((w.alloc A).alloc B).heap.size ((w.alloc A).alloc B) w1):w1.heap[w.heap.size]? =some A/\w1.heap[w.heap.size+1]? =some B/\w.heap.size+1<w1.heap.size/\Below w.heap.size w w1:=by
 have h1:=h.block w.heap.size (by simp;omega);have h2:=h.block (w.heap.size+1) qs;have a:=h.size;simp only[World.size_alloc] at a;refine⟨?_,?_,qo,aC (aC (aB w A) (aB _ B)) h⟩
 .rw[h1,Below.heap_alloc _ _ _ qs,heap_alloc_new]
 .have:=heap_alloc_new (w.alloc A) B;rw[World.size_alloc] at this;rw[h2,this]
theorem aQ{w:World}{g:Nat}{cs:Array Value}{t:TypeId}{m:Nat×Nat}(h:w.heap[g]? =some (.cells cs t m))(i:Nat)(v:Value)(a:cs[i]? =some v):w.cell? ⟨g,i,none⟩=some v:=by simp[World.cell?,h,a]
theorem aR{w:World}{g:Nat}{cs:Array Value}{t:TypeId}(h:w.heap[g]? =some (.cells cs t (0,0)))(i:Nat):w.frozen? ⟨g,i,none⟩=false:=by simp[World.frozen?,h]
theorem nV{w:World}{g:Nat}{a b c d:Value}{t:TypeId}(h:w.heap[g]? =some (.cells #[a,b,c,d] t (0,0))):
 (w.cell? ⟨g,0,none⟩=some a/\w.cell? ⟨g,1,none⟩=some b/\w.cell? ⟨g,2,none⟩=some c/\w.cell? ⟨g,3,none⟩=some d)/\w.frozen? ⟨g,0,none⟩=false/\w.frozen? ⟨g,1,none⟩=false/\w.frozen? ⟨g,2,none⟩=false/\w.frozen? ⟨g,3,none⟩=false:=
 ⟨⟨aQ h 0 _ rfl,aQ h 1 _ rfl,aQ h 2 _ rfl,aQ h 3 _ rfl⟩,aR h 0,aR h 1,aR h 2,aR h 3⟩
theorem Dl(s:bY)(d:s.size<=4096)(b:0<s.size)(h1:97<=(s[0].toNat:Int))(h2:(s[0].toNat:Int)<=122)(w:World)(c:iA w):
 Calls prog 111 #[.string s] w (qJ (bZ s.data.toList).1 (bZ s.data.toList).2 w):=by
 have HN:=aA (GM s (by unfold maxLen;omega));have a:Hid (bZ s.data.toList=(⟨1,0,0,bs (gF s.data.toList)⟩,(bs (gF s.data.toList)).size)):=aA (by rw[pB s b,Ip h1 h2,cH]);have d1:decide ((s[0].toNat:Int) ≥ 97)=true:=dX h1;have d2:decide ((s[0].toNat:Int)<=122)=true:=dX h2;unfold qJ;have hlen:=(zU s.data.toList).2;rw[a.o];rw[<-cH] at hlen;generalize bs (gF s.data.toList)=f at *;clear a h1 h2;go_enter func111,ntmps111;exact Zd
theorem Dm(s:bY)(l:s.size<=4096)(m:0<s.size)(h1:bB s[0]=true)(w:World)(b:iA w):
 Calls prog 111 #[.string s] w (qJ (bZ s.data.toList).1 (bZ s.data.toList).2 w):=by
 have c:=aA (iR s[0]);have f:=aA (fun w b=>uY false ByteArray.empty s rfl l w b);have d:Hid (bZ s.data.toList=(⟨2,0,(eA false s.data.toList).1,ByteArray.empty⟩,(eA false s.data.toList).2)):=aA (by rw[pB s m,Iq h1];rfl);have h2:=(eY s[0]).1 h1;have d1:decide ((s[0].toNat:Int) ≥ 97)=false:=dF qo;rw[h1] at c;unfold qJ;rw[d.o];generalize eA false s.data.toList=i at *;clear d h1 h2;have k:=aA b;go_enter func111,ntmps111;go_wp2_with fail;refine(c.o _).mono ?_;rintro e w' ⟨rfl,rfl⟩;go_wp2_with fail;refine(f.o _ (k.o.on (aC (aB w _) (aB _ _)))).mono ?_;rintro e w1 ⟨rfl,g⟩;obtain⟨b0,b1,n,a⟩:=rR g;obtain⟨⟨o,p,q,r⟩,f0,f1,f2,f3⟩:=nV b1;obtain⟨⟨t,v,x,y⟩,g0,g1,g2,g3⟩:=nV b0;have j:=aA a;clear b0 b1 a g f;go_wp2;refine bR (.tuple #[.agg #[.int .i64 2,.int .i64 0,.int .i64 i.1,.string ⟨#[]⟩],.int .i64 i.2]) ?_;exact⟨rfl,by have a:=j.o;go_grown⟩
theorem Dn(s:bY)(E:s.size<=4096)(r:0<s.size)(h1:(s[0].toNat:Int)=45)(w:World)(f:iA w):
 Calls prog 111 #[.string s] w (qJ (bZ s.data.toList).1 (bZ s.data.toList).2 w):=by
 have c:=aA (iR s[0]);have l:bB s[0]=false:=by rw[Bool.eq_false_iff];intro h;have:=(eY s[0]).1 h;omega
 rw[l] at c;have d1:decide ((s[0].toNat:Int) ≥ 97)=false:=dF qo;have m:(s.extract 1 s.size).size<=4096:=by rw[ByteArray.size_extract];omega
 have F:(1:Int)<=(s.size:Int):=qo;have g:=aA (fun w f=>uY true ⟨#[45]⟩ (s.extract 1 s.size) rfl m w f);have j:Hid (bZ s.data.toList=if (eA true (s.extract 1 s.size).data.toList).1=0 then (⟨2,0,0,bs []⟩,0) else (⟨2,0,(eA true (s.extract 1 s.size).data.toList).1,bs []⟩,(eA true (s.extract 1 s.size).data.toList).2+1)):=aA (by rw[pB s r,Ir h1]);have p:=(sF true (s.extract 1 s.size).data.toList).1;have hle:(eA true (s.extract 1 s.size).data.toList).2<=4096:=by
  exact QCO
 have d45:((s[0].toNat:Int)==45)=true:=bQ.2 h1;unfold qJ;rw[j.o];clear j l p m h1;generalize eA true (s.extract 1 s.size).data.toList=b at *;have k:=aA f;by_cases h0:b.1=0
 .rw[iP h0];have o:(b.1==0)=true:=bQ.2 h0;have n:=aA h0;clear h0 f;go_enter func111,ntmps111;go_wp2_with fail;refine(c.o _).mono ?_;rintro e w' ⟨rfl,rfl⟩;go_wp2_with fail;refine(g.o _ (k.o.on (aC (aB w _) (aB _ _)))).mono ?_;rintro e w1 ⟨rfl,d⟩;obtain⟨b0,b1,q,a⟩:=rR d;obtain⟨⟨t,v,x,y⟩,f0,f1,f2,f3⟩:=nV b1;obtain⟨⟨z,A,B,C⟩,g0,g1,g2,g3⟩:=nV b0;have i:=aA a;clear b0 b1 a d g;clear c;go_wp2;refine bR (.tuple #[.agg #[.int .i64 2,.int .i64 0,.int .i64 b.1,.string ⟨#[]⟩],.int .i64 0]) ?_;exact⟨by rw[n.o];rfl,by have a:=i.o;go_grown⟩
 .rw[iN h0];have o:(b.1==0)=false:=bN.2 h0;have D:=aA hle;clear h0 f;go_enter func111,ntmps111;go_wp2_with fail;refine(c.o _).mono ?_;rintro e w' ⟨rfl,rfl⟩;go_wp2_with fail;refine(g.o _ (k.o.on (aC (aB w _) (aB _ _)))).mono ?_;rintro e w1 ⟨rfl,d⟩;obtain⟨b0,b1,q,a⟩:=rR d;obtain⟨⟨t,v,x,y⟩,f0,f1,f2,f3⟩:=nV b1;obtain⟨⟨z,A,B,C⟩,g0,g1,g2,g3⟩:=nV b0;have i:=aA a;clear b0 b1 a d g;clear c;go_wp2;refine bR (.tuple #[.agg #[.int .i64 2,.int .i64 0,.int .i64 b.1,.string ⟨#[]⟩],.int .i64 (b.2+1)]) ?_;exact⟨rfl,by have a:=i.o;go_grown⟩
theorem Is(s:bY)(m:s.size<=4096)(j:0<s.size)(h1:(s[0].toNat:Int)=64)(w:World)(a:iA w):
 Calls prog 111 #[.string s] w (qJ (bZ s.data.toList).1 (bZ s.data.toList).2 w):=by
 have HD:=aA (iR s[0]);have c:bB s[0]=false:=by rw[Bool.eq_false_iff];intro h;have:=(eY s[0]).1 h;omega
 rw[c] at HD;have d1:decide ((s[0].toNat:Int) ≥ 97)=false:=dF qo;have d:(s.extract 1 s.size).size<=4096:=by rw[ByteArray.size_extract];omega
 have n:(1:Int)<=(s.size:Int):=qo;have HN:=aA (fun w a=>uY false ByteArray.empty (s.extract 1 s.size) rfl d w a);have b:Hid (bZ s.data.toList=if (eA false (s.extract 1 s.size).data.toList).2=0\/1099511627776<(eA false (s.extract 1 s.size).data.toList).1 then (⟨3,0,(eA false (s.extract 1 s.size).data.toList).1,bs []⟩,0) else (⟨3,0,(eA false (s.extract 1 s.size).data.toList).1,bs []⟩,(eA false (s.extract 1 s.size).data.toList).2+1)):=aA (by rw[pB s j,Pq h1]);have i:=(sF false (s.extract 1 s.size).data.toList).1;have hle:(eA false (s.extract 1 s.size).data.toList).2<=4096:=by
  exact QCO
 have d45:((s[0].toNat:Int)==45)=false:=bN.2 qo;have d64:((s[0].toNat:Int)==64)=true:=bQ.2 h1;unfold qJ;rw[b.o];clear b c i d h1;generalize eA false (s.extract 1 s.size).data.toList=nm at *;have HG:=aA a;by_cases h0:nm.2=0
 .rw[iP (.inl h0)];have f:((nm.2:Int)==0)=true:=bQ.2 qo;have k:=aA h0;clear h0 a;exact QAY
 .have f:((nm.2:Int)==0)=false:=bN.2 qo;by_cases h2:1099511627776<nm.1
  .rw[iP (.inr h2)];have g:decide (nm.1 > 1099511627776)=true:=dX h2;clear h0 a h2;exact QAY
  .rw[iN (fun h=>h.elim h0 h2)];have g:decide (nm.1 > 1099511627776)=false:=dF h2;have l:=aA hle;clear h0 a h2;go_enter func111,ntmps111;go_wp2_with fail;refine(HD.o _).mono ?_;rintro e w' ⟨rfl,rfl⟩;go_wp2_with fail;refine(HN.o _ (HG.o.on (aC (aB w _) (aB _ _)))).mono ?_;rintro e w1 ⟨rfl,hb1⟩;obtain⟨b0,b1,hlt,hb⟩:=rR hb1;obtain⟨⟨x0,x1,x2,x3⟩,f0,f1,f2,f3⟩:=nV b1;obtain⟨⟨y0,y1,y2,y3⟩,g0,g1,g2,g3⟩:=nV b0;have HB:=aA hb;clear b0 b1 hb hb1 HN;clear HD;go_wp2;refine bR (.tuple #[.agg #[.int .i64 3,.int .i64 0,.int .i64 nm.1,.string ⟨#[]⟩],.int .i64 (nm.2+1)]) ?_;exact⟨rfl,by have hb:=HB.o;go_grown⟩
theorem Iu(s:bY)(n:s.size<=4096)(j:0<s.size)(h1:(s[0].toNat:Int)=35)(w:World)(m:iA w):
 Calls prog 111 #[.string s] w (qJ (bZ s.data.toList).1 (bZ s.data.toList).2 w):=by
 have a:=aA (iR s[0]);have c:bB s[0]=false:=by rw[Bool.eq_false_iff];intro h;have:=(eY s[0]).1 h;omega
 rw[c] at a;have d1:decide ((s[0].toNat:Int) ≥ 97)=false:=dF qo;have i:(s.extract 1 s.size).size<=4096:=by rw[ByteArray.size_extract];omega
 have o:(1:Int)<=(s.size:Int):=qo;have HN:=aA (GM (s.extract 1 s.size) (by unfold maxLen;omega));have b:Hid (bZ s.data.toList=(⟨4,0,0,bs (gF (s.extract 1 s.size).data.toList)⟩,if (bs (gF (s.extract 1 s.size).data.toList)).size=0 then 0 else (bs (gF (s.extract 1 s.size).data.toList)).size+1)):=aA (by
  rw[pB s j,Pr h1,cH]
  congr 1
  simp only[List.length_eq_zero_iff])
 have hlen:=(zU (s.extract 1 s.size).data.toList).2;rw[<-cH] at hlen;have d45:((s[0].toNat:Int)==45)=false:=bN.2 qo;have d64:((s[0].toNat:Int)==64)=false:=bN.2 qo;have d35:((s[0].toNat:Int)==35)=true:=bQ.2 h1;unfold qJ;rw[b.o];clear b c i h1;generalize bs (gF (s.extract 1 s.size).data.toList)=k at *
 rcases uH (s:=k) with h0|h0
 .rw[iP h0];obtain⟨d,f,g⟩:=rN h0;clear h0;go_enter func111,ntmps111;go_wp2_with fail;refine(a.o _).mono ?_;rintro e w' ⟨rfl,rfl⟩;exact Zd
 .rw[iN qo];obtain⟨d,f,g⟩:=rO h0;have l:=aA hlen;go_enter func111,ntmps111;go_wp2_with fail;refine(a.o _).mono ?_;rintro e w' ⟨rfl,rfl⟩;exact Zd
theorem aAU:str "."=⟨#[46]⟩:=by kernel_rfl
theorem Ze:str "!"=⟨#[33]⟩:=by kernel_rfl
theorem Iv:str "subject"=⟨#[115,117,98,106,101,99,116]⟩:=by kernel_rfl
theorem Ps:str "action"=⟨#[97,99,116,105,111,110]⟩:=by kernel_rfl
theorem Zf:str "case"=⟨#[99,97,115,101]⟩:=by kernel_rfl
theorem aAV:str "env"=⟨#[101,110,118]⟩:=by kernel_rfl
theorem Dp:str "="=⟨#[61]⟩:=by kernel_rfl
theorem Pt:str "<"=⟨#[60]⟩:=by kernel_rfl
theorem Zg:str ">"=⟨#[62]⟩:=by kernel_rfl
theorem CU:str "true"=⟨#[116,114,117,101]⟩:=by kernel_rfl
theorem yS:str "false"=⟨#[102,97,108,115,101]⟩:=by kernel_rfl
theorem Bc:str ","=⟨#[44]⟩:=by kernel_rfl
theorem KM:str "("=⟨#[40]⟩:=by kernel_rfl
theorem KN:str ")"=⟨#[41]⟩:=by kernel_rfl
theorem Zh:str "or"=⟨#[111,114]⟩:=by kernel_rfl
theorem Tu:str "and"=⟨#[97,110,100]⟩:=by kernel_rfl
theorem Iw:str "when"=⟨#[119,104,101,110]⟩:=by kernel_rfl
theorem Zi:str "on"=⟨#[111,110]⟩:=by kernel_rfl
theorem Zj:str "if"=⟨#[105,102]⟩:=by kernel_rfl
theorem Ix:str ";"=⟨#[59]⟩:=by kernel_rfl
theorem TZ:rL=⟨#[123]⟩:=by kernel_rfl
theorem UA:yM=⟨#[125]⟩:=by kernel_rfl
theorem JL:str "permit"=⟨#[112,101,114,109,105,116]⟩:=by kernel_rfl
theorem UB:str "deny"=⟨#[100,101,110,121]⟩:=by kernel_rfl
theorem aAW:str "log"=⟨#[108,111,103]⟩:=by kernel_rfl
theorem Pu:str "redact"=⟨#[114,101,100,97,99,116]⟩:=by kernel_rfl
theorem Pw:str "review"=⟨#[114,101,118,105,101,119]⟩:=by kernel_rfl
theorem Px:str "notify"=⟨#[110,111,116,105,102,121]⟩:=by kernel_rfl
theorem wH:str "policy"=⟨#[112,111,108,105,99,121]⟩:=by kernel_rfl
theorem KO:str "set"=⟨#[115,101,116]⟩:=by kernel_rfl
theorem Zk:str "role"=⟨#[114,111,108,101]⟩:=by kernel_rfl
theorem Zl:str "tick"=⟨#[116,105,99,107]⟩:=by kernel_rfl
theorem Iy:str "open"=⟨#[111,112,101,110]⟩:=by kernel_rfl
theorem CV:str "work"=⟨#[119,111,114,107]⟩:=by kernel_rfl
theorem UC:str "done"=⟨#[100,111,110,101]⟩:=by kernel_rfl
theorem wI:str "closed"=⟨#[99,108,111,115,101,100]⟩:=by kernel_rfl
theorem Wa:str "glass"=⟨#[103,108,97,115,115]⟩:=by kernel_rfl
theorem Zm:str "id"=⟨#[105,100]⟩:=by kernel_rfl
theorem Wb:str "owner"=⟨#[111,119,110,101,114]⟩:=by kernel_rfl
theorem Wc:str "state"=⟨#[115,116,97,116,101]⟩:=by kernel_rfl
theorem Py:str "events"=⟨#[101,118,101,110,116,115]⟩:=by kernel_rfl
theorem Zn:str "took"=⟨#[116,111,111,107]⟩:=by kernel_rfl
theorem Zo:str "last"=⟨#[108,97,115,116]⟩:=by kernel_rfl
theorem Zp:str "name"=⟨#[110,97,109,101]⟩:=by kernel_rfl
theorem Wd:str "field"=⟨#[102,105,101,108,100]⟩:=by kernel_rfl
theorem aDd:str "to"=⟨#[116,111]⟩:=by kernel_rfl
theorem aAX:str "now"=⟨#[110,111,119]⟩:=by kernel_rfl
theorem aDe:str "f_"=⟨#[102,95]⟩:=by kernel_rfl
theorem QBW{p:Prop}(h:p:=by
 go_wp2_with fail;refine(HS2.o).mono ?_;rintro e w3 ⟨rfl,h3,k3⟩;have H3:=aA h3;have HK:=aA ((aJ HB2.o).trans k3);clear HS2 h3 k3;go_wp2;go_ret;exact⟨rfl,H3.o,HK.o⟩):p:=h
theorem Bd{p:Prop}(h:p:=by
 exact⟨0,Nat.zero_le _,rfl,HR0,aA (Below.refl _ _)⟩):p:=h
theorem CW{α:Type}{a0 a a2 a3 a4 a5 b:α}{l:List α}{p:Nat->α->Prop}(h:∀j x,(a0::a::a2::a3::a4::a5::b::l)[j]? =some x->p j x):p 0 a0/\p 1 a/\p 2 a2/\p 3 a3/\p 4 a4/\p 5 a5/\p 6 b:=⟨h 0 _ rfl,h 1 _ rfl,h 2 _ rfl,h 3 _ rfl,h 4 _ rfl,h 5 _ rfl,h 6 _ rfl⟩
theorem KP{α:Type}{a0 a a2 a3 a4:α}{l:List α}{p:Nat->α->Prop}(h:∀j x,(a0::a::a2::a3::a4::l)[j]? =some x->p j x):p 0 a0/\p 1 a/\p 2 a2/\p 3 a3/\p 4 a4:=⟨h 0 _ rfl,h 1 _ rfl,h 2 _ rfl,h 3 _ rfl,h 4 _ rfl⟩
theorem cR3{α:Type}{a0 a a2:α}{l:List α}{p:Nat->α->Prop}(h:∀j x,(a0::a::a2::l)[j]? =some x->p j x):p 0 a0/\p 1 a/\p 2 a2:=⟨h 0 _ rfl,h 1 _ rfl,h 2 _ rfl⟩
theorem KQ(x:bY):∀(zs:List ByteArray) (i:Nat),Lib.idxFromS zs x i=if zs.findIdx (fun w=>decide (w=x))<zs.length then ((i+zs.findIdx (fun w=>decide (w=x)):Nat):Int) else -1
 | [],i=>rfl
 |z::zs,i=>by
  unfold Lib.idxFromS;rw[List.findIdx_cons];by_cases h:z=x
  .simp[h]
  .rw[dF h];simp only[cond_false,List.length_cons];rw[iN (by simpa using h),KQ x zs (i+1)];by_cases h2:zs.findIdx (fun w=>decide (w=x))<zs.length
   .rw[iP h2,iP qo];congr 1;omega
   .rw[iN h2,iN qo]
theorem Pz(zs:List ByteArray)(x:bY):Lib.idxOfS zs x=if zs.findIdx (fun w=>decide (w=x))<zs.length then (zs.findIdx (fun w=>decide (w=x)):Int) else -1:=by
 unfold Lib.idxOfS;rw[KQ];simp
def FD(w:World)(a:oD)(zs:List ByteArray):Prop:=∃b off,a=some ⟨b,off,none⟩/\b<w.heap.size/\∀j,j<zs.length->w.cell? ⟨b,off+j,none⟩=some (.string (zs.getD j ByteArray.empty))
theorem FD.on{w w':World}{a:oD}{zs:List ByteArray}(h:FD w a zs)(c:Below w.heap.size w w'):FD w' a zs:=by
 obtain⟨b,off,e,d,f⟩:=h;exact⟨b,off,e,lL d c.size,fun j hj=>(c.cell (p:=⟨b,off+j,none⟩) d).trans (f j hj)⟩
theorem YP(zs:List ByteArray)(a:oD)(c n:Nat)(f:zs.length=n)(x:bY)(w:World)(h:FD w a zs)(i:zs.length<=1000):
 Calls prog 178 #[.slice a n c,.string x] w fun e w'=>e=.returned (.int .i64 (if zs.findIdx (fun w=>decide (w=x))<zs.length then (zs.findIdx (fun w=>decide (w=x)):Int) else -1))/\w=w':=by
 obtain⟨b,off,rfl,g,d⟩:=h;refine(slices_Index_string b off n c zs x w qo qo d).mono ?_;rintro e w' ⟨rfl,rfl⟩;rw[<-f,List.take_length,Pz];exact⟨rfl,rfl⟩
theorem nL{L:List Tok}{p:PS}(T:Toks L)(zs:List ByteArray)(a:oD)(c n:Nat)(M:zs.length=n)(N:zs.length<=1000)(hp:p.at_<L.length)(g:Nat)(w:World)(h:PW L w g p)(hw:FD w a zs):
 Calls prog 132 #[.pointer (some ⟨g,0,none⟩),.slice a n c] w (eX L g w (.int .i64 (bA L zs p).1) (bA L zs p).2):=by
 have F:=T.len;obtain⟨j,H,y⟩:=aZ (gO hp F g w h) h hw;have o:=aA (fun w h=>mC hp F g w h);have i:=aA (fun s w h=>eR T s hp g w h);have b:=aA (fun x w h=>YP zs a c n M x w h N);clear h hw;unfold eX;unfold bA;dsimp only;unfold iD at j;generalize aU L p=t at *;generalize dL L p=q at *;by_cases l:t.aDN=1
 .have b0:(t.aDN==1)=true:=bQ.2 l;have i:=aA (i.o t.str);have b:=aA (b.o t.str);by_cases v:zs.findIdx (fun w=>decide (w=t.str))<zs.length
  .rw[iP v] at b;have J:=aA v;unfold kV at i;generalize zs.findIdx (fun w=>decide (w=t.str))=A at *;generalize cM L t.str p=ip at *;have Q:(A:Int)<1000:=qo;have O:decide ((A:Int) ≥ 0)=true:=dX qo;have P:(0:Int)<=(A:Int):=qo
   cases ip
   .rw[iN (fun h=>absurd h.2.2 qe)];rw[iN qe] at i;clear l;go_enter func132,ntmps132;go_wp2_with fail;refine(j.o).mono ?_;rintro e w1 ⟨rfl,d⟩;have f:=aB w1 (.cells (oO t) 130);have HB2:=aA (aC d f);have m:=aA (H.o.on HB2.o);have k:=aA (b.o _ (y.o.on HB2.o));have r:=aA (i.o _ m.o);obtain⟨⟨B,C,D,E⟩,_⟩:=nV (heap_alloc_new w1 (.cells (oO t) 130));have z:w1.heap.size<(w1.alloc (.cells (oO t) 130)).heap.size:=by simp
    clear d f b H j i;go_wp2_with fail;refine(k.o).mono ?_;rintro e w' ⟨rfl,rfl⟩;clear k;go_wp2_with fail;refine(r.o).mono ?_;rintro e w3 ⟨rfl,h3,k3⟩;have H3:=aA h3;have HK:=aA ((aJ HB2.o).trans k3);clear r h3 k3 B C D E z;have HS2:=aA (o.o _ H3.o);clear o;go_wp2_with fail;refine(HS2.o).mono ?_;rintro e R ⟨rfl,h4,G⟩;have I:=aA h4;have K:=aA (HK.o.trans G);clear HS2 h4 G;go_wp2;go_ret;exact⟨rfl,I.o,K.o⟩
   .rw[iP ⟨l,J.o,rfl⟩];rw[iP rfl] at i;clear l o;go_enter func132,ntmps132;go_wp2_with fail;refine(j.o).mono ?_;rintro e w1 ⟨rfl,d⟩;have f:=aB w1 (.cells (oO t) 130);have HB2:=aA (aC d f);have m:=aA (H.o.on HB2.o);have k:=aA (b.o _ (y.o.on HB2.o));have r:=aA (i.o _ m.o);obtain⟨⟨B,C,D,E⟩,_⟩:=nV (heap_alloc_new w1 (.cells (oO t) 130));have z:w1.heap.size<(w1.alloc (.cells (oO t) 130)).heap.size:=by simp
    clear d f b H j i;go_wp2_with fail;refine(k.o).mono ?_;rintro e w' ⟨rfl,rfl⟩;clear k;go_wp2_with fail;refine(r.o).mono ?_;rintro e w3 ⟨rfl,h3,k3⟩;have H3:=aA h3;have HK:=aA ((aJ HB2.o).trans k3);clear r h3 k3 B C D E z;go_wp2;go_ret;exact⟨rfl,H3.o,HK.o⟩
  .rw[iN v] at b;rw[iN (fun h=>v h.2.1)];clear v l;go_enter func132,ntmps132;go_wp2_with fail;refine(j.o).mono ?_;rintro e w1 ⟨rfl,d⟩;have f:=aB w1 (.cells (oO t) 130);have HB2:=aA (aC d f);have m:=aA (H.o.on HB2.o);have k:=aA (b.o _ (y.o.on HB2.o));clear d f b H j;go_wp2_with fail;refine(k.o).mono ?_;rintro e w' ⟨rfl,rfl⟩;have HS2:=aA (o.o _ m.o);clear k o;exact QBW
 .have b0:(t.aDN==1)=false:=bN.2 l;rw[iN (fun h=>l h.1)];clear l b i;go_enter func132,ntmps132;go_wp2_with fail;refine(j.o).mono ?_;rintro e w1 ⟨rfl,d⟩;have f:=aB w1 (.cells (oO t) 130);have HB2:=aA (aC d f);have m:=aA (H.o.on HB2.o);have HS2:=aA (o.o _ m.o);clear d f H j o;exact QBW
theorem cF{w:World}{g:Nat}{a b c:Value}{t:TypeId}(h:w.heap[g]? =some (.cells #[a,b,c] t (0,0))):
 (w.cell? ⟨g,0,none⟩=some a/\w.cell? ⟨g,1,none⟩=some b/\w.cell? ⟨g,2,none⟩=some c)/\w.frozen? ⟨g,0,none⟩=false/\w.frozen? ⟨g,1,none⟩=false/\w.frozen? ⟨g,2,none⟩=false:=
 ⟨⟨aQ h 0 _ rfl,aQ h 1 _ rfl,aQ h 2 _ rfl⟩,aR h 0,aR h 1,aR h 2⟩
theorem nM(w:World)(zs:List ByteArray)(cs:Array Value)(t:TypeId)(n:Nat)(a:w.heap.size=n)(h:cs=(zs.map Value.string).toArray):FD (w.alloc (.cells cs t)) (some ⟨n,0,none⟩) zs:=by
 subst a;refine⟨w.heap.size,0,rfl,qs,fun j hj=> ?_⟩;refine aQ (heap_alloc_new w (.cells cs t)) _ _ ?_;subst h;rw[Nat.zero_add];simp[hj]
theorem PW.step{L:List Tok}{w:World}{g:Nat}{p:PS}{v:Value}(h:PW L w g p)(a:v=.int .i64 ((p.at_+1:Nat):Int)):PW L (w.setCell ⟨g,1,none⟩ v) g {p with at_:=p.at_+1}:=by
 subst a;refine h.stay (aI _) fun A c h=> ?_
 rw[aG h 1 _];rfl
theorem cZ.step{B g:Nat}{w0 w:World}(h:cZ B g w0 w){i:Nat}{v:Value}:cZ B g w0 (w.setCell ⟨g,i,none⟩ v):=h.aD5 (aI v)
theorem cZ.alloc{B g:Nat}{w0 w:World}(h:cZ B g w0 w){o:Obj}:cZ B g w0 (w.alloc o):=h.new (aB w o)
theorem PW.alloc{L:List Tok}{w:World}{g:Nat}{p:PS}(h:PW L w g p){o:Obj}:PW L (w.alloc o) g p:=h.on (aB w o)
theorem aK(w:World)(o:Obj)(n:Nat)(a:w.heap.size=n):(w.alloc o).heap[n]? =some o:=by subst a;exact heap_alloc_new w o
theorem aAY{w:World}{g:Nat}{a0 a a2:Value}{t:TypeId}{m:Nat×Nat}(h:w.heap[g]? =some (.cells #[a0,a,a2] t m))(v:Value):(w.setCell ⟨g,0,none⟩ v).heap[g]? =some (.cells #[v,a,a2] t m):=aG h 0 v
theorem aAZ{w:World}{g:Nat}{a0 a a2:Value}{t:TypeId}{m:Nat×Nat}(h:w.heap[g]? =some (.cells #[a0,a,a2] t m))(v:Value):(w.setCell ⟨g,1,none⟩ v).heap[g]? =some (.cells #[a0,v,a2] t m):=aG h 1 v
theorem aA0{w:World}{g:Nat}{a0 a a2 a3 a4:Value}{t:TypeId}{m:Nat×Nat}(h:w.heap[g]? =some (.cells #[a0,a,a2,a3,a4] t m))(v:Value):(w.setCell ⟨g,3,none⟩ v).heap[g]? =some (.cells #[a0,a,a2,v,a4] t m):=aG h 3 v
theorem Tv{w:World}{g:Nat}{a0 a a2 a3 a4:Value}{t:TypeId}{m:Nat×Nat}(h:w.heap[g]? =some (.cells #[a0,a,a2,a3,a4] t m))(v:Value):(w.setCell ⟨g,4,none⟩ v).heap[g]? =some (.cells #[a0,a,a2,a3,v] t m):=aG h 4 v
theorem Tw{w:World}{g:Nat}{a0 a a2 a3 a4 a5 b:Value}{t:TypeId}{m:Nat×Nat}(h:w.heap[g]? =some (.cells #[a0,a,a2,a3,a4,a5,b] t m))(v:Value):(w.setCell ⟨g,0,none⟩ v).heap[g]? =some (.cells #[v,a,a2,a3,a4,a5,b] t m):=aG h 0 v
theorem Tx{w:World}{g:Nat}{a0 b a2 a3 a4 a5 a:Value}{t:TypeId}{m:Nat×Nat}(h:w.heap[g]? =some (.cells #[a0,b,a2,a3,a4,a5,a] t m))(v:Value):(w.setCell ⟨g,1,none⟩ v).heap[g]? =some (.cells #[a0,v,a2,a3,a4,a5,a] t m):=aG h 1 v
theorem Ty{w:World}{g:Nat}{a0 a a2 a3 a4 a5 b:Value}{t:TypeId}{m:Nat×Nat}(h:w.heap[g]? =some (.cells #[a0,a,a2,a3,a4,a5,b] t m))(v:Value):(w.setCell ⟨g,2,none⟩ v).heap[g]? =some (.cells #[a0,a,v,a3,a4,a5,b] t m):=aG h 2 v
theorem KR{w:World}{g:Nat}{a0 a a2 a3 a4 a5 b:Value}{t:TypeId}{m:Nat×Nat}(h:w.heap[g]? =some (.cells #[a0,a,a2,a3,a4,a5,b] t m))(v:Value):(w.setCell ⟨g,3,none⟩ v).heap[g]? =some (.cells #[a0,a,a2,v,a4,a5,b] t m):=aG h 3 v
theorem aA1{w:World}{g:Nat}{a0 a a2 a3 a4 a5 b:Value}{t:TypeId}{m:Nat×Nat}(h:w.heap[g]? =some (.cells #[a0,a,a2,a3,a4,a5,b] t m))(v:Value):(w.setCell ⟨g,4,none⟩ v).heap[g]? =some (.cells #[a0,a,a2,a3,v,a5,b] t m):=aG h 4 v
theorem aA2{w:World}{g:Nat}{a0 a a2 a3 a4 a5 b:Value}{t:TypeId}{m:Nat×Nat}(h:w.heap[g]? =some (.cells #[a0,a,a2,a3,a4,a5,b] t m))(v:Value):(w.setCell ⟨g,5,none⟩ v).heap[g]? =some (.cells #[a0,a,a2,a3,a4,v,b] t m):=aG h 5 v
theorem fL{w:World}{g:Nat}{a0 a:Value}{t:TypeId}(h:w.heap[g]? =some (.cells #[a0,a] t (0,0))):
 (w.cell? ⟨g,0,none⟩=some a0/\w.cell? ⟨g,1,none⟩=some a)/\w.frozen? ⟨g,0,none⟩=false/\w.frozen? ⟨g,1,none⟩=false:=
 ⟨⟨aQ h 0 _ rfl,aQ h 1 _ rfl⟩,aR h 0,aR h 1⟩
theorem dM{w:World}{g:Nat}{a0 a a2 a3 a4:Value}{t:TypeId}(h:w.heap[g]? =some (.cells #[a0,a,a2,a3,a4] t (0,0))):
 (w.cell? ⟨g,0,none⟩=some a0/\w.cell? ⟨g,1,none⟩=some a/\w.cell? ⟨g,2,none⟩=some a2/\w.cell? ⟨g,3,none⟩=some a3/\w.cell? ⟨g,4,none⟩=some a4)/\w.frozen? ⟨g,0,none⟩=false/\w.frozen? ⟨g,1,none⟩=false/\w.frozen? ⟨g,2,none⟩=false/\w.frozen? ⟨g,3,none⟩=false/\w.frozen? ⟨g,4,none⟩=false:=
 ⟨⟨aQ h 0 _ rfl,aQ h 1 _ rfl,aQ h 2 _ rfl,aQ h 3 _ rfl,aQ h 4 _ rfl⟩,aR h 0,aR h 1,aR h 2,aR h 3,aR h 4⟩
theorem bI{w:World}{g:Nat}{a0 a a2 a3 a4 a5 b:Value}{t:TypeId}(h:w.heap[g]? =some (.cells #[a0,a,a2,a3,a4,a5,b] t (0,0))):
 (w.cell? ⟨g,0,none⟩=some a0/\w.cell? ⟨g,1,none⟩=some a/\w.cell? ⟨g,2,none⟩=some a2/\w.cell? ⟨g,3,none⟩=some a3/\w.cell? ⟨g,4,none⟩=some a4/\w.cell? ⟨g,5,none⟩=some a5/\w.cell? ⟨g,6,none⟩=some b)/\w.frozen? ⟨g,0,none⟩=false/\w.frozen? ⟨g,1,none⟩=false/\w.frozen? ⟨g,2,none⟩=false/\w.frozen? ⟨g,3,none⟩=false/\w.frozen? ⟨g,4,none⟩=false/\w.frozen? ⟨g,5,none⟩=false/\w.frozen? ⟨g,6,none⟩=false:=
 ⟨⟨aQ h 0 _ rfl,aQ h 1 _ rfl,aQ h 2 _ rfl,aQ h 3 _ rfl,aQ h 4 _ rfl,aQ h 5 _ rfl,aQ h 6 _ rfl⟩,aR h 0,aR h 1,aR h 2,aR h 3,aR h 4,aR h 5,aR h 6⟩
theorem bK{w:World}{g:Nat}{a0 a a2 a3 a4 a5 d e f a9 b c:Value}{t:TypeId}(h:w.heap[g]? =some (.cells #[a0,a,a2,a3,a4,a5,d,e,f,a9,b,c] t (0,0))):
 (w.cell? ⟨g,0,none⟩=some a0/\w.cell? ⟨g,1,none⟩=some a/\w.cell? ⟨g,2,none⟩=some a2/\w.cell? ⟨g,3,none⟩=some a3/\w.cell? ⟨g,4,none⟩=some a4/\w.cell? ⟨g,5,none⟩=some a5/\w.cell? ⟨g,6,none⟩=some d/\w.cell? ⟨g,7,none⟩=some e/\w.cell? ⟨g,8,none⟩=some f/\w.cell? ⟨g,9,none⟩=some a9/\w.cell? ⟨g,10,none⟩=some b/\w.cell? ⟨g,11,none⟩=some c)/\w.frozen? ⟨g,0,none⟩=false/\w.frozen? ⟨g,1,none⟩=false/\w.frozen? ⟨g,2,none⟩=false/\w.frozen? ⟨g,3,none⟩=false/\w.frozen? ⟨g,4,none⟩=false/\w.frozen? ⟨g,5,none⟩=false/\w.frozen? ⟨g,6,none⟩=false/\w.frozen? ⟨g,7,none⟩=false/\w.frozen? ⟨g,8,none⟩=false/\w.frozen? ⟨g,9,none⟩=false/\w.frozen? ⟨g,10,none⟩=false/\w.frozen? ⟨g,11,none⟩=false:=
 ⟨⟨aQ h 0 _ rfl,aQ h 1 _ rfl,aQ h 2 _ rfl,aQ h 3 _ rfl,aQ h 4 _ rfl,aQ h 5 _ rfl,aQ h 6 _ rfl,aQ h 7 _ rfl,aQ h 8 _ rfl,aQ h 9 _ rfl,aQ h 10 _ rfl,aQ h 11 _ rfl⟩,aR h 0,aR h 1,aR h 2,aR h 3,aR h 4,aR h 5,aR h 6,aR h 7,aR h 8,aR h 9,aR h 10,aR h 11⟩
abbrev iS(n:No):Array Value:=#[.int .i64 n.op,.int .i64 n.val.1,.int .i64 n.val.2.1,.string n.val.2.2,.int .i64 n.aEe.cat,.string n.aEe.name,.bool n.aEe.aEm]
abbrev KS(m:Ma):Array Value:=#[.int .i64 m.aEe.cat,.string m.aEe.name,.bool m.aEe.aEm,.int .i64 m.op,.int .i64 m.val.1,.int .i64 m.val.2.1,.string m.val.2.2]
abbrev fW:Array Value:=#[.int .i64 0,.int .i64 0,.string ⟨#[]⟩]
end Go.Proofs.YthcgdgkpgdjahaaGreatDoor

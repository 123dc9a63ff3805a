/- Lemmas. -/
import Derived.Test.YtlfngkelmbdehaaGreatDoorMat
namespace Go.Proofs.YtlfngkelmbdehaaGreatDoor
open Go.RowKit
set_option linter.unusedVariables false
set_option linter.unusedSimpArgs false
set_option maxHeartbeats 16000000
open _root_.Go.Proofs.Tryz
set_option maxRecDepth 20000
theorem Dw{ok:nP}(v:Value)(l:List V3)(x:V3)(w:World)(h:aH VR w ok v l):Calls prog 295 #[v,.agg #[.int .i64 x.1,.int .i64 x.2.1,.string x.2.2]] w (aP (.int .i64 (eS (fun y=>decide (x=y)) l)) w):=by
 obtain⟨a,c,rfl,F⟩:=h.slice;have HB0:=aA (aB w (.cells #[.int .i64 x.1,.int .i64 x.2.1,.string x.2.2] 44));have j:=aA (aK w (.cells #[.int .i64 x.1,.int .i64 x.2.1,.string x.2.2] 44) _ rfl);have n:=aA (h.on bG HB0.o);obtain⟨w1,f⟩:=xE (w.alloc (.cells #[.int .i64 x.1,.int .i64 x.2.1,.string x.2.2] 44));rw[<-f] at n HB0 j;have z:=aA f;clear h f;obtain⟨d,e⟩:∃d:V3->Bool,d=(fun y=>decide (x=y)):=⟨_,rfl⟩;have t:=aA e;rw[<-e];clear e;unfold aP;go_enter func295,ntmps295;go_wp2;rw[<-z.o];go_loopw [5,8] (fun _ i wr=>∃k:Nat,k<=l.length/\i=.int .i64 k/\Hid (∀i (hi:i<l.length),i<k->d l[i]=false)/\Hid (Below w1.heap.size w1 wr)) (fun _ i _=>l.length - (intOf i).toNat)
 case atStart=>exact AY
 case round=>
  obtain⟨k,E,rfl,HR,HB⟩:=hrel;by_cases q:k<l.length
  .have hk1:(k:Int)<(l.length:Int):=qo;obtain⟨b,off,r,rfl,_,D,⟨rfl,A⟩,o⟩:=aH.at bG (n.o.on bG HB.o) q qe;obtain⟨C,G,H⟩:=cR3 o;rw[Nat.add_zero] at C;have m:=qK j HB.o;obtain⟨⟨I,J,K⟩,_⟩:=cE m.o;have L:=aD m.o;have p:=ES x l[k];have HL:Hid (∀g,d l[k]=g->((if g=true then eS d l=(k:Int) else ∀i (hi:i<l.length),i<k+1->d l[i]=false):Prop)):=aA (fun g hg=>by
    cases g
    .exact Wm
    .rw[iP rfl];exact IL q HR.o hg)
   have s:d l[k]=decide (x=l[k]):=by rw[t.o]
   rw[<-s] at p;clear HR o A s;generalize B:l[k]=y at *;generalize d y=g at *;clear B;go_wp2;go_quiet (fail)
   have HB':=aA (fX HB.o ⟨nq,rfl⟩);clear p
   cases g
   .exact Wn
   .exact QCc
  .exact QBK
theorem QS{ok:nP}(v:Value)(l:List V3)(x:V3)(w:World)(h:aH VR w ok v l):Calls prog 287 #[v,.agg #[.int .i64 x.1,.int .i64 x.2.1,.string x.2.2]] w (aP (.bool (l.any (fun y=>decide (x=y)))) w):=by
 have HB0:=aA (aB w (.cells #[.int .i64 x.1,.int .i64 x.2.1,.string x.2.2] 44));have HI:=aA (Dw v l x _ (h.on bG HB0.o));have HA:=aA (sV (fun y=>decide (x=y)) l);obtain⟨a,c,rfl,b⟩:=h.slice;unfold aP at *;generalize eS (fun y=>decide (x=y)) l=n at *;clear h;go_enter func287,ntmps287;exact QCe
theorem Vd{ok:nP}(v:Value)(l:List V3)(x:V3)(w:World)(h:aH VR w ok v l):Calls prog 284 #[v,dA x] w (aP (.bool (l.any (fun y=>decide (y=x)))) w):=by
 have HB0:=aA (aB w (.cells #[.int .i64 x.1,.int .i64 x.2.1,.string x.2.2] 44));have HI:=aA (QS v l x _ (h.on bG HB0.o));have e:l.any (fun y=>decide (y=x))=l.any (fun y=>decide (x=y)):=by congr 1;funext y;rw[Bool.eq_iff_iff];simp[eq_comm]
 rw[e];obtain⟨a,c,rfl,b⟩:=h.slice;unfold aP dA at *;generalize l.any (fun y=>decide (x=y))=n at *;clear h e;go_enter func284,ntmps284;go_wp2_with fail;exact Rp
theorem sZ(f:oD)(i g:Nat)(l:List V3)(v:V3)(e m:Int)(w:World):Calls prog 250 #[.agg #[.slice f i g,.int .i64 v.1,.int .i64 v.2.1,.string v.2.2,.int .i64 e],.int .i64 m] w (aP (.bool (It.is ⟨l,v,e⟩ m)) w):=by
 obtain⟨t,a⟩:∃t:Bool,decide (v=(1,m,ByteArray.empty))=t:=⟨_,rfl⟩;have j:∀w,Sem.run prog (binOp .eql 44 (.agg #[.int .i64 v.1,.int .i64 v.2.1,.string v.2.2]) (.agg #[.int .i64 1,.int .i64 m,.string ⟨#[]⟩])) w=.ok (.bool t) w:=by rw[<-a];exact ES v (1,m,ByteArray.empty)
 have c:Hid (It.is ⟨l,v,e⟩ m=(decide (e=0)&&t)):=aA (by unfold It.is;rw[<-a]);have b:=aA (fun o:Obj=>aB w o);unfold aP;rw[c.o];clear a c;by_cases he:e=0
 .have d:(e==0)=true:=bQ.2 he;rw[dX he,Bool.true_and];clear he;go_enter func250,ntmps250;go_wp2;go_returns;exact⟨rfl,b.o _⟩
 .have d:(e==0)=false:=bN.2 he;rw[dF he,Bool.false_and];clear he;go_enter func250,ntmps250;go_wp2;go_returns;exact⟨rfl,b.o _⟩
theorem GI(b:Bool)(n:Int)(a:(if b=true then (1:Int) else 0)=n)(w:World):Calls prog 283 #[.bool b] w (aP (.agg #[.slice none 0 0,.int .i64 1,.int .i64 n,.string ByteArray.empty,.int .i64 0]) w):=by
 have c:=aA (fun d e:Obj=>aC (aB w d) (aB _ e));unfold aP
 cases b
 .obtain rfl:n=0:=by rw[<-a];rfl
  clear a;go_enter func283,ntmps283;go_wp2;refine bR (.agg #[.slice none 0 0,.int .i64 1,.int .i64 0,.string ⟨#[]⟩,.int .i64 0]) ?_;exact⟨rfl,c.o _ _⟩
 .obtain rfl:n=1:=by rw[<-a];rfl
  clear a;go_enter func283,ntmps283;go_wp2;refine bR (.agg #[.slice none 0 0,.int .i64 1,.int .i64 1,.string ⟨#[]⟩,.int .i64 0]) ?_;exact⟨rfl,c.o _ _⟩
theorem Jk(op:Int)(w:World):Calls prog 269 #[.int .i64 op] w (fun e w'=>e=.returned (.int .i64 (jI op))/\w=w'):=by
 obtain⟨n,a⟩:∃n:Nat,jI op=n:=⟨_,rfl⟩;rw[a];have b:=aA a;clear a;go_enter func269,ntmps269;go_wp2
 all_goals go_returns
 all_goals
  refine⟨?_,rfl⟩;rw[<-b.o];clear b;unfold jI
  simp_all
def vA(op:Int):List V3->V3×Int
 | [a]=>nQ op a
 | [a,b]=>dH op a b
 |_=>(bD,1)
theorem Jl{ok:nP}(op:Int)(v:Value)(l:List V3)(w:World)(h:aH VR w ok v l)(g:(op=11/\l.length=1)\/(6<=op/\op<=13/\op≠11/\l.length=2)):Calls prog 285 #[.int .i64 op,v] w (eA (vA op l) w):=by
 rcases g with ⟨rfl,f⟩|⟨h6,h13,h11,f⟩
 .obtain⟨a,rfl⟩:=List.length_eq_one_iff.1 f;by_cases c:aT a=true
  .exact Cu v a w h c
  .have d:aT a=false:=by simpa using c
   have e:vA 11 [a]=(bD,1):=by show nQ 11 a=_;unfold nQ;rw[iP d]
   rw[e];exact FV 11 v [a] w h qe qe rfl (by simp[d])
 .obtain⟨a,b,rfl⟩:∃a b,l=[a,b]:=by
   match l,f with
   | [a,b],_=>exact⟨a,b,rfl⟩
  by_cases c:aT a=true/\aT b=true
  .show Calls _ _ _ _ (eA (dH op a b) w);have:op=6\/op=7\/op=8\/op=9\/op=10\/op=12\/op=13:=qo
   rcases this with rfl|rfl|rfl|rfl|rfl|rfl|rfl
   .exact Hw v a b w h c
   .exact Hy v a b w h c
   .exact Hz v a b w h c
   .exact Ia v a b w h c
   .exact Cr v a b w h c
   .exact Cs v a b w h c
   .exact Ct v a b w h c
  .have d:aT a=false\/aT b=false:=by
    by_cases h1:aT a=true
    .exact .inr (by simpa using fun h2=>c ⟨h1,h2⟩)
    .exact .inl (by simpa using h1)
   have e:vA op [a,b]=(bD,1):=by show dH op a b=_;unfold dH;rw[iP d]
   rw[e];refine FV op v [a,b] w h h6 h13 (by unfold RN;rw[iN h11];rfl) ?_
   rcases d with d|d<;>simp[d]
theorem oI:bK 0:=by unfold bK;decide
theorem KQ:bK 1:=by unfold bK;decide
theorem KR:bK 2:=by unfold bK;decide
theorem Zt:bK 3:=by unfold bK;decide
theorem jY:cR bD:=⟨oI,oI,qe⟩
theorem nO(b:Bool):cR (cH b):=by
 cases b
 .exact⟨KQ,oI,qe⟩
 .exact⟨KQ,KQ,qe⟩
theorem Pd(a b:V3):bK (jS a b).2:=by
 unfold jS;split
 .exact KQ
 split
 .exact KR
 split<;>exact oI
theorem xT{f:Int->Int->Int×Int}(c:∀a b,bK (f a b).1/\bK (f a b).2)(a b:V3):cR (eE f a b).1/\bK (eE f a b).2:=by
 unfold eE;split
 .exact⟨jY,KR⟩
 split
 .exact⟨jY,(c _ _).2⟩
 .exact⟨⟨KR,(c _ _).1,show ByteArray.empty.size<=cP by decide⟩,oI⟩
theorem MU(x:Int):bK (if jZ<=x/\x<=lD then (x,(0:Int)) else (0,3)).1/\bK (if jZ<=x/\x<=lD then (x,(0:Int)) else (0,3)).2:=by
 split
 .rename_i h;exact⟨h,oI⟩
 .exact⟨oI,Zt⟩
theorem Jm(op:Int)(l:List V3):cR (vA op l).1/\bK (vA op l).2:=by
 have one:=KQ;have two:=KR;have zero:=oI;unfold vA;split
 .unfold nQ;split
  .exact⟨jY,one⟩
  split
  .exact⟨jY,two⟩
  .exact⟨nO _,zero⟩
 .unfold dH;split
  .exact⟨jY,one⟩
  split
  .split
   .exact⟨jY,two⟩
   .exact⟨nO _,zero⟩
  split
  .split
   .exact⟨jY,Pd _ _⟩
   .exact⟨nO _,zero⟩
  split
  .exact xT (fun a b=>MU (a+b)) _ _
  split
  .exact xT (fun a b=>MU (a - b)) _ _
  split
  .exact xT (fun a b=>MU (a * b)) _ _
  split
  .exact⟨jY,two⟩
  split<;>exact⟨nO _,zero⟩
 .exact⟨jY,one⟩
def BJ(w:World)(ok:nP)(x:It)(vb:Value):Prop:=aH VR w ok vb x.bag/\cR x.val/\bK x.err
def sG:Rep It:=fun w ok cs x=>∃vb,cs=[vb,.int .i64 x.val.1,.int .i64 x.val.2.1,.string x.val.2.2,.int .i64 x.err]/\BJ w ok x vb
theorem iG:Firm sG 5:={
 aCM:=fun⟨vb,e,h1,h2,h3⟩ b=>⟨vb,e,aH.aCM bG h1 b,h2,h3⟩
 more:=fun⟨vb,e,h1,h2,h3⟩ c=>⟨vb,e,aH.more bG h1 c,h2,h3⟩
 len:=fun⟨vb,e,h⟩=>by rw[e];rfl
 one:=fun⟨vb,e,h⟩=>by
  intro v a;rw[e] at a;simp only[List.mem_cons,List.not_mem_nil,or_false] at a
  rcases a with rfl|rfl|rfl|rfl|rfl
  .exact kR h.1
  .rfl
  .rfl
  .rfl
  .rfl
 inb:=fun⟨vb,e,h1,h2,h3⟩=>⟨vb,e,aH.inb bG h1,h2,h3⟩}
def pB(x:It)(w:World)(e:Ending)(w':World):Prop:=∃vb,e=.returned (.agg #[vb,.int .i64 x.val.1,.int .i64 x.val.2.1,.string x.val.2.2,.int .i64 x.err])/\BJ w' (fun b=>w.heap.size<=b) x vb/\Below w.heap.size w w'
theorem lS{x:It}{v:V3}{e:Int}{w w':World}(c:x=jG v e)(b:cR v)(he:bK e)(a:Below w.heap.size w w'):pB x w (.returned (.agg #[.slice none 0 0,.int .i64 v.1,.int .i64 v.2.1,.string v.2.2,.int .i64 e])) w':=by
 subst c;exact⟨_,rfl,⟨aH.nil,b,he⟩,a⟩
theorem Dx{w:World}{g:Nat}{a b c d e:Value}:aN (fun k=>k≠g) w (((((w.setCell ⟨g,0,none⟩ a).setCell ⟨g,1,none⟩ b).setCell ⟨g,2,none⟩ c).setCell ⟨g,3,none⟩ d).setCell ⟨g,4,none⟩ e):=
 ((((aI a).trans (aI b)).trans (aI c)).trans (aI d)).trans (aI e)
theorem tZ{W w:World}{g:Nat}{a b c d e:Value}(h:Below W.heap.size W w)(f:W.heap.size<=g):Below W.heap.size W (((((w.setCell ⟨g,0,none⟩ a).setCell ⟨g,1,none⟩ b).setCell ⟨g,2,none⟩ c).setCell ⟨g,3,none⟩ d).setCell ⟨g,4,none⟩ e):=
 ((((h.setCell f _).setCell f _).setCell f _).setCell f _).setCell f _
abbrev nC:Array Value:=#[.slice none 0 0,.int .i64 0,.int .i64 0,.string ⟨#[]⟩,.int .i64 0]
theorem Jn{ok ok':nP}(n:No)(a:oM n)(d:Value)(l:List It)(c:Value)(g:List Gv)(w:World)(b:aH sG w ok' d l)(h:aH jM w ok c g)(h1:n.op=1)(i:l=[]):Calls prog 270 #[jJ n,d,c] w (pB (iL g n l) w):=by
 obtain⟨o,gc,rfl,_⟩:=h.slice;obtain⟨la,lc,rfl,p⟩:=b.slice;have j:=aA (aC (aB w (.cells (iO n) 301)) (aB _ (.cells nC 351)));have k:=aA (aE (aK w (.cells (iO n) 301) _ rfl) (aB (w.alloc (.cells (iO n) 301)) (.cells nC 351)));have m:Hid (((w.alloc (.cells (iO n) 301)).alloc (.cells nC 351)).heap[w.heap.size+1]? =some (.cells nC 351 (0,0))):=aA (aK (w.alloc (.cells (iO n) 301)) (.cells nC 351) _ qs);subst i;have d1:(n.op==1)=true:=bQ.2 h1;have f:Hid (iL g n []=jG n.val 0):=aA (iP h1);have e:=aA a.2.1;rw[f.o];unfold jJ;clear b h a h1;go_enter func270,ntmps270;go_wp2;refine bR (.agg #[.slice none 0 0,.int .i64 n.val.1,.int .i64 n.val.2.1,.string n.val.2.2,.int .i64 0]) ?_;exact lS rfl e.o oI (aC (aB _ _) (aB _ _))
theorem Jo{ok ok':nP}(n:No)(C:oM n)(t:Value)(l:List It)(s:Value)(g:List Gv)(w:World)(q:aH sG w ok' t l)(h:aH jM w ok s g)(h1:n.op=2)(E:l=[]):Calls prog 270 #[jJ n,t,s] w (pB (iL g n l) w):=by
 obtain⟨R,gc,rfl,_⟩:=h.slice;obtain⟨la,lc,rfl,S⟩:=q.slice;have m:=aA (aC (aB w (.cells (iO n) 301)) (aB _ (.cells nC 351)));have c:=aA (aE (aK w (.cells (iO n) 301) _ rfl) (aB (w.alloc (.cells (iO n) 301)) (.cells nC 351)));have d:Hid (((w.alloc (.cells (iO n) 301)).alloc (.cells nC 351)).heap[w.heap.size+1]? =some (.cells nC 351 (0,0))):=aA (aK (w.alloc (.cells (iO n) 301)) (.cells nC 351) _ qs);subst E;have d1:(n.op==1)=false:=bN.2 qo;have d2:(n.op==2)=true:=bQ.2 h1;have p:Hid (iL g n []=⟨(rH g n.aC3).1,bD,(rH g n.aC3).2⟩):=aA (iN qo);have a:=aA (TA _ g n.aC3 _ (h.on bZ m.o));rw[p.o];unfold jJ;unfold sW oF at a;have o:Hid (bK (rH g n.aC3).2):=aA (by unfold rH;split;exact(by unfold bK;decide);exact oI);generalize rH g n.aC3=r at *;obtain⟨bag,B⟩:=r;simp only at a o;clear q h C h1 p;go_enter func270,ntmps270;go_wp2_with fail;refine a.o.mono ?_;rintro e w1 ⟨v,rfl,j,f⟩;obtain⟨z,A,rfl,_⟩:=j.slice;have y:=aA (j.more bG (ok':=fun b=>w.heap.size<=b/\b≠w.heap.size+1) (fun b i=>by simp only[World.size_alloc] at i;exact⟨qo,qo⟩));have x:=qB m f;replace c:=qK c f;obtain⟨⟨F,G,H,I,J,K,L⟩,_⟩:=bI c.o;have T:=aD c.o;replace d:=qK d f;obtain⟨⟨M,N,O,P,Q⟩,_⟩:=dL d.o;have U:=aD d.o;clear j f a;go_wp2;refine bR (.agg #[.slice z bag.length A,.int .i64 0,.int .i64 0,.string ⟨#[]⟩,.int .i64 B]) ?_;refine⟨_,rfl,⟨?_,jY,o.o⟩,tZ x.o (Nat.le_succ _)⟩;exact aH.more bG (aH.aCM bG y.o (Dx.mono fun k _ D=>D.2)) (fun b i=>i.1)
theorem Jp{w:World}{ok:nP}{v:Value}{l:List It}(h:aH sG w ok v l){k:Nat}(b:k<l.length):cR l[k].val/\bK l[k].err/\l[k].bag.length<=1000000:=by
 obtain⟨a,c,rfl,_⟩:=h.slice;obtain⟨b',i,r,e,_,f,⟨vb,rfl,hp⟩,g⟩:=aH.at iG h b qe;obtain⟨_,_,_,d⟩:=hp.1.slice;exact⟨hp.2.1,hp.2.2,d⟩
theorem tK{w:World}{ok:nP}{b off n c k:Nat}{l:List It}(h:aH sG w ok (.slice (some ⟨b,off,none⟩) n c) l)(m:k<l.length):
 ∃d f,w.cell? ⟨b,off+k * 5,none⟩=some (.slice d l[k].bag.length f)/\w.cell? ⟨b,off+k * 5+1,none⟩=some (.int .i64 l[k].val.1)/\w.cell? ⟨b,off+k * 5+2,none⟩=some (.int .i64 l[k].val.2.1)/\w.cell? ⟨b,off+k * 5+3,none⟩=some (.string l[k].val.2.2)/\w.cell? ⟨b,off+k * 5+4,none⟩=some (.int .i64 l[k].err)/\
  BJ w ok l[k] (.slice d l[k].bag.length f)/\b<w.heap.size:=by
 obtain⟨b',o,r,e,_,j,⟨vb,rfl,hp⟩,a⟩:=aH.at iG h m qe;injection e with e;injection e with g i _;subst g i;obtain⟨d,f,rfl,_⟩:=hp.1.slice;exact⟨d,f,by have:=a 0 _ rfl;rwa [Nat.add_zero] at this,a 1 _ rfl,a 2 _ rfl,a 3 _ rfl,a 4 _ rfl,hp,j⟩
theorem AM{w:World}{ok:nP}{a:oD}{n c:Nat}{l:List It}(h:aH sG w ok (.slice a n c) l)(d:0<l.length):∃b off,a=some ⟨b,off,none⟩:=by
 obtain⟨b',f,r,e,_⟩:=aH.at iG h d qe;exact⟨_,_,e⟩
theorem Pe(l:List It)(k:Nat)(a:k<l.length):(l.take k).map (·.val)++[l[k].val]=(l.take (k+1)).map (·.val):=by
 rw[List.take_succ_eq_append_getElem a,List.map_append];rfl
def xH(n:No)(l:List It):Prop:=(n.op=3/\l.length=1)\/(n.op=4/\l.length=1)\/(n.op=5/\l.length=2)\/((n.op=11/\l.length=1)\/(6<=n.op/\n.op<=13/\n.op≠11/\l.length=2))
def xI(n:No)(l:List It):Prop:=(n.op=12\/n.op=13)/\∃a b,l=[a,b]/\(a.is (n.op - 12)=true\/b.is (n.op - 12)=true)
theorem YC{g:List Gv}{n:No}{l:List It}(h:xI n l):iL g n l=jG (cH (decide (n.op=13))) 0:=by
 obtain⟨h1,a,b,rfl,h2⟩:=h;show (if (n.op=12\/n.op=13)/\(a.is (n.op - 12)=true\/b.is (n.op - 12)=true) then jG (cH (decide (n.op=13))) 0 else _)=_;rw[iP ⟨h1,h2⟩]
theorem uA{g:List Gv}{n:No}{a:It}:iL g n [a]=if a.err≠0 then jG bD a.err else if n.op=3 then (match a.bag with | [v]=>jG v 0|_=>jG bD 4) else if n.op=4 then jG (2,a.bag.length,ByteArray.empty) 0 else jG (nQ n.op a.val).1 (nQ n.op a.val).2:=rfl
theorem DP{g:List Gv}{n:No}{a b:It}(h:¬xI n [a,b]):iL g n [a,b]=if a.err≠0 then jG bD a.err else if b.err≠0 then jG bD b.err else if n.op=5 then jG (cH (a.bag.any (fun v=>decide (v=b.val)))) 0 else jG (dH n.op a.val b.val).1 (dH n.op a.val b.val).2:=by
 show (if (n.op=12\/n.op=13)/\(a.is (n.op - 12)=true\/b.is (n.op - 12)=true) then _ else _)=_;rw[iN (fun h2=>h ⟨h2.1,a,b,rfl,h2.2⟩)]
theorem PC{g:List Gv}{n:No}{l:List It}(d:l.length=1\/l.length=2)(he:¬xI n l){k:Nat}(c:k<l.length)(h0:∀i (e:i<l.length),i<k->l[i].err=0)(h1:l[k].err≠0):iL g n l=jG bD l[k].err:=by
 match l,d with
 | [a],_=>
   obtain rfl:k=0:=by simp at c;omega
   rw[uA,iP (show a.err≠0 from h1)];rfl
 | [a,b],_=>
   rw[DP he]
   match k,c with
   |0,_=>rw[iP (show a.err≠0 from h1)];rfl
   |1,_=>
    have h2:a.err=0:=h0 0 qs qo;rw[iN (fun h=>h h2),iP (show b.err≠0 from h1)];rfl
theorem Dy{g:List Gv}{n:No}{l:List It}(d:(n.op=11/\l.length=1)\/(6<=n.op/\n.op<=13/\n.op≠11/\l.length=2))(he:¬xI n l)(h0:∀i (e:i<l.length),l[i].err=0):iL g n l=jG (vA n.op (l.map (·.val))).1 (vA n.op (l.map (·.val))).2:=by
 rcases d with ⟨f,c⟩|⟨h6,h13,h11,c⟩
 .match l,c with
  | [a],_=>
    rw[uA,iN (fun h=>h (h0 0 qs)),iN qo,iN qo];rfl
 .match l,c with
  | [a,b],_=>
    rw[DP he,iN (fun h=>h (h0 0 qs)),iN (fun h=>h (h0 1 qs)),iN qo];rfl
theorem QCM{p:Prop}(h:p:=by
 exact⟨0,none,0,qo,rfl,rfl,aA (fun i _ h=>absurd h qo),aA aM.nil,aA (Below.refl _ _)⟩):p:=h
theorem QBa{p:Prop}(h:p:=by
 try clear NB0 NB1 NB2 NB3 NB4 NB5 NB6 zNB
 replace NB:=qK NB hb_;obtain⟨⟨NB0,NB1,NB2,NB3,NB4,NB5,NB6⟩,_⟩:=bI NB.o;have zNB:=aD NB.o
 try clear RB0 RB1 RB2 RB3 RB4 zRB
 replace RB:=qK RB hb_;obtain⟨⟨RB0,RB1,RB2,RB3,RB4⟩,_⟩:=dL RB.o;have zRB:=aD RB.o;clear hb_ HT;go_wp2;refine bR (.agg #[.slice none 0 0,.int .i64 1,.int .i64 n1,.string ByteArray.empty,.int .i64 0]) ?_;exact lS rfl HG1.o oI (tZ HB3.o (Nat.le_succ _))):p:=h
theorem QAB{p:Prop}(h:p:=by
 obtain⟨⟨u0,u1,u2,u3,u4⟩,_⟩:=dL RB2.o;obtain⟨⟨v0,v1,v2,v3,v4,v5,v6⟩,_⟩:=bI NB2.o;have zu:=aD RB2.o;have HF:=aA (Jl n.op _ (l.map (·.val)) wr (HG9.o.sl (by rw[List.length_map];omega) (fun _=>True) (fun _ _ _=>trivial) (fun _ _ _=>trivial) bG) (by rw[List.length_map];exact hca));have HV2:=aA (Dy (g:=g) hca HEA.o HQ9.o);have HGC:=aA (Jm n.op (l.map (·.val)));unfold eA dA at HF;generalize vA n.op (l.map (·.val))=r at *;obtain⟨⟨r0,r1,r2⟩,en⟩:=r;simp only at HF;clear hca;go_wp2_with fail;refine HF.o.mono ?_;rintro e w2 ⟨rfl,hb_⟩;have HB2:=qB HBT hb_;clear u0 u1 u2 u3 u4 v0 v1 v2 v3 v4 v5 v6 zu;replace RB2:=qK RB2 hb_;obtain⟨⟨RB20,RB21,RB22,RB23,RB24⟩,_⟩:=dL RB2.o;have zRB2:=aD RB2.o;clear hb_ HF;go_wp2;refine bR (.agg #[.slice none 0 0,.int .i64 r0,.int .i64 r1,.string r2,.int .i64 en]) ?_;rw[HRES.o,HV2.o];exact lS rfl HGC.o.1 HGC.o.2 (aC (tZ HB2.o (Nat.le_succ _)) (aB _ _))):p:=h
theorem QAf{p:Prop}(h:p:=by
 have hk1:(k:Int)<(l.length:Int):=qo;obtain⟨ba,bc,x0,x1,x2,x3,x4,_,hbl⟩:=tK (HL.o.on iG HBT.o) hlt;have hgd:=Jp HL.o hlt;have HQ2:=aA (fun h1=>HER.o k hlt HQ.o h1);have HQ3:Hid (l[k].err=0->∀i (hi:i<l.length),i<k+1->l[i].err=0):=aA (fun h1 i hi h=>by
  rcases Nat.lt_or_ge i k with h2|h2
  .exact HQ.o i hi h2
  .obtain rfl:i=k:=qo;exact h1)
 have HHV:=aA (Pe l k hlt);have HGD:=aA hgd;clear hgd HQ;generalize hx:l[k]=x at *;clear hx;by_cases he:x.err=0
 .have d:(x.err != 0)=false:=by rw[he];rfl
  have HQ4:=aA (HQ3.o he);have HB2:=qB HB (aB wr (.cells #[.slice ba x.bag.length bc,.int .i64 x.val.1,.int .i64 x.val.2.1,.string x.val.2.2,.int .i64 x.err] 351));have HB3:=qB HB2 (aB _ (.cells #[.int .i64 x.val.1,.int .i64 x.val.2.1,.string x.val.2.2] 44));have HNE:=aA (aK (wr.alloc (.cells #[.slice ba x.bag.length bc,.int .i64 x.val.1,.int .i64 x.val.2.1,.string x.val.2.2,.int .i64 x.err] 351)) (.cells #[.int .i64 x.val.1,.int .i64 x.val.2.1,.string x.val.2.2] 44) (wr.heap.size+1) qs);have HG2:=aA (HG.o.on bG (aC (aB wr (.cells #[.slice ba x.bag.length bc,.int .i64 x.val.1,.int .i64 x.val.2.1,.string x.val.2.2,.int .i64 x.err] 351)) (aB _ (.cells #[.int .i64 x.val.1,.int .i64 x.val.2.1,.string x.val.2.2] 44))));have HLK:=aA (show ((l.take k).map (·.val)).length=k by rw[List.length_map,List.length_take];omega);have HSZ:=aA HB.o.size;have HLL:=aA hll;clear he HQ2 HQ3 HG;go_wp2_with (at_builtin;refine cA (base:=W.heap.size) Xf bG rfl (.tmp 67) (.tmp 70) rfl _ ((l.take k).map (·.val)) rfl HG2.o (wr.heap.size+1) 1 _ _ _ x.val rfl HNE.o ⟨rfl,HGD.o.1⟩ (by rw[HLK.o];have:=HLL.o;omega) qo (by have:=HSZ.o;simp only[World.size_alloc];omega) ?_;intro l' hl' A' c2 w9 hG hgr hat';have HG9:=aA hG;have HB9:=aA (HG2.o.below HB3.o hgr (lR _) (by have:=HSZ.o;simp only[World.size_alloc];omega));have HL9:=aA hl'.o;clear hG hgr hat' hl')
  have e9:l'.length=k+1:=by rw[HL9.o,aL,HLK.o];rfl
  rw[e9] at HG9 ⊢;go_roundw
  case rel=>exact⟨k+1,A',c2,qo,by go_num,rfl,HQ4,aA (by have:=HG9.o;rw[HL9.o,HHV.o] at this;exact this),HB9⟩
  case measure=>simp[intOf];omega
 .have d:(x.err != 0)=true:=bne_iff_ne.2 he;have HX:=aA (HQ2.o he);have RB2:=qK RB HB.o;obtain⟨⟨u0,u1,u2,u3,u4⟩,_⟩:=dL RB2.o;have zu:=aD RB2.o;clear he HQ2 HQ3;go_wp2;refine bR (.agg #[.slice none 0 0,.int .i64 0,.int .i64 0,.string ⟨#[]⟩,.int .i64 x.err]) ?_;rw[HX.o];exact lS rfl jY HGD.o.2.1 (aC (tZ HBT.o (Nat.le_succ _)) (aB _ _))):p:=h
theorem Jq{ok ok':nP}(n:No)(V:oM n)(G:Value)(l:List It)(F:Value)(g:List Gv)(w:World)(f:aH sG w ok' G l)(h:aH jM w ok F g)(he:xI n l):Calls prog 270 #[jJ n,G,F] w (pB (iL g n l) w):=by
 obtain⟨Z,gc,rfl,_⟩:=h.slice;obtain⟨la,lc,rfl,aa⟩:=f.slice;have t:=aA (aC (aB w (.cells (iO n) 301)) (aB _ (.cells nC 351)));have NB:=aA (aE (aK w (.cells (iO n) 301) _ rfl) (aB (w.alloc (.cells (iO n) 301)) (.cells nC 351)));have RB:Hid (((w.alloc (.cells (iO n) 301)).alloc (.cells nC 351)).heap[w.heap.size+1]? =some (.cells nC 351 (0,0))):=aA (aK (w.alloc (.cells (iO n) 301)) (.cells nC 351) _ qs);have z:=aA (YC (g:=g) he);obtain⟨C,x,y,rfl,d⟩:=he;have v:=aA f;obtain⟨b,off,rfl⟩:=AM f qs;obtain⟨n1,i⟩:∃n1:Int,(if decide (n.op=13)=true then (1:Int) else 0)=n1:=⟨_,rfl⟩;have HT:=aA (fun w'=>GI (decide (n.op=13)) n1 i w');have HG1:Hid (cR (1,n1,ByteArray.empty)):=aA (by rw[<-i];exact nO (decide (n.op=13)));have A:Hid (iL g n [x,y]=jG (1,n1,ByteArray.empty) 0):=aA (by rw[z.o];unfold cH;rw[i]);rw[A.o];obtain⟨m,hm⟩:=xE (n.op - 12);rw[<-hm] at d;have em:(m==1)=decide (n.op=13):=by rw[Bool.eq_iff_iff];simp;omega
 have U:IntKind.i64.wrap (n.op - 12)=m:=by rw[hm];exact IntWalk.i64_in _ qo
 have d1:(n.op==1)=false:=bN.2 qo;have d2:(n.op==2)=false:=bN.2 qo;have Y:wrap64 (n.op - 12)=m:=by rw[<-IntWalk.i64_left];exact U
 have T:Hid (((n.op==12)=true)\/((n.op==12)=false/\(n.op==13)=true)):=aA (by
  rcases C with h|h
  .exact .inl (bQ.2 h)
  .exact .inr ⟨bN.2 qo,bQ.2 h⟩)
 obtain⟨tb,E⟩:∃tb,decide (n.op=13)=tb:=⟨_,rfl⟩;rw[E] at HT em;unfold aP at HT;have a:=aA (fun o r w'=>sZ o x.bag.length r x.bag x.val x.err m w');have c:=aA (fun o r w'=>sZ o y.bag.length r y.bag y.val y.err m w');unfold aP at a c;have ex:It.is ⟨x.bag,x.val,x.err⟩ m=x.is m:=rfl;have B:It.is ⟨y.bag,y.val,y.err⟩ m=y.is m:=rfl;rw[ex] at a;rw[B] at c;unfold jJ;obtain⟨p,hp⟩:∃p,x.is m=p:=⟨_,rfl⟩;obtain⟨q,D⟩:∃q,y.is m=q:=⟨_,rfl⟩;rw[hp] at a d;rw[D] at c d;have S:=aA d;clear f h V C hm d ex B hp D E i z A
 rcases T.o with d3|⟨d3,d4⟩
 all_goals
  obtain⟨xa,xc,H,I,J,K,L,_,s⟩:=tK (k:=0) (v.o.on iG t.o) qs;simp only[Nat.zero_mul,Nat.add_zero,List.getElem_cons_zero] at H I J K L;go_enter func270,ntmps270;go_wp2_with fail;refine(a.o _ _ _).mono ?_;rintro e w1 ⟨rfl,hb_⟩;have j:=qB t hb_;replace NB:=qK NB hb_;obtain⟨⟨NB0,NB1,NB2,NB3,NB4,NB5,NB6⟩,_⟩:=bI NB.o;have zNB:=aD NB.o;replace RB:=qK RB hb_;obtain⟨⟨RB0,RB1,RB2,RB3,RB4⟩,_⟩:=dL RB.o;have zRB:=aD RB.o;clear hb_ a H I J K L s
  cases p
  .have W:q=true:=by rcases S.o with h|h;cases h;exact h
   subst W;obtain⟨ya,yc,M,N,O,P,Q,_,s⟩:=tK (k:=1) (v.o.on iG j.o) qs;simp only[Nat.one_mul,List.getElem_cons_succ,List.getElem_cons_zero] at M N O P Q;go_wp2_with fail;refine(c.o _ _ _).mono ?_;rintro e w2 ⟨rfl,hb_⟩;have R:=qB j hb_
   try clear NB0 NB1 NB2 NB3 NB4 NB5 NB6 zNB
   replace NB:=qK NB hb_;obtain⟨⟨NB0,NB1,NB2,NB3,NB4,NB5,NB6⟩,_⟩:=bI NB.o;have zNB:=aD NB.o
   try clear RB0 RB1 RB2 RB3 RB4 zRB
   replace RB:=qK RB hb_;obtain⟨⟨RB0,RB1,RB2,RB3,RB4⟩,_⟩:=dL RB.o;have zRB:=aD RB.o;clear hb_ c M N O P Q s;go_wp2_with fail;refine(HT.o _).mono ?_;rintro e X ⟨rfl,hb_⟩;have HB3:=qB R hb_;exact QBa
  .go_wp2_with fail;refine(HT.o _).mono ?_;rintro e X ⟨rfl,hb_⟩;have HB3:=qB j hb_;exact QBa
theorem Jr{ok ok':nP}(n:No)(U:oM n)(vl:Value)(l:List It)(vg:Value)(g:List Gv)(w:World)(t:aH sG w ok' vl l)(h:aH jM w ok vg g)(z:n.op=12\/n.op=13)(he:¬xI n l)(j:l.length=2):Calls prog 270 #[jJ n,vl,vg] w (pB (iL g n l) w):=by
 obtain⟨ga,gc,rfl,_⟩:=h.slice;obtain⟨la,lc,rfl,hll⟩:=t.slice;have c:=aA (aC (aB w (.cells (iO n) 301)) (aB _ (.cells nC 351)));have a:=aA (aE (aK w (.cells (iO n) 301) _ rfl) (aB (w.alloc (.cells (iO n) 301)) (.cells nC 351)));have RB:Hid (((w.alloc (.cells (iO n) 301)).alloc (.cells nC 351)).heap[w.heap.size+1]? =some (.cells nC 351 (0,0))):=aA (aK (w.alloc (.cells (iO n) 301)) (.cells nC 351) _ qs);have HEA:=aA he;have hca:(n.op=11/\l.length=1)\/(6<=n.op/\n.op<=13/\n.op≠11/\l.length=2):=qo;have aa:=aA hca;have Z:l.length=1\/l.length=2:= .inr j;have HL:=aA t;have L:0<l.length:=qo;have V:1<l.length:=qo;obtain⟨b,off,rfl⟩:=AM t L;have HER:=aA (fun k (f:k<l.length) h0 h1=>PC (g:=g) Z he f h0 h1);obtain⟨af,M⟩:=xE (iL g n l);have HRES:=aA M;rw[<-M] at HER ⊢;obtain⟨m,hm⟩:=xE (n.op - 12);have S:IntKind.i64.wrap (n.op - 12)=m:=by rw[hm];exact IntWalk.i64_in _ qo
 have ad:wrap64 (n.op - 12)=m:=by rw[<-IntWalk.i64_left];exact S
 have d1:(n.op==1)=false:=bN.2 qo;have d2:(n.op==2)=false:=bN.2 qo;have R:Hid (((n.op==12)=true)\/((n.op==12)=false/\(n.op==13)=true)):=aA (by
  rcases z with h|h
  .exact .inl (bQ.2 h)
  .exact .inr ⟨bN.2 qo,bQ.2 h⟩)
 have P:Hid (∀(f:0<l.length),l[0].is m=false):=aA (fun f=>by
  rw[hm];refine Bool.eq_false_iff.2 (fun h=>he ⟨z,?_⟩)
  match l,j with
  | [x,y],_=>exact⟨x,y,rfl,.inl h⟩)
 have Q:Hid (∀(f:1<l.length),l[1].is m=false):=aA (fun f=>by
  rw[hm];refine Bool.eq_false_iff.2 (fun h=>he ⟨z,?_⟩)
  match l,j with
  | [x,y],_=>exact⟨x,y,rfl,.inr h⟩)
 obtain⟨xa,xc,x0,x1,x2,x3,x4,_,hbl⟩:=tK (k:=0) (HL.o.on iG c.o) L;have o:=aA (fun w'=>sZ xa l[0].bag.length xc l[0].bag l[0].val l[0].err m w');have p:=aA (fun ba bc w'=>sZ ba l[1].bag.length bc l[1].bag l[1].val l[1].err m w');unfold aP at o p;have ex:It.is ⟨l[0].bag,l[0].val,l[0].err⟩ m=false:=P.o L;have T:It.is ⟨l[1].bag,l[1].val,l[1].err⟩ m=false:=Q.o V;rw[ex] at o;rw[T] at p;simp only[Nat.zero_mul,Nat.add_zero] at x0 x1 x2 x3 x4;have ag:(0:Int)<(l.length:Int):=qo;have ah:(1:Int)<(l.length:Int):=qo;have HV:=aA U;have ae:=aA j;unfold jJ;clear h hca he z Z M hm U t ex T P Q j;generalize hX:l[0]=X at *;have ab:=aA (show ∃y,l[1]=y from ⟨_,rfl⟩)
 rcases R.o with d3|⟨d3,d4⟩
 all_goals
  go_enter func270,ntmps270;go_wp2_with fail;refine(o.o _).mono ?_;rintro e w1 ⟨rfl,hb_⟩;have A:=qB c hb_;replace a:=qK a hb_;obtain⟨⟨B,C,NB2,D,E,F,G⟩,_⟩:=bI a.o;have N:=aD a.o;replace RB:=qK RB hb_;obtain⟨⟨H,I,RB2,J,K⟩,_⟩:=dL RB.o;have O:=aD RB.o;clear hb_ o x0 x1 x2 x3 x4 hbl;obtain⟨ya,yc,y0,y1,y2,y3,y4,_,hbl⟩:=tK (k:=1) (HL.o.on iG A.o) V;simp only[Nat.one_mul] at y0 y1 y2 y3 y4;generalize hY:l[1]=Y at *;go_wp2_with fail;refine(p.o _ _ _).mono ?_;rintro e W ⟨rfl,hb_⟩;clear c;have c:=qB A hb_
  try clear B C NB2 D E F G N
  replace a:=qK a hb_;obtain⟨⟨B,C,NB2,D,E,F,G⟩,_⟩:=bI a.o;have N:=aD a.o
  try clear H I RB2 J K O
  replace RB:=qK RB hb_;obtain⟨⟨H,I,RB2,J,K⟩,_⟩:=dL RB.o;have O:=aD RB.o;clear hb_ p y0 y1 y2 y3 y4 hbl hX hY ab H I RB2 J K O B C NB2 D E F G N A R d1 d2 S ad;go_wp2;go_loopw [10,57] (fun v i wr=>∃(k:Nat) (q:oD) (s:Nat),k<=l.length/\i=.int .i64 k/\v=.slice q k s/\Hid (∀i (hi:i<l.length),i<k->l[i].err=0)/\Hid (aM VR 3 44 wr W.heap.size (fun _=>True) (.slice q k s) ((l.take k).map (·.val)))/\Hid (Below W.heap.size W wr)) (fun _ i _=>l.length - (intOf i).toNat)
  case atStart=>exact QCM
  case round=>
   obtain⟨k,q,s,f,rfl,rfl,HQ,HG,HB⟩:=hrel;have HBT:=aA (c.o.trans (HB.o.mono c.o.size));by_cases hlt:k<l.length
   .exact QAf
   .have hk1:¬(k:Int)<(l.length:Int):=qo;obtain rfl:k=l.length:=qo;have HQ9:=aA (fun i (hi:i<l.length)=>HQ.o i hi hi);have HG9:=aA (by have h:=HG.o;rw[List.take_of_length_le (lR _)] at h;exact h:aM VR 3 44 wr W.heap.size (fun _=>True) (.slice q l.length s) (l.map (·.val)));have RB2:=qK RB HB.o;have NB2:=qK a HB.o;clear HQ HG HER;have hca:=aa.o;have d5:(n.op==3)=false:=bN.2 qo;have d6:(n.op==4)=false:=bN.2 qo;have d7:(n.op==5)=false:=bN.2 qo;exact QAB
theorem Js{ok ok':nP}(n:No)(U:oM n)(vl:Value)(l:List It)(vg:Value)(g:List Gv)(w:World)(z:aH sG w ok' vl l)(h:aH jM w ok vg g)(I:n.op≠12/\n.op≠13)(he:¬xI n l)(o:xH n l):Calls prog 270 #[jJ n,vl,vg] w (pB (iL g n l) w):=by
 obtain⟨ga,gc,rfl,_⟩:=h.slice;obtain⟨la,lc,rfl,hll⟩:=z.slice;have D:=aA (aC (aB w (.cells (iO n) 301)) (aB _ (.cells nC 351)));have Q:=aA (aE (aK w (.cells (iO n) 301) _ rfl) (aB (w.alloc (.cells (iO n) 301)) (.cells nC 351)));have RB:Hid (((w.alloc (.cells (iO n) 301)).alloc (.cells nC 351)).heap[w.heap.size+1]? =some (.cells nC 351 (0,0))):=aA (aK (w.alloc (.cells (iO n) 301)) (.cells nC 351) _ qs);have HEA:=aA he;have HC:=aA o;have B:l.length=1\/l.length=2:=by unfold xH at o;omega
 have af:=aA B;have HL:=aA z;obtain⟨b,off,rfl⟩:=AM z qo;have HER:=aA (fun k (X:k<l.length) h0 h1=>PC (g:=g) B he X h0 h1);have d1:(n.op==1)=false:=bN.2 (by unfold xH at o;omega);have d2:(n.op==2)=false:=bN.2 (by unfold xH at o;omega);have d3:(n.op==12)=false:=bN.2 I.1;have d4:(n.op==13)=false:=bN.2 I.2;obtain⟨ag,J⟩:=xE (iL g n l);have HRES:=aA J;rw[<-J] at HER ⊢;obtain⟨W0,L⟩:=xE ((w.alloc (.cells (iO n) 301)).alloc (.cells nC 351));rw[<-L] at D Q RB;have P:=aA L;have HV:=aA U;have ae:=B;unfold jJ;clear h o he B J L U z ae I;go_enter func270,ntmps270;go_wp2;rw[<-P.o];clear P;obtain⟨W,hW⟩:=xE W0;subst hW;go_loopw [10,57] (fun v i wr=>∃(k:Nat) (q:oD) (s:Nat),k<=l.length/\i=.int .i64 k/\v=.slice q k s/\Hid (∀i (hi:i<l.length),i<k->l[i].err=0)/\Hid (aM VR 3 44 wr W.heap.size (fun _=>True) (.slice q k s) ((l.take k).map (·.val)))/\Hid (Below W.heap.size W wr)) (fun _ i _=>l.length - (intOf i).toNat)
 case atStart=>exact QCM
 case round=>
  obtain⟨k,q,s,X,rfl,rfl,HQ,HG,HB⟩:=hrel;have HBT:=aA (D.o.trans (HB.o.mono D.o.size));by_cases hlt:k<l.length
  .exact QAf
  .have hk1:¬(k:Int)<(l.length:Int):=qo;obtain rfl:k=l.length:=qo;have HQ9:=aA (fun i (hi:i<l.length)=>HQ.o i hi hi);have HG9:=aA (by have h:=HG.o;rw[List.take_of_length_le (lR _)] at h;exact h:aM VR 3 44 wr W.heap.size (fun _=>True) (.slice q l.length s) (l.map (·.val)));have RB2:=qK RB HB.o;have NB2:=qK Q HB.o;clear HQ HG HER;have T:=HC.o;unfold xH at T
   rcases T with ⟨h3,c⟩|⟨h3,c⟩|⟨h3,c⟩|hca
   .obtain⟨x,rfl⟩:=List.length_eq_one_iff.1 c;have G:(n.op==3)=true:=bQ.2 h3;obtain⟨ba,bc,x0,x1,x2,x3,x4,hp,hbl⟩:=tK (k:=0) (HL.o.on iG HBT.o) qs;simp only[Nat.zero_mul,Nat.add_zero,List.getElem_cons_zero] at x0 x1 x2 x3 x4 hp;have a:=HQ9.o 0 qs;obtain⟨⟨u0,u1,u2,u3,u4⟩,_⟩:=dL RB2.o;obtain⟨⟨v0,v1,v2,v3,v4,v5,v6⟩,_⟩:=bI NB2.o;have zu:=aD RB2.o;by_cases m:x.bag.length=1
    .obtain⟨v,p⟩:=List.length_eq_one_iff.1 m;have HV2:Hid (iL g n [x]=jG v 0):=aA (by rw[uA,iN (fun h=>h a),iP h3,p]);have C:=hp.1;rw[p] at C x0;obtain⟨b2,ai,rfl,ah,V,_⟩:=KG C;obtain⟨M,N,O⟩:=ER C;have ad:=aA V;have Y:[v].length=1:=rfl;rw[Y] at x0;clear C V p m hp a h3 c Y;go_wp2;refine bR (.agg #[.slice none 0 0,.int .i64 v.1,.int .i64 v.2.1,.string v.2.2,.int .i64 0]) ?_;rw[HRES.o,HV2.o];exact lS rfl ad.o oI (tZ HBT.o (Nat.le_succ _))
    .have HV2:Hid (iL g n [x]=jG bD 4):=aA (by
      rw[uA,iN (fun h=>h a),iP h3];split
      .rename_i v p;rw[p] at m;exact absurd rfl m
      .rfl)
     have H:((x.bag.length:Int) != 1)=true:=bne_iff_ne.2 qo;clear hp a h3 c m;go_wp2;refine bR (.agg #[.slice none 0 0,.int .i64 0,.int .i64 0,.string ⟨#[]⟩,.int .i64 4]) ?_;rw[HRES.o,HV2.o];exact lS rfl jY (by unfold bK;decide) (tZ HBT.o (Nat.le_succ _))
   .obtain⟨x,rfl⟩:=List.length_eq_one_iff.1 c;have G:(n.op==3)=false:=bN.2 qo;have H:(n.op==4)=true:=bQ.2 h3;obtain⟨ba,bc,x0,x1,x2,x3,x4,hp,hbl⟩:=tK (k:=0) (HL.o.on iG HBT.o) qs;simp only[Nat.zero_mul,Nat.add_zero,List.getElem_cons_zero] at x0 x1 x2 x3 x4 hp;have a:=HQ9.o 0 qs;obtain⟨_,_,_,S⟩:=hp.1.slice;have aa:=aA S;obtain⟨⟨u0,u1,u2,u3,u4⟩,_⟩:=dL RB2.o;obtain⟨⟨v0,v1,v2,v3,v4,v5,v6⟩,_⟩:=bI NB2.o;have zu:=aD RB2.o;have HV2:Hid (iL g n [x]=jG (2,x.bag.length,ByteArray.empty) 0):=aA (by rw[uA,iN (fun h=>h a),iN qo,iP h3]);clear hp a h3 c S;go_wp2;refine bR (.agg #[.slice none 0 0,.int .i64 2,.int .i64 x.bag.length,.string ⟨#[]⟩,.int .i64 0]) ?_;rw[HRES.o,HV2.o];exact lS rfl ⟨KR,show bK (x.bag.length:Int) by have:=aa.o;unfold bK;omega,show ByteArray.empty.size<=cP by decide⟩ oI (tZ HBT.o (Nat.le_succ _))
   .obtain⟨x,y,rfl⟩:∃x y,l=[x,y]:=by
     match l,c with
     | [x,y],_=>exact⟨x,y,rfl⟩
    have G:(n.op==3)=false:=bN.2 qo;have H:(n.op==4)=false:=bN.2 qo;have e7:(n.op==5)=true:=bQ.2 h3;obtain⟨ba,bc,x0,x1,x2,x3,x4,hp,hbl⟩:=tK (k:=0) (HL.o.on iG HBT.o) qs;obtain⟨ya,yc,M,N,O,y3,y4,_,_⟩:=tK (k:=1) (HL.o.on iG HBT.o) qs;simp only[Nat.zero_mul,Nat.one_mul,Nat.add_zero,List.getElem_cons_zero,List.getElem_cons_succ] at x0 x1 x2 x3 x4 hp M N O y3 y4;have a:=HQ9.o 0 qs;have Z:=HQ9.o 1 qs;obtain⟨⟨u0,u1,u2,u3,u4⟩,_⟩:=dL RB2.o;obtain⟨⟨v0,v1,v2,v3,v4,v5,v6⟩,_⟩:=bI NB2.o;have zu:=aD RB2.o;obtain⟨t,K⟩:∃t:Bool,x.bag.any (fun v=>decide (v=y.val))=t:=⟨_,rfl⟩;obtain⟨f,A⟩:∃f:Int,(if t=true then (1:Int) else 0)=f:=⟨_,rfl⟩;have HV2:Hid (iL g n [x,y]=jG (1,f,ByteArray.empty) 0):=aA (by
     rw[DP HEA.o,iN (fun h=>h a),iN (fun h=>h Z),iP h3,K];unfold cH;rw[A])
    have ab:Hid (cR (1,f,ByteArray.empty)):=aA (by rw[<-A];exact nO t);have E:=aA (fun w'=>GI t f A w');have j:=aA (Vd _ x.bag y.val wr.drew (hp.1.aCM bG ((aJ (ok:=ok') (Below.refl wr.heap.size wr)).trans ⟨rfl,rfl,rfl,lR _,fun _ _ _=>rfl⟩)));unfold aP at E j;unfold dA at j;rw[K] at j;clear hp a Z h3 c K A;go_wp2;refine qI 8 (by kernel_rfl) (by kernel_rfl) ?_;simp only[List.take_succ_cons,List.take_zero,List.drop_succ_cons,List.drop_zero]
    repeat still_step
    refine wpStill_nil ?_;go_wp2_with fail;refine j.o.mono ?_;rintro e w2 ⟨rfl,hb_⟩;have HB2:=aA (aC HBT.o.drew hb_);have F:=aA (aE (show (wr.drew).heap[w.heap.size+1]? =_ from RB2.o) hb_);clear hb_ j x0 x1 x2 x3 x4 M N O y3 y4 u0 u1 u2 u3 u4 v0 v1 v2 v3 v4 v5 v6 zu;obtain⟨⟨u0,u1,u2,u3,u4⟩,_⟩:=dL F.o;have zu:=aD F.o;go_wp2_with fail;refine(E.o _).mono ?_;rintro e w3 ⟨rfl,hb_⟩;have HB3:=qB HB2 hb_;have R:=qK F hb_;clear hb_ E u0 u1 u2 u3 u4 zu;obtain⟨⟨u0,u1,u2,u3,u4⟩,_⟩:=dL R.o;have zu:=aD R.o;go_wp2;refine bR (.agg #[.slice none 0 0,.int .i64 1,.int .i64 f,.string ByteArray.empty,.int .i64 0]) ?_;rw[HRES.o,HV2.o];exact lS rfl ab.o oI (tZ HB3.o (Nat.le_succ _))
   .have G:(n.op==3)=false:=bN.2 qo;have H:(n.op==4)=false:=bN.2 qo;have e7:(n.op==5)=false:=bN.2 qo;exact QAB
end Go.Proofs.YtlfngkelmbdehaaGreatDoor

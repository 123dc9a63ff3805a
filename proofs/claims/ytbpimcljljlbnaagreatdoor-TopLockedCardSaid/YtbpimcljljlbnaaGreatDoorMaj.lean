/- Lemmas. -/
import Derived.Test.YtbpimcljljlbnaaGreatDoorMai
namespace Go.Proofs.YtbpimcljljlbnaaGreatDoor
open Go.RowKit
set_option linter.unusedVariables false
set_option linter.unusedSimpArgs false
set_option maxHeartbeats 16000000
open _root_.Go.Proofs.Tryz
set_option maxRecDepth 20000
theorem Hs(a b:bY):(!Op.bytesLess a.toList b.toList)=gU b a:=by
 rw[wF];unfold gU;by_cases h:a.toList<b.toList
 .rw[dX h,dF (fun k=>k h)];rfl
 .rw[dF h,dX h];rfl
theorem Ht(x:cF)(a la:oD)(b lc:Nat)(p:Nat)(N:bY)(w:World)(hp:iZ w p 0 (.string N)):Calls prog 150 #[.agg #[.string x.id,.string x.aDE,.string x.aDx,.slice a x.aDi.length b,.slice la x.log.length lc],.pointer (some ⟨p,0,none⟩)] w (aN (.bool (gU N x.id)) w):=by
 unfold aN;have h1:p≠w.heap.size:=qA hp.2;obtain⟨hp,c⟩:=hp;go_enter func150,ntmps150;go_wp2;go_returns;exact⟨bI (Hs x.id N),aB _ _⟩
theorem Cq(x:oI)(p:Nat)(N:bY)(w:World)(hp:iZ w p 0 (.string N)):Calls prog 113 #[.agg #[.string x.1,.int .i64 x.2.1,.int .i64 x.2.2.1,.string x.2.2.2],.pointer (some ⟨p,0,none⟩)] w (aN (.bool (decide (x.1=N))) w):=by
 unfold aN;have h1:p≠w.heap.size:=qA hp.2;obtain⟨hp,a⟩:=hp;go_enter func113,ntmps113;go_wp2;go_returns;exact⟨bI (jD x.1 N),aB _ _⟩
theorem Cr(x:oI)(p:Nat)(N:bY)(w:World)(hp:iZ w p 0 (.string N)):Calls prog 170 #[.agg #[.string x.1,.int .i64 x.2.1,.int .i64 x.2.2.1,.string x.2.2.2],.pointer (some ⟨p,0,none⟩)] w (aN (.bool (gU N x.1)) w):=by
 unfold aN;have h1:p≠w.heap.size:=qA hp.2;obtain⟨hp,a⟩:=hp;go_enter func170,ntmps170;go_wp2;go_returns;exact⟨bI (Hs x.1 N),aB _ _⟩
theorem Hu(x:rT)(p:Nat)(N:bY)(w:World)(hp:iZ w p 0 (.string N)):Calls prog 214 #[.agg #[.int .i64 x.aDm,.string x.aDK,.string x.aEa],.pointer (some ⟨p,0,none⟩)] w (aN (.bool (decide (x.aDK=N))) w):=by
 unfold aN;have h1:p≠w.heap.size:=qA hp.2;obtain⟨hp,a⟩:=hp;go_enter func214,ntmps214;go_wp2;go_returns;exact⟨bI (jD x.aDK N),aB _ _⟩
theorem Hv(x:cF)(a la:oD)(b lc:Nat)(p:Nat)(N:bY)(w:World)(hp:iZ w p 2 (.string N)):Calls prog 174 #[.agg #[.string x.id,.string x.aDE,.string x.aDx,.slice a x.aDi.length b,.slice la x.log.length lc],.pointer (some ⟨p,0,none⟩)] w (aN (.bool (decide (x.id=N))) w):=by
 unfold aN;have h1:p≠w.heap.size:=qA hp.2;obtain⟨hp,c⟩:=hp;go_enter func174,ntmps174;go_wp2;go_returns;exact⟨bI (jD x.id N),aB _ _⟩
theorem Hw(x:cF)(a la:oD)(b lc:Nat)(w:World):Calls prog 116 #[.agg #[.string x.id,.string x.aDE,.string x.aDx,.slice a x.aDi.length b,.slice la x.log.length lc]] w (aN (.bool (decide (256<x.log.length))) w):=by
 unfold aN;go_enter func116,ntmps116;go_wp2;go_returns;exact⟨bI (by rw[Bool.eq_iff_iff];simp;omega),aB _ _⟩
theorem Cs(x:Ob)(p:Nat)(N:bY)(w:World)(hp:iZ w p 0 (.string N)):Calls prog 110 #[.agg #[.int .i64 x.on,.int .i64 x.aDe,.string x.arg],.pointer (some ⟨p,0,none⟩)] w (aN (.bool (decide (x.aDe=2)&&decide (x.arg=N))) w):=by
 unfold aN;have h1:p≠w.heap.size:=qA hp.2;obtain⟨hp,e⟩:=hp;obtain⟨f,b,d⟩:=x;dsimp only;go_enter func110,ntmps110;by_cases a:b=2
 .have c:(b==2)=true:=bQ.2 a;go_wp2;go_returns;refine⟨bI ?_,aB _ _⟩;rw[dX a,Bool.true_and];exact jD d N
 .have c:(b==2)=false:=bN.2 a;go_wp2;go_returns;refine⟨bI ?_,aB _ _⟩;rw[dF a];rfl
theorem Hy(x:vY)(p q:Nat)(N:bY)(T:Int)(w:World)(hp:iZ w p 0 (.string N))(b:iZ w q 0 (.int .i64 T))(e:0<=x.aDm/\x.aDm<=T/\T<=1099511627776):Calls prog 165 #[.agg #[.int .i64 x.id,.int .i64 x.aDm,.string x.aDs,.string x.aDj,.string x.action,.string x.aDB,.bool x.open_],.pointer (some ⟨p,0,none⟩),.pointer (some ⟨q,0,none⟩)] w (aN (.bool (decide (x.aDs=N)&&(x.open_&&decide (100<=T - x.aDm)))) w):=by
 unfold aN;have h1:p≠w.heap.size:=qA hp.2;have h2:q≠w.heap.size:=qA b.2;obtain⟨hp,g⟩:=hp;obtain⟨b,i⟩:=b;obtain⟨j,k,c,l,m,n,f⟩:=x;dsimp only at e ⊢;go_enter func165,ntmps165;by_cases a:c=N
 .have d:(c.toList==N.toList)=true:=by rw[jD];exact dX a
  cases f
  .go_wp2;go_returns;exact⟨bI (by rw[dX a];rfl),aB _ _⟩
  .go_wp2;go_returns;exact⟨bI (by rw[dX a];simp),aB _ _⟩
 .have d:(c.toList==N.toList)=false:=by rw[jD];exact dF a
  go_wp2;go_returns;exact⟨bI (by rw[dF a];rfl),aB _ _⟩
theorem XV{ok:nP}(v:Value)(l:List cF)(N:bY)(p:Nat)(w:World)(h:aH oE w ok v l)(m:iZ w p 0 (.string N)):Calls prog 149 #[v,.func (.func 150) #[] #[.pointer (some ⟨p,0,none⟩)]] w (aN (.int .i64 (eT (fun x=>gU N x.id) l)) w):=by
 obtain⟨a,c,rfl,B⟩:=h.slice;have s:=aA h;have o:=aA (fun wr (t:Below w.heap.size w wr)=>(m.on t:iZ wr p 0 (.string N)));clear h m;obtain⟨PR,d⟩:∃PR:cF->Bool,PR=(fun x=>gU N x.id):=⟨_,rfl⟩;have q:=aA d;rw[<-d];clear d;unfold aN;go_enter func149,ntmps149;go_wp2;go_loopw [5,8] (fun _ i wr=>∃k:Nat,k<=l.length/\i=.int .i64 k/\Hid (∀i (hi:i<l.length),i<k->PR l[i]=false)/\Hid (Below w.heap.size w wr)) (fun _ i _=>l.length - (intOf i).toNat)
 case atStart=>exact BK
 case round=>
  obtain⟨k,A,rfl,HR,HB⟩:=hrel;by_cases hlt:k<l.length
  .have hk1:(k:Int)<(l.length:Int):=qo;obtain⟨b,off,r,rfl,_,z,⟨C,D,rfl,n⟩,hcl⟩:=aH.at dI (s.o.on dI HB.o) hlt qe;obtain⟨f,j,rfl,_⟩:=n.2.2.2.1.slice;obtain⟨la,lc,rfl,_⟩:=n.2.2.2.2.slice;obtain⟨y,E,F,G,H⟩:=JS hcl;rw[Nat.add_zero] at y;have HI:Hid (Calls prog 150 #[.agg #[.string l[k].id,.string l[k].aDE,.string l[k].aDx,.slice f l[k].aDi.length j,.slice la l[k].log.length lc],.pointer (some ⟨p,0,none⟩)] wr (aN (.bool (PR l[k])) wr)):=by rw[q.o];exact aA (Ht l[k] f la j lc p N wr (o.o wr HB.o))
   exact KC
  .exact KA
theorem TQ{ok:nP}(v:Value)(l:List oI)(N:bY)(p:Nat)(w:World)(h:aH kO w ok v l)(f:iZ w p 0 (.string N)):Calls prog 112 #[v,.func (.func 113) #[] #[.pointer (some ⟨p,0,none⟩)]] w (aN (.int .i64 (eT (fun x=>decide (x.1=N)) l)) w):=by
 obtain⟨a,c,rfl,z⟩:=h.slice;have n:=aA h;have j:=aA (fun wr (o:Below w.heap.size w wr)=>(f.on o:iZ wr p 0 (.string N)));clear h f;obtain⟨PR,d⟩:∃PR:oI->Bool,PR=(fun x=>decide (x.1=N)):=⟨_,rfl⟩;have m:=aA d;rw[<-d];clear d;unfold aN;go_enter func112,ntmps112;go_wp2;go_loopw [5,8] (fun _ i wr=>∃k:Nat,k<=l.length/\i=.int .i64 k/\Hid (∀i (hi:i<l.length),i<k->PR l[i]=false)/\Hid (Below w.heap.size w wr)) (fun _ i _=>l.length - (intOf i).toNat)
 case atStart=>exact BK
 case round=>
  obtain⟨k,y,rfl,HR,HB⟩:=hrel;by_cases hlt:k<l.length
  .have hk1:(k:Int)<(l.length:Int):=qo;obtain⟨b,off,r,rfl,_,s,⟨rfl,t⟩,hcl⟩:=aH.at bO (n.o.on bO HB.o) hlt qe;obtain⟨q,A,B,C⟩:=SL hcl;rw[Nat.add_zero] at q;have HI:Hid (Calls prog 113 #[.agg #[.string l[k].1,.int .i64 l[k].2.1,.int .i64 l[k].2.2.1,.string l[k].2.2.2],.pointer (some ⟨p,0,none⟩)] wr (aN (.bool (PR l[k])) wr)):=by rw[m.o];exact aA (Cq l[k] p N wr (j.o wr HB.o))
   exact KC
  .exact KA
theorem TR{ok:nP}(v:Value)(l:List oI)(N:bY)(p:Nat)(w:World)(h:aH kO w ok v l)(f:iZ w p 0 (.string N)):Calls prog 112 #[v,.func (.func 170) #[] #[.pointer (some ⟨p,0,none⟩)]] w (aN (.int .i64 (eT (fun x=>gU N x.1) l)) w):=by
 obtain⟨a,c,rfl,z⟩:=h.slice;have n:=aA h;have j:=aA (fun wr (o:Below w.heap.size w wr)=>(f.on o:iZ wr p 0 (.string N)));clear h f;obtain⟨PR,d⟩:∃PR:oI->Bool,PR=(fun x=>gU N x.1):=⟨_,rfl⟩;have m:=aA d;rw[<-d];clear d;unfold aN;go_enter func112,ntmps112;go_wp2;go_loopw [5,8] (fun _ i wr=>∃k:Nat,k<=l.length/\i=.int .i64 k/\Hid (∀i (hi:i<l.length),i<k->PR l[i]=false)/\Hid (Below w.heap.size w wr)) (fun _ i _=>l.length - (intOf i).toNat)
 case atStart=>exact BK
 case round=>
  obtain⟨k,y,rfl,HR,HB⟩:=hrel;by_cases hlt:k<l.length
  .have hk1:(k:Int)<(l.length:Int):=qo;obtain⟨b,off,r,rfl,_,s,⟨rfl,t⟩,hcl⟩:=aH.at bO (n.o.on bO HB.o) hlt qe;obtain⟨q,A,B,C⟩:=SL hcl;rw[Nat.add_zero] at q;have HI:Hid (Calls prog 170 #[.agg #[.string l[k].1,.int .i64 l[k].2.1,.int .i64 l[k].2.2.1,.string l[k].2.2.2],.pointer (some ⟨p,0,none⟩)] wr (aN (.bool (PR l[k])) wr)):=by rw[m.o];exact aA (Cr l[k] p N wr (j.o wr HB.o))
   exact KC
  .exact KA
theorem XW{ok:nP}(v:Value)(l:List rT)(N:bY)(p:Nat)(w:World)(h:aH lF w ok v l)(f:iZ w p 0 (.string N)):Calls prog 246 #[v,.func (.func 214) #[] #[.pointer (some ⟨p,0,none⟩)]] w (aN (.int .i64 (eT (fun x=>decide (x.aDK=N)) l)) w):=by
 obtain⟨a,c,rfl,z⟩:=h.slice;have n:=aA h;have j:=aA (fun wr (o:Below w.heap.size w wr)=>(f.on o:iZ wr p 0 (.string N)));clear h f;obtain⟨PR,d⟩:∃PR:rT->Bool,PR=(fun x=>decide (x.aDK=N)):=⟨_,rfl⟩;have m:=aA d;rw[<-d];clear d;unfold aN;go_enter func246,ntmps246;go_wp2;go_loopw [5,8] (fun _ i wr=>∃k:Nat,k<=l.length/\i=.int .i64 k/\Hid (∀i (hi:i<l.length),i<k->PR l[i]=false)/\Hid (Below w.heap.size w wr)) (fun _ i _=>l.length - (intOf i).toNat)
 case atStart=>exact BK
 case round=>
  obtain⟨k,y,rfl,HR,HB⟩:=hrel;by_cases hlt:k<l.length
  .have hk1:(k:Int)<(l.length:Int):=qo;obtain⟨b,off,r,rfl,_,s,⟨rfl,t⟩,hcl⟩:=aH.at bV (n.o.on bV HB.o) hlt qe;obtain⟨q,A,B⟩:=cR3 hcl;rw[Nat.add_zero] at q;have HI:Hid (Calls prog 214 #[.agg #[.int .i64 l[k].aDm,.string l[k].aDK,.string l[k].aEa],.pointer (some ⟨p,0,none⟩)] wr (aN (.bool (PR l[k])) wr)):=by rw[m.o];exact aA (Hu l[k] p N wr (j.o wr HB.o))
   exact KC
  .exact KA
theorem XX{ok:nP}(v:Value)(l:List cF)(N:bY)(p:Nat)(w:World)(h:aH oE w ok v l)(m:iZ w p 2 (.string N)):Calls prog 149 #[v,.func (.func 174) #[] #[.pointer (some ⟨p,0,none⟩)]] w (aN (.int .i64 (eT (fun x=>decide (x.id=N)) l)) w):=by
 obtain⟨a,c,rfl,B⟩:=h.slice;have s:=aA h;have o:=aA (fun wr (t:Below w.heap.size w wr)=>(m.on t:iZ wr p 2 (.string N)));clear h m;obtain⟨PR,d⟩:∃PR:cF->Bool,PR=(fun x=>decide (x.id=N)):=⟨_,rfl⟩;have q:=aA d;rw[<-d];clear d;unfold aN;go_enter func149,ntmps149;go_wp2;go_loopw [5,8] (fun _ i wr=>∃k:Nat,k<=l.length/\i=.int .i64 k/\Hid (∀i (hi:i<l.length),i<k->PR l[i]=false)/\Hid (Below w.heap.size w wr)) (fun _ i _=>l.length - (intOf i).toNat)
 case atStart=>exact BK
 case round=>
  obtain⟨k,A,rfl,HR,HB⟩:=hrel;by_cases hlt:k<l.length
  .have hk1:(k:Int)<(l.length:Int):=qo;obtain⟨b,off,r,rfl,_,z,⟨C,D,rfl,n⟩,hcl⟩:=aH.at dI (s.o.on dI HB.o) hlt qe;obtain⟨f,j,rfl,_⟩:=n.2.2.2.1.slice;obtain⟨la,lc,rfl,_⟩:=n.2.2.2.2.slice;obtain⟨y,E,F,G,H⟩:=JS hcl;rw[Nat.add_zero] at y;have HI:Hid (Calls prog 174 #[.agg #[.string l[k].id,.string l[k].aDE,.string l[k].aDx,.slice f l[k].aDi.length j,.slice la l[k].log.length lc],.pointer (some ⟨p,0,none⟩)] wr (aN (.bool (PR l[k])) wr)):=by rw[q.o];exact aA (Hv l[k] f la j lc p N wr (o.o wr HB.o))
   exact KC
  .exact KA
theorem XY{ok:nP}(v:Value)(l:List cF)(w:World)(h:aH oE w ok v l)(p:True):Calls prog 149 #[v,.func (.func 116) #[] #[]] w (aN (.int .i64 (eT (fun x=>decide (256<x.log.length)) l)) w):=by
 obtain⟨a,c,rfl,A⟩:=h.slice;have o:=aA h;have s:=aA (fun wr (t:Below w.heap.size w wr)=>(trivial:True));clear h p;obtain⟨PR,d⟩:∃PR:cF->Bool,PR=(fun x=>decide (256<x.log.length)):=⟨_,rfl⟩;have n:=aA d;rw[<-d];clear d;unfold aN;go_enter func149,ntmps149;go_wp2;go_loopw [5,8] (fun _ i wr=>∃k:Nat,k<=l.length/\i=.int .i64 k/\Hid (∀i (hi:i<l.length),i<k->PR l[i]=false)/\Hid (Below w.heap.size w wr)) (fun _ i _=>l.length - (intOf i).toNat)
 case atStart=>exact BK
 case round=>
  obtain⟨k,z,rfl,HR,HB⟩:=hrel;by_cases hlt:k<l.length
  .have hk1:(k:Int)<(l.length:Int):=qo;obtain⟨b,off,r,rfl,_,y,⟨B,C,rfl,m⟩,hcl⟩:=aH.at dI (o.o.on dI HB.o) hlt qe;obtain⟨f,j,rfl,_⟩:=m.2.2.2.1.slice;obtain⟨la,lc,rfl,_⟩:=m.2.2.2.2.slice;obtain⟨q,D,E,F,G⟩:=JS hcl;rw[Nat.add_zero] at q;have HI:Hid (Calls prog 116 #[.agg #[.string l[k].id,.string l[k].aDE,.string l[k].aDx,.slice f l[k].aDi.length j,.slice la l[k].log.length lc],] wr (aN (.bool (PR l[k])) wr)):=by rw[n.o];exact aA (Hw l[k] f la j lc wr)
   exact KC
  .exact KA
theorem TS{ok:nP}(v:Value)(l:List Ob)(N:bY)(p:Nat)(w:World)(h:aH jU w ok v l)(f:iZ w p 0 (.string N)):Calls prog 172 #[v,.func (.func 110) #[] #[.pointer (some ⟨p,0,none⟩)]] w (aN (.int .i64 (eT (fun x=>decide (x.aDe=2)&&decide (x.arg=N)) l)) w):=by
 obtain⟨a,c,rfl,z⟩:=h.slice;have n:=aA h;have j:=aA (fun wr (o:Below w.heap.size w wr)=>(f.on o:iZ wr p 0 (.string N)));clear h f;obtain⟨PR,d⟩:∃PR:Ob->Bool,PR=(fun x=>decide (x.aDe=2)&&decide (x.arg=N)):=⟨_,rfl⟩;have m:=aA d;rw[<-d];clear d;unfold aN;go_enter func172,ntmps172;go_wp2;go_loopw [5,8] (fun _ i wr=>∃k:Nat,k<=l.length/\i=.int .i64 k/\Hid (∀i (hi:i<l.length),i<k->PR l[i]=false)/\Hid (Below w.heap.size w wr)) (fun _ i _=>l.length - (intOf i).toNat)
 case atStart=>exact BK
 case round=>
  obtain⟨k,y,rfl,HR,HB⟩:=hrel;by_cases hlt:k<l.length
  .have hk1:(k:Int)<(l.length:Int):=qo;obtain⟨b,off,r,rfl,_,s,⟨rfl,t⟩,hcl⟩:=aH.at aP (n.o.on aP HB.o) hlt qe;obtain⟨q,A,B⟩:=cR3 hcl;rw[Nat.add_zero] at q;have HI:Hid (Calls prog 110 #[.agg #[.int .i64 l[k].on,.int .i64 l[k].aDe,.string l[k].arg],.pointer (some ⟨p,0,none⟩)] wr (aN (.bool (PR l[k])) wr)):=by rw[m.o];exact aA (Cs l[k] p N wr (j.o wr HB.o))
   exact KC
  .exact KA
theorem XZ{ok:nP}(v:Value)(l:List vY)(N:bY)(T:Int)(p q:Nat)(w:World)(h:aH sU w ok v l)(d:iZ w p 0 (.string N)/\iZ w q 0 (.int .i64 T)/\(∀x∈l,0<=x.aDm/\x.aDm<=T/\T<=1099511627776)):Calls prog 215 #[v,.func (.func 165) #[] #[.pointer (some ⟨p,0,none⟩),.pointer (some ⟨q,0,none⟩)]] w (aN (.int .i64 (eT (fun x=>decide (x.aDs=N)&&(x.open_&&decide (100<=T - x.aDm))) l)) w):=by
 obtain⟨a,c,rfl,A⟩:=h.slice;have o:=aA h;have f:=aA (fun wr (m:Below w.heap.size w wr)=>(⟨d.1.on m,d.2.1.on m,d.2.2⟩:iZ wr p 0 (.string N)/\iZ wr q 0 (.int .i64 T)/\(∀x∈l,0<=x.aDm/\x.aDm<=T/\T<=1099511627776)));clear h d;obtain⟨PR,j⟩:∃PR:vY->Bool,PR=(fun x=>decide (x.aDs=N)&&(x.open_&&decide (100<=T - x.aDm))):=⟨_,rfl⟩;have n:=aA j;rw[<-j];clear j;unfold aN;go_enter func215,ntmps215;go_wp2;go_loopw [5,8] (fun _ i wr=>∃k:Nat,k<=l.length/\i=.int .i64 k/\Hid (∀i (hi:i<l.length),i<k->PR l[i]=false)/\Hid (Below w.heap.size w wr)) (fun _ i _=>l.length - (intOf i).toNat)
 case atStart=>exact BK
 case round=>
  obtain⟨k,z,rfl,HR,HB⟩:=hrel;by_cases hlt:k<l.length
  .have hk1:(k:Int)<(l.length:Int):=qo;obtain⟨b,off,r,rfl,_,t,⟨rfl,y⟩,hcl⟩:=aH.at cT (o.o.on cT HB.o) hlt qe;obtain⟨s,B,C,D,E,F,G⟩:=CJ hcl;rw[Nat.add_zero] at s;have HI:Hid (Calls prog 165 #[.agg #[.int .i64 l[k].id,.int .i64 l[k].aDm,.string l[k].aDs,.string l[k].aDj,.string l[k].action,.string l[k].aDB,.bool l[k].open_],.pointer (some ⟨p,0,none⟩),.pointer (some ⟨q,0,none⟩)] wr (aN (.bool (PR l[k])) wr)):=by rw[n.o];exact aA (Hy l[k] p q N T wr (f.o wr HB.o).1 (f.o wr HB.o).2.1 ((f.o wr HB.o).2.2 _ (List.getElem_mem hlt)))
   exact KC
  .exact KA
theorem Ss{p:Prop}(h:p:=by
 go_wp2;go_returns;exact⟨by rw[<-HE.o];rfl,HB.o⟩):p:=h
theorem QCh{p:Prop}(h:p:=by
 go_wp2_with fail;refine HI.o.mono ?_;rintro e w1 ⟨rfl,hb_⟩;have HB1:=qB HB0 hb_;clear hb_ HI;go_wp2;go_returns;exact⟨by rw[<-HA.o];rfl,HB1.o⟩):p:=h
theorem QCf{p:Prop}(h:p:=by
 have HF:=aA (HL.o true rfl);clear HL;go_wp2;go_returns;exact⟨by have:=HF.o;rw[iP trivial] at this;rw[this];rfl,HB0.o.trans (HB'.o.mono HB0.o.size)⟩):p:=h
theorem QBM{p:Prop}(h:p:=by
 have hk1:¬(k:Int)<(l.length:Int):=qo;obtain rfl:k=l.length:=qo;have HF:=aA (ON HR.o);clear HR;go_wp2;go_returns;exact⟨by rw[HF.o];rfl,HB0.o.trans (HB.o.mono HB0.o.size)⟩):p:=h
theorem St{p:Prop}(h:p:=by
 refine HI.o.mono ?_;rintro e w1 ⟨rfl,hb_⟩;have HB1:=qB HB0 hb_;clear hb_ HI;go_wp2;go_returns;exact⟨rfl,HB1.o⟩):p:=h
theorem rV{a b:bY}:a.toList=b.toList↔a=b:=⟨fun h=>by rw[Lib.toList_data,Lib.toList_data] at h;exact ByteArray.ext (Array.ext' h),fun h=>by rw[h]⟩
def DB(m:Ma)(v:V3)(w:World)(e:Ending)(w':World):Prop:=e=.returned (.tuple #[.bool (kC m v).1,.int .i64 (kC m v).2])/\Below w.heap.size w w'
theorem YA(m:Ma)(v:V3)(hm:tX m)(j:cS v)(w:World):Calls prog 245 #[kN m,dD v] w (DB m v w):=by
 have b:=aA (fun w=>CW v m.val j hm.2.2 w);have c:=aA (fun w=>CW m.val v hm.2.2 j w);obtain⟨⟨ac,i,am⟩,op,mk,a,ms⟩:=m;obtain⟨vk,vn,vs⟩:=v;have k:=aA (aC (aB w (.cells #[.int .i64 ac,.string i,.bool am,.int .i64 op,.int .i64 mk,.int .i64 a,.string ms] 297)) (aB _ (.cells #[.int .i64 vk,.int .i64 vn,.string vs] 56)));unfold sX dD at b c;unfold dD kN;simp only at b c ⊢;clear hm j;by_cases h1:op=1
 .have d1:(op==1)=true:=bQ.2 h1;have H1:=aA h1;clear h1 b c;go_enter func245,ntmps245;go_wp2
  all_goals go_returns
  all_goals
   unfold DB kC;simp only[H1.o,if_true];refine⟨?_,aC (aB _ _) (aB _ _)⟩
   simp_all [rV]
 .have d1:(op==1)=false:=bN.2 h1;by_cases h2:op=2
  .have d2:(op==2)=true:=bQ.2 h2;have g:Hid (kC ⟨⟨ac,i,am⟩,op,mk,a,ms⟩ (vk,vn,vs)=jS (vk,vn,vs) (mk,a,ms)):=aA (by unfold kC;simp only[iN h1,iP h2]);generalize jS (vk,vn,vs) (mk,a,ms)=r at *;obtain⟨l,n⟩:=r;clear h1 h2 c;go_enter func245,ntmps245;go_wp2_with fail;refine(b.o _).mono ?_;rintro e w1 ⟨rfl,d⟩;have f:=qB k d;clear d b;go_wp2;go_returns;unfold DB;rw[g.o];exact⟨rfl,f.o⟩
  .have d2:(op==2)=false:=bN.2 h2;have g:Hid (kC ⟨⟨ac,i,am⟩,op,mk,a,ms⟩ (vk,vn,vs)=jS (mk,a,ms) (vk,vn,vs)):=aA (by unfold kC;simp only[iN h1,iN h2]);generalize jS (mk,a,ms) (vk,vn,vs)=r at *;obtain⟨l,n⟩:=r;clear h1 h2 b;go_enter func245,ntmps245;go_wp2_with fail;refine(c.o _).mono ?_;rintro e w1 ⟨rfl,d⟩;have f:=qB k d;clear d c;go_wp2;go_returns;unfold DB;rw[g.o];exact⟨rfl,f.o⟩
theorem QV{m:Ma}{l:List V3}{k out R:Nat}(a:k<l.length)(h:mD m (l.drop k) out=R):(if (kC m l[k]).1=true then 2 else mD m (l.drop (k+1)) (if (kC m l[k]).2≠0 then 1 else out))=R:=by
 rw[List.drop_eq_getElem_cons a] at h;exact h
theorem KD{ok:nP}(m:Ma)(hm:tX m)(F:Value)(g:List Gv)(w:World)(h:aH jM w ok F g):Calls prog 212 #[kN m,F] w (aN (.int .i64 (oO g m:Nat)) w):=by
 have t:=aA (aB w (.cells (JV m) 297));have G:=aA (aK w (.cells (JV m) 297) _ rfl);have j:=aA (TN F g m.aDD _ (h.on bZ t.o));have B:=aA (fun v T w=>YA m v hm T w);obtain⟨a,c,rfl,ad⟩:=h.slice;unfold aN oO kN;unfold sZ oG at j;unfold DB kN dD at B;clear h hm;obtain⟨bag,J,L⟩:∃b e,rL g m.aDD=(b,e):=⟨_,_,rfl⟩;rw[L] at j ⊢;clear L;simp only at j ⊢;by_cases he:J=0
 case neg=>
  rw[iP he];have d:(J != 0)=true:=bne_iff_ne.2 he;clear he B;go_enter func212,ntmps212;go_wp2_with fail;refine j.o.mono ?_;rintro e w1 ⟨v,rfl,q,f⟩;have l:=qB t f;clear q f j;go_wp2;go_returns;exact⟨rfl,l.o⟩
 subst he;rw[iN (fun h=>h rfl)];obtain⟨res,E⟩:=xE (mD m bag 0);rw[<-E];have I:Hid (mD m (bag.drop 0) 0=res):=aA (by rw[List.drop_zero];exact E.symm);clear E;go_enter func212,ntmps212;go_wp2_with fail;refine j.o.mono ?_;rintro e w1 ⟨v,rfl,q,f⟩;obtain⟨l,P,R⟩:=aY (aC t.o f) (aE G.o f) q;obtain⟨ba,bc,rfl,aa⟩:=q.slice;clear q f j G t;go_wp2;go_loopw [7,23] (fun o i wr=>∃k out:Nat,k<=bag.length/\i=.int .i64 k/\o=.int .i64 out/\Hid (mD m (bag.drop k) out=res)/\Hid (Below w1.heap.size w1 wr)) (fun _ i _=>bag.length - (intOf i).toNat)
 case atStart=>exact⟨0,0,Nat.zero_le _,rfl,rfl,I,aA (Below.refl _ _)⟩
 case round=>
  clear I;obtain⟨k,out,hk,rfl,rfl,y,s⟩:=hrel;by_cases N:k<bag.length
  .have S:(k:Int)<(bag.length:Int):=qo;obtain⟨b,off,r,rfl,_,ab,⟨rfl,M⟩,K⟩:=aH.at bH (R.o.on bH s.o) N qe;obtain⟨O,W,X⟩:=cR3 K;rw[Nat.add_zero] at O;have H:=qK P s.o;obtain⟨⟨Y,Z,y2,y3,y4,y5,y6⟩,_⟩:=bJ H.o;have U:=aD H.o;have p:=aA (QV N y.o);have A:=aA (B.o bag[k] M);clear K y M;generalize bag[k]=x at *;generalize kC m x=r at *;obtain⟨V,z⟩:=r;simp only at A p;go_wp2_with fail;refine(A.o _).mono ?_;rintro e w2 ⟨rfl,f⟩;have C:=aA (aC (aC s.o (aB _ _)) f);clear f A O W X Y Z y2 y3 y4 y5 y6 U
   cases V
   .have n:Hid (mD m (bag.drop (k+1)) (if z≠0 then 1 else out)=res):=p.o;by_cases he:z=0
    .have d2:(z != 0)=false:=by rw[he];rfl
     have D:Hid (mD m (bag.drop (k+1)) out=res):=aA (by have:=n.o;rwa [iN (fun h=>h he)] at this);clear he p n;go_wp2;go_roundw
     case rel=>exact⟨k+1,out,qo,by go_num,rfl,D,C⟩
     case measure=>simp[intOf];omega
    .have d2:(z != 0)=true:=bne_iff_ne.2 he;have D:Hid (mD m (bag.drop (k+1)) 1=res):=aA (by have:=n.o;rwa [iP he] at this);clear he p n;go_wp2;go_roundw
     case rel=>exact⟨k+1,1,qo,by go_num,rfl,D,C⟩
     case measure=>simp[intOf];omega
   .have n:Hid (2=res):=p.o;clear p;go_wp2;go_returns;exact⟨by rw[<-n.o];rfl,l.o.trans (C.o.mono l.o.size)⟩
  .have S:¬(k:Int)<(bag.length:Int):=qo;obtain rfl:k=bag.length:=qo;have Q:Hid (out=res):=aA (by have:=y.o;rwa [List.drop_length] at this);clear y;go_wp2;go_returns;exact⟨by rw[<-Q.o];rfl,l.o.trans (s.o.mono l.o.size)⟩
theorem Yi(p q:Nat)(a:Array TypeId)(t:TypeId)(w:World):(Builtin.min_ a t #[.int .i64 (p:Int),.int .i64 (q:Int)]).run prog w=.ok (.int .i64 ((min p q:Nat):Int)) w:=by
 simp[Builtin.min_,Builtin.min2]
 rcases Nat.lt_or_ge q p with h|h<;>simp[h]<;>omega
theorem aCK(p q:Nat)(a:Array TypeId)(t:TypeId)(w:World):(Builtin.max_ a t #[.int .i64 (p:Int),.int .i64 (q:Int)]).run prog w=.ok (.int .i64 ((max p q:Nat):Int)) w:=by
 simp[Builtin.max_,Builtin.max2]
 rcases Nat.lt_or_ge p q with h|h<;>simp[h]<;>omega
theorem DC{α β:Type}{f:β->α->β}{l:List α}{k:Nat}{out R:β}(a:k<l.length)(h:(l.drop k).foldl f out=R):(l.drop (k+1)).foldl f (f out l[k])=R:=by
 rw[List.drop_eq_getElem_cons a] at h;exact h
theorem IT{α β:Type}{f:β->α->β}{l:List α}{out R:β}(h:(l.drop l.length).foldl f out=R):out=R:=by
 rw[List.drop_length] at h;exact h
theorem On{ok ok':nP}(A:Value)(l:List Ma)(z:Value)(g:List Gv)(w:World)(j:aH rN w ok' A l)(h:aH jM w ok z g):Calls prog 238 #[A,z] w (aN (.int .i64 (zG g l:Nat)) w):=by
 obtain⟨a,c,rfl,Q⟩:=h.slice;obtain⟨la,lc,rfl,R⟩:=j.slice;have E:=aA j;have D:=aA h;clear h j;unfold aN zG;obtain⟨res,p⟩:=xE (l.foldl (fun out m=>min out (oO g m)) 2);rw[<-p];have q:Hid ((l.drop 0).foldl (fun out m=>min out (oO g m)) 2=res):=aA (by rw[List.drop_zero];exact p.symm);clear p;go_enter func238,ntmps238;go_wp2;go_loopw [5,10] (fun o i wr=>∃k out:Nat,k<=l.length/\i=.int .i64 k/\o=.int .i64 out/\Hid ((l.drop k).foldl (fun out m=>min out (oO g m)) out=res)/\Hid (Below w.heap.size w wr)) (fun _ i _=>l.length - (intOf i).toNat)
 case atStart=>exact⟨0,2,Nat.zero_le _,rfl,rfl,q,aA (Below.refl _ _)⟩
 case round=>
  clear q;obtain⟨k,out,P,rfl,rfl,d,HB⟩:=hrel;by_cases y:k<l.length
  .have G:(k:Int)<(l.length:Int):=qo;obtain⟨b,off,r,rfl,_,O,⟨rfl,v⟩,t⟩:=aH.at eO (E.o.on eO HB.o) y qe;obtain⟨B,I,J,K,L,M,N⟩:=CJ t;rw[Nat.add_zero] at B;have F:=aA (DC y d.o);have f:=aA (KD l[k] v _ g (wr.alloc (.cells #[.int .i64 l[k].aDD.cat,.string l[k].aDD.name,.bool l[k].aDD.aDM,.int .i64 l[k].op,.int .i64 l[k].val.1,.int .i64 l[k].val.2.1,.string l[k].val.2.2] 297)) (D.o.on bZ (HB.o.alloc HB.o.size _)));unfold aN kN at f;clear t d v;generalize l[k]=x at *;generalize oO g x=n at *;have H:=Yi out n;go_wp2_with fail;refine f.o.mono ?_;rintro e w2 ⟨rfl,s⟩;have C:=aA (aC (aC HB.o (aB _ _)) s);clear s f B I J K L M N;go_wp2;clear H;go_roundw
   case rel=>exact⟨k+1,min out n,qo,by go_num,rfl,F,C⟩
   case measure=>simp[intOf];omega
  .have G:¬(k:Int)<(l.length:Int):=qo;obtain rfl:k=l.length:=qo;have HE:=aA (IT d.o);clear d;exact Ss
theorem Ad{ok ok':nP}(vt:Value)(t:Ta)(O:Value)(g:List Gv)(w:World)(H:nX w ok' vt t)(h:aH jM w ok O g):Calls prog 208 #[vt,O] w (aN (.int .i64 (xR g t:Nat)) w):=by
 obtain⟨a,c,rfl,aa⟩:=h.slice;obtain⟨ta,tc,rfl,ab⟩:=H.slice;have S:=aA H;have R:=aA h;clear h H;unfold aN xR;obtain⟨F,B⟩:∃F:Nat->List (List Ma)->Nat,F=(fun out l=>min out (l.foldl (fun d x=>max d (zG g x)) 0)):=⟨_,rfl⟩;have Q:=aA B;rw[<-B];clear B;obtain⟨res,D⟩:=xE (t.foldl F 2);rw[<-D];have K:Hid ((t.drop 0).foldl F 2=res):=aA (by rw[List.drop_zero];exact D.symm);clear D;go_enter func208,ntmps208;go_wp2;go_loopw [5,13] (fun o i wr=>∃k out:Nat,k<=t.length/\i=.int .i64 k/\o=.int .i64 out/\Hid ((t.drop k).foldl F out=res)/\Hid (Below w.heap.size w wr)) (fun _ i _=>t.length - (intOf i).toNat)
 case atStart=>exact⟨0,2,Nat.zero_le _,rfl,rfl,K,aA (Below.refl _ _)⟩
 case round=>
  clear K;obtain⟨y,rfl⟩:∃y:World,y=wr:=⟨_,rfl⟩;obtain⟨k,out,hk,rfl,rfl,s,HB⟩:=hrel;by_cases N:k<t.length
  .have V:(k:Int)<(t.length:Int):=qo;obtain⟨b,off,r,rfl,_,Y,⟨vx,rfl,E⟩,f⟩:=aH.at aS (S.o.on aS HB.o) N qe;obtain⟨xa,xc,rfl,_⟩:=E.slice;have m:=f 0 _ rfl;rw[Nat.add_zero,Nat.mul_one] at m;have A:=aA (DC N s.o);have T:=aA E;have I:=aA (show F out t[k]=min out (t[k].foldl (fun d x=>max d (zG g x)) 0) by rw[Q.o]);clear f s E;generalize t[k]=l at *;obtain⟨d,C⟩:=xE (l.foldl (fun d x=>max d (zG g x)) 0);rw[<-C] at I;have J:Hid ((l.drop 0).foldl (fun d x=>max d (zG g x)) 0=d):=aA (by rw[List.drop_zero];exact C.symm);clear C;go_wp2;clear m;go_loopw [8,10,19] (fun o _ i wr=>∃j b:Nat,j<=l.length/\i=.int .i64 j/\o=.int .i64 b/\Hid ((l.drop j).foldl (fun d x=>max d (zG g x)) b=d)/\Hid (Below y.heap.size y wr)) (fun _ _ i _=>l.length - (intOf i).toNat)
   case atStart=>exact⟨0,0,Nat.zero_le _,rfl,rfl,J,aA (Below.refl _ _)⟩
   case round=>
    clear J;obtain⟨j,v,hj,rfl,rfl,q,p⟩:=hrel;by_cases M:j<l.length
    .have U:(j:Int)<(l.length:Int):=qo;obtain⟨b2,ad,r2,rfl,_,Z,⟨vy,rfl,G⟩,f⟩:=aH.at dO (T.o.on dO p.o) M qe;obtain⟨ya,yc,rfl,_⟩:=G.slice;have m:=f 0 _ rfl;rw[Nat.add_zero,Nat.mul_one] at m;have A:=aA (DC M q.o);have z:=aA (On _ _ _ g wr G (R.o.on bZ (aC HB.o p.o)));unfold aN at z;clear f q G;generalize l[j]=x at *;generalize zG g x=n at *;have W:=aCK v n;go_wp2_with fail;refine z.o.mono ?_;rintro e w2 ⟨rfl,L⟩;have P:=qB p L;clear L z m;go_wp2;clear W;go_roundw
     case rel=>exact⟨j+1,max v n,qo,by go_num,rfl,A,P⟩
     case measure=>simp[intOf];omega
    .have U:¬(j:Int)<(l.length:Int):=qo;obtain rfl:j=l.length:=qo;have HE:=aA (IT q.o);clear q;have X:=Yi out v;go_wp2;clear X;go_roundw
     case rel=>exact⟨k+1,min out v,qo,by go_num,rfl,aA (by have:=A.o;rw[I.o,<-HE.o] at this;exact this),aA (aC HB.o p.o)⟩
     case measure=>simp[intOf];omega
  .have V:¬(k:Int)<(t.length:Int):=qo;obtain rfl:k=t.length:=qo;have HE:=aA (IT s.o);clear s;exact Ss
end Go.Proofs.YtbpimcljljlbnaaGreatDoor

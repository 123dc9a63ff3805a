/- Lemmas. -/
import Derived.Test.YtbinmcabjnoliaaGreatDoorMai
namespace Go.Proofs.YtbinmcabjnoliaaGreatDoor
open Go.RowKit
set_option linter.unusedVariables false
set_option linter.unusedSimpArgs false
set_option maxHeartbeats 16000000
open _root_.Go.Proofs.Tryz
set_option maxRecDepth 20000
theorem He(a b:bY):(!Op.bytesLess a.toList b.toList)=gS b a:=by
 rw[vX];unfold gS;by_cases h:a.toList<b.toList
 .rw[dX h,dF (fun k=>k h)];rfl
 .rw[dF h,dX h];rfl
theorem Hf(x:cF)(a la:oD)(b lc:Nat)(p:Nat)(N:bY)(w:World)(hp:jA w p 0 (.string N)):Calls prog 39 #[.agg #[.string x.id,.string x.aDj,.string x.aDa,.slice a x.aCW.length b,.slice la x.log.length lc],.pointer (some ⟨p,0,none⟩)] w (aO (.bool (gS N x.id)) w):=by
 unfold aO;have h1:p≠w.heap.size:=qA hp.2;obtain⟨hp,c⟩:=hp;go_enter func39,ntmps39;go_wp2;go_returns;exact⟨bI (He x.id N),aB _ _⟩
theorem Cd(x:oH)(p:Nat)(N:bY)(w:World)(hp:jA w p 0 (.string N)):Calls prog 112 #[.agg #[.string x.1,.int .i64 x.2.1,.int .i64 x.2.2.1,.string x.2.2.2],.pointer (some ⟨p,0,none⟩)] w (aO (.bool (decide (x.1=N))) w):=by
 unfold aO;have h1:p≠w.heap.size:=qA hp.2;obtain⟨hp,a⟩:=hp;go_enter func112,ntmps112;go_wp2;go_returns;exact⟨bI (iG x.1 N),aB _ _⟩
theorem Ce(x:oH)(p:Nat)(N:bY)(w:World)(hp:jA w p 0 (.string N)):Calls prog 158 #[.agg #[.string x.1,.int .i64 x.2.1,.int .i64 x.2.2.1,.string x.2.2.2],.pointer (some ⟨p,0,none⟩)] w (aO (.bool (gS N x.1)) w):=by
 unfold aO;have h1:p≠w.heap.size:=qA hp.2;obtain⟨hp,a⟩:=hp;go_enter func158,ntmps158;go_wp2;go_returns;exact⟨bI (He x.1 N),aB _ _⟩
theorem Hg(x:rS)(p:Nat)(N:bY)(w:World)(hp:jA w p 0 (.string N)):Calls prog 195 #[.agg #[.int .i64 x.aCZ,.string x.aDo,.string x.aDP],.pointer (some ⟨p,0,none⟩)] w (aO (.bool (decide (x.aDo=N))) w):=by
 unfold aO;have h1:p≠w.heap.size:=qA hp.2;obtain⟨hp,a⟩:=hp;go_enter func195,ntmps195;go_wp2;go_returns;exact⟨bI (iG x.aDo N),aB _ _⟩
theorem Hh(x:cF)(a la:oD)(b lc:Nat)(p:Nat)(N:bY)(w:World)(hp:jA w p 2 (.string N)):Calls prog 161 #[.agg #[.string x.id,.string x.aDj,.string x.aDa,.slice a x.aCW.length b,.slice la x.log.length lc],.pointer (some ⟨p,0,none⟩)] w (aO (.bool (decide (x.id=N))) w):=by
 unfold aO;have h1:p≠w.heap.size:=qA hp.2;obtain⟨hp,c⟩:=hp;go_enter func161,ntmps161;go_wp2;go_returns;exact⟨bI (iG x.id N),aB _ _⟩
theorem Hj(x:cF)(a la:oD)(b lc:Nat)(w:World):Calls prog 115 #[.agg #[.string x.id,.string x.aDj,.string x.aDa,.slice a x.aCW.length b,.slice la x.log.length lc]] w (aO (.bool (decide (256<x.log.length))) w):=by
 unfold aO;go_enter func115,ntmps115;go_wp2;go_returns;exact⟨bI (by rw[Bool.eq_iff_iff];simp;omega),aB _ _⟩
theorem Cf(x:Ob)(p:Nat)(N:bY)(w:World)(hp:jA w p 0 (.string N)):Calls prog 110 #[.agg #[.int .i64 x.on,.int .i64 x.aCR,.string x.arg],.pointer (some ⟨p,0,none⟩)] w (aO (.bool (decide (x.aCR=2)&&decide (x.arg=N))) w):=by
 unfold aO;have h1:p≠w.heap.size:=qA hp.2;obtain⟨hp,e⟩:=hp;obtain⟨f,b,d⟩:=x;dsimp only;go_enter func110,ntmps110;by_cases a:b=2
 .have c:(b==2)=true:=bQ.2 a;go_wp2;go_returns;refine⟨bI ?_,aB _ _⟩;rw[dX a,Bool.true_and];exact iG d N
 .have c:(b==2)=false:=bN.2 a;go_wp2;go_returns;refine⟨bI ?_,aB _ _⟩;rw[dF a];rfl
theorem Hk(x:vU)(p q:Nat)(N:bY)(T:Int)(w:World)(hp:jA w p 0 (.string N))(b:jA w q 0 (.int .i64 T))(e:0<=x.aCZ/\x.aCZ<=T/\T<=1099511627776):Calls prog 153 #[.agg #[.int .i64 x.id,.int .i64 x.aCZ,.string x.aC6,.string x.aCX,.string x.action,.string x.aDf,.bool x.open_],.pointer (some ⟨p,0,none⟩),.pointer (some ⟨q,0,none⟩)] w (aO (.bool (decide (x.aC6=N)&&(x.open_&&decide (100<=T - x.aCZ)))) w):=by
 unfold aO;have h1:p≠w.heap.size:=qA hp.2;have h2:q≠w.heap.size:=qA b.2;obtain⟨hp,g⟩:=hp;obtain⟨b,i⟩:=b;obtain⟨j,k,c,l,m,n,f⟩:=x;dsimp only at e ⊢;go_enter func153,ntmps153;by_cases a:c=N
 .have d:(c.toList==N.toList)=true:=by rw[iG];exact dX a
  cases f
  .go_wp2;go_returns;exact⟨bI (by rw[dX a];rfl),aB _ _⟩
  .go_wp2;go_returns;exact⟨bI (by rw[dX a];simp),aB _ _⟩
 .have d:(c.toList==N.toList)=false:=by rw[iG];exact dF a
  go_wp2;go_returns;exact⟨bI (by rw[dF a];rfl),aB _ _⟩
theorem XM{ok:nP}(v:Value)(l:List cF)(N:bY)(p:Nat)(w:World)(h:aH pV w ok v l)(m:jA w p 0 (.string N)):Calls prog 38 #[v,.func (.func 39) #[] #[.pointer (some ⟨p,0,none⟩)]] w (aO (.int .i64 (eU (fun x=>gS N x.id) l)) w):=by
 obtain⟨a,c,rfl,B⟩:=h.slice;have s:=aA h;have o:=aA (fun wr (t:Below w.heap.size w wr)=>(m.on t:jA wr p 0 (.string N)));clear h m;obtain⟨PR,d⟩:∃PR:cF->Bool,PR=(fun x=>gS N x.id):=⟨_,rfl⟩;have q:=aA d;rw[<-d];clear d;unfold aO;go_enter func38,ntmps38;go_wp2;go_loopw [5,8] (fun _ i wr=>∃k:Nat,k<=l.length/\i=.int .i64 k/\Hid (∀i (hi:i<l.length),i<k->PR l[i]=false)/\Hid (Below w.heap.size w wr)) (fun _ i _=>l.length - (intOf i).toNat)
 case atStart=>exact BI
 case round=>
  obtain⟨k,A,rfl,HR,HB⟩:=hrel;by_cases hlt:k<l.length
  .have hk1:(k:Int)<(l.length:Int):=qo;obtain⟨b,off,r,rfl,_,z,⟨C,D,rfl,n⟩,hcl⟩:=aH.at dM (s.o.on dM HB.o) hlt qe;obtain⟨f,j,rfl,_⟩:=n.2.2.2.1.slice;obtain⟨la,lc,rfl,_⟩:=n.2.2.2.2.slice;obtain⟨y,E,F,G,H⟩:=FQ hcl;rw[Nat.add_zero] at y;have HI:Hid (Calls prog 39 #[.agg #[.string l[k].id,.string l[k].aDj,.string l[k].aDa,.slice f l[k].aCW.length j,.slice la l[k].log.length lc],.pointer (some ⟨p,0,none⟩)] wr (aO (.bool (PR l[k])) wr)):=by rw[q.o];exact aA (Hf l[k] f la j lc p N wr (o.o wr HB.o))
   exact KC
  .exact KA
theorem TL{ok:nP}(v:Value)(l:List oH)(N:bY)(p:Nat)(w:World)(h:aH kM w ok v l)(f:jA w p 0 (.string N)):Calls prog 111 #[v,.func (.func 112) #[] #[.pointer (some ⟨p,0,none⟩)]] w (aO (.int .i64 (eU (fun x=>decide (x.1=N)) l)) w):=by
 obtain⟨a,c,rfl,z⟩:=h.slice;have n:=aA h;have j:=aA (fun wr (o:Below w.heap.size w wr)=>(f.on o:jA wr p 0 (.string N)));clear h f;obtain⟨PR,d⟩:∃PR:oH->Bool,PR=(fun x=>decide (x.1=N)):=⟨_,rfl⟩;have m:=aA d;rw[<-d];clear d;unfold aO;go_enter func111,ntmps111;go_wp2;go_loopw [5,8] (fun _ i wr=>∃k:Nat,k<=l.length/\i=.int .i64 k/\Hid (∀i (hi:i<l.length),i<k->PR l[i]=false)/\Hid (Below w.heap.size w wr)) (fun _ i _=>l.length - (intOf i).toNat)
 case atStart=>exact BI
 case round=>
  obtain⟨k,y,rfl,HR,HB⟩:=hrel;by_cases hlt:k<l.length
  .have hk1:(k:Int)<(l.length:Int):=qo;obtain⟨b,off,r,rfl,_,s,⟨rfl,t⟩,hcl⟩:=aH.at bL (n.o.on bL HB.o) hlt qe;obtain⟨q,A,B,C⟩:=SG hcl;rw[Nat.add_zero] at q;have HI:Hid (Calls prog 112 #[.agg #[.string l[k].1,.int .i64 l[k].2.1,.int .i64 l[k].2.2.1,.string l[k].2.2.2],.pointer (some ⟨p,0,none⟩)] wr (aO (.bool (PR l[k])) wr)):=by rw[m.o];exact aA (Cd l[k] p N wr (j.o wr HB.o))
   exact KC
  .exact KA
theorem TM{ok:nP}(v:Value)(l:List oH)(N:bY)(p:Nat)(w:World)(h:aH kM w ok v l)(f:jA w p 0 (.string N)):Calls prog 111 #[v,.func (.func 158) #[] #[.pointer (some ⟨p,0,none⟩)]] w (aO (.int .i64 (eU (fun x=>gS N x.1) l)) w):=by
 obtain⟨a,c,rfl,z⟩:=h.slice;have n:=aA h;have j:=aA (fun wr (o:Below w.heap.size w wr)=>(f.on o:jA wr p 0 (.string N)));clear h f;obtain⟨PR,d⟩:∃PR:oH->Bool,PR=(fun x=>gS N x.1):=⟨_,rfl⟩;have m:=aA d;rw[<-d];clear d;unfold aO;go_enter func111,ntmps111;go_wp2;go_loopw [5,8] (fun _ i wr=>∃k:Nat,k<=l.length/\i=.int .i64 k/\Hid (∀i (hi:i<l.length),i<k->PR l[i]=false)/\Hid (Below w.heap.size w wr)) (fun _ i _=>l.length - (intOf i).toNat)
 case atStart=>exact BI
 case round=>
  obtain⟨k,y,rfl,HR,HB⟩:=hrel;by_cases hlt:k<l.length
  .have hk1:(k:Int)<(l.length:Int):=qo;obtain⟨b,off,r,rfl,_,s,⟨rfl,t⟩,hcl⟩:=aH.at bL (n.o.on bL HB.o) hlt qe;obtain⟨q,A,B,C⟩:=SG hcl;rw[Nat.add_zero] at q;have HI:Hid (Calls prog 158 #[.agg #[.string l[k].1,.int .i64 l[k].2.1,.int .i64 l[k].2.2.1,.string l[k].2.2.2],.pointer (some ⟨p,0,none⟩)] wr (aO (.bool (PR l[k])) wr)):=by rw[m.o];exact aA (Ce l[k] p N wr (j.o wr HB.o))
   exact KC
  .exact KA
theorem XN{ok:nP}(v:Value)(l:List rS)(N:bY)(p:Nat)(w:World)(h:aH lE w ok v l)(f:jA w p 0 (.string N)):Calls prog 236 #[v,.func (.func 195) #[] #[.pointer (some ⟨p,0,none⟩)]] w (aO (.int .i64 (eU (fun x=>decide (x.aDo=N)) l)) w):=by
 obtain⟨a,c,rfl,z⟩:=h.slice;have n:=aA h;have j:=aA (fun wr (o:Below w.heap.size w wr)=>(f.on o:jA wr p 0 (.string N)));clear h f;obtain⟨PR,d⟩:∃PR:rS->Bool,PR=(fun x=>decide (x.aDo=N)):=⟨_,rfl⟩;have m:=aA d;rw[<-d];clear d;unfold aO;go_enter func236,ntmps236;go_wp2;go_loopw [5,8] (fun _ i wr=>∃k:Nat,k<=l.length/\i=.int .i64 k/\Hid (∀i (hi:i<l.length),i<k->PR l[i]=false)/\Hid (Below w.heap.size w wr)) (fun _ i _=>l.length - (intOf i).toNat)
 case atStart=>exact BI
 case round=>
  obtain⟨k,y,rfl,HR,HB⟩:=hrel;by_cases hlt:k<l.length
  .have hk1:(k:Int)<(l.length:Int):=qo;obtain⟨b,off,r,rfl,_,s,⟨rfl,t⟩,hcl⟩:=aH.at bS (n.o.on bS HB.o) hlt qe;obtain⟨q,A,B⟩:=cR3 hcl;rw[Nat.add_zero] at q;have HI:Hid (Calls prog 195 #[.agg #[.int .i64 l[k].aCZ,.string l[k].aDo,.string l[k].aDP],.pointer (some ⟨p,0,none⟩)] wr (aO (.bool (PR l[k])) wr)):=by rw[m.o];exact aA (Hg l[k] p N wr (j.o wr HB.o))
   exact KC
  .exact KA
theorem XO{ok:nP}(v:Value)(l:List cF)(N:bY)(p:Nat)(w:World)(h:aH pV w ok v l)(m:jA w p 2 (.string N)):Calls prog 38 #[v,.func (.func 161) #[] #[.pointer (some ⟨p,0,none⟩)]] w (aO (.int .i64 (eU (fun x=>decide (x.id=N)) l)) w):=by
 obtain⟨a,c,rfl,B⟩:=h.slice;have s:=aA h;have o:=aA (fun wr (t:Below w.heap.size w wr)=>(m.on t:jA wr p 2 (.string N)));clear h m;obtain⟨PR,d⟩:∃PR:cF->Bool,PR=(fun x=>decide (x.id=N)):=⟨_,rfl⟩;have q:=aA d;rw[<-d];clear d;unfold aO;go_enter func38,ntmps38;go_wp2;go_loopw [5,8] (fun _ i wr=>∃k:Nat,k<=l.length/\i=.int .i64 k/\Hid (∀i (hi:i<l.length),i<k->PR l[i]=false)/\Hid (Below w.heap.size w wr)) (fun _ i _=>l.length - (intOf i).toNat)
 case atStart=>exact BI
 case round=>
  obtain⟨k,A,rfl,HR,HB⟩:=hrel;by_cases hlt:k<l.length
  .have hk1:(k:Int)<(l.length:Int):=qo;obtain⟨b,off,r,rfl,_,z,⟨C,D,rfl,n⟩,hcl⟩:=aH.at dM (s.o.on dM HB.o) hlt qe;obtain⟨f,j,rfl,_⟩:=n.2.2.2.1.slice;obtain⟨la,lc,rfl,_⟩:=n.2.2.2.2.slice;obtain⟨y,E,F,G,H⟩:=FQ hcl;rw[Nat.add_zero] at y;have HI:Hid (Calls prog 161 #[.agg #[.string l[k].id,.string l[k].aDj,.string l[k].aDa,.slice f l[k].aCW.length j,.slice la l[k].log.length lc],.pointer (some ⟨p,0,none⟩)] wr (aO (.bool (PR l[k])) wr)):=by rw[q.o];exact aA (Hh l[k] f la j lc p N wr (o.o wr HB.o))
   exact KC
  .exact KA
theorem XP{ok:nP}(v:Value)(l:List cF)(w:World)(h:aH pV w ok v l)(p:True):Calls prog 38 #[v,.func (.func 115) #[] #[]] w (aO (.int .i64 (eU (fun x=>decide (256<x.log.length)) l)) w):=by
 obtain⟨a,c,rfl,A⟩:=h.slice;have o:=aA h;have s:=aA (fun wr (t:Below w.heap.size w wr)=>(trivial:True));clear h p;obtain⟨PR,d⟩:∃PR:cF->Bool,PR=(fun x=>decide (256<x.log.length)):=⟨_,rfl⟩;have n:=aA d;rw[<-d];clear d;unfold aO;go_enter func38,ntmps38;go_wp2;go_loopw [5,8] (fun _ i wr=>∃k:Nat,k<=l.length/\i=.int .i64 k/\Hid (∀i (hi:i<l.length),i<k->PR l[i]=false)/\Hid (Below w.heap.size w wr)) (fun _ i _=>l.length - (intOf i).toNat)
 case atStart=>exact BI
 case round=>
  obtain⟨k,z,rfl,HR,HB⟩:=hrel;by_cases hlt:k<l.length
  .have hk1:(k:Int)<(l.length:Int):=qo;obtain⟨b,off,r,rfl,_,y,⟨B,C,rfl,m⟩,hcl⟩:=aH.at dM (o.o.on dM HB.o) hlt qe;obtain⟨f,j,rfl,_⟩:=m.2.2.2.1.slice;obtain⟨la,lc,rfl,_⟩:=m.2.2.2.2.slice;obtain⟨q,D,E,F,G⟩:=FQ hcl;rw[Nat.add_zero] at q;have HI:Hid (Calls prog 115 #[.agg #[.string l[k].id,.string l[k].aDj,.string l[k].aDa,.slice f l[k].aCW.length j,.slice la l[k].log.length lc],] wr (aO (.bool (PR l[k])) wr)):=by rw[n.o];exact aA (Hj l[k] f la j lc wr)
   exact KC
  .exact KA
theorem TN{ok:nP}(v:Value)(l:List Ob)(N:bY)(p:Nat)(w:World)(h:aH jU w ok v l)(f:jA w p 0 (.string N)):Calls prog 160 #[v,.func (.func 110) #[] #[.pointer (some ⟨p,0,none⟩)]] w (aO (.int .i64 (eU (fun x=>decide (x.aCR=2)&&decide (x.arg=N)) l)) w):=by
 obtain⟨a,c,rfl,z⟩:=h.slice;have n:=aA h;have j:=aA (fun wr (o:Below w.heap.size w wr)=>(f.on o:jA wr p 0 (.string N)));clear h f;obtain⟨PR,d⟩:∃PR:Ob->Bool,PR=(fun x=>decide (x.aCR=2)&&decide (x.arg=N)):=⟨_,rfl⟩;have m:=aA d;rw[<-d];clear d;unfold aO;go_enter func160,ntmps160;go_wp2;go_loopw [5,8] (fun _ i wr=>∃k:Nat,k<=l.length/\i=.int .i64 k/\Hid (∀i (hi:i<l.length),i<k->PR l[i]=false)/\Hid (Below w.heap.size w wr)) (fun _ i _=>l.length - (intOf i).toNat)
 case atStart=>exact BI
 case round=>
  obtain⟨k,y,rfl,HR,HB⟩:=hrel;by_cases hlt:k<l.length
  .have hk1:(k:Int)<(l.length:Int):=qo;obtain⟨b,off,r,rfl,_,s,⟨rfl,t⟩,hcl⟩:=aH.at aP (n.o.on aP HB.o) hlt qe;obtain⟨q,A,B⟩:=cR3 hcl;rw[Nat.add_zero] at q;have HI:Hid (Calls prog 110 #[.agg #[.int .i64 l[k].on,.int .i64 l[k].aCR,.string l[k].arg],.pointer (some ⟨p,0,none⟩)] wr (aO (.bool (PR l[k])) wr)):=by rw[m.o];exact aA (Cf l[k] p N wr (j.o wr HB.o))
   exact KC
  .exact KA
theorem XQ{ok:nP}(v:Value)(l:List vU)(N:bY)(T:Int)(p q:Nat)(w:World)(h:aH sU w ok v l)(d:jA w p 0 (.string N)/\jA w q 0 (.int .i64 T)/\(∀x∈l,0<=x.aCZ/\x.aCZ<=T/\T<=1099511627776)):Calls prog 196 #[v,.func (.func 153) #[] #[.pointer (some ⟨p,0,none⟩),.pointer (some ⟨q,0,none⟩)]] w (aO (.int .i64 (eU (fun x=>decide (x.aC6=N)&&(x.open_&&decide (100<=T - x.aCZ))) l)) w):=by
 obtain⟨a,c,rfl,A⟩:=h.slice;have o:=aA h;have f:=aA (fun wr (m:Below w.heap.size w wr)=>(⟨d.1.on m,d.2.1.on m,d.2.2⟩:jA wr p 0 (.string N)/\jA wr q 0 (.int .i64 T)/\(∀x∈l,0<=x.aCZ/\x.aCZ<=T/\T<=1099511627776)));clear h d;obtain⟨PR,j⟩:∃PR:vU->Bool,PR=(fun x=>decide (x.aC6=N)&&(x.open_&&decide (100<=T - x.aCZ))):=⟨_,rfl⟩;have n:=aA j;rw[<-j];clear j;unfold aO;go_enter func196,ntmps196;go_wp2;go_loopw [5,8] (fun _ i wr=>∃k:Nat,k<=l.length/\i=.int .i64 k/\Hid (∀i (hi:i<l.length),i<k->PR l[i]=false)/\Hid (Below w.heap.size w wr)) (fun _ i _=>l.length - (intOf i).toNat)
 case atStart=>exact BI
 case round=>
  obtain⟨k,z,rfl,HR,HB⟩:=hrel;by_cases hlt:k<l.length
  .have hk1:(k:Int)<(l.length:Int):=qo;obtain⟨b,off,r,rfl,_,t,⟨rfl,y⟩,hcl⟩:=aH.at cT (o.o.on cT HB.o) hlt qe;obtain⟨s,B,C,D,E,F,G⟩:=CH hcl;rw[Nat.add_zero] at s;have HI:Hid (Calls prog 153 #[.agg #[.int .i64 l[k].id,.int .i64 l[k].aCZ,.string l[k].aC6,.string l[k].aCX,.string l[k].action,.string l[k].aDf,.bool l[k].open_],.pointer (some ⟨p,0,none⟩),.pointer (some ⟨q,0,none⟩)] wr (aO (.bool (PR l[k])) wr)):=by rw[n.o];exact aA (Hk l[k] p q N T wr (f.o wr HB.o).1 (f.o wr HB.o).2.1 ((f.o wr HB.o).2.2 _ (List.getElem_mem hlt)))
   exact KC
  .exact KA
theorem Sa{p:Prop}(h:p:=by
 go_wp2;go_returns;exact⟨by rw[<-HE.o];rfl,HB.o⟩):p:=h
theorem QCg{p:Prop}(h:p:=by
 go_wp2_with fail;refine HI.o.mono ?_;rintro e w1 ⟨rfl,hb_⟩;have HB1:=qB HB0 hb_;clear hb_ HI;go_wp2;go_returns;exact⟨by rw[<-HA.o];rfl,HB1.o⟩):p:=h
theorem QCe{p:Prop}(h:p:=by
 have HF:=aA (HL.o true rfl);clear HL;go_wp2;go_returns;exact⟨by have:=HF.o;rw[iP trivial] at this;rw[this];rfl,HB0.o.trans (HB'.o.mono HB0.o.size)⟩):p:=h
theorem QBM{p:Prop}(h:p:=by
 have hk1:¬(k:Int)<(l.length:Int):=qo;obtain rfl:k=l.length:=qo;have HF:=aA (OK HR.o);clear HR;go_wp2;go_returns;exact⟨by rw[HF.o];rfl,HB0.o.trans (HB.o.mono HB0.o.size)⟩):p:=h
theorem Sb{p:Prop}(h:p:=by
 refine HI.o.mono ?_;rintro e w1 ⟨rfl,hb_⟩;have HB1:=qB HB0 hb_;clear hb_ HI;go_wp2;go_returns;exact⟨rfl,HB1.o⟩):p:=h
theorem tY{a b:bY}:a.toList=b.toList↔a=b:=⟨fun h=>by rw[Lib.toList_data,Lib.toList_data] at h;exact ByteArray.ext (Array.ext' h),fun h=>by rw[h]⟩
def CZ(m:Ma)(v:V3)(w:World)(e:Ending)(w':World):Prop:=e=.returned (.tuple #[.bool (kB m v).1,.int .i64 (kB m v).2])/\Below w.heap.size w w'
theorem XR(m:Ma)(v:V3)(hm:tS m)(j:cS v)(w:World):Calls prog 235 #[kL m,dD v] w (CZ m v w):=by
 have b:=aA (fun w=>CU v m.val j hm.2.2 w);have c:=aA (fun w=>CU m.val v hm.2.2 j w);obtain⟨⟨ac,i,am⟩,op,mk,a,ms⟩:=m;obtain⟨vk,vn,vs⟩:=v;have k:=aA (aC (aB w (.cells #[.int .i64 ac,.string i,.bool am,.int .i64 op,.int .i64 mk,.int .i64 a,.string ms] 281)) (aB _ (.cells #[.int .i64 vk,.int .i64 vn,.string vs] 55)));unfold sX dD at b c;unfold dD kL;simp only at b c ⊢;clear hm j;by_cases h1:op=1
 .have d1:(op==1)=true:=bQ.2 h1;have H1:=aA h1;clear h1 b c;go_enter func235,ntmps235;go_wp2
  all_goals go_returns
  all_goals
   unfold CZ kB;simp only[H1.o,if_true];refine⟨?_,aC (aB _ _) (aB _ _)⟩
   simp_all [tY]
 .have d1:(op==1)=false:=bN.2 h1;by_cases h2:op=2
  .have d2:(op==2)=true:=bQ.2 h2;have g:Hid (kB ⟨⟨ac,i,am⟩,op,mk,a,ms⟩ (vk,vn,vs)=jT (vk,vn,vs) (mk,a,ms)):=aA (by unfold kB;simp only[iN h1,iP h2]);generalize jT (vk,vn,vs) (mk,a,ms)=r at *;obtain⟨l,n⟩:=r;clear h1 h2 c;go_enter func235,ntmps235;go_wp2_with fail;refine(b.o _).mono ?_;rintro e w1 ⟨rfl,d⟩;have f:=qB k d;clear d b;go_wp2;go_returns;unfold CZ;rw[g.o];exact⟨rfl,f.o⟩
  .have d2:(op==2)=false:=bN.2 h2;have g:Hid (kB ⟨⟨ac,i,am⟩,op,mk,a,ms⟩ (vk,vn,vs)=jT (mk,a,ms) (vk,vn,vs)):=aA (by unfold kB;simp only[iN h1,iN h2]);generalize jT (mk,a,ms) (vk,vn,vs)=r at *;obtain⟨l,n⟩:=r;clear h1 h2 b;go_enter func235,ntmps235;go_wp2_with fail;refine(c.o _).mono ?_;rintro e w1 ⟨rfl,d⟩;have f:=qB k d;clear d c;go_wp2;go_returns;unfold CZ;rw[g.o];exact⟨rfl,f.o⟩
theorem QR{m:Ma}{l:List V3}{k out R:Nat}(a:k<l.length)(h:mC m (l.drop k) out=R):(if (kB m l[k]).1=true then 2 else mC m (l.drop (k+1)) (if (kB m l[k]).2≠0 then 1 else out))=R:=by
 rw[List.drop_eq_getElem_cons a] at h;exact h
theorem KD{ok:nP}(m:Ma)(hm:tS m)(F:Value)(g:List Gv)(w:World)(h:aH jM w ok F g):Calls prog 193 #[kL m,F] w (aO (.int .i64 (oN g m:Nat)) w):=by
 have t:=aA (aB w (.cells (JV m) 281));have G:=aA (aK w (.cells (JV m) 281) _ rfl);have j:=aA (TI F g m.aDg _ (h.on bZ t.o));have B:=aA (fun v T w=>XR m v hm T w);obtain⟨a,c,rfl,ad⟩:=h.slice;unfold aO oN kL;unfold sZ oF at j;unfold CZ kL dD at B;clear h hm;obtain⟨bag,J,L⟩:∃b e,rJ g m.aDg=(b,e):=⟨_,_,rfl⟩;rw[L] at j ⊢;clear L;simp only at j ⊢;by_cases he:J=0
 case neg=>
  rw[iP he];have d:(J != 0)=true:=bne_iff_ne.2 he;clear he B;go_enter func193,ntmps193;go_wp2_with fail;refine j.o.mono ?_;rintro e w1 ⟨v,rfl,q,f⟩;have l:=qB t f;clear q f j;go_wp2;go_returns;exact⟨rfl,l.o⟩
 subst he;rw[iN (fun h=>h rfl)];obtain⟨res,E⟩:=xE (mC m bag 0);rw[<-E];have I:Hid (mC m (bag.drop 0) 0=res):=aA (by rw[List.drop_zero];exact E.symm);clear E;go_enter func193,ntmps193;go_wp2_with fail;refine j.o.mono ?_;rintro e w1 ⟨v,rfl,q,f⟩;obtain⟨l,P,R⟩:=aY (aC t.o f) (aE G.o f) q;obtain⟨ba,bc,rfl,aa⟩:=q.slice;clear q f j G t;go_wp2;go_loopw [7,23] (fun o i wr=>∃k out:Nat,k<=bag.length/\i=.int .i64 k/\o=.int .i64 out/\Hid (mC m (bag.drop k) out=res)/\Hid (Below w1.heap.size w1 wr)) (fun _ i _=>bag.length - (intOf i).toNat)
 case atStart=>exact⟨0,0,Nat.zero_le _,rfl,rfl,I,aA (Below.refl _ _)⟩
 case round=>
  clear I;obtain⟨k,out,hk,rfl,rfl,y,s⟩:=hrel;by_cases N:k<bag.length
  .have S:(k:Int)<(bag.length:Int):=qo;obtain⟨b,off,r,rfl,_,ab,⟨rfl,M⟩,K⟩:=aH.at bH (R.o.on bH s.o) N qe;obtain⟨O,W,X⟩:=cR3 K;rw[Nat.add_zero] at O;have H:=qK P s.o;obtain⟨⟨Y,Z,y2,y3,y4,y5,y6⟩,_⟩:=bJ H.o;have U:=aD H.o;have p:=aA (QR N y.o);have A:=aA (B.o bag[k] M);clear K y M;generalize bag[k]=x at *;generalize kB m x=r at *;obtain⟨V,z⟩:=r;simp only at A p;go_wp2_with fail;refine(A.o _).mono ?_;rintro e w2 ⟨rfl,f⟩;have C:=aA (aC (aC s.o (aB _ _)) f);clear f A O W X Y Z y2 y3 y4 y5 y6 U
   cases V
   .have n:Hid (mC m (bag.drop (k+1)) (if z≠0 then 1 else out)=res):=p.o;by_cases he:z=0
    .have d2:(z != 0)=false:=by rw[he];rfl
     have D:Hid (mC m (bag.drop (k+1)) out=res):=aA (by have:=n.o;rwa [iN (fun h=>h he)] at this);clear he p n;go_wp2;go_roundw
     case rel=>exact⟨k+1,out,qo,by go_num,rfl,D,C⟩
     case measure=>simp[intOf];omega
    .have d2:(z != 0)=true:=bne_iff_ne.2 he;have D:Hid (mC m (bag.drop (k+1)) 1=res):=aA (by have:=n.o;rwa [iP he] at this);clear he p n;go_wp2;go_roundw
     case rel=>exact⟨k+1,1,qo,by go_num,rfl,D,C⟩
     case measure=>simp[intOf];omega
   .have n:Hid (2=res):=p.o;clear p;go_wp2;go_returns;exact⟨by rw[<-n.o];rfl,l.o.trans (C.o.mono l.o.size)⟩
  .have S:¬(k:Int)<(bag.length:Int):=qo;obtain rfl:k=bag.length:=qo;have Q:Hid (out=res):=aA (by have:=y.o;rwa [List.drop_length] at this);clear y;go_wp2;go_returns;exact⟨by rw[<-Q.o];rfl,l.o.trans (s.o.mono l.o.size)⟩
theorem Xs(p q:Nat)(a:Array TypeId)(t:TypeId)(w:World):(Builtin.min_ a t #[.int .i64 (p:Int),.int .i64 (q:Int)]).run prog w=.ok (.int .i64 ((min p q:Nat):Int)) w:=by
 simp[Builtin.min_,Builtin.min2]
 rcases Nat.lt_or_ge q p with h|h<;>simp[h]<;>omega
theorem aCr(p q:Nat)(a:Array TypeId)(t:TypeId)(w:World):(Builtin.max_ a t #[.int .i64 (p:Int),.int .i64 (q:Int)]).run prog w=.ok (.int .i64 ((max p q:Nat):Int)) w:=by
 simp[Builtin.max_,Builtin.max2]
 rcases Nat.lt_or_ge p q with h|h<;>simp[h]<;>omega
theorem DA{α β:Type}{f:β->α->β}{l:List α}{k:Nat}{out R:β}(a:k<l.length)(h:(l.drop k).foldl f out=R):(l.drop (k+1)).foldl f (f out l[k])=R:=by
 rw[List.drop_eq_getElem_cons a] at h;exact h
theorem IV{α β:Type}{f:β->α->β}{l:List α}{out R:β}(h:(l.drop l.length).foldl f out=R):out=R:=by
 rw[List.drop_length] at h;exact h
theorem Nt{ok ok':nP}(A:Value)(l:List Ma)(z:Value)(g:List Gv)(w:World)(j:aH rM w ok' A l)(h:aH jM w ok z g):Calls prog 228 #[A,z] w (aO (.int .i64 (zF g l:Nat)) w):=by
 obtain⟨a,c,rfl,Q⟩:=h.slice;obtain⟨la,lc,rfl,R⟩:=j.slice;have E:=aA j;have D:=aA h;clear h j;unfold aO zF;obtain⟨res,p⟩:=xE (l.foldl (fun out m=>min out (oN g m)) 2);rw[<-p];have q:Hid ((l.drop 0).foldl (fun out m=>min out (oN g m)) 2=res):=aA (by rw[List.drop_zero];exact p.symm);clear p;go_enter func228,ntmps228;go_wp2;go_loopw [5,10] (fun o i wr=>∃k out:Nat,k<=l.length/\i=.int .i64 k/\o=.int .i64 out/\Hid ((l.drop k).foldl (fun out m=>min out (oN g m)) out=res)/\Hid (Below w.heap.size w wr)) (fun _ i _=>l.length - (intOf i).toNat)
 case atStart=>exact⟨0,2,Nat.zero_le _,rfl,rfl,q,aA (Below.refl _ _)⟩
 case round=>
  clear q;obtain⟨k,out,P,rfl,rfl,d,HB⟩:=hrel;by_cases y:k<l.length
  .have G:(k:Int)<(l.length:Int):=qo;obtain⟨b,off,r,rfl,_,O,⟨rfl,v⟩,t⟩:=aH.at eQ (E.o.on eQ HB.o) y qe;obtain⟨B,I,J,K,L,M,N⟩:=CH t;rw[Nat.add_zero] at B;have F:=aA (DA y d.o);have f:=aA (KD l[k] v _ g (wr.alloc (.cells #[.int .i64 l[k].aDg.cat,.string l[k].aDg.name,.bool l[k].aDg.aDq,.int .i64 l[k].op,.int .i64 l[k].val.1,.int .i64 l[k].val.2.1,.string l[k].val.2.2] 281)) (D.o.on bZ (HB.o.alloc HB.o.size _)));unfold aO kL at f;clear t d v;generalize l[k]=x at *;generalize oN g x=n at *;have H:=Xs out n;go_wp2_with fail;refine f.o.mono ?_;rintro e w2 ⟨rfl,s⟩;have C:=aA (aC (aC HB.o (aB _ _)) s);clear s f B I J K L M N;go_wp2;clear H;go_roundw
   case rel=>exact⟨k+1,min out n,qo,by go_num,rfl,F,C⟩
   case measure=>simp[intOf];omega
  .have G:¬(k:Int)<(l.length:Int):=qo;obtain rfl:k=l.length:=qo;have HE:=aA (IV d.o);clear d;exact Sa
theorem ZQ{ok ok':nP}(vt:Value)(t:Ta)(O:Value)(g:List Gv)(w:World)(H:nY w ok' vt t)(h:aH jM w ok O g):Calls prog 189 #[vt,O] w (aO (.int .i64 (xP g t:Nat)) w):=by
 obtain⟨a,c,rfl,aa⟩:=h.slice;obtain⟨ta,tc,rfl,ab⟩:=H.slice;have S:=aA H;have R:=aA h;clear h H;unfold aO xP;obtain⟨F,B⟩:∃F:Nat->List (List Ma)->Nat,F=(fun out l=>min out (l.foldl (fun d x=>max d (zF g x)) 0)):=⟨_,rfl⟩;have Q:=aA B;rw[<-B];clear B;obtain⟨res,D⟩:=xE (t.foldl F 2);rw[<-D];have K:Hid ((t.drop 0).foldl F 2=res):=aA (by rw[List.drop_zero];exact D.symm);clear D;go_enter func189,ntmps189;go_wp2;go_loopw [5,13] (fun o i wr=>∃k out:Nat,k<=t.length/\i=.int .i64 k/\o=.int .i64 out/\Hid ((t.drop k).foldl F out=res)/\Hid (Below w.heap.size w wr)) (fun _ i _=>t.length - (intOf i).toNat)
 case atStart=>exact⟨0,2,Nat.zero_le _,rfl,rfl,K,aA (Below.refl _ _)⟩
 case round=>
  clear K;obtain⟨y,rfl⟩:∃y:World,y=wr:=⟨_,rfl⟩;obtain⟨k,out,hk,rfl,rfl,s,HB⟩:=hrel;by_cases N:k<t.length
  .have V:(k:Int)<(t.length:Int):=qo;obtain⟨b,off,r,rfl,_,Y,⟨vx,rfl,E⟩,f⟩:=aH.at aS (S.o.on aS HB.o) N qe;obtain⟨xa,xc,rfl,_⟩:=E.slice;have m:=f 0 _ rfl;rw[Nat.add_zero,Nat.mul_one] at m;have A:=aA (DA N s.o);have T:=aA E;have I:=aA (show F out t[k]=min out (t[k].foldl (fun d x=>max d (zF g x)) 0) by rw[Q.o]);clear f s E;generalize t[k]=l at *;obtain⟨d,C⟩:=xE (l.foldl (fun d x=>max d (zF g x)) 0);rw[<-C] at I;have J:Hid ((l.drop 0).foldl (fun d x=>max d (zF g x)) 0=d):=aA (by rw[List.drop_zero];exact C.symm);clear C;go_wp2;clear m;go_loopw [8,10,19] (fun o _ i wr=>∃j b:Nat,j<=l.length/\i=.int .i64 j/\o=.int .i64 b/\Hid ((l.drop j).foldl (fun d x=>max d (zF g x)) b=d)/\Hid (Below y.heap.size y wr)) (fun _ _ i _=>l.length - (intOf i).toNat)
   case atStart=>exact⟨0,0,Nat.zero_le _,rfl,rfl,J,aA (Below.refl _ _)⟩
   case round=>
    clear J;obtain⟨j,v,hj,rfl,rfl,q,p⟩:=hrel;by_cases M:j<l.length
    .have U:(j:Int)<(l.length:Int):=qo;obtain⟨b2,ad,r2,rfl,_,Z,⟨vy,rfl,G⟩,f⟩:=aH.at dN (T.o.on dN p.o) M qe;obtain⟨ya,yc,rfl,_⟩:=G.slice;have m:=f 0 _ rfl;rw[Nat.add_zero,Nat.mul_one] at m;have A:=aA (DA M q.o);have z:=aA (Nt _ _ _ g wr G (R.o.on bZ (aC HB.o p.o)));unfold aO at z;clear f q G;generalize l[j]=x at *;generalize zF g x=n at *;have W:=aCr v n;go_wp2_with fail;refine z.o.mono ?_;rintro e w2 ⟨rfl,L⟩;have P:=qB p L;clear L z m;go_wp2;clear W;go_roundw
     case rel=>exact⟨j+1,max v n,qo,by go_num,rfl,A,P⟩
     case measure=>simp[intOf];omega
    .have U:¬(j:Int)<(l.length:Int):=qo;obtain rfl:j=l.length:=qo;have HE:=aA (IV q.o);clear q;have X:=Xs out v;go_wp2;clear X;go_roundw
     case rel=>exact⟨k+1,min out v,qo,by go_num,rfl,aA (by have:=A.o;rw[I.o,<-HE.o] at this;exact this),aA (aC HB.o p.o)⟩
     case measure=>simp[intOf];omega
  .have V:¬(k:Int)<(t.length:Int):=qo;obtain rfl:k=t.length:=qo;have HE:=aA (IV s.o);clear s;exact Sa
end Go.Proofs.YtbinmcabjnoliaaGreatDoor

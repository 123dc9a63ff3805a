/- Lemmas. -/
import Derived.Test.YthcgdgkpgdjahaaGreatDoorMai
namespace Go.Proofs.YthcgdgkpgdjahaaGreatDoor
open Go.RowKit
set_option linter.unusedVariables false
set_option linter.unusedSimpArgs false
set_option maxHeartbeats 16000000
open _root_.Go.Proofs.Tryz
set_option maxRecDepth 20000
theorem Jj(a b:bY):(!Op.bytesLess a.toList b.toList)=fK b a:=by
 rw[wL];unfold fK;by_cases h:a.toList<b.toList
 .rw[dX h,dF (fun k=>k h)];rfl
 .rw[dF h,dX h];rfl
theorem Jk(x:cB)(a la:oD)(b lc:Nat)(p:Nat)(N:bY)(w:World)(hp:jH w p 0 (.string N)):Calls prog 129 #[.agg #[.string x.id,.string x.aEg,.string x.aD9,.slice a x.aDT.length b,.slice la x.log.length lc],.pointer (some ⟨p,0,none⟩)] w (aP (.bool (fK N x.id)) w):=by
 unfold aP;have h1:p≠w.heap.size:=qA hp.2;obtain⟨hp,c⟩:=hp;go_enter func129,ntmps129;go_wp2;go_returns;exact⟨bH (Jj x.id N),aB _ _⟩
theorem Dy(x:qE)(p:Nat)(N:bY)(w:World)(hp:jH w p 0 (.string N)):Calls prog 97 #[.agg #[.string x.1,.int .i64 x.2.1,.int .i64 x.2.2.1,.string x.2.2.2],.pointer (some ⟨p,0,none⟩)] w (aP (.bool (decide (x.1=N))) w):=by
 unfold aP;have h1:p≠w.heap.size:=qA hp.2;obtain⟨hp,a⟩:=hp;go_enter func97,ntmps97;go_wp2;go_returns;exact⟨bH (jL x.1 N),aB _ _⟩
theorem Dz(x:qE)(p:Nat)(N:bY)(w:World)(hp:jH w p 0 (.string N)):Calls prog 149 #[.agg #[.string x.1,.int .i64 x.2.1,.int .i64 x.2.2.1,.string x.2.2.2],.pointer (some ⟨p,0,none⟩)] w (aP (.bool (fK N x.1)) w):=by
 unfold aP;have h1:p≠w.heap.size:=qA hp.2;obtain⟨hp,a⟩:=hp;go_enter func149,ntmps149;go_wp2;go_returns;exact⟨bH (Jj x.1 N),aB _ _⟩
theorem Jl(x:uI)(p:Nat)(N:bY)(w:World)(hp:jH w p 0 (.string N)):Calls prog 192 #[.agg #[.int .i64 x.aDX,.string x.aEn,.string x.aEU],.pointer (some ⟨p,0,none⟩)] w (aP (.bool (decide (x.aEn=N))) w):=by
 unfold aP;have h1:p≠w.heap.size:=qA hp.2;obtain⟨hp,a⟩:=hp;go_enter func192,ntmps192;go_wp2;go_returns;exact⟨bH (jL x.aEn N),aB _ _⟩
theorem Jm(x:cB)(a la:oD)(b lc:Nat)(p:Nat)(N:bY)(w:World)(hp:jH w p 2 (.string N)):Calls prog 153 #[.agg #[.string x.id,.string x.aEg,.string x.aD9,.slice a x.aDT.length b,.slice la x.log.length lc],.pointer (some ⟨p,0,none⟩)] w (aP (.bool (decide (x.id=N))) w):=by
 unfold aP;have h1:p≠w.heap.size:=qA hp.2;obtain⟨hp,c⟩:=hp;go_enter func153,ntmps153;go_wp2;go_returns;exact⟨bH (jL x.id N),aB _ _⟩
theorem Jn(x:cB)(a la:oD)(b lc:Nat)(w:World):Calls prog 100 #[.agg #[.string x.id,.string x.aEg,.string x.aD9,.slice a x.aDT.length b,.slice la x.log.length lc]] w (aP (.bool (decide (256<x.log.length))) w):=by
 unfold aP;go_enter func100,ntmps100;go_wp2;go_returns;exact⟨bH (by rw[Bool.eq_iff_iff];simp;omega),aB _ _⟩
theorem Ea(x:Ob)(p:Nat)(N:bY)(w:World)(hp:jH w p 0 (.string N)):Calls prog 94 #[.agg #[.int .i64 x.on,.int .i64 x.aDN,.string x.arg],.pointer (some ⟨p,0,none⟩)] w (aP (.bool (decide (x.aDN=2)&&decide (x.arg=N))) w):=by
 unfold aP;have h1:p≠w.heap.size:=qA hp.2;obtain⟨hp,e⟩:=hp;obtain⟨f,b,d⟩:=x;dsimp only;go_enter func94,ntmps94;by_cases a:b=2
 .have c:(b==2)=true:=bQ.2 a;go_wp2;go_returns;refine⟨bH ?_,aB _ _⟩;rw[dX a,Bool.true_and];exact jL d N
 .have c:(b==2)=false:=bN.2 a;go_wp2;go_returns;refine⟨bH ?_,aB _ _⟩;rw[dF a];rfl
theorem Jo(x:wJ)(p q:Nat)(N:bY)(T:Int)(w:World)(hp:jH w p 0 (.string N))(b:jH w q 0 (.int .i64 T))(e:0<=x.aDX/\x.aDX<=T/\T<=1099511627776):Calls prog 144 #[.agg #[.int .i64 x.id,.int .i64 x.aDX,.string x.aD3,.string x.aDU,.string x.action,.string x.aEc,.bool x.open_],.pointer (some ⟨p,0,none⟩),.pointer (some ⟨q,0,none⟩)] w (aP (.bool (decide (x.aD3=N)&&(x.open_&&decide (100<=T - x.aDX)))) w):=by
 unfold aP;have h1:p≠w.heap.size:=qA hp.2;have h2:q≠w.heap.size:=qA b.2;obtain⟨hp,g⟩:=hp;obtain⟨b,i⟩:=b;obtain⟨j,k,c,l,m,n,f⟩:=x;dsimp only at e ⊢;go_enter func144,ntmps144;by_cases a:c=N
 .have d:(c.toList==N.toList)=true:=by rw[jL];exact dX a
  cases f
  .go_wp2;go_returns;exact⟨bH (by rw[dX a];rfl),aB _ _⟩
  .go_wp2;go_returns;exact⟨bH (by rw[dX a];simp),aB _ _⟩
 .have d:(c.toList==N.toList)=false:=by rw[jL];exact dF a
  go_wp2;go_returns;exact⟨bH (by rw[dF a];rfl),aB _ _⟩
theorem YY{ok:nP}(v:Value)(l:List cB)(N:bY)(p:Nat)(w:World)(h:aH qN w ok v l)(m:jH w p 0 (.string N)):Calls prog 128 #[v,.func (.func 129) #[] #[.pointer (some ⟨p,0,none⟩)]] w (aP (.int .i64 (fA (fun x=>fK N x.id) l)) w):=by
 obtain⟨a,c,rfl,B⟩:=h.slice;have s:=aA h;have o:=aA (fun wr (t:Below w.heap.size w wr)=>(m.on t:jH wr p 0 (.string N)));clear h m;obtain⟨PR,d⟩:∃PR:cB->Bool,PR=(fun x=>fK N x.id):=⟨_,rfl⟩;have q:=aA d;rw[<-d];clear d;unfold aP;go_enter func128,ntmps128;go_wp2;go_loopw [5,8] (fun _ i wr=>∃k:Nat,k<=l.length/\i=.int .i64 k/\Hid (∀i (hi:i<l.length),i<k->PR l[i]=false)/\Hid (Below w.heap.size w wr)) (fun _ i _=>l.length - (intOf i).toNat)
 case atStart=>exact BU
 case round=>
  obtain⟨k,A,rfl,HR,HB⟩:=hrel;by_cases hlt:k<l.length
  .have hk1:(k:Int)<(l.length:Int):=qo;obtain⟨b,off,r,rfl,_,z,⟨C,D,rfl,n⟩,hcl⟩:=aH.at dW (s.o.on dW HB.o) hlt qe;obtain⟨f,j,rfl,_⟩:=n.2.2.2.1.slice;obtain⟨la,lc,rfl,_⟩:=n.2.2.2.2.slice;obtain⟨y,E,F,G,H⟩:=KP hcl;rw[Nat.add_zero] at y;have HI:Hid (Calls prog 129 #[.agg #[.string l[k].id,.string l[k].aEg,.string l[k].aD9,.slice f l[k].aDT.length j,.slice la l[k].log.length lc],.pointer (some ⟨p,0,none⟩)] wr (aP (.bool (PR l[k])) wr)):=by rw[q.o];exact aA (Jk l[k] f la j lc p N wr (o.o wr HB.o))
   exact KY
  .exact KX
theorem UT{ok:nP}(v:Value)(l:List qE)(N:bY)(p:Nat)(w:World)(h:aH lO w ok v l)(f:jH w p 0 (.string N)):Calls prog 96 #[v,.func (.func 97) #[] #[.pointer (some ⟨p,0,none⟩)]] w (aP (.int .i64 (fA (fun x=>decide (x.1=N)) l)) w):=by
 obtain⟨a,c,rfl,z⟩:=h.slice;have n:=aA h;have j:=aA (fun wr (o:Below w.heap.size w wr)=>(f.on o:jH wr p 0 (.string N)));clear h f;obtain⟨PR,d⟩:∃PR:qE->Bool,PR=(fun x=>decide (x.1=N)):=⟨_,rfl⟩;have m:=aA d;rw[<-d];clear d;unfold aP;go_enter func96,ntmps96;go_wp2;go_loopw [5,8] (fun _ i wr=>∃k:Nat,k<=l.length/\i=.int .i64 k/\Hid (∀i (hi:i<l.length),i<k->PR l[i]=false)/\Hid (Below w.heap.size w wr)) (fun _ i _=>l.length - (intOf i).toNat)
 case atStart=>exact BU
 case round=>
  obtain⟨k,y,rfl,HR,HB⟩:=hrel;by_cases hlt:k<l.length
  .have hk1:(k:Int)<(l.length:Int):=qo;obtain⟨b,off,r,rfl,_,s,⟨rfl,t⟩,hcl⟩:=aH.at bS (n.o.on bS HB.o) hlt qe;obtain⟨q,A,B,C⟩:=Ib hcl;rw[Nat.add_zero] at q;have HI:Hid (Calls prog 97 #[.agg #[.string l[k].1,.int .i64 l[k].2.1,.int .i64 l[k].2.2.1,.string l[k].2.2.2],.pointer (some ⟨p,0,none⟩)] wr (aP (.bool (PR l[k])) wr)):=by rw[m.o];exact aA (Dy l[k] p N wr (j.o wr HB.o))
   exact KY
  .exact KX
theorem UU{ok:nP}(v:Value)(l:List qE)(N:bY)(p:Nat)(w:World)(h:aH lO w ok v l)(f:jH w p 0 (.string N)):Calls prog 96 #[v,.func (.func 149) #[] #[.pointer (some ⟨p,0,none⟩)]] w (aP (.int .i64 (fA (fun x=>fK N x.1) l)) w):=by
 obtain⟨a,c,rfl,z⟩:=h.slice;have n:=aA h;have j:=aA (fun wr (o:Below w.heap.size w wr)=>(f.on o:jH wr p 0 (.string N)));clear h f;obtain⟨PR,d⟩:∃PR:qE->Bool,PR=(fun x=>fK N x.1):=⟨_,rfl⟩;have m:=aA d;rw[<-d];clear d;unfold aP;go_enter func96,ntmps96;go_wp2;go_loopw [5,8] (fun _ i wr=>∃k:Nat,k<=l.length/\i=.int .i64 k/\Hid (∀i (hi:i<l.length),i<k->PR l[i]=false)/\Hid (Below w.heap.size w wr)) (fun _ i _=>l.length - (intOf i).toNat)
 case atStart=>exact BU
 case round=>
  obtain⟨k,y,rfl,HR,HB⟩:=hrel;by_cases hlt:k<l.length
  .have hk1:(k:Int)<(l.length:Int):=qo;obtain⟨b,off,r,rfl,_,s,⟨rfl,t⟩,hcl⟩:=aH.at bS (n.o.on bS HB.o) hlt qe;obtain⟨q,A,B,C⟩:=Ib hcl;rw[Nat.add_zero] at q;have HI:Hid (Calls prog 149 #[.agg #[.string l[k].1,.int .i64 l[k].2.1,.int .i64 l[k].2.2.1,.string l[k].2.2.2],.pointer (some ⟨p,0,none⟩)] wr (aP (.bool (PR l[k])) wr)):=by rw[m.o];exact aA (Dz l[k] p N wr (j.o wr HB.o))
   exact KY
  .exact KX
theorem YZ{ok:nP}(v:Value)(l:List uI)(N:bY)(p:Nat)(w:World)(h:aH nB w ok v l)(f:jH w p 0 (.string N)):Calls prog 234 #[v,.func (.func 192) #[] #[.pointer (some ⟨p,0,none⟩)]] w (aP (.int .i64 (fA (fun x=>decide (x.aEn=N)) l)) w):=by
 obtain⟨a,c,rfl,z⟩:=h.slice;have n:=aA h;have j:=aA (fun wr (o:Below w.heap.size w wr)=>(f.on o:jH wr p 0 (.string N)));clear h f;obtain⟨PR,d⟩:∃PR:uI->Bool,PR=(fun x=>decide (x.aEn=N)):=⟨_,rfl⟩;have m:=aA d;rw[<-d];clear d;unfold aP;go_enter func234,ntmps234;go_wp2;go_loopw [5,8] (fun _ i wr=>∃k:Nat,k<=l.length/\i=.int .i64 k/\Hid (∀i (hi:i<l.length),i<k->PR l[i]=false)/\Hid (Below w.heap.size w wr)) (fun _ i _=>l.length - (intOf i).toNat)
 case atStart=>exact BU
 case round=>
  obtain⟨k,y,rfl,HR,HB⟩:=hrel;by_cases hlt:k<l.length
  .have hk1:(k:Int)<(l.length:Int):=qo;obtain⟨b,off,r,rfl,_,s,⟨rfl,t⟩,hcl⟩:=aH.at cE (n.o.on cE HB.o) hlt qe;obtain⟨q,A,B⟩:=cR3 hcl;rw[Nat.add_zero] at q;have HI:Hid (Calls prog 192 #[.agg #[.int .i64 l[k].aDX,.string l[k].aEn,.string l[k].aEU],.pointer (some ⟨p,0,none⟩)] wr (aP (.bool (PR l[k])) wr)):=by rw[m.o];exact aA (Jl l[k] p N wr (j.o wr HB.o))
   exact KY
  .exact KX
theorem ZA{ok:nP}(v:Value)(l:List cB)(N:bY)(p:Nat)(w:World)(h:aH qN w ok v l)(m:jH w p 2 (.string N)):Calls prog 128 #[v,.func (.func 153) #[] #[.pointer (some ⟨p,0,none⟩)]] w (aP (.int .i64 (fA (fun x=>decide (x.id=N)) l)) w):=by
 obtain⟨a,c,rfl,B⟩:=h.slice;have s:=aA h;have o:=aA (fun wr (t:Below w.heap.size w wr)=>(m.on t:jH wr p 2 (.string N)));clear h m;obtain⟨PR,d⟩:∃PR:cB->Bool,PR=(fun x=>decide (x.id=N)):=⟨_,rfl⟩;have q:=aA d;rw[<-d];clear d;unfold aP;go_enter func128,ntmps128;go_wp2;go_loopw [5,8] (fun _ i wr=>∃k:Nat,k<=l.length/\i=.int .i64 k/\Hid (∀i (hi:i<l.length),i<k->PR l[i]=false)/\Hid (Below w.heap.size w wr)) (fun _ i _=>l.length - (intOf i).toNat)
 case atStart=>exact BU
 case round=>
  obtain⟨k,A,rfl,HR,HB⟩:=hrel;by_cases hlt:k<l.length
  .have hk1:(k:Int)<(l.length:Int):=qo;obtain⟨b,off,r,rfl,_,z,⟨C,D,rfl,n⟩,hcl⟩:=aH.at dW (s.o.on dW HB.o) hlt qe;obtain⟨f,j,rfl,_⟩:=n.2.2.2.1.slice;obtain⟨la,lc,rfl,_⟩:=n.2.2.2.2.slice;obtain⟨y,E,F,G,H⟩:=KP hcl;rw[Nat.add_zero] at y;have HI:Hid (Calls prog 153 #[.agg #[.string l[k].id,.string l[k].aEg,.string l[k].aD9,.slice f l[k].aDT.length j,.slice la l[k].log.length lc],.pointer (some ⟨p,0,none⟩)] wr (aP (.bool (PR l[k])) wr)):=by rw[q.o];exact aA (Jm l[k] f la j lc p N wr (o.o wr HB.o))
   exact KY
  .exact KX
theorem ZC{ok:nP}(v:Value)(l:List cB)(w:World)(h:aH qN w ok v l)(p:True):Calls prog 128 #[v,.func (.func 100) #[] #[]] w (aP (.int .i64 (fA (fun x=>decide (256<x.log.length)) l)) w):=by
 obtain⟨a,c,rfl,A⟩:=h.slice;have o:=aA h;have s:=aA (fun wr (t:Below w.heap.size w wr)=>(trivial:True));clear h p;obtain⟨PR,d⟩:∃PR:cB->Bool,PR=(fun x=>decide (256<x.log.length)):=⟨_,rfl⟩;have n:=aA d;rw[<-d];clear d;unfold aP;go_enter func128,ntmps128;go_wp2;go_loopw [5,8] (fun _ i wr=>∃k:Nat,k<=l.length/\i=.int .i64 k/\Hid (∀i (hi:i<l.length),i<k->PR l[i]=false)/\Hid (Below w.heap.size w wr)) (fun _ i _=>l.length - (intOf i).toNat)
 case atStart=>exact BU
 case round=>
  obtain⟨k,z,rfl,HR,HB⟩:=hrel;by_cases hlt:k<l.length
  .have hk1:(k:Int)<(l.length:Int):=qo;obtain⟨b,off,r,rfl,_,y,⟨B,C,rfl,m⟩,hcl⟩:=aH.at dW (o.o.on dW HB.o) hlt qe;obtain⟨f,j,rfl,_⟩:=m.2.2.2.1.slice;obtain⟨la,lc,rfl,_⟩:=m.2.2.2.2.slice;obtain⟨q,D,E,F,G⟩:=KP hcl;rw[Nat.add_zero] at q;have HI:Hid (Calls prog 100 #[.agg #[.string l[k].id,.string l[k].aEg,.string l[k].aD9,.slice f l[k].aDT.length j,.slice la l[k].log.length lc],] wr (aP (.bool (PR l[k])) wr)):=by rw[n.o];exact aA (Jn l[k] f la j lc wr)
   exact KY
  .exact KX
theorem UW{ok:nP}(v:Value)(l:List Ob)(N:bY)(p:Nat)(w:World)(h:aH kE w ok v l)(f:jH w p 0 (.string N)):Calls prog 151 #[v,.func (.func 94) #[] #[.pointer (some ⟨p,0,none⟩)]] w (aP (.int .i64 (fA (fun x=>decide (x.aDN=2)&&decide (x.arg=N)) l)) w):=by
 obtain⟨a,c,rfl,z⟩:=h.slice;have n:=aA h;have j:=aA (fun wr (o:Below w.heap.size w wr)=>(f.on o:jH wr p 0 (.string N)));clear h f;obtain⟨PR,d⟩:∃PR:Ob->Bool,PR=(fun x=>decide (x.aDN=2)&&decide (x.arg=N)):=⟨_,rfl⟩;have m:=aA d;rw[<-d];clear d;unfold aP;go_enter func151,ntmps151;go_wp2;go_loopw [5,8] (fun _ i wr=>∃k:Nat,k<=l.length/\i=.int .i64 k/\Hid (∀i (hi:i<l.length),i<k->PR l[i]=false)/\Hid (Below w.heap.size w wr)) (fun _ i _=>l.length - (intOf i).toNat)
 case atStart=>exact BU
 case round=>
  obtain⟨k,y,rfl,HR,HB⟩:=hrel;by_cases hlt:k<l.length
  .have hk1:(k:Int)<(l.length:Int):=qo;obtain⟨b,off,r,rfl,_,s,⟨rfl,t⟩,hcl⟩:=aH.at aO (n.o.on aO HB.o) hlt qe;obtain⟨q,A,B⟩:=cR3 hcl;rw[Nat.add_zero] at q;have HI:Hid (Calls prog 94 #[.agg #[.int .i64 l[k].on,.int .i64 l[k].aDN,.string l[k].arg],.pointer (some ⟨p,0,none⟩)] wr (aP (.bool (PR l[k])) wr)):=by rw[m.o];exact aA (Ea l[k] p N wr (j.o wr HB.o))
   exact KY
  .exact KX
theorem ZD{ok:nP}(v:Value)(l:List wJ)(N:bY)(T:Int)(p q:Nat)(w:World)(h:aH tG w ok v l)(d:jH w p 0 (.string N)/\jH w q 0 (.int .i64 T)/\(∀x∈l,0<=x.aDX/\x.aDX<=T/\T<=1099511627776)):Calls prog 193 #[v,.func (.func 144) #[] #[.pointer (some ⟨p,0,none⟩),.pointer (some ⟨q,0,none⟩)]] w (aP (.int .i64 (fA (fun x=>decide (x.aD3=N)&&(x.open_&&decide (100<=T - x.aDX))) l)) w):=by
 obtain⟨a,c,rfl,A⟩:=h.slice;have o:=aA h;have f:=aA (fun wr (m:Below w.heap.size w wr)=>(⟨d.1.on m,d.2.1.on m,d.2.2⟩:jH wr p 0 (.string N)/\jH wr q 0 (.int .i64 T)/\(∀x∈l,0<=x.aDX/\x.aDX<=T/\T<=1099511627776)));clear h d;obtain⟨PR,j⟩:∃PR:wJ->Bool,PR=(fun x=>decide (x.aD3=N)&&(x.open_&&decide (100<=T - x.aDX))):=⟨_,rfl⟩;have n:=aA j;rw[<-j];clear j;unfold aP;go_enter func193,ntmps193;go_wp2;go_loopw [5,8] (fun _ i wr=>∃k:Nat,k<=l.length/\i=.int .i64 k/\Hid (∀i (hi:i<l.length),i<k->PR l[i]=false)/\Hid (Below w.heap.size w wr)) (fun _ i _=>l.length - (intOf i).toNat)
 case atStart=>exact BU
 case round=>
  obtain⟨k,z,rfl,HR,HB⟩:=hrel;by_cases hlt:k<l.length
  .have hk1:(k:Int)<(l.length:Int):=qo;obtain⟨b,off,r,rfl,_,t,⟨rfl,y⟩,hcl⟩:=aH.at cV (o.o.on cV HB.o) hlt qe;obtain⟨s,B,C,D,E,F,G⟩:=CW hcl;rw[Nat.add_zero] at s;have HI:Hid (Calls prog 144 #[.agg #[.int .i64 l[k].id,.int .i64 l[k].aDX,.string l[k].aD3,.string l[k].aDU,.string l[k].action,.string l[k].aEc,.bool l[k].open_],.pointer (some ⟨p,0,none⟩),.pointer (some ⟨q,0,none⟩)] wr (aP (.bool (PR l[k])) wr)):=by rw[n.o];exact aA (Jo l[k] p q N T wr (f.o wr HB.o).1 (f.o wr HB.o).2.1 ((f.o wr HB.o).2.2 _ (List.getElem_mem hlt)))
   exact KY
  .exact KX
theorem Ue{p:Prop}(h:p:=by
 go_wp2;go_returns;exact⟨by rw[<-HE.o];rfl,HB.o⟩):p:=h
theorem QCf{p:Prop}(h:p:=by
 go_wp2_with fail;refine HI.o.mono ?_;rintro e w1 ⟨rfl,hb_⟩;have HB1:=qB HB0 hb_;clear hb_ HI;go_wp2;go_returns;exact⟨by rw[<-HA.o];rfl,HB1.o⟩):p:=h
theorem QCd{p:Prop}(h:p:=by
 have HF:=aA (HL.o true rfl);clear HL;go_wp2;go_returns;exact⟨by have:=HF.o;rw[iP trivial] at this;rw[this];rfl,HB0.o.trans (HB'.o.mono HB0.o.size)⟩):p:=h
theorem QBL{p:Prop}(h:p:=by
 have hk1:¬(k:Int)<(l.length:Int):=qo;obtain rfl:k=l.length:=qo;have HF:=aA (PX HR.o);clear HR;go_wp2;go_returns;exact⟨by rw[HF.o];rfl,HB0.o.trans (HB.o.mono HB0.o.size)⟩):p:=h
theorem Uf{p:Prop}(h:p:=by
 refine HI.o.mono ?_;rintro e w1 ⟨rfl,hb_⟩;have HB1:=qB HB0 hb_;clear hb_ HI;go_wp2;go_returns;exact⟨rfl,HB1.o⟩):p:=h
theorem DN{a b:bY}:a.toList=b.toList↔a=b:=⟨fun h=>by rw[Lib.toList_data,Lib.toList_data] at h;exact ByteArray.ext (Array.ext' h),fun h=>by rw[h]⟩
def DO(m:Ma)(v:V3)(w:World)(e:Ending)(w':World):Prop:=e=.returned (.tuple #[.bool (kM m v).1,.int .i64 (kM m v).2])/\Below w.heap.size w w'
theorem ZE(m:Ma)(v:V3)(hm:uF m)(j:cS v)(w:World):Calls prog 233 #[kX m,dC v] w (DO m v w):=by
 have b:=aA (fun w=>DI v m.val j hm.2.2 w);have c:=aA (fun w=>DI m.val v hm.2.2 j w);obtain⟨⟨ac,i,am⟩,op,mk,a,ms⟩:=m;obtain⟨vk,vn,vs⟩:=v;have k:=aA (aC (aB w (.cells #[.int .i64 ac,.string i,.bool am,.int .i64 op,.int .i64 mk,.int .i64 a,.string ms] 279)) (aB _ (.cells #[.int .i64 vk,.int .i64 vn,.string vs] 30)));unfold tJ dC at b c;unfold dC kX;simp only at b c ⊢;clear hm j;by_cases h1:op=1
 .have d1:(op==1)=true:=bQ.2 h1;have H1:=aA h1;clear h1 b c;go_enter func233,ntmps233;go_wp2
  all_goals go_returns
  all_goals
   unfold DO kM;simp only[H1.o,if_true];refine⟨?_,aC (aB _ _) (aB _ _)⟩
   simp_all [DN]
 .have d1:(op==1)=false:=bN.2 h1;by_cases h2:op=2
  .have d2:(op==2)=true:=bQ.2 h2;have g:Hid (kM ⟨⟨ac,i,am⟩,op,mk,a,ms⟩ (vk,vn,vs)=kC (vk,vn,vs) (mk,a,ms)):=aA (by unfold kM;simp only[iN h1,iP h2]);generalize kC (vk,vn,vs) (mk,a,ms)=r at *;obtain⟨l,n⟩:=r;clear h1 h2 c;go_enter func233,ntmps233;go_wp2_with fail;refine(b.o _).mono ?_;rintro e w1 ⟨rfl,d⟩;have f:=qB k d;clear d b;go_wp2;go_returns;unfold DO;rw[g.o];exact⟨rfl,f.o⟩
  .have d2:(op==2)=false:=bN.2 h2;have g:Hid (kM ⟨⟨ac,i,am⟩,op,mk,a,ms⟩ (vk,vn,vs)=kC (mk,a,ms) (vk,vn,vs)):=aA (by unfold kM;simp only[iN h1,iN h2]);generalize kC (mk,a,ms) (vk,vn,vs)=r at *;obtain⟨l,n⟩:=r;clear h1 h2 b;go_enter func233,ntmps233;go_wp2_with fail;refine(c.o _).mono ?_;rintro e w1 ⟨rfl,d⟩;have f:=qB k d;clear d c;go_wp2;go_returns;unfold DO;rw[g.o];exact⟨rfl,f.o⟩
theorem SG{m:Ma}{l:List V3}{k out R:Nat}(a:k<l.length)(h:mM m (l.drop k) out=R):(if (kM m l[k]).1=true then 2 else mM m (l.drop (k+1)) (if (kM m l[k]).2≠0 then 1 else out))=R:=by
 rw[List.drop_eq_getElem_cons a] at h;exact h
theorem KZ{ok:nP}(m:Ma)(hm:uF m)(F:Value)(g:List Gv)(w:World)(h:aH jW w ok F g):Calls prog 190 #[kX m,F] w (aP (.int .i64 (oX g m:Nat)) w):=by
 have t:=aA (aB w (.cells (KS m) 279));have G:=aA (aK w (.cells (KS m) 279) _ rfl);have j:=aA (UQ F g m.aEe _ (h.on cA t.o));have B:=aA (fun v T w=>ZE m v hm T w);obtain⟨a,c,rfl,ad⟩:=h.slice;unfold aP oX kX;unfold tL oQ at j;unfold DO kX dC at B;clear h hm;obtain⟨bag,J,L⟩:∃b e,rZ g m.aEe=(b,e):=⟨_,_,rfl⟩;rw[L] at j ⊢;clear L;simp only at j ⊢;by_cases he:J=0
 case neg=>
  rw[iP he];have d:(J != 0)=true:=bne_iff_ne.2 he;clear he B;go_enter func190,ntmps190;go_wp2_with fail;refine j.o.mono ?_;rintro e w1 ⟨v,rfl,q,f⟩;have l:=qB t f;clear q f j;go_wp2;go_returns;exact⟨rfl,l.o⟩
 subst he;rw[iN (fun h=>h rfl)];obtain⟨res,E⟩:=xE (mM m bag 0);rw[<-E];have I:Hid (mM m (bag.drop 0) 0=res):=aA (by rw[List.drop_zero];exact E.symm);clear E;go_enter func190,ntmps190;go_wp2_with fail;refine j.o.mono ?_;rintro e w1 ⟨v,rfl,q,f⟩;obtain⟨l,P,R⟩:=aZ (aC t.o f) (aE G.o f) q;obtain⟨ba,bc,rfl,aa⟩:=q.slice;clear q f j G t;go_wp2;go_loopw [7,23] (fun o i wr=>∃k out:Nat,k<=bag.length/\i=.int .i64 k/\o=.int .i64 out/\Hid (mM m (bag.drop k) out=res)/\Hid (Below w1.heap.size w1 wr)) (fun _ i _=>bag.length - (intOf i).toNat)
 case atStart=>exact⟨0,0,Nat.zero_le _,rfl,rfl,I,aA (Below.refl _ _)⟩
 case round=>
  clear I;obtain⟨k,out,hk,rfl,rfl,y,s⟩:=hrel;by_cases N:k<bag.length
  .have S:(k:Int)<(bag.length:Int):=qo;obtain⟨b,off,r,rfl,_,ab,⟨rfl,M⟩,K⟩:=aH.at bG (R.o.on bG s.o) N qe;obtain⟨O,W,X⟩:=cR3 K;rw[Nat.add_zero] at O;have H:=qK P s.o;obtain⟨⟨Y,Z,y2,y3,y4,y5,y6⟩,_⟩:=bI H.o;have U:=aD H.o;have p:=aA (SG N y.o);have A:=aA (B.o bag[k] M);clear K y M;generalize bag[k]=x at *;generalize kM m x=r at *;obtain⟨V,z⟩:=r;simp only at A p;go_wp2_with fail;refine(A.o _).mono ?_;rintro e w2 ⟨rfl,f⟩;have C:=aA (aC (aC s.o (aB _ _)) f);clear f A O W X Y Z y2 y3 y4 y5 y6 U
   cases V
   .have n:Hid (mM m (bag.drop (k+1)) (if z≠0 then 1 else out)=res):=p.o;by_cases he:z=0
    .have d2:(z != 0)=false:=by rw[he];rfl
     have D:Hid (mM m (bag.drop (k+1)) out=res):=aA (by have:=n.o;rwa [iN (fun h=>h he)] at this);clear he p n;go_wp2;go_roundw
     case rel=>exact⟨k+1,out,qo,by go_num,rfl,D,C⟩
     case measure=>simp[intOf];omega
    .have d2:(z != 0)=true:=bne_iff_ne.2 he;have D:Hid (mM m (bag.drop (k+1)) 1=res):=aA (by have:=n.o;rwa [iP he] at this);clear he p n;go_wp2;go_roundw
     case rel=>exact⟨k+1,1,qo,by go_num,rfl,D,C⟩
     case measure=>simp[intOf];omega
   .have n:Hid (2=res):=p.o;clear p;go_wp2;go_returns;exact⟨by rw[<-n.o];rfl,l.o.trans (C.o.mono l.o.size)⟩
  .have S:¬(k:Int)<(bag.length:Int):=qo;obtain rfl:k=bag.length:=qo;have Q:Hid (out=res):=aA (by have:=y.o;rwa [List.drop_length] at this);clear y;go_wp2;go_returns;exact⟨by rw[<-Q.o];rfl,l.o.trans (s.o.mono l.o.size)⟩
theorem Zv(p q:Nat)(a:Array TypeId)(t:TypeId)(w:World):(Builtin.min_ a t #[.int .i64 (p:Int),.int .i64 (q:Int)]).run prog w=.ok (.int .i64 ((min p q:Nat):Int)) w:=by
 simp[Builtin.min_,Builtin.min2]
 rcases Nat.lt_or_ge q p with h|h<;>simp[h]<;>omega
theorem aDm(p q:Nat)(a:Array TypeId)(t:TypeId)(w:World):(Builtin.max_ a t #[.int .i64 (p:Int),.int .i64 (q:Int)]).run prog w=.ok (.int .i64 ((max p q:Nat):Int)) w:=by
 simp[Builtin.max_,Builtin.max2]
 rcases Nat.lt_or_ge p q with h|h<;>simp[h]<;>omega
theorem DP{α β:Type}{f:β->α->β}{l:List α}{k:Nat}{out R:β}(a:k<l.length)(h:(l.drop k).foldl f out=R):(l.drop (k+1)).foldl f (f out l[k])=R:=by
 rw[List.drop_eq_getElem_cons a] at h;exact h
theorem JQ{α β:Type}{f:β->α->β}{l:List α}{out R:β}(h:(l.drop l.length).foldl f out=R):out=R:=by
 rw[List.drop_length] at h;exact h
theorem Qf{ok ok':nP}(A:Value)(l:List Ma)(z:Value)(g:List Gv)(w:World)(j:aH sB w ok' A l)(h:aH jW w ok z g):Calls prog 226 #[A,z] w (aP (.int .i64 (zM g l:Nat)) w):=by
 obtain⟨a,c,rfl,Q⟩:=h.slice;obtain⟨la,lc,rfl,R⟩:=j.slice;have E:=aA j;have D:=aA h;clear h j;unfold aP zM;obtain⟨res,p⟩:=xE (l.foldl (fun out m=>min out (oX g m)) 2);rw[<-p];have q:Hid ((l.drop 0).foldl (fun out m=>min out (oX g m)) 2=res):=aA (by rw[List.drop_zero];exact p.symm);clear p;go_enter func226,ntmps226;go_wp2;go_loopw [5,10] (fun o i wr=>∃k out:Nat,k<=l.length/\i=.int .i64 k/\o=.int .i64 out/\Hid ((l.drop k).foldl (fun out m=>min out (oX g m)) out=res)/\Hid (Below w.heap.size w wr)) (fun _ i _=>l.length - (intOf i).toNat)
 case atStart=>exact⟨0,2,Nat.zero_le _,rfl,rfl,q,aA (Below.refl _ _)⟩
 case round=>
  clear q;obtain⟨k,out,P,rfl,rfl,d,HB⟩:=hrel;by_cases y:k<l.length
  .have G:(k:Int)<(l.length:Int):=qo;obtain⟨b,off,r,rfl,_,O,⟨rfl,v⟩,t⟩:=aH.at eV (E.o.on eV HB.o) y qe;obtain⟨B,I,J,K,L,M,N⟩:=CW t;rw[Nat.add_zero] at B;have F:=aA (DP y d.o);have f:=aA (KZ l[k] v _ g (wr.alloc (.cells #[.int .i64 l[k].aEe.cat,.string l[k].aEe.name,.bool l[k].aEe.aEm,.int .i64 l[k].op,.int .i64 l[k].val.1,.int .i64 l[k].val.2.1,.string l[k].val.2.2] 279)) (D.o.on cA (HB.o.alloc HB.o.size _)));unfold aP kX at f;clear t d v;generalize l[k]=x at *;generalize oX g x=n at *;have H:=Zv out n;go_wp2_with fail;refine f.o.mono ?_;rintro e w2 ⟨rfl,s⟩;have C:=aA (aC (aC HB.o (aB _ _)) s);clear s f B I J K L M N;go_wp2;clear H;go_roundw
   case rel=>exact⟨k+1,min out n,qo,by go_num,rfl,F,C⟩
   case measure=>simp[intOf];omega
  .have G:¬(k:Int)<(l.length:Int):=qo;obtain rfl:k=l.length:=qo;have HE:=aA (JQ d.o);clear d;exact Ue
theorem Bi{ok ok':nP}(vt:Value)(t:Ta)(O:Value)(g:List Gv)(w:World)(H:oJ w ok' vt t)(h:aH jW w ok O g):Calls prog 186 #[vt,O] w (aP (.int .i64 (xX g t:Nat)) w):=by
 obtain⟨a,c,rfl,aa⟩:=h.slice;obtain⟨ta,tc,rfl,ab⟩:=H.slice;have S:=aA H;have R:=aA h;clear h H;unfold aP xX;obtain⟨F,B⟩:∃F:Nat->List (List Ma)->Nat,F=(fun out l=>min out (l.foldl (fun d x=>max d (zM g x)) 0)):=⟨_,rfl⟩;have Q:=aA B;rw[<-B];clear B;obtain⟨res,D⟩:=xE (t.foldl F 2);rw[<-D];have K:Hid ((t.drop 0).foldl F 2=res):=aA (by rw[List.drop_zero];exact D.symm);clear D;go_enter func186,ntmps186;go_wp2;go_loopw [5,13] (fun o i wr=>∃k out:Nat,k<=t.length/\i=.int .i64 k/\o=.int .i64 out/\Hid ((t.drop k).foldl F out=res)/\Hid (Below w.heap.size w wr)) (fun _ i _=>t.length - (intOf i).toNat)
 case atStart=>exact⟨0,2,Nat.zero_le _,rfl,rfl,K,aA (Below.refl _ _)⟩
 case round=>
  clear K;obtain⟨y,rfl⟩:∃y:World,y=wr:=⟨_,rfl⟩;obtain⟨k,out,hk,rfl,rfl,s,HB⟩:=hrel;by_cases N:k<t.length
  .have V:(k:Int)<(t.length:Int):=qo;obtain⟨b,off,r,rfl,_,Y,⟨vx,rfl,E⟩,f⟩:=aH.at aS (S.o.on aS HB.o) N qe;obtain⟨xa,xc,rfl,_⟩:=E.slice;have m:=f 0 _ rfl;rw[Nat.add_zero,Nat.mul_one] at m;have A:=aA (DP N s.o);have T:=aA E;have I:=aA (show F out t[k]=min out (t[k].foldl (fun d x=>max d (zM g x)) 0) by rw[Q.o]);clear f s E;generalize t[k]=l at *;obtain⟨d,C⟩:=xE (l.foldl (fun d x=>max d (zM g x)) 0);rw[<-C] at I;have J:Hid ((l.drop 0).foldl (fun d x=>max d (zM g x)) 0=d):=aA (by rw[List.drop_zero];exact C.symm);clear C;go_wp2;clear m;go_loopw [8,10,19] (fun o _ i wr=>∃j b:Nat,j<=l.length/\i=.int .i64 j/\o=.int .i64 b/\Hid ((l.drop j).foldl (fun d x=>max d (zM g x)) b=d)/\Hid (Below y.heap.size y wr)) (fun _ _ i _=>l.length - (intOf i).toNat)
   case atStart=>exact⟨0,0,Nat.zero_le _,rfl,rfl,J,aA (Below.refl _ _)⟩
   case round=>
    clear J;obtain⟨j,v,hj,rfl,rfl,q,p⟩:=hrel;by_cases M:j<l.length
    .have U:(j:Int)<(l.length:Int):=qo;obtain⟨b2,ad,r2,rfl,_,Z,⟨vy,rfl,G⟩,f⟩:=aH.at dO (T.o.on dO p.o) M qe;obtain⟨ya,yc,rfl,_⟩:=G.slice;have m:=f 0 _ rfl;rw[Nat.add_zero,Nat.mul_one] at m;have A:=aA (DP M q.o);have z:=aA (Qf _ _ _ g wr G (R.o.on cA (aC HB.o p.o)));unfold aP at z;clear f q G;generalize l[j]=x at *;generalize zM g x=n at *;have W:=aDm v n;go_wp2_with fail;refine z.o.mono ?_;rintro e w2 ⟨rfl,L⟩;have P:=qB p L;clear L z m;go_wp2;clear W;go_roundw
     case rel=>exact⟨j+1,max v n,qo,by go_num,rfl,A,P⟩
     case measure=>simp[intOf];omega
    .have U:¬(j:Int)<(l.length:Int):=qo;obtain rfl:j=l.length:=qo;have HE:=aA (JQ q.o);clear q;have X:=Zv out v;go_wp2;clear X;go_roundw
     case rel=>exact⟨k+1,min out v,qo,by go_num,rfl,aA (by have:=A.o;rw[I.o,<-HE.o] at this;exact this),aA (aC HB.o p.o)⟩
     case measure=>simp[intOf];omega
  .have V:¬(k:Int)<(t.length:Int):=qo;obtain rfl:k=t.length:=qo;have HE:=aA (JQ s.o);clear s;exact Ue
end Go.Proofs.YthcgdgkpgdjahaaGreatDoor

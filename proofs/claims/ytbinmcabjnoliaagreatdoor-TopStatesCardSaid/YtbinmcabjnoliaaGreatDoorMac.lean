/- Lemmas. -/
import Derived.Test.YtbinmcabjnoliaaGreatDoorMab
import Derived.Laws.CopyOwn
import Derived.Deep.OwnRows
import Derived.Deep.QuietTactic
import Derived.BigQuiet
import Derived.LoopN
import Derived.StillTailTactics
namespace Go.Proofs.YtbinmcabjnoliaaGreatDoor
open Go.RowKit
set_option linter.unusedVariables false
set_option linter.unusedSimpArgs false
set_option maxHeartbeats 16000000
open _root_.Go.Proofs.Tryz
set_option maxRecDepth 20000
def yF(a:At):Bool:=(decide (1<=a.cat)&&decide (a.cat<=4))&&eO a.name
def sP(m:Ma):Bool:=yF m.aDg&&(decide (1<=m.op)&&decide (m.op<=3))&&aT m.val
def oE(n:Nat):Int:=if n=0 then 1 else if 8<n then 6 else 0
def gF{α:Type}(f:α->Int):List α->Int
 | []=>0
 |x::l=>if f x≠0 then f x else gF f l
def rH(l:List Ma):Int:=if oE l.length≠0 then oE l.length else gF (fun m=>if sP m then 0 else 1) l
def rI(l:List (List Ma)):Int:=if oE l.length≠0 then oE l.length else gF rH l
def eX(t:Ta):Int:=if 8<t.length then 6 else gF rI t
def mO(op:Int):Option (List Bool):=
 if op=1\/op=2 then some [] else if op=3\/op=4 then some [true] else if op=5 then some [true,false]
 else if op=11 then some [false] else if 6<=op/\op<=13 then some [false,false] else none
def qO(n:No):Bool:=
 if n.op=1 then aT n.val&&decide (n.aDg=uK)
 else if n.op=2 then yF n.aDg&&decide (n.val=bD)
 else decide (n.val=bD)&&decide (n.aDg=uK)
def lA(l:List Bool)(n:No):Option (List Bool):=
 match mO n.op with
 |none=>none
 |some w=>
  if qO n/\w.length<=l.length/\l.drop (l.length - w.length)=w then some (l.take (l.length - w.length)++[decide (n.op=2)]) else none
def iM:List No->List Bool->Option (List Bool)
 | [],l=>some l
 |n::r,l=>match lA l n with
  |none=>none
  |some a=>iM r a
def lB(l:List No):Int:=
 if 32<l.length then 6
 else match iM l [] with
  |none=>1
  |some made=>if 0<l.length/\made≠[false] then 1 else 0
def lC(l:List Ob):Int:=if 8<l.length then 6 else gF (fun o=>if (1<=o.on/\o.on<=2)/\(1<=o.aCR/\o.aCR<=4)/\eO o.arg=true then 0 else 1) l
structure WS where
 met:List ByteArray
 aCT:Nat
def gN(s:bY)(w:WS):Bool×WS:=if w.met.any (fun t=>decide (t=s))=true\/eO s=false then (false,w) else (true,{w with met:=s::w.met})
def fS(r:Ru)(w:WS):Int×WS:=
 let (ok,w1):=gN r.id w
 if ok=false then (1,w1)
 else
  let w2:={w1 with aCT:=w1.aCT+1}
  if 64<w2.aCT then (6,w2)
  else if eX r.aC1≠0 then (eX r.aC1,w2)
  else if lB r.cond≠0 then (lB r.cond,w2)
  else (lC r.aC7,w2)
def fI(p:Po)(w:WS):Int×WS:=
 let (ok,w1):=gN p.id w
 if ok=false\/p.alg<1\/6<p.alg then (1,w1)
 else if (p.set=true/\p.aCT≠[])\/(p.set=false/\(0<p.aC5.length\/p.alg=4)) then (1,w1)
 else if eX p.aC1≠0 then (eX p.aC1,w1)
 else if lC p.aC7≠0 then (lC p.aC7,w1)
 else if 16<p.aCT.length\/16<p.aC5.length then (6,w1)
 else (0,w1)
def jC{α:Type}(f:α->WS->Int×WS):List α->WS->Int×WS
 | [],w=>(0,w)
 |x::l,w=>
  let (e,w1):=f x w
  if e≠0 then (e,w1) else jC f l w1
def eN:Nat->Po->WS->Int×WS
 |0,_,w=>(6,w)
 |n+1,p,w=>
  let (e,w1):=fI p w
  if e≠0 then (e,w1)
  else
   let (e2,w2):=jC fS p.aCT w1
   if e2≠0 then (e2,w2) else jC (eN n) p.aC5 w2
def fM(p:Po):Int:=(eN 4 p ⟨[],0⟩).1
def fD(S:bY):Po×Int×Int:=
 let (l,e,place):=jL S.data.toList
 if e≠0 then (mA,e,place)
 else
  let (out,p):=cO l 3 ⟨0,0,0,0⟩
  let a:=if (aU l p).aCR≠7 then dL l p else p
  let b:=if a.bad=0/\fM out≠0 then eP 5 S.size a else a
  if b.bad≠0 then (mA,b.bad,b.place) else (out,0,0)
def kA:Int:= -9223372036854775808
def lF:Int:=9223372036854775807
def jT(a b:V3):Bool×Int:=
 if aT a=false\/aT b=false then (false,1)
 else if a.1≠b.1\/a.1=1 then (false,2)
 else if a.1=3\/a.1=5 then (decide (a.2.2.toList<b.2.2.toList),0)
 else (decide (a.2.1<b.2.1),0)
def kB(m:Ma)(v:V3):Bool×Int:=
 if m.op=1 then (if v.1≠m.val.1 then (false,2) else (decide (v=m.val),0))
 else if m.op=2 then jT v m.val
 else jT m.val v
def rJ(g:List Gv)(a:At):List V3×Int:=if zE g a.cat a.name=[]/\a.aDq=true then ([],4) else (zE g a.cat a.name,0)
def mC(m:Ma):List V3->Nat->Nat
 | [],out=>out
 |v::l,out=>if (kB m v).1 then 2 else mC m l (if (kB m v).2≠0 then 1 else out)
def oN(g:List Gv)(m:Ma):Nat:=if (rJ g m.aDg).2≠0 then 1 else mC m (rJ g m.aDg).1 0
def zF(g:List Gv)(l:List Ma):Nat:=l.foldl (fun out m=>min out (oN g m)) 2
def xP(g:List Gv)(t:Ta):Nat:=t.foldl (fun out l=>min out (l.foldl (fun a x=>max a (zF g x)) 0)) 2
structure It where
 bag:List V3
 val:V3
 err:Int
deriving DecidableEq
def cI(b:Bool):V3:=(1,if b then 1 else 0,ByteArray.empty)
def jG(v:V3)(e:Int):It:=⟨[],v,e⟩
def It.is(x:It)(n:Int):Bool:=decide (x.err=0)&&decide (x.val=(1,n,ByteArray.empty))
def sQ(a b:Int):Int×Int:=if kA<=a+b/\a+b<=lF then (a+b,0) else (0,3)
def sR(a b:Int):Int×Int:=if kA<=a - b/\a - b<=lF then (a - b,0) else (0,3)
def mD(a b:Int):Int×Int:=if kA<=a * b/\a * b<=lF then (a * b,0) else (0,3)
def eE(f:Int->Int->Int×Int)(a b:V3):V3×Int:=
 if a.1≠2\/b.1≠2 then (bD,2) else if (f a.2.1 b.2.1).2≠0 then (bD,(f a.2.1 b.2.1).2) else ((2,(f a.2.1 b.2.1).1,ByteArray.empty),0)
def nS(op:Int)(a:V3):V3×Int:=if aT a=false then (bD,1) else if a.1≠1 then (bD,2) else (cI (decide (a.2.1=0)),0)
def dJ(op:Int)(a b:V3):V3×Int:=
 if aT a=false\/aT b=false then (bD,1)
 else if op=6 then (if a.1≠b.1 then (bD,2) else (cI (decide (a=b)),0))
 else if op=7 then (if (jT a b).2≠0 then (bD,(jT a b).2) else (cI (jT a b).1,0))
 else if op=8 then eE sQ a b
 else if op=9 then eE sR a b
 else if op=10 then eE mD a b
 else if a.1≠1\/b.1≠1 then (bD,2)
 else if op=12 then (cI (decide (a.2.1=1)&&decide (b.2.1=1)),0)
 else (cI (decide (a.2.1=1)||decide (b.2.1=1)),0)
def iO(g:List Gv)(n:No)(l:List It):It:=
 match l with
 | []=>if n.op=1 then jG n.val 0 else ⟨(rJ g n.aDg).1,bD,(rJ g n.aDg).2⟩
 | [a]=>
   if a.err≠0 then jG bD a.err
   else if n.op=3 then (match a.bag with | [v]=>jG v 0|_=>jG bD 4)
   else if n.op=4 then jG (2,a.bag.length,ByteArray.empty) 0
   else jG (nS n.op a.val).1 (nS n.op a.val).2
 |a::b::_=>
  if (n.op=12\/n.op=13)/\(a.is (n.op - 12)\/b.is (n.op - 12)) then jG (cI (decide (n.op=13))) 0
  else if a.err≠0 then jG bD a.err
  else if b.err≠0 then jG bD b.err
  else if n.op=5 then jG (cI (a.bag.any (fun v=>decide (v=b.val)))) 0
  else jG (dJ n.op a.val b.val).1 (dJ n.op a.val b.val).2
def jI(op:Int):Nat:=if op=1\/op=2 then 0 else if op=3\/op=4\/op=11 then 1 else 2
def zG(g:List Gv):List No->List It->List It
 | [],st=>st
 |n::r,st=>zG g r (st.take (st.length - jI n.op)++[iO g n (st.drop (st.length - jI n.op))])
def nT(g:List Gv)(l:List No):V3×Int:=
 if l=[]\/lB l≠0 then (bD,1) else match zG g l [] with |x::_=>(x.val,x.err)| []=>(bD,1)
def tK(g:List Gv)(l:List No):Nat:=
 if l=[] then 2
 else
  let x:=jG (nT g l).1 (nT g l).2
  if x.is 1 then 2 else if x.is 0 then 0 else 1
abbrev Mk:=Nat×Nat
def tR(m:Mk):Mk:=if m=(4,0) then (2,0) else if m=(0,4) then (0,2) else m
def gO(l:List Ob)(m:Mk):List Ob:=l.filter (fun o=>(decide (o.on=1)&&decide (m=(4,0)))||(decide (o.on=2)&&decide (m=(0,4))))
def EF(r:Ru)(t c:Nat):Mk×List Ob:=
 let m:Mk:=if r.aDs then (0,4) else (4,0)
 if t=0\/(t=2/\c=0) then ((0,0),[])
 else if t=1\/c=1 then (tR m,[])
 else (m,gO r.aC7 m)
def iC(g:List Gv)(r:Ru):Mk×List Ob:=EF r (xP g r.aC1) (tK g r.cond)
def Zm(a b:Mk):Mk:=(max a.1 b.1,max a.2 b.2)
def Bc(m:Mk):Mk:=(m.2,m.1)
def RO(m:Mk):Mk:=
 if m.2=4 then (0,4) else if m.2=2/\2<=m.1 then (2,2) else if m.2=2 then (0,2) else if m.1=4 then (4,0) else if m.1=2 then (2,0) else (0,0)
def Fu(l:List Mk):Mk:=l.foldl Zm (0,0)
def RP(m:Mk):Bool:=decide (m=(0,0))||(decide (m=(4,0))||decide (m=(0,4)))
def EG(j m:Mk):Mk:=if j=(0,0) then m else if m=(0,0) then j else (2,2)
def BS(l:List Mk):Mk:=(l.find? (fun m=>decide (m≠(0,0)))).getD (0,0)
def RQ(l:List Mk):Mk:=if l.all RP then l.foldl EG (0,0) else (2,2)
def qY(l:List Mk)(m other:Mk):Mk:=if l.any (fun x=>decide (x=other)) then other else m
def BU(alg:Int)(l:List Mk):Mk:=
 if alg=1 then RO (Fu l)
 else if alg=2 then Bc (RO (Bc (Fu l)))
 else if alg=3 then BS l
 else if alg=4 then RQ l
 else if alg=5 then qY l (0,4) (4,0)
 else if alg=6 then qY l (4,0) (0,4)
 else (0,0)
def gG(first:Bool)(m:Mk):List (Mk×List Ob)->List Ob
 | []=>[]
 |x::l=>if x.1≠m then gG first m l else if first then x.2 else x.2++gG first m l
def rK(alg:Int)(obls:List Ob)(t:Nat)(parts:List (Mk×List Ob)):Mk×List Ob:=
 let m:=BU alg (parts.map (·.1))
 if t=0 then ((0,0),[])
 else if t=1 then (tR m,[])
 else if m≠(4,0)/\m≠(0,4) then (m,[])
 else (m,gG (decide (alg=3)) m parts++gO obls m)
def dB(g:List Gv):Nat->Po->Mk×List Ob
 |0,_=>((0,0),[])
 |n+1,p=>
  let t:=xP g p.aC1
  if t=0 then ((0,0),[])
  else rK p.alg p.aC7 t (p.aCT.map (iC g)++p.aC5.map (dB g n))
def rL(g:List Gv)(p:Po):(Mk×List Ob)×Int:=if fM p≠0 then (((0,0),[]),1) else (dB g 4 p,0)
def pS(t:Ta):Option Ma:=
 (t.filter (fun l=>decide (l.length=1))).findSome? (fun l=>((l.head?).getD []).find? (fun m=>decide (m.op=1)&& !m.aDg.aDq))
def nU(g:List Gv)(k:Po):Bool:=match pS k.aC1 with |none=>true |some m=>decide (oN g m≠0)
def kS(g:List Gv):Nat->Po->Po
 |0,p=>p
 |n+1,p=> .mk p.id p.set p.alg p.aC1 p.aCT ((p.aC5.filter (nU g)).map (kS g n)) p.aC7
def iF(g:List Gv)(p:Po):(Mk×List Ob)×Int:=if fM p≠0 then (((0,0),[]),1) else rL g (kS g 4 p)
def cQ:Nat:=1000000
def cS(v:V3):Prop:=bK v.1/\bK v.2.1/\v.2.2.size<=cQ
def IJ(v:V3):List Value:=[.int .i64 v.1,.int .i64 v.2.1,.string v.2.2]
def dD(v:V3):Value:= .agg #[.int .i64 v.1,.int .i64 v.2.1,.string v.2.2]
def MF(t:Tok):Prop:=bK t.aCR/\bK t.at_/\bK t.num/\t.str.size<=cQ
def Fv(t:Tok):List Value:=[.int .i64 t.aCR,.int .i64 t.at_,.int .i64 t.num,.string t.str]
def iA(t:Tok):Value:= .agg #[.int .i64 t.aCR,.int .i64 t.at_,.int .i64 t.num,.string t.str]
def BV(a:At):Prop:=bK a.cat/\a.name.size<=cQ
def oF(a:At):Value:= .agg #[.int .i64 a.cat,.string a.name,.bool a.aDq]
def tS(m:Ma):Prop:=BV m.aDg/\bK m.op/\cS m.val
def Bd(m:Ma):List Value:=[.int .i64 m.aDg.cat,.string m.aDg.name,.bool m.aDg.aDq,.int .i64 m.op,.int .i64 m.val.1,.int .i64 m.val.2.1,.string m.val.2.2]
def kL(m:Ma):Value:= .agg #[.int .i64 m.aDg.cat,.string m.aDg.name,.bool m.aDg.aDq,.int .i64 m.op,.int .i64 m.val.1,.int .i64 m.val.2.1,.string m.val.2.2]
def oO(n:No):Prop:=bK n.op/\cS n.val/\BV n.aDg
def Be(n:No):List Value:=[.int .i64 n.op,.int .i64 n.val.1,.int .i64 n.val.2.1,.string n.val.2.2,.int .i64 n.aDg.cat,.string n.aDg.name,.bool n.aDg.aDq]
def jJ(n:No):Value:= .agg #[.int .i64 n.op,.int .i64 n.val.1,.int .i64 n.val.2.1,.string n.val.2.2,.int .i64 n.aDg.cat,.string n.aDg.name,.bool n.aDg.aDq]
def yG(o:Ob):Prop:=bK o.on/\bK o.aCR/\o.arg.size<=cQ
def EH(o:Ob):List Value:=[.int .i64 o.on,.int .i64 o.aCR,.string o.arg]
def VR:Rep V3:=mJ IJ cS
def SE:Rep Tok:=mJ Fv MF
def rM:Rep Ma:=mJ Bd tS
def JN:Rep No:=mJ Be oO
def jU:Rep Ob:=mJ EH yG
theorem bH:Firm VR 3:=gD (fun _=>rfl) (fun x v h=>by simp only[IJ,List.mem_cons,List.not_mem_nil,or_false] at h;rcases h with rfl|rfl|rfl<;>rfl)
theorem gZ:Firm SE 4:=gD (fun _=>rfl) (fun x v h=>by simp only[Fv,List.mem_cons,List.not_mem_nil,or_false] at h;rcases h with rfl|rfl|rfl|rfl<;>rfl)
theorem eQ:Firm rM 7:=gD (fun _=>rfl) (fun x v h=>by simp only[Bd,List.mem_cons,List.not_mem_nil,or_false] at h;rcases h with rfl|rfl|rfl|rfl|rfl|rfl|rfl<;>rfl)
theorem dP:Firm JN 7:=gD (fun _=>rfl) (fun x v h=>by simp only[Be,List.mem_cons,List.not_mem_nil,or_false] at h;rcases h with rfl|rfl|rfl|rfl|rfl|rfl|rfl<;>rfl)
theorem aP:Firm jU 3:=gD (fun _=>rfl) (fun x v h=>by simp only[EH,List.mem_cons,List.not_mem_nil,or_false] at h;rcases h with rfl|rfl|rfl<;>rfl)
abbrev nY(w:World)(ok:nP)(v:Value)(t:Ta):Prop:=aH (rows (rows rM)) w ok v t
theorem dN:Firm (rows rM) 1:=rG eQ
theorem aS:Firm (rows (rows rM)) 1:=rG dN
def rN(w:World)(ok:nP)(r:Ru)(vt vc vo:Value):Prop:=r.id.size<=cQ/\nY w ok vt r.aC1/\aH JN w ok vc r.cond/\aH jU w ok vo r.aC7
def yH:Rep Ru:=fun w ok cs r=>∃vt vc vo,cs=[.string r.id,.bool r.aDs,vt,vc,vo]/\rN w ok r vt vc vo
theorem rN.aC0{w w':World}{ok:nP}{r:Ru}{vt vc vo:Value}(h:rN w ok r vt vc vo)(a:aN ok w w'):rN w' ok r vt vc vo:=⟨h.1,aH.aC0 aS h.2.1 a,aH.aC0 dP h.2.2.1 a,aH.aC0 aP h.2.2.2 a⟩
theorem rN.more{w:World}{ok ok':nP}{r:Ru}{vt vc vo:Value}(h:rN w ok r vt vc vo)(a:∀b,ok b->ok' b):rN w ok' r vt vc vo:=⟨h.1,aH.more aS h.2.1 a,aH.more dP h.2.2.1 a,aH.more aP h.2.2.2 a⟩
theorem rN.inb{w:World}{ok:nP}{r:Ru}{vt vc vo:Value}(h:rN w ok r vt vc vo):rN w (fun b=>ok b/\b<w.heap.size) r vt vc vo:=⟨h.1,aH.inb aS h.2.1,aH.inb dP h.2.2.1,aH.inb aP h.2.2.2⟩
theorem kT{α:Type}{R:Rep α}{w:World}{ok:nP}{v:Value}{l:List α}(h:aH R w ok v l):v.oneCell'=true:=by
 obtain⟨a,c,rfl,_⟩:=h.slice;rfl
theorem bM:Firm yH 5:={
 aC0:=fun⟨vt,vc,vo,e,h⟩ b=>⟨vt,vc,vo,e,h.aC0 b⟩
 more:=fun⟨vt,vc,vo,e,h⟩ c=>⟨vt,vc,vo,e,h.more c⟩
 len:=fun⟨vt,vc,vo,e,h⟩=>by rw[e];rfl
 one:=fun⟨vt,vc,vo,e,h⟩=>by
  intro v a;rw[e] at a;simp only[List.mem_cons,List.not_mem_nil,or_false] at a
  rcases a with rfl|rfl|rfl|rfl|rfl
  .rfl
  .rfl
  .exact kT h.2.1
  .exact kT h.2.2.1
  .exact kT h.2.2.2
 inb:=fun⟨vt,vc,vo,e,h⟩=>⟨vt,vc,vo,e,h.inb⟩}
def pY:Nat->Rep Po
 |0=>fun _ _ _ _=>False
 |n+1=>fun w ok cs p=>∃vt vr vk vo,cs=[.string p.id,.bool p.set,.int .i64 p.alg,vt,vr,vk,vo]/\p.id.size<=cQ/\bK p.alg/\nY w ok vt p.aC1/\aH yH w ok vr p.aCT/\aH (pY n) w ok vk p.aC5/\aH jU w ok vo p.aC7
def fN(n:Nat)(w:World)(ok:nP)(p:Po)(vt vr vk vo:Value):Prop:=p.id.size<=cQ/\bK p.alg/\nY w ok vt p.aC1/\aH yH w ok vr p.aCT/\aH (pY n) w ok vk p.aC5/\aH jU w ok vo p.aC7
theorem bB:∀n,Firm (pY n) 7
 |0=>⟨fun h=>h.elim,fun h=>h.elim,fun h=>h.elim,fun h=>h.elim,fun h=>h.elim⟩
 |n+1=>by
  have F:=bB n;refine⟨?_,?_,?_,?_,?_⟩
  .rintro w w' ok cs x ⟨vt,vr,vk,vo,e,h1,h2,h3,h4,h5,h6⟩ a;exact⟨vt,vr,vk,vo,e,h1,h2,aH.aC0 aS h3 a,aH.aC0 bM h4 a,aH.aC0 F h5 a,aH.aC0 aP h6 a⟩
  .rintro w ok ok' cs x ⟨vt,vr,vk,vo,e,h1,h2,h3,h4,h5,h6⟩ b;exact⟨vt,vr,vk,vo,e,h1,h2,aH.more aS h3 b,aH.more bM h4 b,aH.more F h5 b,aH.more aP h6 b⟩
  .rintro w ok cs x ⟨vt,vr,vk,vo,e,h⟩;rw[e];rfl
  .rintro w ok cs x ⟨vt,vr,vk,vo,e,h1,h2,h3,h4,h5,h6⟩ v c;rw[e] at c;simp only[List.mem_cons,List.not_mem_nil,or_false] at c
   rcases c with rfl|rfl|rfl|rfl|rfl|rfl|rfl
   .rfl
   .rfl
   .rfl
   .exact kT h3
   .exact kT h4
   .exact kT h5
   .exact kT h6
  .rintro w ok cs x ⟨vt,vr,vk,vo,e,h1,h2,h3,h4,h5,h6⟩;exact⟨vt,vr,vk,vo,e,h1,h2,aH.inb aS h3,aH.inb bM h4,aH.inb F h5,aH.inb aP h6⟩
def PoV(n:Nat)(w:World)(ok:nP)(v:Value)(p:Po):Prop:=∃vt vr vk vo,v=.agg #[.string p.id,.bool p.set,.int .i64 p.alg,vt,vr,vk,vo]/\fN n w ok p vt vr vk vo
theorem fN.aC0{n:Nat}{w w':World}{ok:nP}{p:Po}{vt vr vk vo:Value}(h:fN n w ok p vt vr vk vo)(a:aN ok w w'):fN n w' ok p vt vr vk vo:=
 ⟨h.1,h.2.1,aH.aC0 aS h.2.2.1 a,aH.aC0 bM h.2.2.2.1 a,aH.aC0 (bB n) h.2.2.2.2.1 a,aH.aC0 aP h.2.2.2.2.2 a⟩
theorem fN.inb{n:Nat}{w:World}{ok:nP}{p:Po}{vt vr vk vo:Value}(h:fN n w ok p vt vr vk vo):fN n w (fun b=>ok b/\b<w.heap.size) p vt vr vk vo:=
 ⟨h.1,h.2.1,aH.inb aS h.2.2.1,aH.inb bM h.2.2.2.1,aH.inb (bB n) h.2.2.2.2.1,aH.inb aP h.2.2.2.2.2⟩
theorem fN.more{n:Nat}{w:World}{ok ok':nP}{p:Po}{vt vr vk vo:Value}(h:fN n w ok p vt vr vk vo)(a:∀b,ok b->ok' b):fN n w ok' p vt vr vk vo:=
 ⟨h.1,h.2.1,aH.more aS h.2.2.1 a,aH.more bM h.2.2.2.1 a,aH.more (bB n) h.2.2.2.2.1 a,aH.more aP h.2.2.2.2.2 a⟩
theorem Rg{p:Prop}(h:p:=by
 split
 .exact h1.trans (BW _ _ h1.lt)
 .exact h1):p:=h
theorem OA{p:Prop}(h:p:=by
 have h7:=fZ T yE h6.lt;exact h15.trans (h6.trans (h7.trans (uW T h7.lt)))):p:=h
structure Toks (L:List Tok):Prop where
 len:L.length<=5000
 last:∀i t,L[i]? =some t->t.aCR≠7->i+1<L.length
 size:∀t∈L,t.str.size<=4096
 num:∀t∈L,bK t.num
 place:∀t∈L,0<=t.at_/\t.at_<=4096
 aCR:∀t∈L,1<=t.aCR/\t.aCR<=7
def eR(L:List Tok)(p:PS):V3×PS:=
 let t:=aU L p
 if t.aCR=2 then ((2,t.num,t.str),p)
 else if t.aCR=3 then ((4,t.num,t.str),p)
 else if t.aCR=4 then ((5,t.num,t.str),p)
 else if t.aCR=5 then ((3,t.num,t.str),p)
 else if cL L (str "true") p then ((1,1,ByteArray.empty),p)
 else if cL L (str "false") p then ((1,0,ByteArray.empty),p)
 else ((0,t.num,t.str),dL L p)
structure dK (L:List Tok) (p p':PS):Prop where
 le:p.at_<=p'.at_
 lt:p'.at_<L.length
 aCT:p.aCT<=p'.aCT
 aDC:p.aCT<=64->p'.aCT<=64
section
variable {L:List Tok} (T:Toks L)
theorem dK.refl{p:PS}(h:p.at_<L.length):dK L p p:=⟨lR _,h,lR _,id⟩
theorem dK.trans{p q r:PS}(h:dK L p q)(k:dK L q r):dK L p r:=⟨lT h.le k.le,k.lt,lT h.aCT k.aCT,fun x=>k.aDC (h.aDC x)⟩
theorem EI{p:PS}(h:p.at_<L.length):aU L p=L[p.at_]:=by
 unfold aU;rw[gE h];rfl
theorem IK(e pl:Int)(p:PS):(eP e pl p).at_=p.at_/\(eP e pl p).aCT=p.aCT:=by
 unfold eP;split<;>exact⟨rfl,rfl⟩
theorem lP(e pl:Int)(he:e≠0)(p:PS):(eP e pl p).bad≠0:=by
 unfold eP;split
 .exact he
 .assumption
theorem BW(e pl:Int){p:PS}(h:p.at_<L.length):dK L p (eP e pl p):=by
 have:=IK e pl p;exact⟨qo,qo,qo,qo⟩
theorem rO{p:PS}(h:p.at_<L.length):dK L p (dL L p):=BW _ _ h
theorem kP(b:Bool){p:PS}(h:p.at_<L.length):dK L p (cR L b p):=by
 unfold cR;split
 .exact BW _ _ h
 .exact dK.refl h
include T
theorem To{p:PS}(h:p.at_<L.length)(a:(aU L p).aCR≠7):p.at_+1<L.length:=T.last p.at_ _ (by rw[gE h]) (by rwa [EI h] at a)
theorem zH{p:PS}(h:p.at_<L.length)(a:(aU L p).aCR≠7):dK L p {p with at_:=p.at_+1}:=⟨Nat.le_succ _,To T h a,lR _,id⟩
omit T in
theorem lG{s:bY}{p:PS}(h:cL L s p=true):p.bad=0/\(aU L p).str=s/\((aU L p).aCR=1\/(aU L p).aCR=6):=by
 unfold cL at h;rw[Bool.and_eq_true,Bool.and_eq_true,Bool.or_eq_true,decide_eq_true_eq,decide_eq_true_eq,decide_eq_true_eq,decide_eq_true_eq] at h;exact⟨h.1,h.2.1,h.2.2⟩
theorem fP{s:bY}{p:PS}(h:p.at_<L.length)(a:cL L s p=true):dK L p {p with at_:=p.at_+1}:=zH T h (qA ((lG a).2.2))
theorem SF(s:bY){p:PS}(h:p.at_<L.length):dK L p (kJ L s p).2:=by
 unfold kJ;split
 .exact fP T h (by assumption)
 .exact dK.refl h
theorem fZ(s:bY){p:PS}(h:p.at_<L.length):dK L p (eH L s p):=by
 unfold eH;split
 .exact fP T h (by assumption)
 .exact rO h
theorem jD{p:PS}(h:p.at_<L.length):dK L p (bU L p).2:=by
 unfold bU;dsimp only;by_cases a:(aU L p).aCR≠1
 .rw[iP a,iP (show (dL L p).bad≠0 from lP 5 _ qe _)];exact rO h
 .rw[iN a];split
  .exact dK.refl h
  .exact zH T h qo
theorem dQ(words:List ByteArray){p:PS}(h:p.at_<L.length):dK L p (aZ L words p).2:=by
 unfold aZ;dsimp only;split
 .rename_i a;exact zH T h qo
 .exact rO h
theorem nG{p:PS}(h:p.at_<L.length):dK L p (cD L p).2:=by
 unfold cD;dsimp only;have h1:=dQ T [str "subject",str "action",str "case",str "env"] h;have h2:=fZ T (str ".") h1.lt;have h3:=jD T h2.lt;have h4:=SF T (str "!") h3.lt;exact h1.trans (h2.trans (h3.trans h4))
omit T in
theorem zI(L:List Tok)(p:PS):dA L p=if (eR L p).2.bad≠0 then (bD,(eR L p).2) else ((eR L p).1,{(eR L p).2 with at_:=(eR L p).2.at_+1}):=rfl
omit T in
theorem Bf{p:PS}(h:p.at_<L.length):dK L p (eR L p).2/\((eR L p).2.bad=0->(eR L p).2=p/\(aU L p).aCR≠7):=by
 unfold eR;dsimp only;split
 .exact⟨dK.refl h,fun _=>⟨rfl,qo⟩⟩
 split
 .exact⟨dK.refl h,fun _=>⟨rfl,qo⟩⟩
 split
 .exact⟨dK.refl h,fun _=>⟨rfl,qo⟩⟩
 split
 .exact⟨dK.refl h,fun _=>⟨rfl,qo⟩⟩
 split
 .rename_i a;exact⟨dK.refl h,fun _=>⟨rfl,qA ((lG a).2.2)⟩⟩
 split
 .rename_i a;exact⟨dK.refl h,fun _=>⟨rfl,qA ((lG a).2.2)⟩⟩
 .exact⟨rO h,fun b=>absurd b (lP _ _ qe _)⟩
theorem wQ{p:PS}(h:p.at_<L.length):dK L p (dA L p).2:=by
 rw[zI];have h1:=Bf (L:=L) h;by_cases a:(eR L p).2.bad≠0
 .rw[iP a];exact h1.1
 .rw[iN a];obtain⟨e,b⟩:=h1.2 (by simpa using a);rw[e];exact zH T h b
theorem yI{p:PS}(h:p.at_<L.length):dK L p (sJ L p).2:=by
 unfold sJ
 repeat' split
 .exact fP T h (by assumption)
 .exact fP T h (by assumption)
 .exact fP T h (by assumption)
 .exact rO h
theorem BY{p:PS}(h:p.at_<L.length):dK L p (eC L p).2:=by
 unfold eC;dsimp only;have h1:=nG T h;have h2:=yI T h1.lt;have h3:=wQ T h2.lt;exact h1.trans (h2.trans h3)
theorem vR{α:Type}{one:PS->α×PS}(a:∀{p:PS},p.at_<L.length->dK L p (one p).2)(sep:bY):∀(f:Nat) (l:List α) {p:PS},p.at_<L.length->dK L p (jS L one sep f l p).2
 |0,l,p,h=>dK.refl h
 |f+1,l,p,h=>by
  unfold jS;split
  .rename_i b;have h1:=fP T h b;have h2:=a h1.lt;have h3:=kP (decide (8<(l++[(one {p with at_:=p.at_+1}).1]).length)) h2.lt;exact h1.trans (h2.trans (h3.trans (vR a sep f _ h3.lt)))
  .exact dK.refl h
theorem MG{p:PS}(h:p.at_<L.length):dK L p (iZ L p).2:=by
 unfold iZ;dsimp only;have h1:=BY T h;exact h1.trans (vR T (BY T) _ _ _ h1.lt)
theorem MH{p:PS}(h:p.at_<L.length):dK L p (mB L p).2:=by
 unfold mB;dsimp only;have h0:=fZ T (str "(") h;have h1:=MG T h0.lt;have h2:=vR T (MG T) (str "or") L.length [(iZ L (eH L (str "(") p)).1] h1.lt;exact h0.trans (h1.trans (h2.trans (fZ T _ h2.lt)))
theorem lQ{p:PS}(h:p.at_<L.length):dK L p (bV L p).2:=by
 unfold bV;split
 .rename_i a;dsimp only;have h0:=fP T h a;have h1:=MH T h0.lt;exact h0.trans (h1.trans (vR T (MH T) _ _ _ h1.lt))
 .exact dK.refl h
theorem IL{p:PS}(h:p.at_<L.length):dK L p (tJ L p).2:=by
 unfold tJ;dsimp only;have h1:=dQ T [str "permit",str "deny"] h;have h2:=dQ T [str "log",str "redact",str "review",str "notify"] h1.lt;have h3:=jD T h2.lt;exact h1.trans (h2.trans h3)
theorem uW{p:PS}(h:p.at_<L.length):dK L p (gL L p).2:=vR T (IL T) _ _ _ h
def dE(L:List Tok)(f:Nat)(acc:List No×PS)(must:Bool):List No×PS:=
 if acc.2.bad≠0 then acc else
  ((eW L f acc.1 acc.2).1.1,if (eW L f acc.1 acc.2).1.2≠must then eP 5 (aU L acc.2).at_ (eW L f acc.1 acc.2).2 else (eW L f acc.1 acc.2).2)
theorem zJ:∀(f:Nat) (l:List No) {p:PS},p.at_<L.length->dK L p (eW L f l p).2
 |0,l,p,h=>by unfold eW;exact dK.refl h
 |f+1,l,p,h=>by
  have c:∀{l:List No} {p:PS} (must:Bool),p.at_<L.length->dK L p (dE L f (l,p) must).2:=by
   intro l p must h;unfold dE;dsimp only;split
   .exact dK.refl h
   .have h1:=zJ f l h;exact Rg
  have b:∀(ms:List Bool) {l:List No} {p:PS},p.at_<L.length->dK L p (ms.foldl (dE L f) (l,p)).2:=by
   intro ms
   induction ms with
   |nil=>intro l p h;exact dK.refl h
   |cons m ms d=>
    intro l p h;have h1:=c (l:=l) m h;exact h1.trans (d h1.lt)
  unfold eW;dsimp only;by_cases a:cL L (str "(") p=true
  .rw[iP a];have h0:=fP T h a;have h1:=dQ T eB h0.lt;have h2:=b (fL (2+(aZ L eB {p with at_:=p.at_+1}).1)) (l:=l) h1.lt;have h3:=fZ T (str ")") h2.lt;exact h0.trans (h1.trans (h2.trans (h3.trans (kP _ h3.lt))))
  .rw[iN a];split
   .have h1:=nG T h;exact h1.trans (kP _ h1.lt)
   .have h1:=wQ T h;exact h1.trans (kP _ h1.lt)
theorem FM(l:List No)(must:Bool){p:PS}(h:p.at_<L.length):dK L p (jB L l must p).2:=by
 unfold jB;dsimp only;have h1:=zJ T L.length l h;exact Rg
theorem IM(deny:Bool){p:PS}(h:p.at_<L.length):dK L p (kK L deny p).2:=by
 unfold kK;dsimp only;have h1:=jD T h;have h2:=lQ T h1.lt;have h3:dK L (bV L (bU L p).2).2 (if cL L (str "if") (bV L (bU L p).2).2=true then jB L [] false {(bV L (bU L p).2).2 with at_:=(bV L (bU L p).2).2.at_+1} else ([],(bV L (bU L p).2).2)).2:=by
  split
  .rename_i a;have h0:=fP T h2.lt a;exact h0.trans (FM T _ _ h0.lt)
  .exact dK.refl h2.lt
 have h4:=uW T h3.lt;exact h1.trans (h2.trans (h3.trans (h4.trans (fZ T _ h4.lt))))
omit T in
theorem Bg{b:Bool}{p:PS}(h:(cR L b p).bad=0):b=false/\cR L b p=p:=by
 cases b
 .exact⟨rfl,by unfold cR;rw[iN qe]⟩
 .unfold cR at h;rw[iP rfl] at h;exact absurd h (lP _ _ qe _)
theorem sS:∀(f:Nat) (l:List Ru) {p:PS},p.at_<L.length->dK L p (iJ L f l p).2
 |0,l,p,h=>by unfold iJ;exact dK.refl h
 |f+1,l,p,h=>by
  unfold iJ;split
  .rename_i a;dsimp only;split
   .exact kP _ h
   .rename_i d;obtain⟨b,hp⟩:=Bg (by simpa using d);rw[hp];have h0:dK L p {p with at_:=p.at_+1}:=by
     rw[Bool.or_eq_true] at a
     rcases a with a|a
     .exact fP T h a
     .exact fP T h a
    have c:p.aCT≠64:=by
     intro c;rw[c] at b;simp at b
    have h1:dK L p {p with aCT:=p.aCT+1,at_:=p.at_+1}:=⟨h0.le,h0.lt,Nat.le_succ _,fun x=>by show p.aCT+1<=64;omega⟩;have h2:=IM T (cL L (str "deny") p) h1.lt;exact h1.trans (h2.trans (sS f _ h2.lt))
  .exact dK.refl h
omit T in
theorem qP{one:PS->Po×PS}(a:∀{p:PS},p.at_<L.length->dK L p (one p).2)(deep:Bool):∀(f:Nat) (l:List Po) {p:PS},p.at_<L.length->dK L p (gM L one deep f l p).2
 |0,l,p,h=>by unfold gM;exact dK.refl h
 |f+1,l,p,h=>by
  unfold gM;split
  .dsimp only;split
   .exact kP _ h
   .have h0:=kP (L:=L) (decide (l.length=16)||deep) h;have h1:=a h0.lt;exact h0.trans (h1.trans (qP a deep f _ h1.lt))
  .exact dK.refl h
theorem rP:∀(n:Nat) {p:PS},p.at_<L.length->dK L p (cO L n p).2:=by
 intro n
 induction n with
 |zero=>
  intro p h;unfold cO;dsimp only;have h1:=dQ T [str "policy",str "set"] h;have h2:=jD T h1.lt;have h3:=dQ T dH h2.lt;have h4:=lQ T h3.lt;have h5:=fZ T qX h4.lt;have h15:=h1.trans (h2.trans (h3.trans (h4.trans h5)));by_cases a:decide ((aZ L [str "policy",str "set"] p).1=2)=true
  .rw[iP a];have h6:=qP (one:=fun q=>(mA,q)) (fun h=>dK.refl h) true L.length [] h5.lt;exact OA
  .rw[iN a];have h6:=sS T L.length [] h5.lt;exact OA
 |succ n b=>
  intro p h;unfold cO;dsimp only;have h1:=dQ T [str "policy",str "set"] h;have h2:=jD T h1.lt;have h3:=dQ T dH h2.lt;have h4:=lQ T h3.lt;have h5:=fZ T qX h4.lt;have h15:=h1.trans (h2.trans (h3.trans (h4.trans h5)));by_cases a:decide ((aZ L [str "policy",str "set"] p).1=2)=true
  .rw[iP a];have h6:=qP (one:=cO L n) b false L.length [] h5.lt;exact OA
  .rw[iN a];have h6:=sS T L.length [] h5.lt;exact OA
end
theorem aC{a w w':World}(h:Below a.heap.size a w)(k:Below w.heap.size w w'):Below a.heap.size a w':=h.trans (k.mono h.size)
theorem qB{a w w2:World}(h:Hid (Below a.heap.size a w))(k:Below w.heap.size w w2):Hid (Below a.heap.size a w2):=aA (aC h.o k)
theorem fJ{B:Nat}{a w w':World}(h:Below B a w)(k:jQ w w'):Below B a w':=by
 obtain⟨n,rfl⟩:=k;exact⟨h.os,h.tape,h.output,h.size,h.block⟩
theorem aB(w:World)(o:Obj):Below w.heap.size w (w.alloc o):=(Below.refl _ _).alloc (lR _) _
theorem vS(w:World)(cs:Array Value)(t:TypeId)(fr:Nat×Nat)(i:Nat)(v:Value)(h:cs[i]? =some v):(w.alloc (.cells cs t fr)).cell? ⟨w.heap.size,i,none⟩=some v:=by
 unfold World.cell?;rw[heap_alloc_new];simpa using h
theorem QCk{p:Prop}(h:p:=by
 have HB:=aA hb1;clear HH hb1;go_wp2_with fail;refine(HW.o).mono ?_;rintro e w2 ⟨rfl,h2,k2⟩;go_wp2;go_returns;exact⟨rfl,h2,(aJ HB.o).trans k2⟩):p:=h
theorem SG{α:Type}{a0 a a2 a3:α}{l:List α}{p:Nat->α->Prop}(h:∀j x,(a0::a::a2::a3::l)[j]? =some x->p j x):p 0 a0/\p 1 a/\p 2 a2/\p 3 a3:=⟨h 0 _ rfl,h 1 _ rfl,h 2 _ rfl,h 3 _ rfl⟩
theorem qJ{P:Program}{id:Nat}{Q:Exit->Act->World->Prop}{a:Act}{w:World}{l:List Oper}(n:Nat)(hm:P.follows .mixedOrders=true)(c:Region.lexTailB .any l.toArray n=true)
 (h:wpStill P l.toArray w.drew (fun b=>wpList P l.toArray Q (l.drop n) b w.drew) (l.take n) a):(Code.region id l.toArray true).wp P Q a w:=wp_region_still_tail n hm c h
def PW(L:List Tok)(w:World)(g:Nat)(p:PS):Prop:=
 ∃A c,w.heap[g]? =some (.cells #[.slice A L.length c,.int .i64 p.at_,.int .i64 p.aCT,.int .i64 p.bad,.int .i64 p.place] 161 (0,0))/\aH SE w (fun b=>b<g) (.slice A L.length c) L
theorem PW.lt{L:List Tok}{w:World}{g:Nat}{p:PS}(h:PW L w g p):g<w.heap.size:=by
 obtain⟨A,c,h1,_⟩:=h;exact(Array.getElem?_eq_some_iff.1 h1).1
theorem PW.on{L:List Tok}{w w':World}{g:Nat}{p:PS}(h:PW L w g p)(a:Below w.heap.size w w'):PW L w' g p:=by
 have b:=h.lt;obtain⟨A,c,h1,h2⟩:=h;exact⟨A,c,by rw[a.block g b];exact h1,h2.on gZ a⟩
theorem PW.aC0{L:List Tok}{w w':World}{g:Nat}{p:PS}{ok:nP}(h:PW L w g p)(a:aN ok w w')(d:∀b,b<=g->ok b):PW L w' g p:=by
 have e:=h.lt;obtain⟨A,c,h1,h2⟩:=h;exact⟨A,c,by rw[a.block g e (d g (lR _))];exact h1,h2.aC0 gZ (a.mono fun k _ h=>d k (by have:k<g:=h;omega))⟩
theorem PW.set{L:List Tok}{w:World}{g:Nat}{p:PS}(h:PW L w g p){b i:Nat}{v:Value}(c:g<b):PW L (w.setCell ⟨b,i,none⟩ v) g p:=
 h.aC0 (ok:=fun x=>x≠b) ⟨rfl,rfl,rfl,by simp[World.setCell],fun k d a=>Below.heap_setCell _ _ _ _ a⟩ (fun x e=>by show x≠b;omega)
theorem PW.cells{L:List Tok}{w:World}{g:Nat}{p:PS}(h:PW L w g p):∃A c,w.cell? ⟨g,0,none⟩=some (.slice A L.length c)/\w.cell? ⟨g,1,none⟩=some (.int .i64 p.at_)/\w.cell? ⟨g,2,none⟩=some (.int .i64 p.aCT)/\w.cell? ⟨g,3,none⟩=some (.int .i64 p.bad)/\w.cell? ⟨g,4,none⟩=some (.int .i64 p.place)/\aH SE w (fun b=>b<g) (.slice A L.length c) L:=by
 obtain⟨A,c,h1,h2⟩:=h;exact⟨A,c,by simp[World.cell?,h1],by simp[World.cell?,h1],by simp[World.cell?,h1],by simp[World.cell?,h1],by simp[World.cell?,h1],h2⟩
theorem PW.free{L:List Tok}{w:World}{g:Nat}{p:PS}(h:PW L w g p)(i:Nat):w.frozen? ⟨g,i,none⟩=false:=by
 obtain⟨A,c,h1,_⟩:=h;simp[World.frozen?,h1]
def cX(B g:Nat)(w w':World):Prop:=aN (fun b=>b<B/\b≠g) w w'
theorem cX.aC8{B g:Nat}{a w w':World}(h:cX B g a w)(k:aN (fun b=>b≠g) w w'):cX B g a w':=aN.trans h (k.mono fun _ _ h=>h.2)
theorem cX.set{B g:Nat}{a w:World}(h:cX B g a w){b i:Nat}{v:Value}(d:B<=b):cX B g a (w.setCell ⟨b,i,none⟩ v):=
 aN.trans h ⟨rfl,rfl,rfl,by simp[World.setCell],fun k e c=>Below.heap_setCell _ _ _ _ (by have:=c.1;simp only;omega)⟩
theorem cX.new{B g:Nat}{a w w':World}(h:cX B g a w)(k:Below w.heap.size w w'):cX B g a w':=aN.trans h (aJ k)
theorem cX.end{g:Nat}{w w':World}(h:cX w.heap.size g w w'):aN (fun b=>b≠g) w w':=aN.mono h fun k a h=>⟨a,h⟩
theorem aF{ok:nP}{w w':World}{b:Nat}{o:Obj}(h:w.heap[b]? =some o)(k:aN ok w w')(a:ok b):w'.heap[b]? =some o:=by
 rw[k.block b (Array.getElem?_eq_some_iff.1 h).1 a];exact h
theorem qS{ok:nP}{w w2:World}{b:Nat}{o:Obj}(h:Hid (w.heap[b]? =some o))(k:aN ok w w2)(a:ok b):Hid (w2.heap[b]? =some o):=aA (aF h.o k a)
theorem aE{w w':World}{b:Nat}{o:Obj}(h:w.heap[b]? =some o)(k:Below w.heap.size w w'):w'.heap[b]? =some o:=by
 rw[k.block b (Array.getElem?_eq_some_iff.1 h).1];exact h
theorem qK{w w2:World}{b:Nat}{o:Obj}(h:Hid (w.heap[b]? =some o))(k:Below w.heap.size w w2):Hid (w2.heap[b]? =some o):=aA (aE h.o k)
theorem bE{w:World}{b b' i:Nat}{v:Value}{o:Obj}(h:w.heap[b]? =some o)(a:b≠b'):(w.setCell ⟨b',i,none⟩ v).heap[b]? =some o:=by
 rw[Below.heap_setCell _ _ _ _ a];exact h
theorem aD{w:World}{b:Nat}{o:Obj}(h:w.heap[b]? =some o):b<w.heap.size:=(Array.getElem?_eq_some_iff.1 h).1
def aO(v:Value)(w:World)(e:Ending)(w':World):Prop:=e=.returned v/\Below w.heap.size w w'
theorem gH{L:List Tok}{p:PS}(hp:p.at_<L.length)(f:L.length<=5000)(g:Nat)(w:World)(h:PW L w g p):
 Calls prog 82 #[.pointer (some ⟨g,0,none⟩)] w (aO (iA (aU L p)) w):=by
 rw[EI hp];have j:=h.lt;obtain⟨A,c,c0,c1,_,_,_,d⟩:=h.cells;obtain⟨b,off,r,rfl,_,i,⟨rfl,_⟩,a⟩:=aH.at gZ d hp qe;obtain⟨e,l,m,n⟩:=SG a;rw[Nat.add_zero] at e;have i0:(0:Int)<=(p.at_:Int):=qo;have k:(p.at_:Int)<(L.length:Int):=qo;clear a d h;unfold aO;unfold iA;generalize L[p.at_]=t at *;go_enter func82,ntmps82;go_wp2;refine qJ 10 (by kernel_rfl) (by kernel_rfl) ?_;simp only[List.take_succ_cons,List.take_zero,List.drop_succ_cons,List.drop_zero]
 repeat still_step
 refine wpStill_nil ?_;go_wp2;go_returns;exact⟨rfl,((Below.refl _ _).alloc (lR _) _).drew⟩
def eS(L:List Tok)(g:Nat)(w:World)(v:Value)(p':PS)(e:Ending)(w':World):Prop:=e=.returned v/\PW L w' g p'/\aN (fun b=>b≠g) w w'
theorem aG{w:World}{g:Nat}{cs:Array Value}{t:TypeId}{m:Nat×Nat}(h:w.heap[g]? =some (.cells cs t m))(i:Nat)(v:Value):(w.setCell ⟨g,i,none⟩ v).heap[g]? =some (.cells (cs.setIfInBounds i v) t m):=by
 simp only[World.setCell,Array.getElem?_modify,h];simp
theorem aI{w:World}{g i:Nat}(v:Value):aN (fun b=>b≠g) w (w.setCell ⟨g,i,none⟩ v):=⟨rfl,rfl,rfl,by simp[World.setCell],fun k c a=>Below.heap_setCell _ _ _ _ a⟩
theorem PW.stay{L:List Tok}{w w':World}{g:Nat}{p p':PS}(h:PW L w g p)(d:aN (fun b=>b≠g) w w')(a:∀A c,w.heap[g]? =some (.cells #[.slice A L.length c,.int .i64 p.at_,.int .i64 p.aCT,.int .i64 p.bad,.int .i64 p.place] 161 (0,0))->w'.heap[g]? =some (.cells #[.slice A L.length c,.int .i64 p'.at_,.int .i64 p'.aCT,.int .i64 p'.bad,.int .i64 p'.place] 161 (0,0))):PW L w' g p':=by
 obtain⟨A,c,h1,h2⟩:=h;exact⟨A,c,a A c h1,h2.aC0 gZ (d.mono fun k _ h=>by show k≠g;have:k<g:=h;omega)⟩
theorem tT{L:List Tok}{p:PS}(e pl:Int)(g:Nat)(w:World)(h:PW L w g p):
 Calls prog 85 #[.pointer (some ⟨g,0,none⟩),.int .i64 e,.int .i64 pl] w (eS L g w (.tuple #[]) (eP e pl p)):=by
 have f:=h.lt;obtain⟨A,c,c0,c1,c2,c3,c4,b⟩:=h.cells;have H:=aA h;have f3:=h.free 3;have f4:=h.free 4;unfold eS;unfold eP;clear h b;by_cases a:p.bad=0
 .rw[iP a];rw[a] at c3;clear a;go_enter func85,ntmps85;go_wp2;go_returns;refine⟨rfl,H.o.stay ((aI _).trans (aI _)) fun A c h=> ?_,(aI _).trans (aI _)⟩;rw[aG (aG h 3 _) 4 _];rfl
 .rw[iN a];have d:(p.bad==0)=false:=bN.2 a;clear a;go_enter func85,ntmps85;go_wp2;go_returns;exact⟨rfl,H.o,aN.refl _ _⟩
theorem SH(a b c:Int)(s:bY)(w:World):(Instr.field 146 (.agg #[.int .i64 a,.int .i64 b,.int .i64 c,.string s]) 1).run prog w=.ok (.int .i64 b) w:=by kernel_rfl
theorem aO.aC8{L:List Tok}{p:PS}{g:Nat}{w:World}{v:Value}{e:Ending}{w':World}(h:aO v w e w')(hp:PW L w g p):eS L g w v p e w':=⟨h.1,hp.on h.2,aJ h.2⟩
theorem lS{L:List Tok}{p:PS}(hp:p.at_<L.length)(a:L.length<=5000)(g:Nat)(w:World)(h:PW L w g p):
 Calls prog 83 #[.pointer (some ⟨g,0,none⟩)] w (eS L g w (.tuple #[]) (dL L p)):=by
 have HH:=aA (gH hp a g w h);have H:=aA h;clear h;unfold eS dL;unfold iA at HH;generalize aU L p=t at *;go_enter func83,ntmps83;have b:=SH t.aCR t.at_ t.num t.str;go_wp2_with fail;refine(HH.o).mono ?_;rintro e w1 ⟨rfl,hb1⟩;have HW:=aA (tT 5 t.at_ g w1 (H.o.on hb1));exact QCk
theorem kQ{L:List Tok}{p:PS}(more:Bool)(hp:p.at_<L.length)(a:L.length<=5000)(g:Nat)(w:World)(h:PW L w g p):
 Calls prog 182 #[.pointer (some ⟨g,0,none⟩),.bool more] w (eS L g w (.tuple #[]) (cR L more p)):=by
 have HH:=aA (gH hp a g w h);have H:=aA h;clear h;unfold eS cR;unfold iA at HH;generalize aU L p=t at *
 cases more
 .rw[iN qe];go_enter func182,ntmps182;go_wp2;go_returns;exact⟨rfl,H.o,aN.refl _ _⟩
 .rw[iP rfl];go_enter func182,ntmps182;have b:=SH t.aCR t.at_ t.num t.str;go_wp2_with fail;refine(HH.o).mono ?_;rintro e w1 ⟨rfl,hb1⟩;have HW:=aA (tT 6 t.at_ g w1 (H.o.on hb1));exact QCk
end Go.Proofs.YtbinmcabjnoliaaGreatDoor

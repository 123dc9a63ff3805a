/- Lemmas. -/
import Derived.Test.YtgoanbpcdhmfkaaGreatDoorMaa
import Derived.Laws.CopyOwn
import Derived.Deep.OwnRows
import Derived.Deep.QuietTactic
import Derived.BigQuiet
import Derived.LoopN
import Derived.StillTailTactics
import Derived.Deep.Quiet
namespace Go.Proofs.YtgoanbpcdhmfkaaGreatDoor
open Go.RowKit
set_option linter.unusedVariables false
set_option linter.unusedSimpArgs false
set_option maxHeartbeats 16000000
open _root_.Go.Proofs.Tryz
set_option maxRecDepth 20000
structure At where
 cat:Int
 name:ByteArray
 aDi:Bool
deriving DecidableEq
structure Ma where
 aDa:At
 op:Int
 val:V3
deriving DecidableEq
structure No where
 op:Int
 val:V3
 aDa:At
deriving DecidableEq
structure Ob where
 on:Int
 aCJ:Int
 arg:ByteArray
deriving DecidableEq
abbrev Ta:=List (List (List Ma))
structure Ru where
 id:ByteArray
 aDl:Bool
 aCU:Ta
 cond:List No
 aC0:List Ob
deriving DecidableEq
inductive Po where
 |mk (id:ByteArray) (set:Bool) (alg:Int) (target:Ta) (rules:List Ru) (kids:List Po) (obls:List Ob)
def Po.id:Po->ByteArray| .mk i _ _ _ _ _ _=>i
def Po.set:Po->Bool| .mk _ s _ _ _ _ _=>s
def Po.alg:Po->Int| .mk _ _ a _ _ _ _=>a
def Po.aCU:Po->Ta| .mk _ _ _ t _ _ _=>t
def Po.aCM:Po->List Ru| .mk _ _ _ _ r _ _=>r
def Po.aCY:Po->List Po| .mk _ _ _ _ _ k _=>k
def Po.aC0:Po->List Ob| .mk _ _ _ _ _ _ o=>o
def bD:V3:=(0,0,ByteArray.empty)
def uJ:At:=⟨0,ByteArray.empty,false⟩
def mB:Po:= .mk ByteArray.empty false 0 [] [] [] []
structure PS where
 at_:Nat
 aCM:Nat
 bad:Int
 place:Int
deriving DecidableEq
section
variable (L:List Tok)
def aU(p:PS):Tok:=(L[p.at_]?).getD ⟨0,0,0,ByteArray.empty⟩
def eO(e place:Int)(p:PS):PS:=if p.bad=0 then {p with bad:=e,place:=place} else p
def dM(p:PS):PS:=eO 5 (aU L p).at_ p
def cR(more:Bool)(p:PS):PS:=if more then eO 6 (aU L p).at_ p else p
def cL(s:bY)(p:PS):Bool:=decide (p.bad=0)&&(decide ((aU L p).str=s)&&(decide ((aU L p).aCJ=1)||decide ((aU L p).aCJ=6)))
def kL(s:bY)(p:PS):Bool×PS:=if cL L s p then (true,{p with at_:=p.at_+1}) else (false,p)
def eH(s:bY)(p:PS):PS:=if cL L s p then {p with at_:=p.at_+1} else dM L p
def bT(p:PS):ByteArray×PS:=
 let t:=aU L p
 let a:=if t.aCJ≠1 then dM L p else p
 if a.bad≠0 then (ByteArray.empty,a) else (t.str,{a with at_:=a.at_+1})
def aZ(words:List ByteArray)(p:PS):Int×PS:=
 let t:=aU L p
 if t.aCJ=1/\words.findIdx (fun w=>decide (w=t.str))<words.length/\cL L t.str p=true then
  ((words.findIdx (fun w=>decide (w=t.str)):Int)+1,{p with at_:=p.at_+1})
 else (0,dM L p)
def str(s:String):ByteArray:=s.toUTF8
def qX:ByteArray:=⟨#[123]⟩
def yD:ByteArray:=⟨#[125]⟩
def cE(p:PS):At×PS:=
 let (c,p1):=aZ L [str "subject",str "action",str "case",str "env"] p
 let a:=eH L (str ".") p1
 let (n,p3):=bT L a
 let (m,p4):=kL L (str "!") p3
 (⟨c,n,m⟩,p4)
def cY(p:PS):V3×PS:=
 let t:=aU L p
 let (v,p1):V3×PS:=
  if t.aCJ=2 then ((2,t.num,t.str),p)
  else if t.aCJ=3 then ((4,t.num,t.str),p)
  else if t.aCJ=4 then ((5,t.num,t.str),p)
  else if t.aCJ=5 then ((3,t.num,t.str),p)
  else if cL L (str "true") p then ((1,1,ByteArray.empty),p)
  else if cL L (str "false") p then ((1,0,ByteArray.empty),p)
  else ((0,t.num,t.str),dM L p)
 if p1.bad≠0 then (bD,p1) else (v,{p1 with at_:=p1.at_+1})
def sH(p:PS):Int×PS:=
 if cL L (str "=") p then (1,{p with at_:=p.at_+1})
 else if cL L (str "<") p then (2,{p with at_:=p.at_+1})
 else if cL L (str ">") p then (3,{p with at_:=p.at_+1})
 else (0,dM L p)
def eD(p:PS):Ma×PS:=
 let (a,p1):=cE L p
 let (o,p2):=sH L p1
 let (v,p3):=cY L p2
 (⟨a,o,v⟩,p3)
def jS{α:Type}(one:PS->α×PS)(sep:bY):Nat->List α->PS->List α×PS
 |0,l,p=>(l,p)
 |f+1,l,p=>
  if cL L sep p then
   let (x,p1):=one {p with at_:=p.at_+1}
   jS one sep f (l++[x]) (cR L (decide (8<(l++[x]).length)) p1)
  else (l,p)
def iX(p:PS):List Ma×PS:=
 let (m,p1):=eD L p
 jS L (eD L) (str ",") L.length [m] p1
def mC(p:PS):List (List Ma)×PS:=
 let (m,p1):=iX L (eH L (str "(") p)
 let (l,p2):=jS L (iX L) (str "or") L.length [m] p1
 (l,eH L (str ")") p2)
def bU(p:PS):Ta×PS:=
 if cL L (str "when") p then
  let (m,p1):=mC L {p with at_:=p.at_+1}
  jS L (mC L) (str "and") L.length [m] p1
 else ([],p)
def fK(op:Int):List Bool:=if op=3\/op=4 then [true] else if op=5 then [true,false] else if op=11 then [false] else [false,false]
def eB:List ByteArray:=["one","size","has","eq","less","add","sub","mul","not","and","or"].map str
def eW:Nat->List No->PS->(List No×Bool)×PS
 |0,l,p=>((l,false),p)
 |f+1,l,p=>
  let t:=aU L p
  let (ln,p1):(List No×No)×PS:=
   if cL L (str "(") p then
    let (w,q):=aZ L eB {p with at_:=p.at_+1}
    let op:=2+w
    let (l2,q2):=(fK op).foldl (fun (acc:List No×PS) must=>
     if acc.2.bad≠0 then acc else
      let place:=(aU L acc.2).at_
      let r:=eW f acc.1 acc.2
      (r.1.1,if r.1.2≠must then eO 5 place r.2 else r.2)) (l,q)
    ((l2,⟨op,bD,uJ⟩),eH L (str ")") q2)
   else if t.aCJ=1/\t.str≠str "true"/\t.str≠str "false" then
    let (a,q):=cE L p
    ((l,⟨2,bD,a⟩),q)
   else
    let (v,q):=cY L p
    ((l,⟨1,v,uJ⟩),q)
  let b:=ln.1++[ln.2]
  ((b,decide (ln.2.op=2)),cR L (decide (32<b.length)) p1)
def jA(l:List No)(must:Bool)(p:PS):List No×PS:=
 let place:=(aU L p).at_
 let r:=eW L L.length l p
 (r.1.1,if r.1.2≠must then eO 5 place r.2 else r.2)
def tI(p:PS):Ob×PS:=
 let (o,p1):=aZ L [str "permit",str "deny"] p
 let (k,p2):=aZ L [str "log",str "redact",str "review",str "notify"] p1
 let (a,p3):=bT L p2
 (⟨o,k,a⟩,p3)
def gL(p:PS):List Ob×PS:=jS L (tI L) (str "on") L.length [] p
def kM(deny:Bool)(p:PS):Ru×PS:=
 let (i,p1):=bT L p
 let (t,p2):=bU L p1
 let (c,p3):=if cL L (str "if") p2 then jA L [] false {p2 with at_:=p2.at_+1} else ([],p2)
 let (o,p4):=gL L p3
 (⟨i,deny,t,c,o⟩,eH L (str ";") p4)
def iH:Nat->List Ru->PS->List Ru×PS
 |0,l,p=>(l,p)
 |f+1,l,p=>
  if cL L (str "permit") p||cL L (str "deny") p then
   let a:=cR L (decide (l.length=16)||decide (p.aCM=64)) p
   if a.bad≠0 then (l,a)
   else
    let (r,p2):=kM L (cL L (str "deny") a) {a with aCM:=a.aCM+1,at_:=a.at_+1}
    iH f (l++[r]) p2
  else (l,p)
def dE:List ByteArray:=["denyover","permitover","first","only","denyunless","permitunless"].map str
def gM(one:PS->Po×PS)(deep:Bool):Nat->List Po->PS->List Po×PS
 |0,l,p=>(l,p)
 |f+1,l,p=>
  if cL L (str "policy") p||cL L (str "set") p then
   let a:=cR L (decide (l.length=16)||deep) p
   if a.bad≠0 then (l,a)
   else
    let (k,p2):=one a
    gM one deep f (l++[k]) p2
  else (l,p)
def cO:Nat->PS->Po×PS
 |levels,p=>
  let (s,p1):=aZ L [str "policy",str "set"] p
  let set:=decide (s=2)
  let (i,p2):=bT L p1
  let (a,p3):=aZ L dE p2
  let (t,p4):=bU L p3
  let p5:=eH L qX p4
  let (rk,p6):(List Ru×List Po)×PS:=
   if set then
    match levels with
    |0=>let r:=gM L (fun q=>(mB,q)) true L.length [] p5;(([],r.1),r.2)
    |n+1=>let r:=gM L (cO n) false L.length [] p5;(([],r.1),r.2)
   else let r:=iH L L.length [] p5;((r.1,[]),r.2)
  let p7:=eH L yD p6
  let (o,p8):=gL L p7
  (.mk i set a t rk.1 rk.2 o,p8)
end
def yE(a:At):Bool:=(decide (1<=a.cat)&&decide (a.cat<=4))&&eK a.name
def sN(m:Ma):Bool:=yE m.aDa&&(decide (1<=m.op)&&decide (m.op<=3))&&aT m.val
def oF(n:Nat):Int:=if n=0 then 1 else if 8<n then 6 else 0
def gF{α:Type}(f:α->Int):List α->Int
 | []=>0
 |x::l=>if f x≠0 then f x else gF f l
def rH(l:List Ma):Int:=if oF l.length≠0 then oF l.length else gF (fun m=>if sN m then 0 else 1) l
def rI(l:List (List Ma)):Int:=if oF l.length≠0 then oF l.length else gF rH l
def eX(t:Ta):Int:=if 8<t.length then 6 else gF rI t
def mO(op:Int):Option (List Bool):=
 if op=1\/op=2 then some [] else if op=3\/op=4 then some [true] else if op=5 then some [true,false]
 else if op=11 then some [false] else if 6<=op/\op<=13 then some [false,false] else none
def qP(n:No):Bool:=
 if n.op=1 then aT n.val&&decide (n.aDa=uJ)
 else if n.op=2 then yE n.aDa&&decide (n.val=bD)
 else decide (n.val=bD)&&decide (n.aDa=uJ)
def lA(l:List Bool)(n:No):Option (List Bool):=
 match mO n.op with
 |none=>none
 |some w=>
  if qP n/\w.length<=l.length/\l.drop (l.length - w.length)=w then some (l.take (l.length - w.length)++[decide (n.op=2)]) else none
def iK:List No->List Bool->Option (List Bool)
 | [],l=>some l
 |n::r,l=>match lA l n with
  |none=>none
  |some a=>iK r a
def lB(l:List No):Int:=
 if 32<l.length then 6
 else match iK l [] with
  |none=>1
  |some made=>if 0<l.length/\made≠[false] then 1 else 0
def lC(l:List Ob):Int:=if 8<l.length then 6 else gF (fun o=>if (1<=o.on/\o.on<=2)/\(1<=o.aCJ/\o.aCJ<=4)/\eK o.arg=true then 0 else 1) l
structure WS where
 met:List ByteArray
 aCM:Nat
def gN(s:bY)(w:WS):Bool×WS:=if w.met.any (fun t=>decide (t=s))=true\/eK s=false then (false,w) else (true,{w with met:=s::w.met})
def fR(r:Ru)(w:WS):Int×WS:=
 let (ok,w1):=gN r.id w
 if ok=false then (1,w1)
 else
  let w2:={w1 with aCM:=w1.aCM+1}
  if 64<w2.aCM then (6,w2)
  else if eX r.aCU≠0 then (eX r.aCU,w2)
  else if lB r.cond≠0 then (lB r.cond,w2)
  else (lC r.aC0,w2)
def fH(p:Po)(w:WS):Int×WS:=
 let (ok,w1):=gN p.id w
 if ok=false\/p.alg<1\/6<p.alg then (1,w1)
 else if (p.set=true/\p.aCM≠[])\/(p.set=false/\(0<p.aCY.length\/p.alg=4)) then (1,w1)
 else if eX p.aCU≠0 then (eX p.aCU,w1)
 else if lC p.aC0≠0 then (lC p.aC0,w1)
 else if 16<p.aCM.length\/16<p.aCY.length then (6,w1)
 else (0,w1)
def jB{α:Type}(f:α->WS->Int×WS):List α->WS->Int×WS
 | [],w=>(0,w)
 |x::l,w=>
  let (e,w1):=f x w
  if e≠0 then (e,w1) else jB f l w1
def eN:Nat->Po->WS->Int×WS
 |0,_,w=>(6,w)
 |n+1,p,w=>
  let (e,w1):=fH p w
  if e≠0 then (e,w1)
  else
   let (e2,w2):=jB fR p.aCM w1
   if e2≠0 then (e2,w2) else jB (eN n) p.aCY w2
def fL(p:Po):Int:=(eN 4 p ⟨[],0⟩).1
def fD(S:bY):Po×Int×Int:=
 let (l,e,place):=jM S.data.toList
 if e≠0 then (mB,e,place)
 else
  let (out,p):=cO l 3 ⟨0,0,0,0⟩
  let a:=if (aU l p).aCJ≠7 then dM l p else p
  let b:=if a.bad=0/\fL out≠0 then eO 5 S.size a else a
  if b.bad≠0 then (mB,b.bad,b.place) else (out,0,0)
def kB:Int:= -9223372036854775808
def lF:Int:=9223372036854775807
def jT(a b:V3):Bool×Int:=
 if aT a=false\/aT b=false then (false,1)
 else if a.1≠b.1\/a.1=1 then (false,2)
 else if a.1=3\/a.1=5 then (decide (a.2.2.toList<b.2.2.toList),0)
 else (decide (a.2.1<b.2.1),0)
def kC(m:Ma)(v:V3):Bool×Int:=
 if m.op=1 then (if v.1≠m.val.1 then (false,2) else (decide (v=m.val),0))
 else if m.op=2 then jT v m.val
 else jT m.val v
def rJ(g:List Gv)(a:At):List V3×Int:=if yZ g a.cat a.name=[]/\a.aDi=true then ([],4) else (yZ g a.cat a.name,0)
def mD(m:Ma):List V3->Nat->Nat
 | [],out=>out
 |v::l,out=>if (kC m v).1 then 2 else mD m l (if (kC m v).2≠0 then 1 else out)
def oN(g:List Gv)(m:Ma):Nat:=if (rJ g m.aDa).2≠0 then 1 else mD m (rJ g m.aDa).1 0
def zD(g:List Gv)(l:List Ma):Nat:=l.foldl (fun out m=>min out (oN g m)) 2
def xO(g:List Gv)(t:Ta):Nat:=t.foldl (fun out l=>min out (l.foldl (fun a x=>max a (zD g x)) 0)) 2
structure It where
 bag:List V3
 val:V3
 err:Int
deriving DecidableEq
def cH(b:Bool):V3:=(1,if b then 1 else 0,ByteArray.empty)
def jH(v:V3)(e:Int):It:=⟨[],v,e⟩
def It.is(x:It)(n:Int):Bool:=decide (x.err=0)&&decide (x.val=(1,n,ByteArray.empty))
def sO(a b:Int):Int×Int:=if kB<=a+b/\a+b<=lF then (a+b,0) else (0,3)
def sP(a b:Int):Int×Int:=if kB<=a - b/\a - b<=lF then (a - b,0) else (0,3)
def mE(a b:Int):Int×Int:=if kB<=a * b/\a * b<=lF then (a * b,0) else (0,3)
def eF(f:Int->Int->Int×Int)(a b:V3):V3×Int:=
 if a.1≠2\/b.1≠2 then (bD,2) else if (f a.2.1 b.2.1).2≠0 then (bD,(f a.2.1 b.2.1).2) else ((2,(f a.2.1 b.2.1).1,ByteArray.empty),0)
def nT(op:Int)(a:V3):V3×Int:=if aT a=false then (bD,1) else if a.1≠1 then (bD,2) else (cH (decide (a.2.1=0)),0)
def dI(op:Int)(a b:V3):V3×Int:=
 if aT a=false\/aT b=false then (bD,1)
 else if op=6 then (if a.1≠b.1 then (bD,2) else (cH (decide (a=b)),0))
 else if op=7 then (if (jT a b).2≠0 then (bD,(jT a b).2) else (cH (jT a b).1,0))
 else if op=8 then eF sO a b
 else if op=9 then eF sP a b
 else if op=10 then eF mE a b
 else if a.1≠1\/b.1≠1 then (bD,2)
 else if op=12 then (cH (decide (a.2.1=1)&&decide (b.2.1=1)),0)
 else (cH (decide (a.2.1=1)||decide (b.2.1=1)),0)
def iL(g:List Gv)(n:No)(l:List It):It:=
 match l with
 | []=>if n.op=1 then jH n.val 0 else ⟨(rJ g n.aDa).1,bD,(rJ g n.aDa).2⟩
 | [a]=>
   if a.err≠0 then jH bD a.err
   else if n.op=3 then (match a.bag with | [v]=>jH v 0|_=>jH bD 4)
   else if n.op=4 then jH (2,a.bag.length,ByteArray.empty) 0
   else jH (nT n.op a.val).1 (nT n.op a.val).2
 |a::b::_=>
  if (n.op=12\/n.op=13)/\(a.is (n.op - 12)\/b.is (n.op - 12)) then jH (cH (decide (n.op=13))) 0
  else if a.err≠0 then jH bD a.err
  else if b.err≠0 then jH bD b.err
  else if n.op=5 then jH (cH (a.bag.any (fun v=>decide (v=b.val)))) 0
  else jH (dI n.op a.val b.val).1 (dI n.op a.val b.val).2
def jJ(op:Int):Nat:=if op=1\/op=2 then 0 else if op=3\/op=4\/op=11 then 1 else 2
def zE(g:List Gv):List No->List It->List It
 | [],st=>st
 |n::r,st=>zE g r (st.take (st.length - jJ n.op)++[iL g n (st.drop (st.length - jJ n.op))])
def nU(g:List Gv)(l:List No):V3×Int:=
 if l=[]\/lB l≠0 then (bD,1) else match zE g l [] with |x::_=>(x.val,x.err)| []=>(bD,1)
def tJ(g:List Gv)(l:List No):Nat:=
 if l=[] then 2
 else
  let x:=jH (nU g l).1 (nU g l).2
  if x.is 1 then 2 else if x.is 0 then 0 else 1
abbrev Mk:=Nat×Nat
def tQ(m:Mk):Mk:=if m=(4,0) then (2,0) else if m=(0,4) then (0,2) else m
def gO(l:List Ob)(m:Mk):List Ob:=l.filter (fun o=>(decide (o.on=1)&&decide (m=(4,0)))||(decide (o.on=2)&&decide (m=(0,4))))
def EC(r:Ru)(t c:Nat):Mk×List Ob:=
 let m:Mk:=if r.aDl then (0,4) else (4,0)
 if t=0\/(t=2/\c=0) then ((0,0),[])
 else if t=1\/c=1 then (tQ m,[])
 else (m,gO r.aC0 m)
def iA(g:List Gv)(r:Ru):Mk×List Ob:=EC r (xO g r.aCU) (tJ g r.cond)
def Zg(a b:Mk):Mk:=(max a.1 b.1,max a.2 b.2)
def Av(m:Mk):Mk:=(m.2,m.1)
def RH(m:Mk):Mk:=
 if m.2=4 then (0,4) else if m.2=2/\2<=m.1 then (2,2) else if m.2=2 then (0,2) else if m.1=4 then (4,0) else if m.1=2 then (2,0) else (0,0)
def Fk(l:List Mk):Mk:=l.foldl Zg (0,0)
def RI(m:Mk):Bool:=decide (m=(0,0))||(decide (m=(4,0))||decide (m=(0,4)))
def ED(j m:Mk):Mk:=if j=(0,0) then m else if m=(0,0) then j else (2,2)
def BO(l:List Mk):Mk:=(l.find? (fun m=>decide (m≠(0,0)))).getD (0,0)
def RJ(l:List Mk):Mk:=if l.all RI then l.foldl ED (0,0) else (2,2)
def qY(l:List Mk)(m other:Mk):Mk:=if l.any (fun x=>decide (x=other)) then other else m
def BP(alg:Int)(l:List Mk):Mk:=
 if alg=1 then RH (Fk l)
 else if alg=2 then Av (RH (Av (Fk l)))
 else if alg=3 then BO l
 else if alg=4 then RJ l
 else if alg=5 then qY l (0,4) (4,0)
 else if alg=6 then qY l (4,0) (0,4)
 else (0,0)
def gG(first:Bool)(m:Mk):List (Mk×List Ob)->List Ob
 | []=>[]
 |x::l=>if x.1≠m then gG first m l else if first then x.2 else x.2++gG first m l
def rK(alg:Int)(obls:List Ob)(t:Nat)(parts:List (Mk×List Ob)):Mk×List Ob:=
 let m:=BP alg (parts.map (·.1))
 if t=0 then ((0,0),[])
 else if t=1 then (tQ m,[])
 else if m≠(4,0)/\m≠(0,4) then (m,[])
 else (m,gG (decide (alg=3)) m parts++gO obls m)
def cZ(g:List Gv):Nat->Po->Mk×List Ob
 |0,_=>((0,0),[])
 |n+1,p=>
  let t:=xO g p.aCU
  if t=0 then ((0,0),[])
  else rK p.alg p.aC0 t (p.aCM.map (iA g)++p.aCY.map (cZ g n))
def rL(g:List Gv)(p:Po):(Mk×List Ob)×Int:=if fL p≠0 then (((0,0),[]),1) else (cZ g 4 p,0)
def pT(t:Ta):Option Ma:=
 (t.filter (fun l=>decide (l.length=1))).findSome? (fun l=>((l.head?).getD []).find? (fun m=>decide (m.op=1)&& !m.aDa.aDi))
def nV(g:List Gv)(k:Po):Bool:=match pT k.aCU with |none=>true |some m=>decide (oN g m≠0)
def kT(g:List Gv):Nat->Po->Po
 |0,p=>p
 |n+1,p=> .mk p.id p.set p.alg p.aCU p.aCM ((p.aCY.filter (nV g)).map (kT g n)) p.aC0
def iE(g:List Gv)(p:Po):(Mk×List Ob)×Int:=if fL p≠0 then (((0,0),[]),1) else rL g (kT g 4 p)
def cQ:Nat:=1000000
def cS(v:V3):Prop:=bK v.1/\bK v.2.1/\v.2.2.size<=cQ
def IC(v:V3):List Value:=[.int .i64 v.1,.int .i64 v.2.1,.string v.2.2]
def dB(v:V3):Value:= .agg #[.int .i64 v.1,.int .i64 v.2.1,.string v.2.2]
def LZ(t:Tok):Prop:=bK t.aCJ/\bK t.at_/\bK t.num/\t.str.size<=cQ
def Fl(t:Tok):List Value:=[.int .i64 t.aCJ,.int .i64 t.at_,.int .i64 t.num,.string t.str]
def gY(t:Tok):Value:= .agg #[.int .i64 t.aCJ,.int .i64 t.at_,.int .i64 t.num,.string t.str]
def BQ(a:At):Prop:=bK a.cat/\a.name.size<=cQ
def oG(a:At):Value:= .agg #[.int .i64 a.cat,.string a.name,.bool a.aDi]
def tR(m:Ma):Prop:=BQ m.aDa/\bK m.op/\cS m.val
def Aw(m:Ma):List Value:=[.int .i64 m.aDa.cat,.string m.aDa.name,.bool m.aDa.aDi,.int .i64 m.op,.int .i64 m.val.1,.int .i64 m.val.2.1,.string m.val.2.2]
def kN(m:Ma):Value:= .agg #[.int .i64 m.aDa.cat,.string m.aDa.name,.bool m.aDa.aDi,.int .i64 m.op,.int .i64 m.val.1,.int .i64 m.val.2.1,.string m.val.2.2]
def oO(n:No):Prop:=bK n.op/\cS n.val/\BQ n.aDa
def Ax(n:No):List Value:=[.int .i64 n.op,.int .i64 n.val.1,.int .i64 n.val.2.1,.string n.val.2.2,.int .i64 n.aDa.cat,.string n.aDa.name,.bool n.aDa.aDi]
def jK(n:No):Value:= .agg #[.int .i64 n.op,.int .i64 n.val.1,.int .i64 n.val.2.1,.string n.val.2.2,.int .i64 n.aDa.cat,.string n.aDa.name,.bool n.aDa.aDi]
def yF(o:Ob):Prop:=bK o.on/\bK o.aCJ/\o.arg.size<=cQ
def EE(o:Ob):List Value:=[.int .i64 o.on,.int .i64 o.aCJ,.string o.arg]
def VR:Rep V3:=mK IC cS
def RZ:Rep Tok:=mK Fl LZ
def rM:Rep Ma:=mK Aw tR
def JG:Rep No:=mK Ax oO
def jU:Rep Ob:=mK EE yF
theorem bG:Firm VR 3:=gD (fun _=>rfl) (fun x v h=>by simp only[IC,List.mem_cons,List.not_mem_nil,or_false] at h;rcases h with rfl|rfl|rfl<;>rfl)
theorem gX:Firm RZ 4:=gD (fun _=>rfl) (fun x v h=>by simp only[Fl,List.mem_cons,List.not_mem_nil,or_false] at h;rcases h with rfl|rfl|rfl|rfl<;>rfl)
theorem eP:Firm rM 7:=gD (fun _=>rfl) (fun x v h=>by simp only[Aw,List.mem_cons,List.not_mem_nil,or_false] at h;rcases h with rfl|rfl|rfl|rfl|rfl|rfl|rfl<;>rfl)
theorem dQ:Firm JG 7:=gD (fun _=>rfl) (fun x v h=>by simp only[Ax,List.mem_cons,List.not_mem_nil,or_false] at h;rcases h with rfl|rfl|rfl|rfl|rfl|rfl|rfl<;>rfl)
theorem aO:Firm jU 3:=gD (fun _=>rfl) (fun x v h=>by simp only[EE,List.mem_cons,List.not_mem_nil,or_false] at h;rcases h with rfl|rfl|rfl<;>rfl)
abbrev nZ(w:World)(ok:nP)(v:Value)(t:Ta):Prop:=aH (rows (rows rM)) w ok v t
theorem dO:Firm (rows rM) 1:=rG eP
theorem aS:Firm (rows (rows rM)) 1:=rG dO
def rN(w:World)(ok:nP)(r:Ru)(vt vc vo:Value):Prop:=r.id.size<=cQ/\nZ w ok vt r.aCU/\aH JG w ok vc r.cond/\aH jU w ok vo r.aC0
def yG:Rep Ru:=fun w ok cs r=>∃vt vc vo,cs=[.string r.id,.bool r.aDl,vt,vc,vo]/\rN w ok r vt vc vo
theorem rN.aCT{w w':World}{ok:nP}{r:Ru}{vt vc vo:Value}(h:rN w ok r vt vc vo)(a:aN ok w w'):rN w' ok r vt vc vo:=⟨h.1,aH.aCT aS h.2.1 a,aH.aCT dQ h.2.2.1 a,aH.aCT aO h.2.2.2 a⟩
theorem rN.more{w:World}{ok ok':nP}{r:Ru}{vt vc vo:Value}(h:rN w ok r vt vc vo)(a:∀b,ok b->ok' b):rN w ok' r vt vc vo:=⟨h.1,aH.more aS h.2.1 a,aH.more dQ h.2.2.1 a,aH.more aO h.2.2.2 a⟩
theorem rN.inb{w:World}{ok:nP}{r:Ru}{vt vc vo:Value}(h:rN w ok r vt vc vo):rN w (fun b=>ok b/\b<w.heap.size) r vt vc vo:=⟨h.1,aH.inb aS h.2.1,aH.inb dQ h.2.2.1,aH.inb aO h.2.2.2⟩
theorem kU{α:Type}{R:Rep α}{w:World}{ok:nP}{v:Value}{l:List α}(h:aH R w ok v l):v.oneCell'=true:=by
 obtain⟨a,c,rfl,_⟩:=h.slice;rfl
theorem bM:Firm yG 5:={
 aCT:=fun⟨vt,vc,vo,e,h⟩ b=>⟨vt,vc,vo,e,h.aCT b⟩
 more:=fun⟨vt,vc,vo,e,h⟩ c=>⟨vt,vc,vo,e,h.more c⟩
 len:=fun⟨vt,vc,vo,e,h⟩=>by rw[e];rfl
 one:=fun⟨vt,vc,vo,e,h⟩=>by
  intro v a;rw[e] at a;simp only[List.mem_cons,List.not_mem_nil,or_false] at a
  rcases a with rfl|rfl|rfl|rfl|rfl
  .rfl
  .rfl
  .exact kU h.2.1
  .exact kU h.2.2.1
  .exact kU h.2.2.2
 inb:=fun⟨vt,vc,vo,e,h⟩=>⟨vt,vc,vo,e,h.inb⟩}
def pZ:Nat->Rep Po
 |0=>fun _ _ _ _=>False
 |n+1=>fun w ok cs p=>∃vt vr vk vo,cs=[.string p.id,.bool p.set,.int .i64 p.alg,vt,vr,vk,vo]/\p.id.size<=cQ/\bK p.alg/\nZ w ok vt p.aCU/\aH yG w ok vr p.aCM/\aH (pZ n) w ok vk p.aCY/\aH jU w ok vo p.aC0
def fM(n:Nat)(w:World)(ok:nP)(p:Po)(vt vr vk vo:Value):Prop:=p.id.size<=cQ/\bK p.alg/\nZ w ok vt p.aCU/\aH yG w ok vr p.aCM/\aH (pZ n) w ok vk p.aCY/\aH jU w ok vo p.aC0
theorem bB:∀n,Firm (pZ n) 7
 |0=>⟨fun h=>h.elim,fun h=>h.elim,fun h=>h.elim,fun h=>h.elim,fun h=>h.elim⟩
 |n+1=>by
  have F:=bB n;refine⟨?_,?_,?_,?_,?_⟩
  .rintro w w' ok cs x ⟨vt,vr,vk,vo,e,h1,h2,h3,h4,h5,h6⟩ a;exact⟨vt,vr,vk,vo,e,h1,h2,aH.aCT aS h3 a,aH.aCT bM h4 a,aH.aCT F h5 a,aH.aCT aO h6 a⟩
  .rintro w ok ok' cs x ⟨vt,vr,vk,vo,e,h1,h2,h3,h4,h5,h6⟩ b;exact⟨vt,vr,vk,vo,e,h1,h2,aH.more aS h3 b,aH.more bM h4 b,aH.more F h5 b,aH.more aO h6 b⟩
  .rintro w ok cs x ⟨vt,vr,vk,vo,e,h⟩;rw[e];rfl
  .rintro w ok cs x ⟨vt,vr,vk,vo,e,h1,h2,h3,h4,h5,h6⟩ v c;rw[e] at c;simp only[List.mem_cons,List.not_mem_nil,or_false] at c
   rcases c with rfl|rfl|rfl|rfl|rfl|rfl|rfl
   .rfl
   .rfl
   .rfl
   .exact kU h3
   .exact kU h4
   .exact kU h5
   .exact kU h6
  .rintro w ok cs x ⟨vt,vr,vk,vo,e,h1,h2,h3,h4,h5,h6⟩;exact⟨vt,vr,vk,vo,e,h1,h2,aH.inb aS h3,aH.inb bM h4,aH.inb F h5,aH.inb aO h6⟩
def PoV(n:Nat)(w:World)(ok:nP)(v:Value)(p:Po):Prop:=∃vt vr vk vo,v=.agg #[.string p.id,.bool p.set,.int .i64 p.alg,vt,vr,vk,vo]/\fM n w ok p vt vr vk vo
theorem fM.aCT{n:Nat}{w w':World}{ok:nP}{p:Po}{vt vr vk vo:Value}(h:fM n w ok p vt vr vk vo)(a:aN ok w w'):fM n w' ok p vt vr vk vo:=
 ⟨h.1,h.2.1,aH.aCT aS h.2.2.1 a,aH.aCT bM h.2.2.2.1 a,aH.aCT (bB n) h.2.2.2.2.1 a,aH.aCT aO h.2.2.2.2.2 a⟩
theorem fM.inb{n:Nat}{w:World}{ok:nP}{p:Po}{vt vr vk vo:Value}(h:fM n w ok p vt vr vk vo):fM n w (fun b=>ok b/\b<w.heap.size) p vt vr vk vo:=
 ⟨h.1,h.2.1,aH.inb aS h.2.2.1,aH.inb bM h.2.2.2.1,aH.inb (bB n) h.2.2.2.2.1,aH.inb aO h.2.2.2.2.2⟩
theorem fM.more{n:Nat}{w:World}{ok ok':nP}{p:Po}{vt vr vk vo:Value}(h:fM n w ok p vt vr vk vo)(a:∀b,ok b->ok' b):fM n w ok' p vt vr vk vo:=
 ⟨h.1,h.2.1,aH.more aS h.2.2.1 a,aH.more bM h.2.2.2.1 a,aH.more (bB n) h.2.2.2.2.1 a,aH.more aO h.2.2.2.2.2 a⟩
theorem Qy{p:Prop}(h:p:=by
 split
 .exact h1.trans (BR _ _ h1.lt)
 .exact h1):p:=h
theorem NS{p:Prop}(h:p:=by
 have h7:=fY T yD h6.lt;exact h15.trans (h6.trans (h7.trans (uV T h7.lt)))):p:=h
structure Toks (L:List Tok):Prop where
 len:L.length<=5000
 last:∀i t,L[i]? =some t->t.aCJ≠7->i+1<L.length
 size:∀t∈L,t.str.size<=4096
 num:∀t∈L,bK t.num
 place:∀t∈L,0<=t.at_/\t.at_<=4096
 aCJ:∀t∈L,1<=t.aCJ/\t.aCJ<=7
def eQ(L:List Tok)(p:PS):V3×PS:=
 let t:=aU L p
 if t.aCJ=2 then ((2,t.num,t.str),p)
 else if t.aCJ=3 then ((4,t.num,t.str),p)
 else if t.aCJ=4 then ((5,t.num,t.str),p)
 else if t.aCJ=5 then ((3,t.num,t.str),p)
 else if cL L (str "true") p then ((1,1,ByteArray.empty),p)
 else if cL L (str "false") p then ((1,0,ByteArray.empty),p)
 else ((0,t.num,t.str),dM L p)
structure dL (L:List Tok) (p p':PS):Prop where
 le:p.at_<=p'.at_
 lt:p'.at_<L.length
 aCM:p.aCM<=p'.aCM
 aDt:p.aCM<=64->p'.aCM<=64
section
variable {L:List Tok} (T:Toks L)
theorem dL.refl{p:PS}(h:p.at_<L.length):dL L p p:=⟨lR _,h,lR _,id⟩
theorem dL.trans{p q r:PS}(h:dL L p q)(k:dL L q r):dL L p r:=⟨lT h.le k.le,k.lt,lT h.aCM k.aCM,fun x=>k.aDt (h.aDt x)⟩
theorem EF{p:PS}(h:p.at_<L.length):aU L p=L[p.at_]:=by
 unfold aU;rw[gE h];rfl
theorem ID(e pl:Int)(p:PS):(eO e pl p).at_=p.at_/\(eO e pl p).aCM=p.aCM:=by
 unfold eO;split<;>exact⟨rfl,rfl⟩
theorem lO(e pl:Int)(he:e≠0)(p:PS):(eO e pl p).bad≠0:=by
 unfold eO;split
 .exact he
 .assumption
theorem BR(e pl:Int){p:PS}(h:p.at_<L.length):dL L p (eO e pl p):=by
 have:=ID e pl p;exact⟨qo,qo,qo,qo⟩
theorem rO{p:PS}(h:p.at_<L.length):dL L p (dM L p):=BR _ _ h
theorem kP(b:Bool){p:PS}(h:p.at_<L.length):dL L p (cR L b p):=by
 unfold cR;split
 .exact BR _ _ h
 .exact dL.refl h
include T
theorem Tg{p:PS}(h:p.at_<L.length)(a:(aU L p).aCJ≠7):p.at_+1<L.length:=T.last p.at_ _ (by rw[gE h]) (by rwa [EF h] at a)
theorem zF{p:PS}(h:p.at_<L.length)(a:(aU L p).aCJ≠7):dL L p {p with at_:=p.at_+1}:=⟨Nat.le_succ _,Tg T h a,lR _,id⟩
omit T in
theorem lG{s:bY}{p:PS}(h:cL L s p=true):p.bad=0/\(aU L p).str=s/\((aU L p).aCJ=1\/(aU L p).aCJ=6):=by
 unfold cL at h;rw[Bool.and_eq_true,Bool.and_eq_true,Bool.or_eq_true,decide_eq_true_eq,decide_eq_true_eq,decide_eq_true_eq,decide_eq_true_eq] at h;exact⟨h.1,h.2.1,h.2.2⟩
theorem fO{s:bY}{p:PS}(h:p.at_<L.length)(a:cL L s p=true):dL L p {p with at_:=p.at_+1}:=zF T h (qA ((lG a).2.2))
theorem SA(s:bY){p:PS}(h:p.at_<L.length):dL L p (kL L s p).2:=by
 unfold kL;split
 .exact fO T h (by assumption)
 .exact dL.refl h
theorem fY(s:bY){p:PS}(h:p.at_<L.length):dL L p (eH L s p):=by
 unfold eH;split
 .exact fO T h (by assumption)
 .exact rO h
theorem jC{p:PS}(h:p.at_<L.length):dL L p (bT L p).2:=by
 unfold bT;dsimp only;by_cases a:(aU L p).aCJ≠1
 .rw[iP a,iP (show (dM L p).bad≠0 from lO 5 _ qe _)];exact rO h
 .rw[iN a];split
  .exact dL.refl h
  .exact zF T h qo
theorem dR(words:List ByteArray){p:PS}(h:p.at_<L.length):dL L p (aZ L words p).2:=by
 unfold aZ;dsimp only;split
 .rename_i a;exact zF T h qo
 .exact rO h
theorem nI{p:PS}(h:p.at_<L.length):dL L p (cE L p).2:=by
 unfold cE;dsimp only;have h1:=dR T [str "subject",str "action",str "case",str "env"] h;have h2:=fY T (str ".") h1.lt;have h3:=jC T h2.lt;have h4:=SA T (str "!") h3.lt;exact h1.trans (h2.trans (h3.trans h4))
omit T in
theorem zG(L:List Tok)(p:PS):cY L p=if (eQ L p).2.bad≠0 then (bD,(eQ L p).2) else ((eQ L p).1,{(eQ L p).2 with at_:=(eQ L p).2.at_+1}):=rfl
omit T in
theorem Ay{p:PS}(h:p.at_<L.length):dL L p (eQ L p).2/\((eQ L p).2.bad=0->(eQ L p).2=p/\(aU L p).aCJ≠7):=by
 unfold eQ;dsimp only;split
 .exact⟨dL.refl h,fun _=>⟨rfl,qo⟩⟩
 split
 .exact⟨dL.refl h,fun _=>⟨rfl,qo⟩⟩
 split
 .exact⟨dL.refl h,fun _=>⟨rfl,qo⟩⟩
 split
 .exact⟨dL.refl h,fun _=>⟨rfl,qo⟩⟩
 split
 .rename_i a;exact⟨dL.refl h,fun _=>⟨rfl,qA ((lG a).2.2)⟩⟩
 split
 .rename_i a;exact⟨dL.refl h,fun _=>⟨rfl,qA ((lG a).2.2)⟩⟩
 .exact⟨rO h,fun b=>absurd b (lO _ _ qe _)⟩
theorem wQ{p:PS}(h:p.at_<L.length):dL L p (cY L p).2:=by
 rw[zG];have h1:=Ay (L:=L) h;by_cases a:(eQ L p).2.bad≠0
 .rw[iP a];exact h1.1
 .rw[iN a];obtain⟨e,b⟩:=h1.2 (by simpa using a);rw[e];exact zF T h b
theorem yH{p:PS}(h:p.at_<L.length):dL L p (sH L p).2:=by
 unfold sH
 repeat' split
 .exact fO T h (by assumption)
 .exact fO T h (by assumption)
 .exact fO T h (by assumption)
 .exact rO h
theorem BS{p:PS}(h:p.at_<L.length):dL L p (eD L p).2:=by
 unfold eD;dsimp only;have h1:=nI T h;have h2:=yH T h1.lt;have h3:=wQ T h2.lt;exact h1.trans (h2.trans h3)
theorem vQ{α:Type}{one:PS->α×PS}(a:∀{p:PS},p.at_<L.length->dL L p (one p).2)(sep:bY):∀(f:Nat) (l:List α) {p:PS},p.at_<L.length->dL L p (jS L one sep f l p).2
 |0,l,p,h=>dL.refl h
 |f+1,l,p,h=>by
  unfold jS;split
  .rename_i b;have h1:=fO T h b;have h2:=a h1.lt;have h3:=kP (decide (8<(l++[(one {p with at_:=p.at_+1}).1]).length)) h2.lt;exact h1.trans (h2.trans (h3.trans (vQ a sep f _ h3.lt)))
  .exact dL.refl h
theorem MA{p:PS}(h:p.at_<L.length):dL L p (iX L p).2:=by
 unfold iX;dsimp only;have h1:=BS T h;exact h1.trans (vQ T (BS T) _ _ _ h1.lt)
theorem MB{p:PS}(h:p.at_<L.length):dL L p (mC L p).2:=by
 unfold mC;dsimp only;have h0:=fY T (str "(") h;have h1:=MA T h0.lt;have h2:=vQ T (MA T) (str "or") L.length [(iX L (eH L (str "(") p)).1] h1.lt;exact h0.trans (h1.trans (h2.trans (fY T _ h2.lt)))
theorem lP{p:PS}(h:p.at_<L.length):dL L p (bU L p).2:=by
 unfold bU;split
 .rename_i a;dsimp only;have h0:=fO T h a;have h1:=MB T h0.lt;exact h0.trans (h1.trans (vQ T (MB T) _ _ _ h1.lt))
 .exact dL.refl h
theorem IE{p:PS}(h:p.at_<L.length):dL L p (tI L p).2:=by
 unfold tI;dsimp only;have h1:=dR T [str "permit",str "deny"] h;have h2:=dR T [str "log",str "redact",str "review",str "notify"] h1.lt;have h3:=jC T h2.lt;exact h1.trans (h2.trans h3)
theorem uV{p:PS}(h:p.at_<L.length):dL L p (gL L p).2:=vQ T (IE T) _ _ _ h
def dC(L:List Tok)(f:Nat)(acc:List No×PS)(must:Bool):List No×PS:=
 if acc.2.bad≠0 then acc else
  ((eW L f acc.1 acc.2).1.1,if (eW L f acc.1 acc.2).1.2≠must then eO 5 (aU L acc.2).at_ (eW L f acc.1 acc.2).2 else (eW L f acc.1 acc.2).2)
theorem zH:∀(f:Nat) (l:List No) {p:PS},p.at_<L.length->dL L p (eW L f l p).2
 |0,l,p,h=>by unfold eW;exact dL.refl h
 |f+1,l,p,h=>by
  have c:∀{l:List No} {p:PS} (must:Bool),p.at_<L.length->dL L p (dC L f (l,p) must).2:=by
   intro l p must h;unfold dC;dsimp only;split
   .exact dL.refl h
   .have h1:=zH f l h;exact Qy
  have b:∀(ms:List Bool) {l:List No} {p:PS},p.at_<L.length->dL L p (ms.foldl (dC L f) (l,p)).2:=by
   intro ms
   induction ms with
   |nil=>intro l p h;exact dL.refl h
   |cons m ms d=>
    intro l p h;have h1:=c (l:=l) m h;exact h1.trans (d h1.lt)
  unfold eW;dsimp only;by_cases a:cL L (str "(") p=true
  .rw[iP a];have h0:=fO T h a;have h1:=dR T eB h0.lt;have h2:=b (fK (2+(aZ L eB {p with at_:=p.at_+1}).1)) (l:=l) h1.lt;have h3:=fY T (str ")") h2.lt;exact h0.trans (h1.trans (h2.trans (h3.trans (kP _ h3.lt))))
  .rw[iN a];split
   .have h1:=nI T h;exact h1.trans (kP _ h1.lt)
   .have h1:=wQ T h;exact h1.trans (kP _ h1.lt)
theorem FH(l:List No)(must:Bool){p:PS}(h:p.at_<L.length):dL L p (jA L l must p).2:=by
 unfold jA;dsimp only;have h1:=zH T L.length l h;exact Qy
theorem IF(deny:Bool){p:PS}(h:p.at_<L.length):dL L p (kM L deny p).2:=by
 unfold kM;dsimp only;have h1:=jC T h;have h2:=lP T h1.lt;have h3:dL L (bU L (bT L p).2).2 (if cL L (str "if") (bU L (bT L p).2).2=true then jA L [] false {(bU L (bT L p).2).2 with at_:=(bU L (bT L p).2).2.at_+1} else ([],(bU L (bT L p).2).2)).2:=by
  split
  .rename_i a;have h0:=fO T h2.lt a;exact h0.trans (FH T _ _ h0.lt)
  .exact dL.refl h2.lt
 have h4:=uV T h3.lt;exact h1.trans (h2.trans (h3.trans (h4.trans (fY T _ h4.lt))))
omit T in
theorem Az{b:Bool}{p:PS}(h:(cR L b p).bad=0):b=false/\cR L b p=p:=by
 cases b
 .exact⟨rfl,by unfold cR;rw[iN qe]⟩
 .unfold cR at h;rw[iP rfl] at h;exact absurd h (lO _ _ qe _)
theorem sQ:∀(f:Nat) (l:List Ru) {p:PS},p.at_<L.length->dL L p (iH L f l p).2
 |0,l,p,h=>by unfold iH;exact dL.refl h
 |f+1,l,p,h=>by
  unfold iH;split
  .rename_i a;dsimp only;split
   .exact kP _ h
   .rename_i d;obtain⟨b,hp⟩:=Az (by simpa using d);rw[hp];have h0:dL L p {p with at_:=p.at_+1}:=by
     rw[Bool.or_eq_true] at a
     rcases a with a|a
     .exact fO T h a
     .exact fO T h a
    have c:p.aCM≠64:=by
     intro c;rw[c] at b;simp at b
    have h1:dL L p {p with aCM:=p.aCM+1,at_:=p.at_+1}:=⟨h0.le,h0.lt,Nat.le_succ _,fun x=>by show p.aCM+1<=64;omega⟩;have h2:=IF T (cL L (str "deny") p) h1.lt;exact h1.trans (h2.trans (sQ f _ h2.lt))
  .exact dL.refl h
omit T in
theorem qQ{one:PS->Po×PS}(a:∀{p:PS},p.at_<L.length->dL L p (one p).2)(deep:Bool):∀(f:Nat) (l:List Po) {p:PS},p.at_<L.length->dL L p (gM L one deep f l p).2
 |0,l,p,h=>by unfold gM;exact dL.refl h
 |f+1,l,p,h=>by
  unfold gM;split
  .dsimp only;split
   .exact kP _ h
   .have h0:=kP (L:=L) (decide (l.length=16)||deep) h;have h1:=a h0.lt;exact h0.trans (h1.trans (qQ a deep f _ h1.lt))
  .exact dL.refl h
theorem rP:∀(n:Nat) {p:PS},p.at_<L.length->dL L p (cO L n p).2:=by
 intro n
 induction n with
 |zero=>
  intro p h;unfold cO;dsimp only;have h1:=dR T [str "policy",str "set"] h;have h2:=jC T h1.lt;have h3:=dR T dE h2.lt;have h4:=lP T h3.lt;have h5:=fY T qX h4.lt;have h15:=h1.trans (h2.trans (h3.trans (h4.trans h5)));by_cases a:decide ((aZ L [str "policy",str "set"] p).1=2)=true
  .rw[iP a];have h6:=qQ (one:=fun q=>(mB,q)) (fun h=>dL.refl h) true L.length [] h5.lt;exact NS
  .rw[iN a];have h6:=sQ T L.length [] h5.lt;exact NS
 |succ n b=>
  intro p h;unfold cO;dsimp only;have h1:=dR T [str "policy",str "set"] h;have h2:=jC T h1.lt;have h3:=dR T dE h2.lt;have h4:=lP T h3.lt;have h5:=fY T qX h4.lt;have h15:=h1.trans (h2.trans (h3.trans (h4.trans h5)));by_cases a:decide ((aZ L [str "policy",str "set"] p).1=2)=true
  .rw[iP a];have h6:=qQ (one:=cO L n) b false L.length [] h5.lt;exact NS
  .rw[iN a];have h6:=sQ T L.length [] h5.lt;exact NS
end
theorem aC{a w w':World}(h:Below a.heap.size a w)(k:Below w.heap.size w w'):Below a.heap.size a w':=h.trans (k.mono h.size)
theorem qB{a w w2:World}(h:Hid (Below a.heap.size a w))(k:Below w.heap.size w w2):Hid (Below a.heap.size a w2):=aA (aC h.o k)
theorem fI{B:Nat}{a w w':World}(h:Below B a w)(k:jQ w w'):Below B a w':=by
 obtain⟨n,rfl⟩:=k;exact⟨h.os,h.tape,h.output,h.size,h.block⟩
theorem aB(w:World)(o:Obj):Below w.heap.size w (w.alloc o):=(Below.refl _ _).alloc (lR _) _
theorem vR(w:World)(cs:Array Value)(t:TypeId)(fr:Nat×Nat)(i:Nat)(v:Value)(h:cs[i]? =some v):(w.alloc (.cells cs t fr)).cell? ⟨w.heap.size,i,none⟩=some v:=by
 unfold World.cell?;rw[heap_alloc_new];simpa using h
theorem QCj{p:Prop}(h:p:=by
 have HB:=aA hb1;clear HH hb1;go_wp2_with fail;refine(HW.o).mono ?_;rintro e w2 ⟨rfl,h2,k2⟩;go_wp2;go_returns;exact⟨rfl,h2,(aJ HB.o).trans k2⟩):p:=h
theorem Fm{α:Type}{a0 a a2 a3:α}{l:List α}{p:Nat->α->Prop}(h:∀j x,(a0::a::a2::a3::l)[j]? =some x->p j x):p 0 a0/\p 1 a/\p 2 a2/\p 3 a3:=⟨h 0 _ rfl,h 1 _ rfl,h 2 _ rfl,h 3 _ rfl⟩
theorem qL{P:Program}{id:Nat}{Q:Exit->Act->World->Prop}{a:Act}{w:World}{l:List Oper}(n:Nat)(hm:P.follows .mixedOrders=true)(c:Region.lexTailB .any l.toArray n=true)
 (h:wpStill P l.toArray w.drew (fun b=>wpList P l.toArray Q (l.drop n) b w.drew) (l.take n) a):(Code.region id l.toArray true).wp P Q a w:=wp_region_still_tail n hm c h
def PW(L:List Tok)(w:World)(g:Nat)(p:PS):Prop:=
 ∃A c,w.heap[g]? =some (.cells #[.slice A L.length c,.int .i64 p.at_,.int .i64 p.aCM,.int .i64 p.bad,.int .i64 p.place] 155 (0,0))/\aH RZ w (fun b=>b<g) (.slice A L.length c) L
theorem PW.lt{L:List Tok}{w:World}{g:Nat}{p:PS}(h:PW L w g p):g<w.heap.size:=by
 obtain⟨A,c,h1,_⟩:=h;exact(Array.getElem?_eq_some_iff.1 h1).1
theorem PW.on{L:List Tok}{w w':World}{g:Nat}{p:PS}(h:PW L w g p)(a:Below w.heap.size w w'):PW L w' g p:=by
 have b:=h.lt;obtain⟨A,c,h1,h2⟩:=h;exact⟨A,c,by rw[a.block g b];exact h1,h2.on gX a⟩
theorem PW.aCT{L:List Tok}{w w':World}{g:Nat}{p:PS}{ok:nP}(h:PW L w g p)(a:aN ok w w')(d:∀b,b<=g->ok b):PW L w' g p:=by
 have e:=h.lt;obtain⟨A,c,h1,h2⟩:=h;exact⟨A,c,by rw[a.block g e (d g (lR _))];exact h1,h2.aCT gX (a.mono fun k _ h=>d k (by have:k<g:=h;omega))⟩
theorem PW.set{L:List Tok}{w:World}{g:Nat}{p:PS}(h:PW L w g p){b i:Nat}{v:Value}(c:g<b):PW L (w.setCell ⟨b,i,none⟩ v) g p:=
 h.aCT (ok:=fun x=>x≠b) ⟨rfl,rfl,rfl,by simp[World.setCell],fun k d a=>Below.heap_setCell _ _ _ _ a⟩ (fun x e=>by show x≠b;omega)
theorem PW.cells{L:List Tok}{w:World}{g:Nat}{p:PS}(h:PW L w g p):∃A c,w.cell? ⟨g,0,none⟩=some (.slice A L.length c)/\w.cell? ⟨g,1,none⟩=some (.int .i64 p.at_)/\w.cell? ⟨g,2,none⟩=some (.int .i64 p.aCM)/\w.cell? ⟨g,3,none⟩=some (.int .i64 p.bad)/\w.cell? ⟨g,4,none⟩=some (.int .i64 p.place)/\aH RZ w (fun b=>b<g) (.slice A L.length c) L:=by
 obtain⟨A,c,h1,h2⟩:=h;exact⟨A,c,by simp[World.cell?,h1],by simp[World.cell?,h1],by simp[World.cell?,h1],by simp[World.cell?,h1],by simp[World.cell?,h1],h2⟩
theorem PW.free{L:List Tok}{w:World}{g:Nat}{p:PS}(h:PW L w g p)(i:Nat):w.frozen? ⟨g,i,none⟩=false:=by
 obtain⟨A,c,h1,_⟩:=h;simp[World.frozen?,h1]
def cW(B g:Nat)(w w':World):Prop:=aN (fun b=>b<B/\b≠g) w w'
theorem cW.aC1{B g:Nat}{a w w':World}(h:cW B g a w)(k:aN (fun b=>b≠g) w w'):cW B g a w':=aN.trans h (k.mono fun _ _ h=>h.2)
theorem cW.set{B g:Nat}{a w:World}(h:cW B g a w){b i:Nat}{v:Value}(d:B<=b):cW B g a (w.setCell ⟨b,i,none⟩ v):=
 aN.trans h ⟨rfl,rfl,rfl,by simp[World.setCell],fun k e c=>Below.heap_setCell _ _ _ _ (by have:=c.1;simp only;omega)⟩
theorem cW.new{B g:Nat}{a w w':World}(h:cW B g a w)(k:Below w.heap.size w w'):cW B g a w':=aN.trans h (aJ k)
theorem cW.end{g:Nat}{w w':World}(h:cW w.heap.size g w w'):aN (fun b=>b≠g) w w':=aN.mono h fun k a h=>⟨a,h⟩
theorem aF{ok:nP}{w w':World}{b:Nat}{o:Obj}(h:w.heap[b]? =some o)(k:aN ok w w')(a:ok b):w'.heap[b]? =some o:=by
 rw[k.block b (Array.getElem?_eq_some_iff.1 h).1 a];exact h
theorem qS{ok:nP}{w w2:World}{b:Nat}{o:Obj}(h:Hid (w.heap[b]? =some o))(k:aN ok w w2)(a:ok b):Hid (w2.heap[b]? =some o):=aA (aF h.o k a)
theorem aE{w w':World}{b:Nat}{o:Obj}(h:w.heap[b]? =some o)(k:Below w.heap.size w w'):w'.heap[b]? =some o:=by
 rw[k.block b (Array.getElem?_eq_some_iff.1 h).1];exact h
theorem qK{w w2:World}{b:Nat}{o:Obj}(h:Hid (w.heap[b]? =some o))(k:Below w.heap.size w w2):Hid (w2.heap[b]? =some o):=aA (aE h.o k)
theorem bE{w:World}{b b' i:Nat}{v:Value}{o:Obj}(h:w.heap[b]? =some o)(a:b≠b'):(w.setCell ⟨b',i,none⟩ v).heap[b]? =some o:=by
 rw[Below.heap_setCell _ _ _ _ a];exact h
theorem aD{w:World}{b:Nat}{o:Obj}(h:w.heap[b]? =some o):b<w.heap.size:=(Array.getElem?_eq_some_iff.1 h).1
def aP(v:Value)(w:World)(e:Ending)(w':World):Prop:=e=.returned v/\Below w.heap.size w w'
theorem gH{L:List Tok}{p:PS}(hp:p.at_<L.length)(f:L.length<=5000)(g:Nat)(w:World)(h:PW L w g p):
 Calls prog 79 #[.pointer (some ⟨g,0,none⟩)] w (aP (gY (aU L p)) w):=by
 rw[EF hp];have j:=h.lt;obtain⟨A,c,c0,c1,_,_,_,d⟩:=h.cells;obtain⟨b,off,r,rfl,_,i,⟨rfl,_⟩,a⟩:=aH.at gX d hp qe;obtain⟨e,l,m,n⟩:=Fm a;rw[Nat.add_zero] at e;have i0:(0:Int)<=(p.at_:Int):=qo;have k:(p.at_:Int)<(L.length:Int):=qo;clear a d h;unfold aP;unfold gY;generalize L[p.at_]=t at *;go_enter func79,ntmps79;go_wp2;refine qL 10 (by kernel_rfl) (by kernel_rfl) ?_;simp only[List.take_succ_cons,List.take_zero,List.drop_succ_cons,List.drop_zero]
 repeat still_step
 refine wpStill_nil ?_;go_wp2;go_returns;exact⟨rfl,((Below.refl _ _).alloc (lR _) _).drew⟩
def eR(L:List Tok)(g:Nat)(w:World)(v:Value)(p':PS)(e:Ending)(w':World):Prop:=e=.returned v/\PW L w' g p'/\aN (fun b=>b≠g) w w'
theorem aG{w:World}{g:Nat}{cs:Array Value}{t:TypeId}{m:Nat×Nat}(h:w.heap[g]? =some (.cells cs t m))(i:Nat)(v:Value):(w.setCell ⟨g,i,none⟩ v).heap[g]? =some (.cells (cs.setIfInBounds i v) t m):=by
 simp only[World.setCell,Array.getElem?_modify,h];simp
theorem aI{w:World}{g i:Nat}(v:Value):aN (fun b=>b≠g) w (w.setCell ⟨g,i,none⟩ v):=⟨rfl,rfl,rfl,by simp[World.setCell],fun k c a=>Below.heap_setCell _ _ _ _ a⟩
theorem PW.stay{L:List Tok}{w w':World}{g:Nat}{p p':PS}(h:PW L w g p)(d:aN (fun b=>b≠g) w w')(a:∀A c,w.heap[g]? =some (.cells #[.slice A L.length c,.int .i64 p.at_,.int .i64 p.aCM,.int .i64 p.bad,.int .i64 p.place] 155 (0,0))->w'.heap[g]? =some (.cells #[.slice A L.length c,.int .i64 p'.at_,.int .i64 p'.aCM,.int .i64 p'.bad,.int .i64 p'.place] 155 (0,0))):PW L w' g p':=by
 obtain⟨A,c,h1,h2⟩:=h;exact⟨A,c,a A c h1,h2.aCT gX (d.mono fun k _ h=>by show k≠g;have:k<g:=h;omega)⟩
theorem tS{L:List Tok}{p:PS}(e pl:Int)(g:Nat)(w:World)(h:PW L w g p):
 Calls prog 82 #[.pointer (some ⟨g,0,none⟩),.int .i64 e,.int .i64 pl] w (eR L g w (.tuple #[]) (eO e pl p)):=by
 have f:=h.lt;obtain⟨A,c,c0,c1,c2,c3,c4,b⟩:=h.cells;have H:=aA h;have f3:=h.free 3;have f4:=h.free 4;unfold eR;unfold eO;clear h b;by_cases a:p.bad=0
 .rw[iP a];rw[a] at c3;clear a;go_enter func82,ntmps82;go_wp2;go_returns;refine⟨rfl,H.o.stay ((aI _).trans (aI _)) fun A c h=> ?_,(aI _).trans (aI _)⟩;rw[aG (aG h 3 _) 4 _];rfl
 .rw[iN a];have d:(p.bad==0)=false:=bN.2 a;clear a;go_enter func82,ntmps82;go_wp2;go_returns;exact⟨rfl,H.o,aN.refl _ _⟩
theorem SB(a b c:Int)(s:bY)(w:World):(Instr.field 104 (.agg #[.int .i64 a,.int .i64 b,.int .i64 c,.string s]) 1).run prog w=.ok (.int .i64 b) w:=by kernel_rfl
theorem aP.aC1{L:List Tok}{p:PS}{g:Nat}{w:World}{v:Value}{e:Ending}{w':World}(h:aP v w e w')(hp:PW L w g p):eR L g w v p e w':=⟨h.1,hp.on h.2,aJ h.2⟩
theorem lQ{L:List Tok}{p:PS}(hp:p.at_<L.length)(a:L.length<=5000)(g:Nat)(w:World)(h:PW L w g p):
 Calls prog 80 #[.pointer (some ⟨g,0,none⟩)] w (eR L g w (.tuple #[]) (dM L p)):=by
 have HH:=aA (gH hp a g w h);have H:=aA h;clear h;unfold eR dM;unfold gY at HH;generalize aU L p=t at *;go_enter func80,ntmps80;have b:=SB t.aCJ t.at_ t.num t.str;go_wp2_with fail;refine(HH.o).mono ?_;rintro e w1 ⟨rfl,hb1⟩;have HW:=aA (tS 5 t.at_ g w1 (H.o.on hb1));exact QCj
theorem kQ{L:List Tok}{p:PS}(more:Bool)(hp:p.at_<L.length)(a:L.length<=5000)(g:Nat)(w:World)(h:PW L w g p):
 Calls prog 191 #[.pointer (some ⟨g,0,none⟩),.bool more] w (eR L g w (.tuple #[]) (cR L more p)):=by
 have HH:=aA (gH hp a g w h);have H:=aA h;clear h;unfold eR cR;unfold gY at HH;generalize aU L p=t at *
 cases more
 .rw[iN qe];go_enter func191,ntmps191;go_wp2;go_returns;exact⟨rfl,H.o,aN.refl _ _⟩
 .rw[iP rfl];go_enter func191,ntmps191;have b:=SB t.aCJ t.at_ t.num t.str;go_wp2_with fail;refine(HH.o).mono ?_;rintro e w1 ⟨rfl,hb1⟩;have HW:=aA (tS 6 t.at_ g w1 (H.o.on hb1));exact QCj
section
open Go.ChangeShapes Go.WideShapes Go.ChangeAt Go.Deep
open Go.ChangeMaps (open_string shut_string)
def Qz(v:V3):Value×Value×Value:=(.int .i64 v.1,.int .i64 v.2.1,.string v.2.2)
def Fo(l:List V3):List Value:=pY (l.map Qz)
structure Gm where
 cat:Int
 name:ByteArray
 at_:Option Addr
 cap:Nat
 bag:List V3
def Gm.gv(x:Gm):Gv:=(x.cat,x.name,x.bag)
def Ra(x:Gm):Value×Value×Value:=(.int .i64 x.cat,.string x.name,.slice x.at_ x.bag.length x.cap)
def Wp(l:List Gm):List Value:=pY (l.map Ra)
def VOk(v:V3):Prop:=bK v.1/\bK v.2.1/\v.2.2.size<=maxLen
def FJ(w:World)(B:Nat)(x:Gm):Prop:=bK x.cat/\x.name.size<=maxLen/\x.bag.length<=x.cap/\x.cap<=maxLen/\Sl w B x.at_ (Fo x.bag)/\∀v∈x.bag,VOk v
def wS(w:World)(B:Nat)(a:oD)(l:List Gm):Prop:=Sl w B a (Wp l)/\∀x∈l,FJ w B x
theorem FJ.below{w w':World}{B:Nat}{x:Gm}(h:FJ w B x)(a:Below B w w'):FJ w' B x:=⟨h.1,h.2.1,h.2.2.1,h.2.2.2.1,h.2.2.2.2.1.below a,h.2.2.2.2.2⟩
theorem FJ.more{w:World}{B a:Nat}{x:Gm}(h:FJ w B x)(b:B<=a):FJ w a x:=⟨h.1,h.2.1,h.2.2.1,h.2.2.2.1,h.2.2.2.2.1.more b,h.2.2.2.2.2⟩
theorem wS.below{w w':World}{B:Nat}{a:oD}{l:List Gm}(h:wS w B a l)(b:Below B w w'):wS w' B a l:=⟨h.1.below b,fun x c=>(h.2 x c).below b⟩
theorem wS.more{w:World}{B b:Nat}{a:oD}{l:List Gm}(h:wS w B a l)(c:B<=b):wS w b a l:=⟨h.1.more c,fun x d=>(h.2 x d).more c⟩
theorem wS.on{w w':World}{a:oD}{l:List Gm}(h:wS w w.heap.size a l)(b:Below w.heap.size w w'):wS w' w'.heap.size a l:=(h.below b).more b.size
theorem FJ.on{w w':World}{x:Gm}(h:FJ w w.heap.size x)(a:Below w.heap.size w w'):FJ w' w'.heap.size x:=(h.below a).more a.size
theorem Sl.on{w w':World}{a:oD}{xs:List Value}(h:Sl w w.heap.size a xs)(b:Below w.heap.size w w'):Sl w' w'.heap.size a xs:=(h.below b).more b.size
theorem QJ{α:Type}(f:α->Value×Value×Value){l:List α}{i:Nat}(a:i<l.length):
 (pY (l.map f))[i * 3]? =some (f l[i]).1/\(pY (l.map f))[i * 3+1]? =some (f l[i]).2.1/\(pY (l.map f))[i * 3+2]? =some (f l[i]).2.2:=
 NR (l.map f) i (f l[i]) (by rw[List.getElem?_map,gE a];rfl)
theorem Sl.three{α:Type}(f:α->Value×Value×Value){w:World}{B:Nat}{a:oD}{l:List α}{i:Nat}(h:Sl w B a (pY (l.map f)))(g:i<l.length):
 ∃b off,a=some ⟨b,off,none⟩/\b<B/\w.cell? ⟨b,off+i * 3,none⟩=some (f l[i]).1/\w.cell? ⟨b,off+i * 3+1,none⟩=some (f l[i]).2.1/\w.cell? ⟨b,off+i * 3+2,none⟩=some (f l[i]).2.2:=by
 obtain⟨h1,h2,h3⟩:=QJ f g;obtain⟨b,off,e,d,c⟩:=h (fun he=>by rw[he] at h1;simp at h1);refine⟨b,off,e,d,c _ _ h1,?_,?_⟩
 .rw[Nat.add_assoc];exact c _ _ h2
 .rw[Nat.add_assoc];exact c _ _ h3
theorem Sl.val{w:World}{B:Nat}{a:oD}{l:List V3}{i:Nat}(h:Sl w B a (Fo l))(c:i<l.length):
 ∃b off,a=some ⟨b,off,none⟩/\b<B/\w.cell? ⟨b,off+i * 3,none⟩=some (.int .i64 l[i].1)/\w.cell? ⟨b,off+i * 3+1,none⟩=some (.int .i64 l[i].2.1)/\w.cell? ⟨b,off+i * 3+2,none⟩=some (.string l[i].2.2):=Sl.three Qz h c
theorem wS.at{w:World}{B:Nat}{a:oD}{l:List Gm}{i:Nat}(h:wS w B a l)(c:i<l.length):
 ∃b off,a=some ⟨b,off,none⟩/\b<B/\w.cell? ⟨b,off+i * 3,none⟩=some (.int .i64 l[i].cat)/\w.cell? ⟨b,off+i * 3+1,none⟩=some (.string l[i].name)/\w.cell? ⟨b,off+i * 3+2,none⟩=some (.slice l[i].at_ l[i].bag.length l[i].cap):=Sl.three Ra h.1 c
theorem wS.nil{w:World}{B:Nat}{a:oD}:wS w B a []:=⟨Sl.nil,fun _ h=>absurd h qs⟩
section
variable {H:Type} {enc:TypeId×Value->H} {P:Program} {W:World} {sp:Nat->Bool} {held:Bool}
variable {tg tv tb:TypeId} {g0 g1 g2 v0 v1 v2:Field}
end
end
theorem Wq{p:Prop}(h:p:=by
 clear HR;go_wp2;go_round
 case rel=>exact⟨k+1,qo,by go_num,HG⟩
 case measure=>simp[intOf];omega):p:=h
theorem YV{p:Prop}(h:p:=by
 go_wp2;go_ret;exact⟨by rw[HF.o];rfl,rfl⟩):p:=h
theorem NT{p:Prop}(h:p:=by
 go_wp2;go_ret;exact⟨by rw[HG.o];rfl,rfl⟩):p:=h
theorem NU(s:bY)(k:Nat)(h:k<s.size):vP (decide (k=0)) (s.data.toList.drop k)=(AY (decide (k=0)) s[k]&&vP false (s.data.toList.drop (k+1))):=by
 rw[List.drop_eq_getElem_cons (by simpa using h)];rfl
theorem Ba(c:UInt8):(97<=(c.toNat:Int)/\(c.toNat:Int)<=122)\/(48<=(c.toNat:Int)/\(c.toNat:Int)<=57)\/(c.toNat:Int)=95\/((((c.toNat:Int)<97\/122<(c.toNat:Int))/\((c.toNat:Int)<48\/57<(c.toNat:Int)))/\(c.toNat:Int)≠95):=qo
theorem Zh(f:Bool)(c:UInt8)(h:97<=(c.toNat:Int)/\(c.toNat:Int)<=122):AY f c=true:=by
 unfold AY;simp only[Bool.or_eq_true,Bool.and_eq_true,decide_eq_true_eq];exact .inl qo
theorem Rb(c:UInt8)(h:(48<=(c.toNat:Int)/\(c.toNat:Int)<=57)\/(c.toNat:Int)=95):AY false c=true:=by
 unfold AY;simp only[Bool.or_eq_true,Bool.and_eq_true,decide_eq_true_eq,Bool.not_false,true_and];exact .inr qo
theorem Rc(c:UInt8)(h:¬(97<=(c.toNat:Int)/\(c.toNat:Int)<=122)):AY true c=false:=by
 unfold AY;rw[Bool.eq_false_iff];simp only[ne_eq,Bool.or_eq_true,Bool.and_eq_true,decide_eq_true_eq,Bool.not_true,Bool.false_eq_true,false_and,or_false];omega
theorem Zi(f:Bool)(c:UInt8)(h:(((c.toNat:Int)<97\/122<(c.toNat:Int))/\((c.toNat:Int)<48\/57<(c.toNat:Int)))/\(c.toNat:Int)≠95):AY f c=false:=by
 unfold AY;rw[Bool.eq_false_iff];simp only[ne_eq,Bool.or_eq_true,Bool.and_eq_true,decide_eq_true_eq];omega
def pH(s:bY)(k:Nat):Prop:=vP true s.data.toList=vP (decide (k=0)) (s.data.toList.drop k)
theorem MC{s:bY}{k:Nat}(h:k<s.size)(b:pH s k)(a:AY (decide (k=0)) s[k]=true):pH s (k+1):=by
 unfold pH at *;rw[b,NU s k h,a];rfl
theorem BU{s:bY}{k:Nat}(h:k<s.size)(a:pH s k)(b:AY (decide (k=0)) s[k]=false):eK s=false:=by
 unfold pH at a;unfold eK;rw[a,NU s k h,b];rfl
theorem Mn{s:bY}(a:pH s s.size):eK s=(decide (1<=s.size)&&decide (s.size<=16)):=by
 unfold pH at a;unfold eK;rw[a,List.drop_of_length_le qs,vP];rfl
theorem qZ{s:bY}(h:s.size=0):s.toList=[]/\(!s.toList.isEmpty)=false/\s.toList.isEmpty=true:=by
 have e:s.toList=[]:=by
  rw[ByteArray.toList_eq];exact List.eq_nil_of_length_eq_zero (by simpa using h)
 rw[e];exact⟨rfl,rfl,rfl⟩
theorem rA{s:bY}(h:1<=s.size):(¬s.toList=[])/\(!s.toList.isEmpty)=true/\s.toList.isEmpty=false:=by
 have e:¬s.toList=[]:=by
  rw[ByteArray.toList_eq];intro h0;have:s.data.toList.length=0:=by rw[h0];rfl
  have h2:s.data.toList.length=s.size:=by simp
  omega
 refine⟨e,?_,?_⟩
 .rcases h:s.toList with _|⟨x,l⟩
  .exact absurd h e
  .rfl
 .rcases h:s.toList with _|⟨x,l⟩
  .exact absurd h e
  .rfl
theorem oP(s:bY)(j:s.size<=maxLen)(w:World):
 Calls prog 37 #[.string s] w fun e w'=>e=.returned (.bool (eK s))/\w=w':=by
 unfold maxLen at j;go_enter func37,ntmps37;go_wp2;go_loop [9] (fun i=>∃k:Nat,k<=s.size/\i=.int .i64 k/\Hid (pH s k)) (fun i=>s.size - (intOf i).toNat)
 case atStart=>exact⟨0,qo,rfl,aA (by unfold pH;rfl)⟩
 case round=>
  obtain⟨k,l,rfl,HR⟩:=hrel;by_cases b:k<s.size
  .rcases Ba s[k] with ⟨h1,h2⟩|h|h|⟨⟨h1,h2⟩,h3⟩
   .have HG:=aA (MC b HR.o (Zh _ _ ⟨h1,h2⟩));exact Wq
   .have g:¬97<=(s[k].toNat:Int):=qo;obtain⟨h1,h2⟩:=h
    rcases Nat.eq_zero_or_pos k with rfl|h0
    .have HG:=aA (BU b HR.o (Rc _ qo));clear HR;exact NT
    .have HG:=aA (MC b HR.o (by rw[dF qo];exact Rb _ (.inl ⟨h1,h2⟩)));exact Wq
   .have g:¬97<=(s[k].toNat:Int):=qo;have m:¬(s[k].toNat:Int)<=57:=qo
    rcases Nat.eq_zero_or_pos k with rfl|h0
    .have HG:=aA (BU b HR.o (Rc _ qo));clear HR;exact NT
    .have HG:=aA (MC b HR.o (by rw[dF qo];exact Rb _ (.inr h)));exact Wq
   .have HG:=aA (BU b HR.o (Zi _ _ ⟨⟨h1,h2⟩,h3⟩));have h95:((s[k].toNat:Int)==95)=false:=bN.2 h3;clear HR
    rcases h1 with h1|h1<;>rcases h2 with h2|h2
    .rcases Nat.eq_zero_or_pos k with rfl|h0
     .exact NT
     .exact NT
    .have h57:decide ((s[k].toNat:Int)<=57)=false:=dF qo
     rcases Nat.eq_zero_or_pos k with rfl|h0
     .exact NT
     .exact NT
    .exfalso;omega
    .have h57:decide ((s[k].toNat:Int)<=57)=false:=dF qo;have h122:decide ((s[k].toNat:Int)<=122)=false:=dF qo
     rcases Nat.eq_zero_or_pos k with rfl|h0
     .exact NT
     .exact NT
  .obtain rfl:k=s.size:=qo;have a:=aA (Mn HR.o);clear HR
   rcases Nat.eq_zero_or_pos s.size with h0|h0
   .obtain⟨c,d,f⟩:=qZ h0;have HF:Hid (eK s=false):=aA (by rw[a.o,h0];rfl);clear a h0;exact YV
   .obtain⟨c,d,f⟩:=rA h0;by_cases h16:s.size<=16
    .have HF:Hid (eK s=true):=aA (by rw[a.o,dX h16,dX (show 1<=s.size from h0)];rfl);have d16:decide ((s.size:Int)<=16)=true:=dX qo;clear a;exact YV
    .have HF:Hid (eK s=false):=aA (by rw[a.o,dF h16,Bool.and_false]);have d16:decide ((s.size:Int)<=16)=false:=dF qo;clear a;exact YV
theorem uQ{p:Prop}(h:p:=by
 go_enter func40,ntmps40;go_wp2;go_ret;exact⟨by rw[HF.o];rfl,aB _ _⟩):p:=h
theorem tT{s:bY}:s.size=0\/1<=s.size:=qo
def lD(v:Value)(w:World)(e:Ending)(w':World):Prop:=e=.returned v/\Below w.heap.size w w'
theorem Th{v:V3}(h:v.1=1):aT v=((decide (v.2.1=0)||decide (v.2.1=1))&&decide (v.2.2.size=0)):=by unfold aT;rw[iP h]
theorem Ti{v:V3}(h:v.1=2):aT v=decide (v.2.2.size=0):=by unfold aT;rw[iN qo,iP h]
theorem Tj{v:V3}(h:v.1=3):aT v=(decide (v.2.1=0)&&decide (v.2.2.size<=64)):=by unfold aT;rw[iN qo,iN qo,iP h]
theorem Tk{v:V3}(h:v.1=4):aT v=((decide (0<=v.2.1)&&decide (v.2.1<=1099511627776))&&decide (v.2.2.size=0)):=by unfold aT;rw[iN qo,iN qo,iN qo,iP h]
theorem Tl{v:V3}(h:v.1=5):aT v=(decide (v.2.1=0)&&eK v.2.2):=by unfold aT;rw[iN qo,iN qo,iN qo,iN qo,iP h]
theorem Tm{v:V3}(h:v.1≠1/\v.1≠2/\v.1≠3/\v.1≠4/\v.1≠5):aT v=false:=by unfold aT;rw[iN qo,iN qo,iN qo,iN qo,iN qo]
theorem nJ(k n:Int)(s:bY)(q:s.size<=maxLen)(w:World):
 Calls prog 40 #[.agg #[.int .i64 k,.int .i64 n,.string s]] w (lD (.bool (aT (k,n,s))) w):=by
 unfold maxLen at q;unfold lD;by_cases j:k=1
 .have a:=aA (Th (v:=(k,n,s)) j);simp only at a;subst j;by_cases b:n=0
  .have b0:(n==0)=true:=bQ.2 b
   rcases tT (s:=s) with z|z
   .obtain⟨f,g,i⟩:=qZ z;have HF:Hid (aT (1,n,s)=true):=aA (by rw[a.o,dX b,dX z];rfl);clear a b z;exact uQ
   .obtain⟨f,g,i⟩:=rA z;have HF:Hid (aT (1,n,s)=false):=aA (by rw[a.o,dF (show ¬s.size=0 by omega),Bool.and_false]);clear a b z;exact uQ
  .have b0:(n==0)=false:=bN.2 b;by_cases c:n=1
   .have b1:(n==1)=true:=bQ.2 c
    rcases tT (s:=s) with z|z
    .obtain⟨f,g,i⟩:=qZ z;have HF:Hid (aT (1,n,s)=true):=aA (by rw[a.o,dX c,dX z,Bool.or_true];rfl);clear a b c z;exact uQ
    .obtain⟨f,g,i⟩:=rA z;have HF:Hid (aT (1,n,s)=false):=aA (by rw[a.o,dF (show ¬s.size=0 by omega),Bool.and_false]);clear a b c z;exact uQ
   .have b1:(n==1)=false:=bN.2 c;have HF:Hid (aT (1,n,s)=false):=aA (by rw[a.o,dF b,dF c];rfl);clear a;exact uQ
 by_cases l:k=2
 .have a:=aA (Ti (v:=(k,n,s)) l);simp only at a;subst l
  rcases tT (s:=s) with z|z
  .obtain⟨f,g,i⟩:=qZ z;have HF:Hid (aT (2,n,s)=true):=aA (by rw[a.o,dX z]);clear a z;exact uQ
  .obtain⟨f,g,i⟩:=rA z;have HF:Hid (aT (2,n,s)=false):=aA (by rw[a.o,dF (show ¬s.size=0 by omega)]);clear a z;exact uQ
 by_cases m:k=3
 .have a:=aA (Tj (v:=(k,n,s)) m);simp only at a;subst m;by_cases b:n=0
  .have b0:(n==0)=true:=bQ.2 b;by_cases z:s.size<=64
   .have HF:Hid (aT (3,n,s)=true):=aA (by rw[a.o,dX b,dX z];rfl);have d:decide ((s.size:Int)<=64)=true:=dX qo;clear a b z;exact uQ
   .have HF:Hid (aT (3,n,s)=false):=aA (by rw[a.o,dF z,Bool.and_false]);have d:decide ((s.size:Int)<=64)=false:=dF qo;clear a b z;exact uQ
  .have b0:(n==0)=false:=bN.2 b;have HF:Hid (aT (3,n,s)=false):=aA (by rw[a.o,dF b];rfl);clear a;exact uQ
 by_cases o:k=4
 .have a:=aA (Tk (v:=(k,n,s)) o);simp only at a;subst o;by_cases b:0<=n
  .have b0:decide (0<=n)=true:=dX b;by_cases c:n<=1099511627776
   .have b1:decide (n<=1099511627776)=true:=dX c
    rcases tT (s:=s) with z|z
    .obtain⟨f,g,i⟩:=qZ z;have HF:Hid (aT (4,n,s)=true):=aA (by rw[a.o,b0,b1,dX z];rfl);clear a z;exact uQ
    .obtain⟨f,g,i⟩:=rA z;have HF:Hid (aT (4,n,s)=false):=aA (by rw[a.o,dF (show ¬s.size=0 by omega),Bool.and_false]);clear a z;exact uQ
   .have b1:decide (n<=1099511627776)=false:=dF c;have HF:Hid (aT (4,n,s)=false):=aA (by rw[a.o,b1,Bool.and_false];rfl);clear a;exact uQ
  .have b0:decide (0<=n)=false:=dF b;have HF:Hid (aT (4,n,s)=false):=aA (by rw[a.o,b0];rfl);clear a;exact uQ
 by_cases p:k=5
 .have a:=aA (Tl (v:=(k,n,s)) p);simp only at a;subst p;by_cases b:n=0
  .have b0:(n==0)=true:=bQ.2 b;have HF:Hid (aT (5,n,s)=eK s):=aA (by rw[a.o,dX b];rfl);clear a b;go_enter func40,ntmps40;go_wp2_with (go_at_call 37;refine(oP s (by unfold maxLen;omega) _).mono ?_;rintro e w' ⟨rfl,rfl⟩)
   go_ret;exact⟨by rw[HF.o];rfl,aB _ _⟩
  .have b0:(n==0)=false:=bN.2 b;have HF:Hid (aT (5,n,s)=false):=aA (by rw[a.o,dF b];rfl);clear a;exact uQ
 have HF:Hid (aT (k,n,s)=false):=aA (Tm (v:=(k,n,s)) ⟨j,l,m,o,p⟩);exact uQ
structure In (C:World->Prop) where
 w:World
 h:C w
theorem BV{P:Program}{C:World->Prop}{id:Nat}{Q:Exit->Act->World->Prop}{a:Act}{w:World}{l:List Oper}(hm:P.follows .mixedOrders=true)(c:Region.lexB .any l.toArray=true)(hC:C w.drew)
 (h:wpQuiet P l.toArray (fun w'=>∃p:In C,w'=p.w) (fun b=>∀w',C w'->Q .normal b w') l a):(Code.region id l.toArray true).wp P Q a w:=by
 refine wp_region_quiet (C:=fun w'=>∃p:In C,w'=p.w) hm c ⟨⟨w.drew,hC⟩,rfl⟩ ?_;have e:(fun b=>∀w',(∃p:In C,w'=p.w)->Q .normal b w')=fun b=>∀w',C w'->Q .normal b w':=by
  funext b
  exact propext ⟨fun g w' d=>g w' ⟨⟨w',d⟩,rfl⟩,fun g w' ⟨p,hp⟩=>hp▸g p.w p.h⟩
 rw[e];simpa using h
theorem in_call{P:Program}{C:World->Prop}{p:In C}{f:FuncId}{args:Array Value}{v:Value}(h:∀w',C w'->Calls P f args w' fun e a=>e=.returned v/\C a):
 Calls P f args p.w fun e a=>e=.returned v/\∃q:In C,a=q.w:=
 (h p.w p.h).mono fun _ a k=>⟨k.1,⟨a,k.2⟩,rfl⟩
def AZ(w:World)(w':World):Prop:=Below w.heap.size w w'
theorem SC(w:World):AZ w w.drew:=(Below.refl _ _).drew
instance(w:World):Nonempty (In (AZ w)):=⟨⟨w,Below.refl _ _⟩⟩
theorem BC{p:Prop}(h:p:=by
 exact⟨0,qo,rfl,aA (fun i _ h=>absurd h qo),aA (Below.refl _ _)⟩):p:=h
theorem Wr{p:Prop}(h:p:=by
 rw[iN qe];intro i hi h
 rcases Nat.lt_or_ge i k with h1|h1
 .exact HR.o i hi h1
 .obtain rfl:i=k:=qo;exact hg):p:=h
theorem Ws{p:Prop}(h:p:=by
 have HF:=aA (HL.o false rfl);clear HL;go_wp2;go_roundw
 case rel=>exact⟨k+1,qo,by go_num,aA (by have:=HF.o;rwa [iN qe] at this),HB'⟩
 case measure=>simp[intOf];omega):p:=h
theorem jD(a b:bY):(a.toList==b.toList)=decide (a=b):=by
 rw[Bool.eq_iff_iff,bQ,decide_eq_true_eq,ByteArray.toList_eq,ByteArray.toList_eq];constructor
 .intro h;exact ByteArray.ext (Array.toList_inj.1 h)
 .rintro rfl;rfl
theorem Mo(x:Gm)(C:Int)(N:bY)(p q:Nat)(w:World)(hp:w.cell? ⟨p,0,none⟩=some (.int .i64 C))(b:w.cell? ⟨q,0,none⟩=some (.string N))(a:p<w.heap.size)(c:q<w.heap.size):
 Calls prog 279 #[.agg #[.int .i64 x.cat,.string x.name,.slice x.at_ x.bag.length x.cap],.pointer (some ⟨p,0,none⟩),.pointer (some ⟨q,0,none⟩)] w (lD (.bool (mL C N x.gv)) w):=by
 unfold lD;have h1:p≠w.heap.size:=qo;have h2:q≠w.heap.size:=qo;go_enter func279,ntmps279;go_wp2
 .rename_i h;go_ret;refine⟨?_,aB _ _⟩;show Ending.returned (.bool (x.name.toList==N.toList))=_;rw[jD];unfold mL Gm.gv;rw[dX h];rfl
 .rename_i h;go_ret;refine⟨?_,aB _ _⟩;show Ending.returned (.bool false)=_;unfold mL Gm.gv;rw[dF h];rfl
def BW(l:List Gm):List Gv:=l.map Gm.gv
theorem vH(l:List Gm):(BW l).length=l.length:=by unfold BW;simp
theorem SD(l:List Gm)(i:Nat)(h:i<l.length):(BW l)[i]'(by rw[vH];exact h)=l[i].gv:=by unfold BW;simp
theorem Fp{l:List Gm}{C:Int}{N:bY}{k:Nat}(a:k<l.length)(c:∀i (b:i<l.length),i<k->mL C N l[i].gv=false)(h:mL C N l[k].gv=true):mN (BW l) C N=(k:Int):=by
 have e:mM (BW l) C N=k:=Wm (by rw[vH];exact a) (by rw[SD l k a];exact h) (fun i b=>by rw[SD l i qo];exact c i qo b);unfold mN;rw[e,iP (by rw[vH];exact a)]
theorem Bb{l:List Gm}{C:Int}{N:bY}(b:∀i (a:i<l.length),i<l.length->mL C N l[i].gv=false):mN (BW l) C N= -1:=by
 have e:mM (BW l) C N=(BW l).length:=Ml (fun i a=>by rw[SD l i (by rw[vH] at a;exact a)];exact b i (by rw[vH] at a;exact a) (by rw[vH] at a;exact a));unfold mN;rw[e,iN qo]
theorem NV(a:oD)(c n:Nat)(l:List Gm)(B:l.length=n)(C:Int)(N:bY)(p q:Nat)(w:World)(A:l.length<=maxLen)(v:wS w w.heap.size a l)(hp:w.cell? ⟨p,0,none⟩=some (.int .i64 C))(t:w.cell? ⟨q,0,none⟩=some (.string N))(j:p<w.heap.size)(m:q<w.heap.size):
 Calls prog 278 #[.slice a n c,.func (.func 279) #[] #[.pointer (some ⟨p,0,none⟩),.pointer (some ⟨q,0,none⟩)]] w (lD (.int .i64 (mN (BW l) C N)) w):=by
 subst B;unfold maxLen at A;unfold lD;have z:=aA v;have y:=aA (fun wr (d:Below w.heap.size w wr)=>(⟨(d.cell (p:=⟨p,0,none⟩) j).trans hp,(d.cell (p:=⟨q,0,none⟩) m).trans t,lL j d.size,lL m d.size⟩:wr.cell? ⟨p,0,none⟩=some (.int .i64 C)/\wr.cell? ⟨q,0,none⟩=some (.string N)/\p<wr.heap.size/\q<wr.heap.size));clear v hp t j m;go_enter func278,ntmps278;go_wp2;go_loopw [5,8] (fun _ i wr=>∃k:Nat,k<=l.length/\i=.int .i64 k/\Hid (∀i (hi:i<l.length),i<k->mL C N l[i].gv=false)/\Hid (Below w.heap.size w wr)) (fun _ i _=>l.length - (intOf i).toNat)
 case atStart=>exact BC
 case round=>
  obtain⟨k,D,rfl,HR,f⟩:=hrel;by_cases s:k<l.length
  .obtain⟨b,off,rfl,d,F,G,H⟩:=(z.o.below f.o).at s;obtain⟨c1,c2,c3,c4⟩:=y.o wr f.o;have o:=aA (Mo l[k] C N p q wr c1 c2 c3 c4);have HL:Hid (∀g,mL C N l[k].gv=g->((if g=true then mN (BW l) C N=(k:Int) else ∀i (hi:i<l.length),i<k+1->mL C N l[i].gv=false):Prop)):=aA (fun g hg=>by
    cases g
    .exact Wr
    .rw[iP rfl];exact Fp s HR.o hg)
   clear c1 c2 c3 c4 HR;generalize E:l[k]=x at *;generalize mL C N x.gv=g at *;go_wp2_with fail;refine o.o.mono ?_;rintro e w' ⟨rfl,r⟩;have HB':=qB f r;clear o r
   cases g
   .exact Ws
   .have HF:=aA (HL.o true rfl);clear HL;go_wp2;go_ret;exact⟨by have:=HF.o;rw[iP trivial] at this;rw[this];rfl,HB'.o⟩
  .obtain rfl:k=l.length:=qo;have HF:=aA (Bb HR.o);clear HR;go_wp2;go_ret;exact⟨by rw[HF.o];rfl,f.o⟩
theorem Fq(w:World)(u v:Value)(t s:TypeId):((w.alloc (.cells #[u] t)).alloc (.cells #[v] s)).cell? ⟨w.heap.size,0,none⟩=some u/\((w.alloc (.cells #[u] t)).alloc (.cells #[v] s)).cell? ⟨w.heap.size+1,0,none⟩=some v/\w.heap.size<((w.alloc (.cells #[u] t)).alloc (.cells #[v] s)).heap.size/\w.heap.size+1<((w.alloc (.cells #[u] t)).alloc (.cells #[v] s)).heap.size/\
 Below w.heap.size w ((w.alloc (.cells #[u] t)).alloc (.cells #[v] s)):=by
 have a:Below w.heap.size w ((w.alloc (.cells #[u] t)).alloc (.cells #[v] s)):=aC (aB w _) (aB _ _);have b:(w.alloc (.cells #[u] t)).heap.size=w.heap.size+1:=by simp
 refine⟨?_,?_,by simp;omega,qs,a⟩
 .exact((aB (w.alloc (.cells #[u] t)) (.cells #[v] s)).cell (p:=⟨w.heap.size,0,none⟩) qs).trans (vR w #[u] t _ 0 u rfl)
 .have:=vR (w.alloc (.cells #[u] t)) #[v] s (0,0) 0 v rfl;rwa [b] at this
end Go.Proofs.YtgoanbpcdhmfkaaGreatDoor

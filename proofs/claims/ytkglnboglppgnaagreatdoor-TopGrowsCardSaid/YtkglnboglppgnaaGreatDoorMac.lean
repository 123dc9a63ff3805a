/- Lemmas. -/
import Derived.Test.YtkglnboglppgnaaGreatDoorMab
import Derived.Laws.CopyOwn
import Derived.Deep.OwnRows
import Derived.Deep.QuietTactic
import Derived.BigQuiet
import Derived.LoopN
import Derived.StillTailTactics
namespace Go.Proofs.YtkglnboglppgnaaGreatDoor
open Go.RowKit
set_option linter.unusedVariables false
set_option linter.unusedSimpArgs false
set_option maxHeartbeats 16000000
open _root_.Go.Proofs.Tryz
set_option maxRecDepth 20000
def yI(a:At):Bool:=(decide (1<=a.cat)&&decide (a.cat<=4))&&eN a.name
def sQ(m:Ma):Bool:=yI m.aDs&&(decide (1<=m.op)&&decide (m.op<=3))&&aU m.val
def oH(n:Nat):Int:=if n=0 then 1 else if 8<n then 6 else 0
def gI{α:Type}(f:α->Int):List α->Int
 | []=>0
 |x::l=>if f x≠0 then f x else gI f l
def rI(l:List Ma):Int:=if oH l.length≠0 then oH l.length else gI (fun m=>if sQ m then 0 else 1) l
def rJ(l:List (List Ma)):Int:=if oH l.length≠0 then oH l.length else gI rI l
def eZ(t:Ta):Int:=if 8<t.length then 6 else gI rJ t
def mR(op:Int):Option (List Bool):=
 if op=1\/op=2 then some [] else if op=3\/op=4 then some [true] else if op=5 then some [true,false]
 else if op=11 then some [false] else if 6<=op/\op<=13 then some [false,false] else none
def qR(n:No):Bool:=
 if n.op=1 then aU n.val&&decide (n.aDs=uL)
 else if n.op=2 then yI n.aDs&&decide (n.val=bF)
 else decide (n.val=bF)&&decide (n.aDs=uL)
def lC(l:List Bool)(n:No):Option (List Bool):=
 match mR n.op with
 |none=>none
 |some w=>
  if qR n/\w.length<=l.length/\l.drop (l.length - w.length)=w then some (l.take (l.length - w.length)++[decide (n.op=2)]) else none
def iQ:List No->List Bool->Option (List Bool)
 | [],l=>some l
 |n::r,l=>match lC l n with
  |none=>none
  |some a=>iQ r a
def lD(l:List No):Int:=
 if 32<l.length then 6
 else match iQ l [] with
  |none=>1
  |some made=>if 0<l.length/\made≠[false] then 1 else 0
def lE(l:List Ob):Int:=if 8<l.length then 6 else gI (fun o=>if (1<=o.on/\o.on<=2)/\(1<=o.aC3/\o.aC3<=4)/\eN o.arg=true then 0 else 1) l
structure WS where
 met:List ByteArray
 aC6:Nat
def gQ(s:bY)(w:WS):Bool×WS:=if w.met.any (fun t=>decide (t=s))=true\/eN s=false then (false,w) else (true,{w with met:=s::w.met})
def fU(r:Ru)(w:WS):Int×WS:=
 let (ok,w1):=gQ r.id w
 if ok=false then (1,w1)
 else
  let w2:={w1 with aC6:=w1.aC6+1}
  if 64<w2.aC6 then (6,w2)
  else if eZ r.aDe≠0 then (eZ r.aDe,w2)
  else if lD r.cond≠0 then (lD r.cond,w2)
  else (lE r.aDj,w2)
def fK(p:Po)(w:WS):Int×WS:=
 let (ok,w1):=gQ p.id w
 if ok=false\/p.alg<1\/6<p.alg then (1,w1)
 else if (p.set=true/\p.aC6≠[])\/(p.set=false/\(0<p.aDh.length\/p.alg=4)) then (1,w1)
 else if eZ p.aDe≠0 then (eZ p.aDe,w1)
 else if lE p.aDj≠0 then (lE p.aDj,w1)
 else if 16<p.aC6.length\/16<p.aDh.length then (6,w1)
 else (0,w1)
def jE{α:Type}(f:α->WS->Int×WS):List α->WS->Int×WS
 | [],w=>(0,w)
 |x::l,w=>
  let (e,w1):=f x w
  if e≠0 then (e,w1) else jE f l w1
def eP:Nat->Po->WS->Int×WS
 |0,_,w=>(6,w)
 |n+1,p,w=>
  let (e,w1):=fK p w
  if e≠0 then (e,w1)
  else
   let (e2,w2):=jE fU p.aC6 w1
   if e2≠0 then (e2,w2) else jE (eP n) p.aDh w2
def fO(p:Po):Int:=(eP 4 p ⟨[],0⟩).1
def fG(S:bY):Po×Int×Int:=
 let (l,e,place):=jP S.data.toList
 if e≠0 then (mD,e,place)
 else
  let (out,p):=cT l 3 ⟨0,0,0,0⟩
  let a:=if (aW l p).aC3≠7 then dN l p else p
  let b:=if a.bad=0/\fO out≠0 then eQ 5 S.size a else a
  if b.bad≠0 then (mD,b.bad,b.place) else (out,0,0)
def kE:Int:= -9223372036854775808
def lH:Int:=9223372036854775807
def jW(a b:V3):Bool×Int:=
 if aU a=false\/aU b=false then (false,1)
 else if a.1≠b.1\/a.1=1 then (false,2)
 else if a.1=3\/a.1=5 then (decide (a.2.2.toList<b.2.2.toList),0)
 else (decide (a.2.1<b.2.1),0)
def kF(m:Ma)(v:V3):Bool×Int:=
 if m.op=1 then (if v.1≠m.val.1 then (false,2) else (decide (v=m.val),0))
 else if m.op=2 then jW v m.val
 else jW m.val v
def rK(g:List Gv)(a:At):List V3×Int:=if zH g a.cat a.name=[]/\a.aDB=true then ([],4) else (zH g a.cat a.name,0)
def mF(m:Ma):List V3->Nat->Nat
 | [],out=>out
 |v::l,out=>if (kF m v).1 then 2 else mF m l (if (kF m v).2≠0 then 1 else out)
def oP(g:List Gv)(m:Ma):Nat:=if (rK g m.aDs).2≠0 then 1 else mF m (rK g m.aDs).1 0
def zI(g:List Gv)(l:List Ma):Nat:=l.foldl (fun out m=>min out (oP g m)) 2
def xS(g:List Gv)(t:Ta):Nat:=t.foldl (fun out l=>min out (l.foldl (fun a x=>max a (zI g x)) 0)) 2
structure It where
 bag:List V3
 val:V3
 err:Int
deriving DecidableEq
def cK(b:Bool):V3:=(1,if b then 1 else 0,ByteArray.empty)
def jK(v:V3)(e:Int):It:=⟨[],v,e⟩
def It.is(x:It)(n:Int):Bool:=decide (x.err=0)&&decide (x.val=(1,n,ByteArray.empty))
def sR(a b:Int):Int×Int:=if kE<=a+b/\a+b<=lH then (a+b,0) else (0,3)
def sS(a b:Int):Int×Int:=if kE<=a - b/\a - b<=lH then (a - b,0) else (0,3)
def mG(a b:Int):Int×Int:=if kE<=a * b/\a * b<=lH then (a * b,0) else (0,3)
def eG(f:Int->Int->Int×Int)(a b:V3):V3×Int:=
 if a.1≠2\/b.1≠2 then (bF,2) else if (f a.2.1 b.2.1).2≠0 then (bF,(f a.2.1 b.2.1).2) else ((2,(f a.2.1 b.2.1).1,ByteArray.empty),0)
def nV(op:Int)(a:V3):V3×Int:=if aU a=false then (bF,1) else if a.1≠1 then (bF,2) else (cK (decide (a.2.1=0)),0)
def dL(op:Int)(a b:V3):V3×Int:=
 if aU a=false\/aU b=false then (bF,1)
 else if op=6 then (if a.1≠b.1 then (bF,2) else (cK (decide (a=b)),0))
 else if op=7 then (if (jW a b).2≠0 then (bF,(jW a b).2) else (cK (jW a b).1,0))
 else if op=8 then eG sR a b
 else if op=9 then eG sS a b
 else if op=10 then eG mG a b
 else if a.1≠1\/b.1≠1 then (bF,2)
 else if op=12 then (cK (decide (a.2.1=1)&&decide (b.2.1=1)),0)
 else (cK (decide (a.2.1=1)||decide (b.2.1=1)),0)
def iR(g:List Gv)(n:No)(l:List It):It:=
 match l with
 | []=>if n.op=1 then jK n.val 0 else ⟨(rK g n.aDs).1,bF,(rK g n.aDs).2⟩
 | [a]=>
   if a.err≠0 then jK bF a.err
   else if n.op=3 then (match a.bag with | [v]=>jK v 0|_=>jK bF 4)
   else if n.op=4 then jK (2,a.bag.length,ByteArray.empty) 0
   else jK (nV n.op a.val).1 (nV n.op a.val).2
 |a::b::_=>
  if (n.op=12\/n.op=13)/\(a.is (n.op - 12)\/b.is (n.op - 12)) then jK (cK (decide (n.op=13))) 0
  else if a.err≠0 then jK bF a.err
  else if b.err≠0 then jK bF b.err
  else if n.op=5 then jK (cK (a.bag.any (fun v=>decide (v=b.val)))) 0
  else jK (dL n.op a.val b.val).1 (dL n.op a.val b.val).2
def jM(op:Int):Nat:=if op=1\/op=2 then 0 else if op=3\/op=4\/op=11 then 1 else 2
def zJ(g:List Gv):List No->List It->List It
 | [],st=>st
 |n::r,st=>zJ g r (st.take (st.length - jM n.op)++[iR g n (st.drop (st.length - jM n.op))])
def nW(g:List Gv)(l:List No):V3×Int:=
 if l=[]\/lD l≠0 then (bF,1) else match zJ g l [] with |x::_=>(x.val,x.err)| []=>(bF,1)
def tK(g:List Gv)(l:List No):Nat:=
 if l=[] then 2
 else
  let x:=jK (nW g l).1 (nW g l).2
  if x.is 1 then 2 else if x.is 0 then 0 else 1
abbrev Mk:=Nat×Nat
def tS(m:Mk):Mk:=if m=(4,0) then (2,0) else if m=(0,4) then (0,2) else m
def gR(l:List Ob)(m:Mk):List Ob:=l.filter (fun o=>(decide (o.on=1)&&decide (m=(4,0)))||(decide (o.on=2)&&decide (m=(0,4))))
def EK(r:Ru)(t c:Nat):Mk×List Ob:=
 let m:Mk:=if r.aDE then (0,4) else (4,0)
 if t=0\/(t=2/\c=0) then ((0,0),[])
 else if t=1\/c=1 then (tS m,[])
 else (m,gR r.aDj m)
def iE(g:List Gv)(r:Ru):Mk×List Ob:=EK r (xS g r.aDe) (tK g r.cond)
def Zx(a b:Mk):Mk:=(max a.1 b.1,max a.2 b.2)
def Bm(m:Mk):Mk:=(m.2,m.1)
def RW(m:Mk):Mk:=
 if m.2=4 then (0,4) else if m.2=2/\2<=m.1 then (2,2) else if m.2=2 then (0,2) else if m.1=4 then (4,0) else if m.1=2 then (2,0) else (0,0)
def Gg(l:List Mk):Mk:=l.foldl Zx (0,0)
def RX(m:Mk):Bool:=decide (m=(0,0))||(decide (m=(4,0))||decide (m=(0,4)))
def EL(j m:Mk):Mk:=if j=(0,0) then m else if m=(0,0) then j else (2,2)
def BZ(l:List Mk):Mk:=(l.find? (fun m=>decide (m≠(0,0)))).getD (0,0)
def RY(l:List Mk):Mk:=if l.all RX then l.foldl EL (0,0) else (2,2)
def qZ(l:List Mk)(m other:Mk):Mk:=if l.any (fun x=>decide (x=other)) then other else m
def CA(alg:Int)(l:List Mk):Mk:=
 if alg=1 then RW (Gg l)
 else if alg=2 then Bm (RW (Bm (Gg l)))
 else if alg=3 then BZ l
 else if alg=4 then RY l
 else if alg=5 then qZ l (0,4) (4,0)
 else if alg=6 then qZ l (4,0) (0,4)
 else (0,0)
def gJ(first:Bool)(m:Mk):List (Mk×List Ob)->List Ob
 | []=>[]
 |x::l=>if x.1≠m then gJ first m l else if first then x.2 else x.2++gJ first m l
def rL(alg:Int)(obls:List Ob)(t:Nat)(parts:List (Mk×List Ob)):Mk×List Ob:=
 let m:=CA alg (parts.map (·.1))
 if t=0 then ((0,0),[])
 else if t=1 then (tS m,[])
 else if m≠(4,0)/\m≠(0,4) then (m,[])
 else (m,gJ (decide (alg=3)) m parts++gR obls m)
def dG(g:List Gv):Nat->Po->Mk×List Ob
 |0,_=>((0,0),[])
 |n+1,p=>
  let t:=xS g p.aDe
  if t=0 then ((0,0),[])
  else rL p.alg p.aDj t (p.aC6.map (iE g)++p.aDh.map (dG g n))
def rM(g:List Gv)(p:Po):(Mk×List Ob)×Int:=if fO p≠0 then (((0,0),[]),1) else (dG g 4 p,0)
def pV(t:Ta):Option Ma:=
 (t.filter (fun l=>decide (l.length=1))).findSome? (fun l=>((l.head?).getD []).find? (fun m=>decide (m.op=1)&& !m.aDs.aDB))
def nX(g:List Gv)(k:Po):Bool:=match pV k.aDe with |none=>true |some m=>decide (oP g m≠0)
def kV(g:List Gv):Nat->Po->Po
 |0,p=>p
 |n+1,p=> .mk p.id p.set p.alg p.aDe p.aC6 ((p.aDh.filter (nX g)).map (kV g n)) p.aDj
def iI(g:List Gv)(p:Po):(Mk×List Ob)×Int:=if fO p≠0 then (((0,0),[]),1) else rM g (kV g 4 p)
def cV:Nat:=1000000
def cZ(v:V3):Prop:=bO v.1/\bO v.2.1/\v.2.2.size<=cV
def IL(v:V3):List Value:=[.int .i64 v.1,.int .i64 v.2.1,.string v.2.2]
def dH(v:V3):Value:= .agg #[.int .i64 v.1,.int .i64 v.2.1,.string v.2.2]
def MJ(t:Tok):Prop:=bO t.aC3/\bO t.at_/\bO t.num/\t.str.size<=cV
def Gh(t:Tok):List Value:=[.int .i64 t.aC3,.int .i64 t.at_,.int .i64 t.num,.string t.str]
def iC(t:Tok):Value:= .agg #[.int .i64 t.aC3,.int .i64 t.at_,.int .i64 t.num,.string t.str]
def CC(a:At):Prop:=bO a.cat/\a.name.size<=cV
def oI(a:At):Value:= .agg #[.int .i64 a.cat,.string a.name,.bool a.aDB]
def tT(m:Ma):Prop:=CC m.aDs/\bO m.op/\cZ m.val
def Bn(m:Ma):List Value:=[.int .i64 m.aDs.cat,.string m.aDs.name,.bool m.aDs.aDB,.int .i64 m.op,.int .i64 m.val.1,.int .i64 m.val.2.1,.string m.val.2.2]
def kQ(m:Ma):Value:= .agg #[.int .i64 m.aDs.cat,.string m.aDs.name,.bool m.aDs.aDB,.int .i64 m.op,.int .i64 m.val.1,.int .i64 m.val.2.1,.string m.val.2.2]
def oQ(n:No):Prop:=bO n.op/\cZ n.val/\CC n.aDs
def Bo(n:No):List Value:=[.int .i64 n.op,.int .i64 n.val.1,.int .i64 n.val.2.1,.string n.val.2.2,.int .i64 n.aDs.cat,.string n.aDs.name,.bool n.aDs.aDB]
def jN(n:No):Value:= .agg #[.int .i64 n.op,.int .i64 n.val.1,.int .i64 n.val.2.1,.string n.val.2.2,.int .i64 n.aDs.cat,.string n.aDs.name,.bool n.aDs.aDB]
def yJ(o:Ob):Prop:=bO o.on/\bO o.aC3/\o.arg.size<=cV
def EM(o:Ob):List Value:=[.int .i64 o.on,.int .i64 o.aC3,.string o.arg]
def VR:Rep V3:=mM IL cZ
def SM:Rep Tok:=mM Gh MJ
def rN:Rep Ma:=mM Bn tT
def JP:Rep No:=mM Bo oQ
def jX:Rep Ob:=mM EM yJ
theorem bJ:Firm VR 3:=gH (fun _=>rfl) (fun x v h=>by simp only[IL,List.mem_cons,List.not_mem_nil,or_false] at h;rcases h with rfl|rfl|rfl<;>rfl)
theorem iB:Firm SM 4:=gH (fun _=>rfl) (fun x v h=>by simp only[Gh,List.mem_cons,List.not_mem_nil,or_false] at h;rcases h with rfl|rfl|rfl|rfl<;>rfl)
theorem eR:Firm rN 7:=gH (fun _=>rfl) (fun x v h=>by simp only[Bn,List.mem_cons,List.not_mem_nil,or_false] at h;rcases h with rfl|rfl|rfl|rfl|rfl|rfl|rfl<;>rfl)
theorem dR:Firm JP 7:=gH (fun _=>rfl) (fun x v h=>by simp only[Bo,List.mem_cons,List.not_mem_nil,or_false] at h;rcases h with rfl|rfl|rfl|rfl|rfl|rfl|rfl<;>rfl)
theorem aQ:Firm jX 3:=gH (fun _=>rfl) (fun x v h=>by simp only[EM,List.mem_cons,List.not_mem_nil,or_false] at h;rcases h with rfl|rfl|rfl<;>rfl)
abbrev oB(w:World)(ok:nP)(v:Value)(t:Ta):Prop:=aI (rows (rows rN)) w ok v t
theorem dP:Firm (rows rN) 1:=rH eR
theorem aT:Firm (rows (rows rN)) 1:=rH dP
def rO(w:World)(ok:nP)(r:Ru)(vt vc vo:Value):Prop:=r.id.size<=cV/\oB w ok vt r.aDe/\aI JP w ok vc r.cond/\aI jX w ok vo r.aDj
def yK:Rep Ru:=fun w ok cs r=>∃vt vc vo,cs=[.string r.id,.bool r.aDE,vt,vc,vo]/\rO w ok r vt vc vo
theorem rO.aDc{w w':World}{ok:nP}{r:Ru}{vt vc vo:Value}(h:rO w ok r vt vc vo)(a:aO ok w w'):rO w' ok r vt vc vo:=⟨h.1,aI.aDc aT h.2.1 a,aI.aDc dR h.2.2.1 a,aI.aDc aQ h.2.2.2 a⟩
theorem rO.more{w:World}{ok ok':nP}{r:Ru}{vt vc vo:Value}(h:rO w ok r vt vc vo)(a:∀b,ok b->ok' b):rO w ok' r vt vc vo:=⟨h.1,aI.more aT h.2.1 a,aI.more dR h.2.2.1 a,aI.more aQ h.2.2.2 a⟩
theorem rO.inb{w:World}{ok:nP}{r:Ru}{vt vc vo:Value}(h:rO w ok r vt vc vo):rO w (fun b=>ok b/\b<w.heap.size) r vt vc vo:=⟨h.1,aI.inb aT h.2.1,aI.inb dR h.2.2.1,aI.inb aQ h.2.2.2⟩
theorem kW{α:Type}{R:Rep α}{w:World}{ok:nP}{v:Value}{l:List α}(h:aI R w ok v l):v.oneCell'=true:=by
 obtain⟨a,c,rfl,_⟩:=h.slice;rfl
theorem bP:Firm yK 5:={
 aDc:=fun⟨vt,vc,vo,e,h⟩ b=>⟨vt,vc,vo,e,h.aDc b⟩
 more:=fun⟨vt,vc,vo,e,h⟩ c=>⟨vt,vc,vo,e,h.more c⟩
 len:=fun⟨vt,vc,vo,e,h⟩=>by rw[e];rfl
 one:=fun⟨vt,vc,vo,e,h⟩=>by
  intro v a;rw[e] at a;simp only[List.mem_cons,List.not_mem_nil,or_false] at a
  rcases a with rfl|rfl|rfl|rfl|rfl
  .rfl
  .rfl
  .exact kW h.2.1
  .exact kW h.2.2.1
  .exact kW h.2.2.2
 inb:=fun⟨vt,vc,vo,e,h⟩=>⟨vt,vc,vo,e,h.inb⟩}
def qE:Nat->Rep Po
 |0=>fun _ _ _ _=>False
 |n+1=>fun w ok cs p=>∃vt vr vk vo,cs=[.string p.id,.bool p.set,.int .i64 p.alg,vt,vr,vk,vo]/\p.id.size<=cV/\bO p.alg/\oB w ok vt p.aDe/\aI yK w ok vr p.aC6/\aI (qE n) w ok vk p.aDh/\aI jX w ok vo p.aDj
def fP(n:Nat)(w:World)(ok:nP)(p:Po)(vt vr vk vo:Value):Prop:=p.id.size<=cV/\bO p.alg/\oB w ok vt p.aDe/\aI yK w ok vr p.aC6/\aI (qE n) w ok vk p.aDh/\aI jX w ok vo p.aDj
theorem bD:∀n,Firm (qE n) 7
 |0=>⟨fun h=>h.elim,fun h=>h.elim,fun h=>h.elim,fun h=>h.elim,fun h=>h.elim⟩
 |n+1=>by
  have F:=bD n;refine⟨?_,?_,?_,?_,?_⟩
  .rintro w w' ok cs x ⟨vt,vr,vk,vo,e,h1,h2,h3,h4,h5,h6⟩ a;exact⟨vt,vr,vk,vo,e,h1,h2,aI.aDc aT h3 a,aI.aDc bP h4 a,aI.aDc F h5 a,aI.aDc aQ h6 a⟩
  .rintro w ok ok' cs x ⟨vt,vr,vk,vo,e,h1,h2,h3,h4,h5,h6⟩ b;exact⟨vt,vr,vk,vo,e,h1,h2,aI.more aT h3 b,aI.more bP h4 b,aI.more F h5 b,aI.more aQ h6 b⟩
  .rintro w ok cs x ⟨vt,vr,vk,vo,e,h⟩;rw[e];rfl
  .rintro w ok cs x ⟨vt,vr,vk,vo,e,h1,h2,h3,h4,h5,h6⟩ v c;rw[e] at c;simp only[List.mem_cons,List.not_mem_nil,or_false] at c
   rcases c with rfl|rfl|rfl|rfl|rfl|rfl|rfl
   .rfl
   .rfl
   .rfl
   .exact kW h3
   .exact kW h4
   .exact kW h5
   .exact kW h6
  .rintro w ok cs x ⟨vt,vr,vk,vo,e,h1,h2,h3,h4,h5,h6⟩;exact⟨vt,vr,vk,vo,e,h1,h2,aI.inb aT h3,aI.inb bP h4,aI.inb F h5,aI.inb aQ h6⟩
def PoV(n:Nat)(w:World)(ok:nP)(v:Value)(p:Po):Prop:=∃vt vr vk vo,v=.agg #[.string p.id,.bool p.set,.int .i64 p.alg,vt,vr,vk,vo]/\fP n w ok p vt vr vk vo
theorem fP.aDc{n:Nat}{w w':World}{ok:nP}{p:Po}{vt vr vk vo:Value}(h:fP n w ok p vt vr vk vo)(a:aO ok w w'):fP n w' ok p vt vr vk vo:=
 ⟨h.1,h.2.1,aI.aDc aT h.2.2.1 a,aI.aDc bP h.2.2.2.1 a,aI.aDc (bD n) h.2.2.2.2.1 a,aI.aDc aQ h.2.2.2.2.2 a⟩
theorem fP.inb{n:Nat}{w:World}{ok:nP}{p:Po}{vt vr vk vo:Value}(h:fP n w ok p vt vr vk vo):fP n w (fun b=>ok b/\b<w.heap.size) p vt vr vk vo:=
 ⟨h.1,h.2.1,aI.inb aT h.2.2.1,aI.inb bP h.2.2.2.1,aI.inb (bD n) h.2.2.2.2.1,aI.inb aQ h.2.2.2.2.2⟩
theorem fP.more{n:Nat}{w:World}{ok ok':nP}{p:Po}{vt vr vk vo:Value}(h:fP n w ok p vt vr vk vo)(a:∀b,ok b->ok' b):fP n w ok' p vt vr vk vo:=
 ⟨h.1,h.2.1,aI.more aT h.2.2.1 a,aI.more bP h.2.2.2.1 a,aI.more (bD n) h.2.2.2.2.1 a,aI.more aQ h.2.2.2.2.2 a⟩
theorem Rt{p:Prop}(h:p:=by
 split
 .exact h1.trans (CD _ _ h1.lt)
 .exact h1):p:=h
theorem OF{p:Prop}(h:p:=by
 have h7:=gC T yH h6.lt;exact h15.trans (h6.trans (h7.trans (uY T h7.lt)))):p:=h
structure Toks (L:List Tok):Prop where
 len:L.length<=5000
 last:∀i t,L[i]? =some t->t.aC3≠7->i+1<L.length
 size:∀t∈L,t.str.size<=4096
 num:∀t∈L,bO t.num
 place:∀t∈L,0<=t.at_/\t.at_<=4096
 aC3:∀t∈L,1<=t.aC3/\t.aC3<=7
def eS(L:List Tok)(p:PS):V3×PS:=
 let t:=aW L p
 if t.aC3=2 then ((2,t.num,t.str),p)
 else if t.aC3=3 then ((4,t.num,t.str),p)
 else if t.aC3=4 then ((5,t.num,t.str),p)
 else if t.aC3=5 then ((3,t.num,t.str),p)
 else if cO L (str "true") p then ((1,1,ByteArray.empty),p)
 else if cO L (str "false") p then ((1,0,ByteArray.empty),p)
 else ((0,t.num,t.str),dN L p)
structure dM (L:List Tok) (p p':PS):Prop where
 le:p.at_<=p'.at_
 lt:p'.at_<L.length
 aC6:p.aC6<=p'.aC6
 aDO:p.aC6<=64->p'.aC6<=64
section
variable {L:List Tok} (T:Toks L)
theorem dM.refl{p:PS}(h:p.at_<L.length):dM L p p:=⟨lR _,h,lR _,id⟩
theorem dM.trans{p q r:PS}(h:dM L p q)(k:dM L q r):dM L p r:=⟨lT h.le k.le,k.lt,lT h.aC6 k.aC6,fun x=>k.aDO (h.aDO x)⟩
theorem EN{p:PS}(h:p.at_<L.length):aW L p=L[p.at_]:=by
 unfold aW;rw[gE h];rfl
theorem IM(e pl:Int)(p:PS):(eQ e pl p).at_=p.at_/\(eQ e pl p).aC6=p.aC6:=by
 unfold eQ;split<;>exact⟨rfl,rfl⟩
theorem lQ(e pl:Int)(he:e≠0)(p:PS):(eQ e pl p).bad≠0:=by
 unfold eQ;split
 .exact he
 .assumption
theorem CD(e pl:Int){p:PS}(h:p.at_<L.length):dM L p (eQ e pl p):=by
 have:=IM e pl p;exact⟨qo,qo,qo,qo⟩
theorem rP{p:PS}(h:p.at_<L.length):dM L p (dN L p):=CD _ _ h
theorem kS(b:Bool){p:PS}(h:p.at_<L.length):dM L p (cW L b p):=by
 unfold cW;split
 .exact CD _ _ h
 .exact dM.refl h
include T
theorem Ua{p:PS}(h:p.at_<L.length)(a:(aW L p).aC3≠7):p.at_+1<L.length:=T.last p.at_ _ (by rw[gE h]) (by rwa [EN h] at a)
theorem zK{p:PS}(h:p.at_<L.length)(a:(aW L p).aC3≠7):dM L p {p with at_:=p.at_+1}:=⟨Nat.le_succ _,Ua T h a,lR _,id⟩
omit T in
theorem lI{s:bY}{p:PS}(h:cO L s p=true):p.bad=0/\(aW L p).str=s/\((aW L p).aC3=1\/(aW L p).aC3=6):=by
 unfold cO at h;rw[Bool.and_eq_true,Bool.and_eq_true,Bool.or_eq_true,decide_eq_true_eq,decide_eq_true_eq,decide_eq_true_eq,decide_eq_true_eq] at h;exact⟨h.1,h.2.1,h.2.2⟩
theorem fR{s:bY}{p:PS}(h:p.at_<L.length)(a:cO L s p=true):dM L p {p with at_:=p.at_+1}:=zK T h (qA ((lI a).2.2))
theorem SN(s:bY){p:PS}(h:p.at_<L.length):dM L p (kO L s p).2:=by
 unfold kO;split
 .exact fR T h (by assumption)
 .exact dM.refl h
theorem gC(s:bY){p:PS}(h:p.at_<L.length):dM L p (eI L s p):=by
 unfold eI;split
 .exact fR T h (by assumption)
 .exact rP h
theorem jF{p:PS}(h:p.at_<L.length):dM L p (bV L p).2:=by
 unfold bV;dsimp only;by_cases a:(aW L p).aC3≠1
 .rw[iP a,iP (show (dN L p).bad≠0 from lQ 5 _ qe _)];exact rP h
 .rw[iN a];split
  .exact dM.refl h
  .exact zK T h qo
theorem dS(words:List ByteArray){p:PS}(h:p.at_<L.length):dM L p (bB L words p).2:=by
 unfold bB;dsimp only;split
 .rename_i a;exact zK T h qo
 .exact rP h
theorem nK{p:PS}(h:p.at_<L.length):dM L p (cG L p).2:=by
 unfold cG;dsimp only;have h1:=dS T [str "subject",str "action",str "case",str "env"] h;have h2:=gC T (str ".") h1.lt;have h3:=jF T h2.lt;have h4:=SN T (str "!") h3.lt;exact h1.trans (h2.trans (h3.trans h4))
omit T in
theorem zL(L:List Tok)(p:PS):dE L p=if (eS L p).2.bad≠0 then (bF,(eS L p).2) else ((eS L p).1,{(eS L p).2 with at_:=(eS L p).2.at_+1}):=rfl
omit T in
theorem Bp{p:PS}(h:p.at_<L.length):dM L p (eS L p).2/\((eS L p).2.bad=0->(eS L p).2=p/\(aW L p).aC3≠7):=by
 unfold eS;dsimp only;split
 .exact⟨dM.refl h,fun _=>⟨rfl,qo⟩⟩
 split
 .exact⟨dM.refl h,fun _=>⟨rfl,qo⟩⟩
 split
 .exact⟨dM.refl h,fun _=>⟨rfl,qo⟩⟩
 split
 .exact⟨dM.refl h,fun _=>⟨rfl,qo⟩⟩
 split
 .rename_i a;exact⟨dM.refl h,fun _=>⟨rfl,qA ((lI a).2.2)⟩⟩
 split
 .rename_i a;exact⟨dM.refl h,fun _=>⟨rfl,qA ((lI a).2.2)⟩⟩
 .exact⟨rP h,fun b=>absurd b (lQ _ _ qe _)⟩
theorem wU{p:PS}(h:p.at_<L.length):dM L p (dE L p).2:=by
 rw[zL];have h1:=Bp (L:=L) h;by_cases a:(eS L p).2.bad≠0
 .rw[iP a];exact h1.1
 .rw[iN a];obtain⟨e,b⟩:=h1.2 (by simpa using a);rw[e];exact zK T h b
theorem yL{p:PS}(h:p.at_<L.length):dM L p (sK L p).2:=by
 unfold sK
 repeat' split
 .exact fR T h (by assumption)
 .exact fR T h (by assumption)
 .exact fR T h (by assumption)
 .exact rP h
theorem CE{p:PS}(h:p.at_<L.length):dM L p (eD L p).2:=by
 unfold eD;dsimp only;have h1:=nK T h;have h2:=yL T h1.lt;have h3:=wU T h2.lt;exact h1.trans (h2.trans h3)
theorem vS{α:Type}{one:PS->α×PS}(a:∀{p:PS},p.at_<L.length->dM L p (one p).2)(sep:bY):∀(f:Nat) (l:List α) {p:PS},p.at_<L.length->dM L p (jV L one sep f l p).2
 |0,l,p,h=>dM.refl h
 |f+1,l,p,h=>by
  unfold jV;split
  .rename_i b;have h1:=fR T h b;have h2:=a h1.lt;have h3:=kS (decide (8<(l++[(one {p with at_:=p.at_+1}).1]).length)) h2.lt;exact h1.trans (h2.trans (h3.trans (vS a sep f _ h3.lt)))
  .exact dM.refl h
theorem MK{p:PS}(h:p.at_<L.length):dM L p (jB L p).2:=by
 unfold jB;dsimp only;have h1:=CE T h;exact h1.trans (vS T (CE T) _ _ _ h1.lt)
theorem ML{p:PS}(h:p.at_<L.length):dM L p (mE L p).2:=by
 unfold mE;dsimp only;have h0:=gC T (str "(") h;have h1:=MK T h0.lt;have h2:=vS T (MK T) (str "or") L.length [(jB L (eI L (str "(") p)).1] h1.lt;exact h0.trans (h1.trans (h2.trans (gC T _ h2.lt)))
theorem lS{p:PS}(h:p.at_<L.length):dM L p (bW L p).2:=by
 unfold bW;split
 .rename_i a;dsimp only;have h0:=fR T h a;have h1:=ML T h0.lt;exact h0.trans (h1.trans (vS T (ML T) _ _ _ h1.lt))
 .exact dM.refl h
theorem IN{p:PS}(h:p.at_<L.length):dM L p (tJ L p).2:=by
 unfold tJ;dsimp only;have h1:=dS T [str "permit",str "deny"] h;have h2:=dS T [str "log",str "redact",str "review",str "notify"] h1.lt;have h3:=jF T h2.lt;exact h1.trans (h2.trans h3)
theorem uY{p:PS}(h:p.at_<L.length):dM L p (gO L p).2:=vS T (IN T) _ _ _ h
def dI(L:List Tok)(f:Nat)(acc:List No×PS)(must:Bool):List No×PS:=
 if acc.2.bad≠0 then acc else
  ((eY L f acc.1 acc.2).1.1,if (eY L f acc.1 acc.2).1.2≠must then eQ 5 (aW L acc.2).at_ (eY L f acc.1 acc.2).2 else (eY L f acc.1 acc.2).2)
theorem zM:∀(f:Nat) (l:List No) {p:PS},p.at_<L.length->dM L p (eY L f l p).2
 |0,l,p,h=>by unfold eY;exact dM.refl h
 |f+1,l,p,h=>by
  have c:∀{l:List No} {p:PS} (must:Bool),p.at_<L.length->dM L p (dI L f (l,p) must).2:=by
   intro l p must h;unfold dI;dsimp only;split
   .exact dM.refl h
   .have h1:=zM f l h;exact Rt
  have b:∀(ms:List Bool) {l:List No} {p:PS},p.at_<L.length->dM L p (ms.foldl (dI L f) (l,p)).2:=by
   intro ms
   induction ms with
   |nil=>intro l p h;exact dM.refl h
   |cons m ms d=>
    intro l p h;have h1:=c (l:=l) m h;exact h1.trans (d h1.lt)
  unfold eY;dsimp only;by_cases a:cO L (str "(") p=true
  .rw[iP a];have h0:=fR T h a;have h1:=dS T eC h0.lt;have h2:=b (fN (2+(bB L eC {p with at_:=p.at_+1}).1)) (l:=l) h1.lt;have h3:=gC T (str ")") h2.lt;exact h0.trans (h1.trans (h2.trans (h3.trans (kS _ h3.lt))))
  .rw[iN a];split
   .have h1:=nK T h;exact h1.trans (kS _ h1.lt)
   .have h1:=wU T h;exact h1.trans (kS _ h1.lt)
theorem FT(l:List No)(must:Bool){p:PS}(h:p.at_<L.length):dM L p (jD L l must p).2:=by
 unfold jD;dsimp only;have h1:=zM T L.length l h;exact Rt
theorem IP(deny:Bool){p:PS}(h:p.at_<L.length):dM L p (kP L deny p).2:=by
 unfold kP;dsimp only;have h1:=jF T h;have h2:=lS T h1.lt;have h3:dM L (bW L (bV L p).2).2 (if cO L (str "if") (bW L (bV L p).2).2=true then jD L [] false {(bW L (bV L p).2).2 with at_:=(bW L (bV L p).2).2.at_+1} else ([],(bW L (bV L p).2).2)).2:=by
  split
  .rename_i a;have h0:=fR T h2.lt a;exact h0.trans (FT T _ _ h0.lt)
  .exact dM.refl h2.lt
 have h4:=uY T h3.lt;exact h1.trans (h2.trans (h3.trans (h4.trans (gC T _ h4.lt))))
omit T in
theorem Bq{b:Bool}{p:PS}(h:(cW L b p).bad=0):b=false/\cW L b p=p:=by
 cases b
 .exact⟨rfl,by unfold cW;rw[iN qe]⟩
 .unfold cW at h;rw[iP rfl] at h;exact absurd h (lQ _ _ qe _)
theorem sU:∀(f:Nat) (l:List Ru) {p:PS},p.at_<L.length->dM L p (iL L f l p).2
 |0,l,p,h=>by unfold iL;exact dM.refl h
 |f+1,l,p,h=>by
  unfold iL;split
  .rename_i a;dsimp only;split
   .exact kS _ h
   .rename_i d;obtain⟨b,hp⟩:=Bq (by simpa using d);rw[hp];have h0:dM L p {p with at_:=p.at_+1}:=by
     rw[Bool.or_eq_true] at a
     rcases a with a|a
     .exact fR T h a
     .exact fR T h a
    have c:p.aC6≠64:=by
     intro c;rw[c] at b;simp at b
    have h1:dM L p {p with aC6:=p.aC6+1,at_:=p.at_+1}:=⟨h0.le,h0.lt,Nat.le_succ _,fun x=>by show p.aC6+1<=64;omega⟩;have h2:=IP T (cO L (str "deny") p) h1.lt;exact h1.trans (h2.trans (sU f _ h2.lt))
  .exact dM.refl h
omit T in
theorem qT{one:PS->Po×PS}(a:∀{p:PS},p.at_<L.length->dM L p (one p).2)(deep:Bool):∀(f:Nat) (l:List Po) {p:PS},p.at_<L.length->dM L p (gP L one deep f l p).2
 |0,l,p,h=>by unfold gP;exact dM.refl h
 |f+1,l,p,h=>by
  unfold gP;split
  .dsimp only;split
   .exact kS _ h
   .have h0:=kS (L:=L) (decide (l.length=16)||deep) h;have h1:=a h0.lt;exact h0.trans (h1.trans (qT a deep f _ h1.lt))
  .exact dM.refl h
theorem rQ:∀(n:Nat) {p:PS},p.at_<L.length->dM L p (cT L n p).2:=by
 intro n
 induction n with
 |zero=>
  intro p h;unfold cT;dsimp only;have h1:=dS T [str "policy",str "set"] h;have h2:=jF T h1.lt;have h3:=dS T dK h2.lt;have h4:=lS T h3.lt;have h5:=gC T qY h4.lt;have h15:=h1.trans (h2.trans (h3.trans (h4.trans h5)));by_cases a:decide ((bB L [str "policy",str "set"] p).1=2)=true
  .rw[iP a];have h6:=qT (one:=fun q=>(mD,q)) (fun h=>dM.refl h) true L.length [] h5.lt;exact OF
  .rw[iN a];have h6:=sU T L.length [] h5.lt;exact OF
 |succ n b=>
  intro p h;unfold cT;dsimp only;have h1:=dS T [str "policy",str "set"] h;have h2:=jF T h1.lt;have h3:=dS T dK h2.lt;have h4:=lS T h3.lt;have h5:=gC T qY h4.lt;have h15:=h1.trans (h2.trans (h3.trans (h4.trans h5)));by_cases a:decide ((bB L [str "policy",str "set"] p).1=2)=true
  .rw[iP a];have h6:=qT (one:=cT L n) b false L.length [] h5.lt;exact OF
  .rw[iN a];have h6:=sU T L.length [] h5.lt;exact OF
end
theorem aC{a w w':World}(h:Below a.heap.size a w)(k:Below w.heap.size w w'):Below a.heap.size a w':=h.trans (k.mono h.size)
theorem qB{a w w2:World}(h:Hid (Below a.heap.size a w))(k:Below w.heap.size w w2):Hid (Below a.heap.size a w2):=aA (aC h.o k)
theorem fL{B:Nat}{a w w':World}(h:Below B a w)(k:jT w w'):Below B a w':=by
 obtain⟨n,rfl⟩:=k;exact⟨h.os,h.tape,h.output,h.size,h.block⟩
theorem aB(w:World)(o:Obj):Below w.heap.size w (w.alloc o):=(Below.refl _ _).alloc (lR _) _
theorem vT(w:World)(cs:Array Value)(t:TypeId)(fr:Nat×Nat)(i:Nat)(v:Value)(h:cs[i]? =some v):(w.alloc (.cells cs t fr)).cell? ⟨w.heap.size,i,none⟩=some v:=by
 unfold World.cell?;rw[heap_alloc_new];simpa using h
theorem QCk{p:Prop}(h:p:=by
 have HB:=aA hb1;clear HH hb1;go_wp2_with fail;refine(HW.o).mono ?_;rintro e w2 ⟨rfl,h2,k2⟩;go_wp2;go_returns;exact⟨rfl,h2,(aK HB.o).trans k2⟩):p:=h
theorem Gi{α:Type}{a0 a a2 a3:α}{l:List α}{p:Nat->α->Prop}(h:∀j x,(a0::a::a2::a3::l)[j]? =some x->p j x):p 0 a0/\p 1 a/\p 2 a2/\p 3 a3:=⟨h 0 _ rfl,h 1 _ rfl,h 2 _ rfl,h 3 _ rfl⟩
theorem qN{P:Program}{id:Nat}{Q:Exit->Act->World->Prop}{a:Act}{w:World}{l:List Oper}(n:Nat)(hm:P.follows .mixedOrders=true)(c:Region.lexTailB .any l.toArray n=true)
 (h:wpStill P l.toArray w.drew (fun b=>wpList P l.toArray Q (l.drop n) b w.drew) (l.take n) a):(Code.region id l.toArray true).wp P Q a w:=wp_region_still_tail n hm c h
def PW(L:List Tok)(w:World)(g:Nat)(p:PS):Prop:=
 ∃A c,w.heap[g]? =some (.cells #[.slice A L.length c,.int .i64 p.at_,.int .i64 p.aC6,.int .i64 p.bad,.int .i64 p.place] 156 (0,0))/\aI SM w (fun b=>b<g) (.slice A L.length c) L
theorem PW.lt{L:List Tok}{w:World}{g:Nat}{p:PS}(h:PW L w g p):g<w.heap.size:=by
 obtain⟨A,c,h1,_⟩:=h;exact(Array.getElem?_eq_some_iff.1 h1).1
theorem PW.on{L:List Tok}{w w':World}{g:Nat}{p:PS}(h:PW L w g p)(a:Below w.heap.size w w'):PW L w' g p:=by
 have b:=h.lt;obtain⟨A,c,h1,h2⟩:=h;exact⟨A,c,by rw[a.block g b];exact h1,h2.on iB a⟩
theorem PW.aDc{L:List Tok}{w w':World}{g:Nat}{p:PS}{ok:nP}(h:PW L w g p)(a:aO ok w w')(d:∀b,b<=g->ok b):PW L w' g p:=by
 have e:=h.lt;obtain⟨A,c,h1,h2⟩:=h;exact⟨A,c,by rw[a.block g e (d g (lR _))];exact h1,h2.aDc iB (a.mono fun k _ h=>d k (by have:k<g:=h;omega))⟩
theorem PW.set{L:List Tok}{w:World}{g:Nat}{p:PS}(h:PW L w g p){b i:Nat}{v:Value}(c:g<b):PW L (w.setCell ⟨b,i,none⟩ v) g p:=
 h.aDc (ok:=fun x=>x≠b) ⟨rfl,rfl,rfl,by simp[World.setCell],fun k d a=>Below.heap_setCell _ _ _ _ a⟩ (fun x e=>by show x≠b;omega)
theorem PW.cells{L:List Tok}{w:World}{g:Nat}{p:PS}(h:PW L w g p):∃A c,w.cell? ⟨g,0,none⟩=some (.slice A L.length c)/\w.cell? ⟨g,1,none⟩=some (.int .i64 p.at_)/\w.cell? ⟨g,2,none⟩=some (.int .i64 p.aC6)/\w.cell? ⟨g,3,none⟩=some (.int .i64 p.bad)/\w.cell? ⟨g,4,none⟩=some (.int .i64 p.place)/\aI SM w (fun b=>b<g) (.slice A L.length c) L:=by
 obtain⟨A,c,h1,h2⟩:=h;exact⟨A,c,by simp[World.cell?,h1],by simp[World.cell?,h1],by simp[World.cell?,h1],by simp[World.cell?,h1],by simp[World.cell?,h1],h2⟩
theorem PW.free{L:List Tok}{w:World}{g:Nat}{p:PS}(h:PW L w g p)(i:Nat):w.frozen? ⟨g,i,none⟩=false:=by
 obtain⟨A,c,h1,_⟩:=h;simp[World.frozen?,h1]
def dD(B g:Nat)(w w':World):Prop:=aO (fun b=>b<B/\b≠g) w w'
theorem dD.aDk{B g:Nat}{a w w':World}(h:dD B g a w)(k:aO (fun b=>b≠g) w w'):dD B g a w':=aO.trans h (k.mono fun _ _ h=>h.2)
theorem dD.set{B g:Nat}{a w:World}(h:dD B g a w){b i:Nat}{v:Value}(d:B<=b):dD B g a (w.setCell ⟨b,i,none⟩ v):=
 aO.trans h ⟨rfl,rfl,rfl,by simp[World.setCell],fun k e c=>Below.heap_setCell _ _ _ _ (by have:=c.1;simp only;omega)⟩
theorem dD.new{B g:Nat}{a w w':World}(h:dD B g a w)(k:Below w.heap.size w w'):dD B g a w':=aO.trans h (aK k)
theorem dD.end{g:Nat}{w w':World}(h:dD w.heap.size g w w'):aO (fun b=>b≠g) w w':=aO.mono h fun k a h=>⟨a,h⟩
theorem aG{ok:nP}{w w':World}{b:Nat}{o:Obj}(h:w.heap[b]? =some o)(k:aO ok w w')(a:ok b):w'.heap[b]? =some o:=by
 rw[k.block b (Array.getElem?_eq_some_iff.1 h).1 a];exact h
theorem qS{ok:nP}{w w2:World}{b:Nat}{o:Obj}(h:Hid (w.heap[b]? =some o))(k:aO ok w w2)(a:ok b):Hid (w2.heap[b]? =some o):=aA (aG h.o k a)
theorem aF{w w':World}{b:Nat}{o:Obj}(h:w.heap[b]? =some o)(k:Below w.heap.size w w'):w'.heap[b]? =some o:=by
 rw[k.block b (Array.getElem?_eq_some_iff.1 h).1];exact h
theorem qK{w w2:World}{b:Nat}{o:Obj}(h:Hid (w.heap[b]? =some o))(k:Below w.heap.size w w2):Hid (w2.heap[b]? =some o):=aA (aF h.o k)
theorem bG{w:World}{b b' i:Nat}{v:Value}{o:Obj}(h:w.heap[b]? =some o)(a:b≠b'):(w.setCell ⟨b',i,none⟩ v).heap[b]? =some o:=by
 rw[Below.heap_setCell _ _ _ _ a];exact h
theorem aE{w:World}{b:Nat}{o:Obj}(h:w.heap[b]? =some o):b<w.heap.size:=(Array.getElem?_eq_some_iff.1 h).1
def aP(v:Value)(w:World)(e:Ending)(w':World):Prop:=e=.returned v/\Below w.heap.size w w'
theorem gK{L:List Tok}{p:PS}(hp:p.at_<L.length)(f:L.length<=5000)(g:Nat)(w:World)(h:PW L w g p):
 Calls prog 75 #[.pointer (some ⟨g,0,none⟩)] w (aP (iC (aW L p)) w):=by
 rw[EN hp];have j:=h.lt;obtain⟨A,c,c0,c1,_,_,_,d⟩:=h.cells;obtain⟨b,off,r,rfl,_,i,⟨rfl,_⟩,a⟩:=aI.at iB d hp qe;obtain⟨e,l,m,n⟩:=Gi a;rw[Nat.add_zero] at e;have i0:(0:Int)<=(p.at_:Int):=qo;have k:(p.at_:Int)<(L.length:Int):=qo;clear a d h;unfold aP;unfold iC;generalize L[p.at_]=t at *;go_enter func75,ntmps75;go_wp2;refine qN 10 (by kernel_rfl) (by kernel_rfl) ?_;simp only[List.take_succ_cons,List.take_zero,List.drop_succ_cons,List.drop_zero]
 repeat still_step
 refine wpStill_nil ?_;go_wp2;go_returns;exact⟨rfl,((Below.refl _ _).alloc (lR _) _).drew⟩
def eT(L:List Tok)(g:Nat)(w:World)(v:Value)(p':PS)(e:Ending)(w':World):Prop:=e=.returned v/\PW L w' g p'/\aO (fun b=>b≠g) w w'
theorem aH{w:World}{g:Nat}{cs:Array Value}{t:TypeId}{m:Nat×Nat}(h:w.heap[g]? =some (.cells cs t m))(i:Nat)(v:Value):(w.setCell ⟨g,i,none⟩ v).heap[g]? =some (.cells (cs.setIfInBounds i v) t m):=by
 simp only[World.setCell,Array.getElem?_modify,h];simp
theorem aJ{w:World}{g i:Nat}(v:Value):aO (fun b=>b≠g) w (w.setCell ⟨g,i,none⟩ v):=⟨rfl,rfl,rfl,by simp[World.setCell],fun k c a=>Below.heap_setCell _ _ _ _ a⟩
theorem PW.stay{L:List Tok}{w w':World}{g:Nat}{p p':PS}(h:PW L w g p)(d:aO (fun b=>b≠g) w w')(a:∀A c,w.heap[g]? =some (.cells #[.slice A L.length c,.int .i64 p.at_,.int .i64 p.aC6,.int .i64 p.bad,.int .i64 p.place] 156 (0,0))->w'.heap[g]? =some (.cells #[.slice A L.length c,.int .i64 p'.at_,.int .i64 p'.aC6,.int .i64 p'.bad,.int .i64 p'.place] 156 (0,0))):PW L w' g p':=by
 obtain⟨A,c,h1,h2⟩:=h;exact⟨A,c,a A c h1,h2.aDc iB (d.mono fun k _ h=>by show k≠g;have:k<g:=h;omega)⟩
theorem tU{L:List Tok}{p:PS}(e pl:Int)(g:Nat)(w:World)(h:PW L w g p):
 Calls prog 78 #[.pointer (some ⟨g,0,none⟩),.int .i64 e,.int .i64 pl] w (eT L g w (.tuple #[]) (eQ e pl p)):=by
 have f:=h.lt;obtain⟨A,c,c0,c1,c2,c3,c4,b⟩:=h.cells;have H:=aA h;have f3:=h.free 3;have f4:=h.free 4;unfold eT;unfold eQ;clear h b;by_cases a:p.bad=0
 .rw[iP a];rw[a] at c3;clear a;go_enter func78,ntmps78;go_wp2;go_returns;refine⟨rfl,H.o.stay ((aJ _).trans (aJ _)) fun A c h=> ?_,(aJ _).trans (aJ _)⟩;rw[aH (aH h 3 _) 4 _];rfl
 .rw[iN a];have d:(p.bad==0)=false:=bN.2 a;clear a;go_enter func78,ntmps78;go_wp2;go_returns;exact⟨rfl,H.o,aO.refl _ _⟩
theorem SO(a b c:Int)(s:bY)(w:World):(Instr.field 141 (.agg #[.int .i64 a,.int .i64 b,.int .i64 c,.string s]) 1).run prog w=.ok (.int .i64 b) w:=by kernel_rfl
theorem aP.aDk{L:List Tok}{p:PS}{g:Nat}{w:World}{v:Value}{e:Ending}{w':World}(h:aP v w e w')(hp:PW L w g p):eT L g w v p e w':=⟨h.1,hp.on h.2,aK h.2⟩
theorem lV{L:List Tok}{p:PS}(hp:p.at_<L.length)(a:L.length<=5000)(g:Nat)(w:World)(h:PW L w g p):
 Calls prog 76 #[.pointer (some ⟨g,0,none⟩)] w (eT L g w (.tuple #[]) (dN L p)):=by
 have HH:=aA (gK hp a g w h);have H:=aA h;clear h;unfold eT dN;unfold iC at HH;generalize aW L p=t at *;go_enter func76,ntmps76;have b:=SO t.aC3 t.at_ t.num t.str;go_wp2_with fail;refine(HH.o).mono ?_;rintro e w1 ⟨rfl,hb1⟩;have HW:=aA (tU 5 t.at_ g w1 (H.o.on hb1));exact QCk
theorem kT{L:List Tok}{p:PS}(more:Bool)(hp:p.at_<L.length)(a:L.length<=5000)(g:Nat)(w:World)(h:PW L w g p):
 Calls prog 182 #[.pointer (some ⟨g,0,none⟩),.bool more] w (eT L g w (.tuple #[]) (cW L more p)):=by
 have HH:=aA (gK hp a g w h);have H:=aA h;clear h;unfold eT cW;unfold iC at HH;generalize aW L p=t at *
 cases more
 .rw[iN qe];go_enter func182,ntmps182;go_wp2;go_returns;exact⟨rfl,H.o,aO.refl _ _⟩
 .rw[iP rfl];go_enter func182,ntmps182;have b:=SO t.aC3 t.at_ t.num t.str;go_wp2_with fail;refine(HH.o).mono ?_;rintro e w1 ⟨rfl,hb1⟩;have HW:=aA (tU 6 t.at_ g w1 (H.o.on hb1));exact QCk
end Go.Proofs.YtkglnboglppgnaaGreatDoor

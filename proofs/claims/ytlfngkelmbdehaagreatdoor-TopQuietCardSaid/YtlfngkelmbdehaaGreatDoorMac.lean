/- Lemmas. -/
import Derived.Test.YtlfngkelmbdehaaGreatDoorMab
import Derived.Laws.CopyOwn
import Derived.Deep.OwnRows
import Derived.Deep.QuietTactic
import Derived.BigQuiet
import Derived.LoopN
import Derived.StillTailTactics
namespace Go.Proofs.YtlfngkelmbdehaaGreatDoor
open Go.RowKit
set_option linter.unusedVariables false
set_option linter.unusedSimpArgs false
set_option maxHeartbeats 16000000
open _root_.Go.Proofs.Tryz
set_option maxRecDepth 20000
def xZ(a:At):Bool:=(decide (1<=a.cat)&&decide (a.cat<=4))&&eL a.name
def sM(m:Ma):Bool:=xZ m.aC3&&(decide (1<=m.op)&&decide (m.op<=3))&&aT m.val
def oE(n:Nat):Int:=if n=0 then 1 else if 8<n then 6 else 0
def gD{α:Type}(f:α->Int):List α->Int
 | []=>0
 |x::l=>if f x≠0 then f x else gD f l
def rF(l:List Ma):Int:=if oE l.length≠0 then oE l.length else gD (fun m=>if sM m then 0 else 1) l
def rG(l:List (List Ma)):Int:=if oE l.length≠0 then oE l.length else gD rF l
def eW(t:Ta):Int:=if 8<t.length then 6 else gD rG t
def mL(op:Int):Option (List Bool):=
 if op=1\/op=2 then some [] else if op=3\/op=4 then some [true] else if op=5 then some [true,false]
 else if op=11 then some [false] else if 6<=op/\op<=13 then some [false,false] else none
def qN(n:No):Bool:=
 if n.op=1 then aT n.val&&decide (n.aC3=uH)
 else if n.op=2 then xZ n.aC3&&decide (n.val=bD)
 else decide (n.val=bD)&&decide (n.aC3=uH)
def kY(l:List Bool)(n:No):Option (List Bool):=
 match mL n.op with
 |none=>none
 |some w=>
  if qN n/\w.length<=l.length/\l.drop (l.length - w.length)=w then some (l.take (l.length - w.length)++[decide (n.op=2)]) else none
def iK:List No->List Bool->Option (List Bool)
 | [],l=>some l
 |n::r,l=>match kY l n with
  |none=>none
  |some a=>iK r a
def kZ(l:List No):Int:=
 if 32<l.length then 6
 else match iK l [] with
  |none=>1
  |some made=>if 0<l.length/\made≠[false] then 1 else 0
def lA(l:List Ob):Int:=if 8<l.length then 6 else gD (fun o=>if (1<=o.on/\o.on<=2)/\(1<=o.aCF/\o.aCF<=4)/\eL o.arg=true then 0 else 1) l
structure WS where
 met:List ByteArray
 aCH:Nat
def gM(s:bY)(w:WS):Bool×WS:=if w.met.any (fun t=>decide (t=s))=true\/eL s=false then (false,w) else (true,{w with met:=s::w.met})
def fQ(r:Ru)(w:WS):Int×WS:=
 let (ok,w1):=gM r.id w
 if ok=false then (1,w1)
 else
  let w2:={w1 with aCH:=w1.aCH+1}
  if 64<w2.aCH then (6,w2)
  else if eW r.aCO≠0 then (eW r.aCO,w2)
  else if kZ r.cond≠0 then (kZ r.cond,w2)
  else (lA r.aCU,w2)
def fG(p:Po)(w:WS):Int×WS:=
 let (ok,w1):=gM p.id w
 if ok=false\/p.alg<1\/6<p.alg then (1,w1)
 else if (p.set=true/\p.aCH≠[])\/(p.set=false/\(0<p.aCS.length\/p.alg=4)) then (1,w1)
 else if eW p.aCO≠0 then (eW p.aCO,w1)
 else if lA p.aCU≠0 then (lA p.aCU,w1)
 else if 16<p.aCH.length\/16<p.aCS.length then (6,w1)
 else (0,w1)
def jB{α:Type}(f:α->WS->Int×WS):List α->WS->Int×WS
 | [],w=>(0,w)
 |x::l,w=>
  let (e,w1):=f x w
  if e≠0 then (e,w1) else jB f l w1
def eK:Nat->Po->WS->Int×WS
 |0,_,w=>(6,w)
 |n+1,p,w=>
  let (e,w1):=fG p w
  if e≠0 then (e,w1)
  else
   let (e2,w2):=jB fQ p.aCH w1
   if e2≠0 then (e2,w2) else jB (eK n) p.aCS w2
def fJ(p:Po):Int:=(eK 4 p ⟨[],0⟩).1
def fD(S:bY):Po×Int×Int:=
 let (l,e,place):=jL S.data.toList
 if e≠0 then (lX,e,place)
 else
  let (out,p):=cO l 3 ⟨0,0,0,0⟩
  let a:=if (aU l p).aCF≠7 then dK l p else p
  let b:=if a.bad=0/\fJ out≠0 then eM 5 S.size a else a
  if b.bad≠0 then (lX,b.bad,b.place) else (out,0,0)
def jZ:Int:= -9223372036854775808
def lD:Int:=9223372036854775807
def jS(a b:V3):Bool×Int:=
 if aT a=false\/aT b=false then (false,1)
 else if a.1≠b.1\/a.1=1 then (false,2)
 else if a.1=3\/a.1=5 then (decide (a.2.2.toList<b.2.2.toList),0)
 else (decide (a.2.1<b.2.1),0)
def kA(m:Ma)(v:V3):Bool×Int:=
 if m.op=1 then (if v.1≠m.val.1 then (false,2) else (decide (v=m.val),0))
 else if m.op=2 then jS v m.val
 else jS m.val v
def rH(g:List Gv)(a:At):List V3×Int:=if yU g a.cat a.name=[]/\a.aDc=true then ([],4) else (yU g a.cat a.name,0)
def lZ(m:Ma):List V3->Nat->Nat
 | [],out=>out
 |v::l,out=>if (kA m v).1 then 2 else lZ m l (if (kA m v).2≠0 then 1 else out)
def oL(g:List Gv)(m:Ma):Nat:=if (rH g m.aC3).2≠0 then 1 else lZ m (rH g m.aC3).1 0
def yV(g:List Gv)(l:List Ma):Nat:=l.foldl (fun out m=>min out (oL g m)) 2
def xK(g:List Gv)(t:Ta):Nat:=t.foldl (fun out l=>min out (l.foldl (fun a x=>max a (yV g x)) 0)) 2
structure It where
 bag:List V3
 val:V3
 err:Int
deriving DecidableEq
def cH(b:Bool):V3:=(1,if b then 1 else 0,ByteArray.empty)
def jG(v:V3)(e:Int):It:=⟨[],v,e⟩
def It.is(x:It)(n:Int):Bool:=decide (x.err=0)&&decide (x.val=(1,n,ByteArray.empty))
def sN(a b:Int):Int×Int:=if jZ<=a+b/\a+b<=lD then (a+b,0) else (0,3)
def sO(a b:Int):Int×Int:=if jZ<=a - b/\a - b<=lD then (a - b,0) else (0,3)
def mA(a b:Int):Int×Int:=if jZ<=a * b/\a * b<=lD then (a * b,0) else (0,3)
def eE(f:Int->Int->Int×Int)(a b:V3):V3×Int:=
 if a.1≠2\/b.1≠2 then (bD,2) else if (f a.2.1 b.2.1).2≠0 then (bD,(f a.2.1 b.2.1).2) else ((2,(f a.2.1 b.2.1).1,ByteArray.empty),0)
def nQ(op:Int)(a:V3):V3×Int:=if aT a=false then (bD,1) else if a.1≠1 then (bD,2) else (cH (decide (a.2.1=0)),0)
def dH(op:Int)(a b:V3):V3×Int:=
 if aT a=false\/aT b=false then (bD,1)
 else if op=6 then (if a.1≠b.1 then (bD,2) else (cH (decide (a=b)),0))
 else if op=7 then (if (jS a b).2≠0 then (bD,(jS a b).2) else (cH (jS a b).1,0))
 else if op=8 then eE sN a b
 else if op=9 then eE sO a b
 else if op=10 then eE mA a b
 else if a.1≠1\/b.1≠1 then (bD,2)
 else if op=12 then (cH (decide (a.2.1=1)&&decide (b.2.1=1)),0)
 else (cH (decide (a.2.1=1)||decide (b.2.1=1)),0)
def iL(g:List Gv)(n:No)(l:List It):It:=
 match l with
 | []=>if n.op=1 then jG n.val 0 else ⟨(rH g n.aC3).1,bD,(rH g n.aC3).2⟩
 | [a]=>
   if a.err≠0 then jG bD a.err
   else if n.op=3 then (match a.bag with | [v]=>jG v 0|_=>jG bD 4)
   else if n.op=4 then jG (2,a.bag.length,ByteArray.empty) 0
   else jG (nQ n.op a.val).1 (nQ n.op a.val).2
 |a::b::_=>
  if (n.op=12\/n.op=13)/\(a.is (n.op - 12)\/b.is (n.op - 12)) then jG (cH (decide (n.op=13))) 0
  else if a.err≠0 then jG bD a.err
  else if b.err≠0 then jG bD b.err
  else if n.op=5 then jG (cH (a.bag.any (fun v=>decide (v=b.val)))) 0
  else jG (dH n.op a.val b.val).1 (dH n.op a.val b.val).2
def jI(op:Int):Nat:=if op=1\/op=2 then 0 else if op=3\/op=4\/op=11 then 1 else 2
def yW(g:List Gv):List No->List It->List It
 | [],st=>st
 |n::r,st=>yW g r (st.take (st.length - jI n.op)++[iL g n (st.drop (st.length - jI n.op))])
def nR(g:List Gv)(l:List No):V3×Int:=
 if l=[]\/kZ l≠0 then (bD,1) else match yW g l [] with |x::_=>(x.val,x.err)| []=>(bD,1)
def tH(g:List Gv)(l:List No):Nat:=
 if l=[] then 2
 else
  let x:=jG (nR g l).1 (nR g l).2
  if x.is 1 then 2 else if x.is 0 then 0 else 1
abbrev Mk:=Nat×Nat
def tO(m:Mk):Mk:=if m=(4,0) then (2,0) else if m=(0,4) then (0,2) else m
def gN(l:List Ob)(m:Mk):List Ob:=l.filter (fun o=>(decide (o.on=1)&&decide (m=(4,0)))||(decide (o.on=2)&&decide (m=(0,4))))
def DZ(r:Ru)(t c:Nat):Mk×List Ob:=
 let m:Mk:=if r.aDf then (0,4) else (4,0)
 if t=0\/(t=2/\c=0) then ((0,0),[])
 else if t=1\/c=1 then (tO m,[])
 else (m,gN r.aCU m)
def iA(g:List Gv)(r:Ru):Mk×List Ob:=DZ r (xK g r.aCO) (tH g r.cond)
def Za(a b:Mk):Mk:=(max a.1 b.1,max a.2 b.2)
def Av(m:Mk):Mk:=(m.2,m.1)
def QZ(m:Mk):Mk:=
 if m.2=4 then (0,4) else if m.2=2/\2<=m.1 then (2,2) else if m.2=2 then (0,2) else if m.1=4 then (4,0) else if m.1=2 then (2,0) else (0,0)
def Fj(l:List Mk):Mk:=l.foldl Za (0,0)
def RF(m:Mk):Bool:=decide (m=(0,0))||(decide (m=(4,0))||decide (m=(0,4)))
def EA(j m:Mk):Mk:=if j=(0,0) then m else if m=(0,0) then j else (2,2)
def BL(l:List Mk):Mk:=(l.find? (fun m=>decide (m≠(0,0)))).getD (0,0)
def RG(l:List Mk):Mk:=if l.all RF then l.foldl EA (0,0) else (2,2)
def qW(l:List Mk)(m other:Mk):Mk:=if l.any (fun x=>decide (x=other)) then other else m
def BM(alg:Int)(l:List Mk):Mk:=
 if alg=1 then QZ (Fj l)
 else if alg=2 then Av (QZ (Av (Fj l)))
 else if alg=3 then BL l
 else if alg=4 then RG l
 else if alg=5 then qW l (0,4) (4,0)
 else if alg=6 then qW l (4,0) (0,4)
 else (0,0)
def gF(first:Bool)(m:Mk):List (Mk×List Ob)->List Ob
 | []=>[]
 |x::l=>if x.1≠m then gF first m l else if first then x.2 else x.2++gF first m l
def rI(alg:Int)(obls:List Ob)(t:Nat)(parts:List (Mk×List Ob)):Mk×List Ob:=
 let m:=BM alg (parts.map (·.1))
 if t=0 then ((0,0),[])
 else if t=1 then (tO m,[])
 else if m≠(4,0)/\m≠(0,4) then (m,[])
 else (m,gF (decide (alg=3)) m parts++gN obls m)
def cY(g:List Gv):Nat->Po->Mk×List Ob
 |0,_=>((0,0),[])
 |n+1,p=>
  let t:=xK g p.aCO
  if t=0 then ((0,0),[])
  else rI p.alg p.aCU t (p.aCH.map (iA g)++p.aCS.map (cY g n))
def rJ(g:List Gv)(p:Po):(Mk×List Ob)×Int:=if fJ p≠0 then (((0,0),[]),1) else (cY g 4 p,0)
def pR(t:Ta):Option Ma:=
 (t.filter (fun l=>decide (l.length=1))).findSome? (fun l=>((l.head?).getD []).find? (fun m=>decide (m.op=1)&& !m.aC3.aDc))
def nS(g:List Gv)(k:Po):Bool:=match pR k.aCO with |none=>true |some m=>decide (oL g m≠0)
def kQ(g:List Gv):Nat->Po->Po
 |0,p=>p
 |n+1,p=> .mk p.id p.set p.alg p.aCO p.aCH ((p.aCS.filter (nS g)).map (kQ g n)) p.aCU
def iE(g:List Gv)(p:Po):(Mk×List Ob)×Int:=if fJ p≠0 then (((0,0),[]),1) else rJ g (kQ g 4 p)
def cP:Nat:=1000000
def cR(v:V3):Prop:=bK v.1/\bK v.2.1/\v.2.2.size<=cP
def IB(v:V3):List Value:=[.int .i64 v.1,.int .i64 v.2.1,.string v.2.2]
def dA(v:V3):Value:= .agg #[.int .i64 v.1,.int .i64 v.2.1,.string v.2.2]
def LW(t:Tok):Prop:=bK t.aCF/\bK t.at_/\bK t.num/\t.str.size<=cP
def Fk(t:Tok):List Value:=[.int .i64 t.aCF,.int .i64 t.at_,.int .i64 t.num,.string t.str]
def gY(t:Tok):Value:= .agg #[.int .i64 t.aCF,.int .i64 t.at_,.int .i64 t.num,.string t.str]
def BO(a:At):Prop:=bK a.cat/\a.name.size<=cP
def oF(a:At):Value:= .agg #[.int .i64 a.cat,.string a.name,.bool a.aDc]
def tP(m:Ma):Prop:=BO m.aC3/\bK m.op/\cR m.val
def Aw(m:Ma):List Value:=[.int .i64 m.aC3.cat,.string m.aC3.name,.bool m.aC3.aDc,.int .i64 m.op,.int .i64 m.val.1,.int .i64 m.val.2.1,.string m.val.2.2]
def kL(m:Ma):Value:= .agg #[.int .i64 m.aC3.cat,.string m.aC3.name,.bool m.aC3.aDc,.int .i64 m.op,.int .i64 m.val.1,.int .i64 m.val.2.1,.string m.val.2.2]
def oM(n:No):Prop:=bK n.op/\cR n.val/\BO n.aC3
def Ax(n:No):List Value:=[.int .i64 n.op,.int .i64 n.val.1,.int .i64 n.val.2.1,.string n.val.2.2,.int .i64 n.aC3.cat,.string n.aC3.name,.bool n.aC3.aDc]
def jJ(n:No):Value:= .agg #[.int .i64 n.op,.int .i64 n.val.1,.int .i64 n.val.2.1,.string n.val.2.2,.int .i64 n.aC3.cat,.string n.aC3.name,.bool n.aC3.aDc]
def yA(o:Ob):Prop:=bK o.on/\bK o.aCF/\o.arg.size<=cP
def EB(o:Ob):List Value:=[.int .i64 o.on,.int .i64 o.aCF,.string o.arg]
def VR:Rep V3:=mG IB cR
def RW:Rep Tok:=mG Fk LW
def rK:Rep Ma:=mG Aw tP
def JF:Rep No:=mG Ax oM
def jT:Rep Ob:=mG EB yA
theorem bG:Firm VR 3:=gC (fun _=>rfl) (fun x v h=>by simp only[IB,List.mem_cons,List.not_mem_nil,or_false] at h;rcases h with rfl|rfl|rfl<;>rfl)
theorem gX:Firm RW 4:=gC (fun _=>rfl) (fun x v h=>by simp only[Fk,List.mem_cons,List.not_mem_nil,or_false] at h;rcases h with rfl|rfl|rfl|rfl<;>rfl)
theorem eN:Firm rK 7:=gC (fun _=>rfl) (fun x v h=>by simp only[Aw,List.mem_cons,List.not_mem_nil,or_false] at h;rcases h with rfl|rfl|rfl|rfl|rfl|rfl|rfl<;>rfl)
theorem dO:Firm JF 7:=gC (fun _=>rfl) (fun x v h=>by simp only[Ax,List.mem_cons,List.not_mem_nil,or_false] at h;rcases h with rfl|rfl|rfl|rfl|rfl|rfl|rfl<;>rfl)
theorem aO:Firm jT 3:=gC (fun _=>rfl) (fun x v h=>by simp only[EB,List.mem_cons,List.not_mem_nil,or_false] at h;rcases h with rfl|rfl|rfl<;>rfl)
abbrev nX(w:World)(ok:nP)(v:Value)(t:Ta):Prop:=aH (rows (rows rK)) w ok v t
theorem dM:Firm (rows rK) 1:=rE eN
theorem aS:Firm (rows (rows rK)) 1:=rE dM
def rL(w:World)(ok:nP)(r:Ru)(vt vc vo:Value):Prop:=r.id.size<=cP/\nX w ok vt r.aCO/\aH JF w ok vc r.cond/\aH jT w ok vo r.aCU
def yB:Rep Ru:=fun w ok cs r=>∃vt vc vo,cs=[.string r.id,.bool r.aDf,vt,vc,vo]/\rL w ok r vt vc vo
theorem rL.aCM{w w':World}{ok:nP}{r:Ru}{vt vc vo:Value}(h:rL w ok r vt vc vo)(a:aN ok w w'):rL w' ok r vt vc vo:=⟨h.1,aH.aCM aS h.2.1 a,aH.aCM dO h.2.2.1 a,aH.aCM aO h.2.2.2 a⟩
theorem rL.more{w:World}{ok ok':nP}{r:Ru}{vt vc vo:Value}(h:rL w ok r vt vc vo)(a:∀b,ok b->ok' b):rL w ok' r vt vc vo:=⟨h.1,aH.more aS h.2.1 a,aH.more dO h.2.2.1 a,aH.more aO h.2.2.2 a⟩
theorem rL.inb{w:World}{ok:nP}{r:Ru}{vt vc vo:Value}(h:rL w ok r vt vc vo):rL w (fun b=>ok b/\b<w.heap.size) r vt vc vo:=⟨h.1,aH.inb aS h.2.1,aH.inb dO h.2.2.1,aH.inb aO h.2.2.2⟩
theorem kR{α:Type}{R:Rep α}{w:World}{ok:nP}{v:Value}{l:List α}(h:aH R w ok v l):v.oneCell'=true:=by
 obtain⟨a,c,rfl,_⟩:=h.slice;rfl
theorem bM:Firm yB 5:={
 aCM:=fun⟨vt,vc,vo,e,h⟩ b=>⟨vt,vc,vo,e,h.aCM b⟩
 more:=fun⟨vt,vc,vo,e,h⟩ c=>⟨vt,vc,vo,e,h.more c⟩
 len:=fun⟨vt,vc,vo,e,h⟩=>by rw[e];rfl
 one:=fun⟨vt,vc,vo,e,h⟩=>by
  intro v a;rw[e] at a;simp only[List.mem_cons,List.not_mem_nil,or_false] at a
  rcases a with rfl|rfl|rfl|rfl|rfl
  .rfl
  .rfl
  .exact kR h.2.1
  .exact kR h.2.2.1
  .exact kR h.2.2.2
 inb:=fun⟨vt,vc,vo,e,h⟩=>⟨vt,vc,vo,e,h.inb⟩}
def pX:Nat->Rep Po
 |0=>fun _ _ _ _=>False
 |n+1=>fun w ok cs p=>∃vt vr vk vo,cs=[.string p.id,.bool p.set,.int .i64 p.alg,vt,vr,vk,vo]/\p.id.size<=cP/\bK p.alg/\nX w ok vt p.aCO/\aH yB w ok vr p.aCH/\aH (pX n) w ok vk p.aCS/\aH jT w ok vo p.aCU
def fK(n:Nat)(w:World)(ok:nP)(p:Po)(vt vr vk vo:Value):Prop:=p.id.size<=cP/\bK p.alg/\nX w ok vt p.aCO/\aH yB w ok vr p.aCH/\aH (pX n) w ok vk p.aCS/\aH jT w ok vo p.aCU
theorem bB:∀n,Firm (pX n) 7
 |0=>⟨fun h=>h.elim,fun h=>h.elim,fun h=>h.elim,fun h=>h.elim,fun h=>h.elim⟩
 |n+1=>by
  have F:=bB n;refine⟨?_,?_,?_,?_,?_⟩
  .rintro w w' ok cs x ⟨vt,vr,vk,vo,e,h1,h2,h3,h4,h5,h6⟩ a;exact⟨vt,vr,vk,vo,e,h1,h2,aH.aCM aS h3 a,aH.aCM bM h4 a,aH.aCM F h5 a,aH.aCM aO h6 a⟩
  .rintro w ok ok' cs x ⟨vt,vr,vk,vo,e,h1,h2,h3,h4,h5,h6⟩ b;exact⟨vt,vr,vk,vo,e,h1,h2,aH.more aS h3 b,aH.more bM h4 b,aH.more F h5 b,aH.more aO h6 b⟩
  .rintro w ok cs x ⟨vt,vr,vk,vo,e,h⟩;rw[e];rfl
  .rintro w ok cs x ⟨vt,vr,vk,vo,e,h1,h2,h3,h4,h5,h6⟩ v c;rw[e] at c;simp only[List.mem_cons,List.not_mem_nil,or_false] at c
   rcases c with rfl|rfl|rfl|rfl|rfl|rfl|rfl
   .rfl
   .rfl
   .rfl
   .exact kR h3
   .exact kR h4
   .exact kR h5
   .exact kR h6
  .rintro w ok cs x ⟨vt,vr,vk,vo,e,h1,h2,h3,h4,h5,h6⟩;exact⟨vt,vr,vk,vo,e,h1,h2,aH.inb aS h3,aH.inb bM h4,aH.inb F h5,aH.inb aO h6⟩
def PoV(n:Nat)(w:World)(ok:nP)(v:Value)(p:Po):Prop:=∃vt vr vk vo,v=.agg #[.string p.id,.bool p.set,.int .i64 p.alg,vt,vr,vk,vo]/\fK n w ok p vt vr vk vo
theorem fK.aCM{n:Nat}{w w':World}{ok:nP}{p:Po}{vt vr vk vo:Value}(h:fK n w ok p vt vr vk vo)(a:aN ok w w'):fK n w' ok p vt vr vk vo:=
 ⟨h.1,h.2.1,aH.aCM aS h.2.2.1 a,aH.aCM bM h.2.2.2.1 a,aH.aCM (bB n) h.2.2.2.2.1 a,aH.aCM aO h.2.2.2.2.2 a⟩
theorem fK.inb{n:Nat}{w:World}{ok:nP}{p:Po}{vt vr vk vo:Value}(h:fK n w ok p vt vr vk vo):fK n w (fun b=>ok b/\b<w.heap.size) p vt vr vk vo:=
 ⟨h.1,h.2.1,aH.inb aS h.2.2.1,aH.inb bM h.2.2.2.1,aH.inb (bB n) h.2.2.2.2.1,aH.inb aO h.2.2.2.2.2⟩
theorem fK.more{n:Nat}{w:World}{ok ok':nP}{p:Po}{vt vr vk vo:Value}(h:fK n w ok p vt vr vk vo)(a:∀b,ok b->ok' b):fK n w ok' p vt vr vk vo:=
 ⟨h.1,h.2.1,aH.more aS h.2.2.1 a,aH.more bM h.2.2.2.1 a,aH.more (bB n) h.2.2.2.2.1 a,aH.more aO h.2.2.2.2.2 a⟩
theorem Qw{p:Prop}(h:p:=by
 split
 .exact h1.trans (BP _ _ h1.lt)
 .exact h1):p:=h
theorem NQ{p:Prop}(h:p:=by
 have h7:=fY T xY h6.lt;exact h15.trans (h6.trans (h7.trans (uS T h7.lt)))):p:=h
structure Toks (L:List Tok):Prop where
 len:L.length<=5000
 last:∀i t,L[i]? =some t->t.aCF≠7->i+1<L.length
 size:∀t∈L,t.str.size<=4096
 num:∀t∈L,bK t.num
 place:∀t∈L,0<=t.at_/\t.at_<=4096
 aCF:∀t∈L,1<=t.aCF/\t.aCF<=7
def eO(L:List Tok)(p:PS):V3×PS:=
 let t:=aU L p
 if t.aCF=2 then ((2,t.num,t.str),p)
 else if t.aCF=3 then ((4,t.num,t.str),p)
 else if t.aCF=4 then ((5,t.num,t.str),p)
 else if t.aCF=5 then ((3,t.num,t.str),p)
 else if cL L (str "true") p then ((1,1,ByteArray.empty),p)
 else if cL L (str "false") p then ((1,0,ByteArray.empty),p)
 else ((0,t.num,t.str),dK L p)
structure dI (L:List Tok) (p p':PS):Prop where
 le:p.at_<=p'.at_
 lt:p'.at_<L.length
 aCH:p.aCH<=p'.aCH
 aDp:p.aCH<=64->p'.aCH<=64
section
variable {L:List Tok} (T:Toks L)
theorem dI.refl{p:PS}(h:p.at_<L.length):dI L p p:=⟨lR _,h,lR _,id⟩
theorem dI.trans{p q r:PS}(h:dI L p q)(k:dI L q r):dI L p r:=⟨lT h.le k.le,k.lt,lT h.aCH k.aCH,fun x=>k.aDp (h.aDp x)⟩
theorem EC{p:PS}(h:p.at_<L.length):aU L p=L[p.at_]:=by
 unfold aU;rw[gE h];rfl
theorem IC(e pl:Int)(p:PS):(eM e pl p).at_=p.at_/\(eM e pl p).aCH=p.aCH:=by
 unfold eM;split<;>exact⟨rfl,rfl⟩
theorem lK(e pl:Int)(he:e≠0)(p:PS):(eM e pl p).bad≠0:=by
 unfold eM;split
 .exact he
 .assumption
theorem BP(e pl:Int){p:PS}(h:p.at_<L.length):dI L p (eM e pl p):=by
 have:=IC e pl p;exact⟨qo,qo,qo,qo⟩
theorem rM{p:PS}(h:p.at_<L.length):dI L p (dK L p):=BP _ _ h
theorem kN(b:Bool){p:PS}(h:p.at_<L.length):dI L p (cQ L b p):=by
 unfold cQ;split
 .exact BP _ _ h
 .exact dI.refl h
include T
theorem Te{p:PS}(h:p.at_<L.length)(a:(aU L p).aCF≠7):p.at_+1<L.length:=T.last p.at_ _ (by rw[gE h]) (by rwa [EC h] at a)
theorem yX{p:PS}(h:p.at_<L.length)(a:(aU L p).aCF≠7):dI L p {p with at_:=p.at_+1}:=⟨Nat.le_succ _,Te T h a,lR _,id⟩
omit T in
theorem lE{s:bY}{p:PS}(h:cL L s p=true):p.bad=0/\(aU L p).str=s/\((aU L p).aCF=1\/(aU L p).aCF=6):=by
 unfold cL at h;rw[Bool.and_eq_true,Bool.and_eq_true,Bool.or_eq_true,decide_eq_true_eq,decide_eq_true_eq,decide_eq_true_eq,decide_eq_true_eq] at h;exact⟨h.1,h.2.1,h.2.2⟩
theorem fN{s:bY}{p:PS}(h:p.at_<L.length)(a:cL L s p=true):dI L p {p with at_:=p.at_+1}:=yX T h (qA ((lE a).2.2))
theorem RX(s:bY){p:PS}(h:p.at_<L.length):dI L p (kJ L s p).2:=by
 unfold kJ;split
 .exact fN T h (by assumption)
 .exact dI.refl h
theorem fY(s:bY){p:PS}(h:p.at_<L.length):dI L p (eG L s p):=by
 unfold eG;split
 .exact fN T h (by assumption)
 .exact rM h
theorem jC{p:PS}(h:p.at_<L.length):dI L p (bS L p).2:=by
 unfold bS;dsimp only;by_cases a:(aU L p).aCF≠1
 .rw[iP a,iP (show (dK L p).bad≠0 from lK 5 _ qe _)];exact rM h
 .rw[iN a];split
  .exact dI.refl h
  .exact yX T h qo
theorem dP(words:List ByteArray){p:PS}(h:p.at_<L.length):dI L p (aZ L words p).2:=by
 unfold aZ;dsimp only;split
 .rename_i a;exact yX T h qo
 .exact rM h
theorem nF{p:PS}(h:p.at_<L.length):dI L p (cD L p).2:=by
 unfold cD;dsimp only;have h1:=dP T [str "subject",str "action",str "case",str "env"] h;have h2:=fY T (str ".") h1.lt;have h3:=jC T h2.lt;have h4:=RX T (str "!") h3.lt;exact h1.trans (h2.trans (h3.trans h4))
omit T in
theorem yY(L:List Tok)(p:PS):cX L p=if (eO L p).2.bad≠0 then (bD,(eO L p).2) else ((eO L p).1,{(eO L p).2 with at_:=(eO L p).2.at_+1}):=rfl
omit T in
theorem Ay{p:PS}(h:p.at_<L.length):dI L p (eO L p).2/\((eO L p).2.bad=0->(eO L p).2=p/\(aU L p).aCF≠7):=by
 unfold eO;dsimp only;split
 .exact⟨dI.refl h,fun _=>⟨rfl,qo⟩⟩
 split
 .exact⟨dI.refl h,fun _=>⟨rfl,qo⟩⟩
 split
 .exact⟨dI.refl h,fun _=>⟨rfl,qo⟩⟩
 split
 .exact⟨dI.refl h,fun _=>⟨rfl,qo⟩⟩
 split
 .rename_i a;exact⟨dI.refl h,fun _=>⟨rfl,qA ((lE a).2.2)⟩⟩
 split
 .rename_i a;exact⟨dI.refl h,fun _=>⟨rfl,qA ((lE a).2.2)⟩⟩
 .exact⟨rM h,fun b=>absurd b (lK _ _ qe _)⟩
theorem wM{p:PS}(h:p.at_<L.length):dI L p (cX L p).2:=by
 rw[yY];have h1:=Ay (L:=L) h;by_cases a:(eO L p).2.bad≠0
 .rw[iP a];exact h1.1
 .rw[iN a];obtain⟨e,b⟩:=h1.2 (by simpa using a);rw[e];exact yX T h b
theorem yC{p:PS}(h:p.at_<L.length):dI L p (sF L p).2:=by
 unfold sF
 repeat' split
 .exact fN T h (by assumption)
 .exact fN T h (by assumption)
 .exact fN T h (by assumption)
 .exact rM h
theorem BQ{p:PS}(h:p.at_<L.length):dI L p (eC L p).2:=by
 unfold eC;dsimp only;have h1:=nF T h;have h2:=yC T h1.lt;have h3:=wM T h2.lt;exact h1.trans (h2.trans h3)
theorem vM{α:Type}{one:PS->α×PS}(a:∀{p:PS},p.at_<L.length->dI L p (one p).2)(sep:bY):∀(f:Nat) (l:List α) {p:PS},p.at_<L.length->dI L p (jR L one sep f l p).2
 |0,l,p,h=>dI.refl h
 |f+1,l,p,h=>by
  unfold jR;split
  .rename_i b;have h1:=fN T h b;have h2:=a h1.lt;have h3:=kN (decide (8<(l++[(one {p with at_:=p.at_+1}).1]).length)) h2.lt;exact h1.trans (h2.trans (h3.trans (vM a sep f _ h3.lt)))
  .exact dI.refl h
theorem LX{p:PS}(h:p.at_<L.length):dI L p (iX L p).2:=by
 unfold iX;dsimp only;have h1:=BQ T h;exact h1.trans (vM T (BQ T) _ _ _ h1.lt)
theorem LY{p:PS}(h:p.at_<L.length):dI L p (lY L p).2:=by
 unfold lY;dsimp only;have h0:=fY T (str "(") h;have h1:=LX T h0.lt;have h2:=vM T (LX T) (str "or") L.length [(iX L (eG L (str "(") p)).1] h1.lt;exact h0.trans (h1.trans (h2.trans (fY T _ h2.lt)))
theorem lM{p:PS}(h:p.at_<L.length):dI L p (bU L p).2:=by
 unfold bU;split
 .rename_i a;dsimp only;have h0:=fN T h a;have h1:=LY T h0.lt;exact h0.trans (h1.trans (vM T (LY T) _ _ _ h1.lt))
 .exact dI.refl h
theorem ID{p:PS}(h:p.at_<L.length):dI L p (tG L p).2:=by
 unfold tG;dsimp only;have h1:=dP T [str "permit",str "deny"] h;have h2:=dP T [str "log",str "redact",str "review",str "notify"] h1.lt;have h3:=jC T h2.lt;exact h1.trans (h2.trans h3)
theorem uS{p:PS}(h:p.at_<L.length):dI L p (gK L p).2:=vM T (ID T) _ _ _ h
def dB(L:List Tok)(f:Nat)(acc:List No×PS)(must:Bool):List No×PS:=
 if acc.2.bad≠0 then acc else
  ((eV L f acc.1 acc.2).1.1,if (eV L f acc.1 acc.2).1.2≠must then eM 5 (aU L acc.2).at_ (eV L f acc.1 acc.2).2 else (eV L f acc.1 acc.2).2)
theorem yZ:∀(f:Nat) (l:List No) {p:PS},p.at_<L.length->dI L p (eV L f l p).2
 |0,l,p,h=>by unfold eV;exact dI.refl h
 |f+1,l,p,h=>by
  have c:∀{l:List No} {p:PS} (must:Bool),p.at_<L.length->dI L p (dB L f (l,p) must).2:=by
   intro l p must h;unfold dB;dsimp only;split
   .exact dI.refl h
   .have h1:=yZ f l h;exact Qw
  have b:∀(ms:List Bool) {l:List No} {p:PS},p.at_<L.length->dI L p (ms.foldl (dB L f) (l,p)).2:=by
   intro ms
   induction ms with
   |nil=>intro l p h;exact dI.refl h
   |cons m ms d=>
    intro l p h;have h1:=c (l:=l) m h;exact h1.trans (d h1.lt)
  unfold eV;dsimp only;by_cases a:cL L (str "(") p=true
  .rw[iP a];have h0:=fN T h a;have h1:=dP T eB h0.lt;have h2:=b (fI (2+(aZ L eB {p with at_:=p.at_+1}).1)) (l:=l) h1.lt;have h3:=fY T (str ")") h2.lt;exact h0.trans (h1.trans (h2.trans (h3.trans (kN _ h3.lt))))
  .rw[iN a];split
   .have h1:=nF T h;exact h1.trans (kN _ h1.lt)
   .have h1:=wM T h;exact h1.trans (kN _ h1.lt)
theorem FG(l:List No)(must:Bool){p:PS}(h:p.at_<L.length):dI L p (jA L l must p).2:=by
 unfold jA;dsimp only;have h1:=yZ T L.length l h;exact Qw
theorem IE(deny:Bool){p:PS}(h:p.at_<L.length):dI L p (kK L deny p).2:=by
 unfold kK;dsimp only;have h1:=jC T h;have h2:=lM T h1.lt;have h3:dI L (bU L (bS L p).2).2 (if cL L (str "if") (bU L (bS L p).2).2=true then jA L [] false {(bU L (bS L p).2).2 with at_:=(bU L (bS L p).2).2.at_+1} else ([],(bU L (bS L p).2).2)).2:=by
  split
  .rename_i a;have h0:=fN T h2.lt a;exact h0.trans (FG T _ _ h0.lt)
  .exact dI.refl h2.lt
 have h4:=uS T h3.lt;exact h1.trans (h2.trans (h3.trans (h4.trans (fY T _ h4.lt))))
omit T in
theorem Az{b:Bool}{p:PS}(h:(cQ L b p).bad=0):b=false/\cQ L b p=p:=by
 cases b
 .exact⟨rfl,by unfold cQ;rw[iN qe]⟩
 .unfold cQ at h;rw[iP rfl] at h;exact absurd h (lK _ _ qe _)
theorem sP:∀(f:Nat) (l:List Ru) {p:PS},p.at_<L.length->dI L p (iH L f l p).2
 |0,l,p,h=>by unfold iH;exact dI.refl h
 |f+1,l,p,h=>by
  unfold iH;split
  .rename_i a;dsimp only;split
   .exact kN _ h
   .rename_i d;obtain⟨b,hp⟩:=Az (by simpa using d);rw[hp];have h0:dI L p {p with at_:=p.at_+1}:=by
     rw[Bool.or_eq_true] at a
     rcases a with a|a
     .exact fN T h a
     .exact fN T h a
    have c:p.aCH≠64:=by
     intro c;rw[c] at b;simp at b
    have h1:dI L p {p with aCH:=p.aCH+1,at_:=p.at_+1}:=⟨h0.le,h0.lt,Nat.le_succ _,fun x=>by show p.aCH+1<=64;omega⟩;have h2:=IE T (cL L (str "deny") p) h1.lt;exact h1.trans (h2.trans (sP f _ h2.lt))
  .exact dI.refl h
omit T in
theorem qO{one:PS->Po×PS}(a:∀{p:PS},p.at_<L.length->dI L p (one p).2)(deep:Bool):∀(f:Nat) (l:List Po) {p:PS},p.at_<L.length->dI L p (gL L one deep f l p).2
 |0,l,p,h=>by unfold gL;exact dI.refl h
 |f+1,l,p,h=>by
  unfold gL;split
  .dsimp only;split
   .exact kN _ h
   .have h0:=kN (L:=L) (decide (l.length=16)||deep) h;have h1:=a h0.lt;exact h0.trans (h1.trans (qO a deep f _ h1.lt))
  .exact dI.refl h
theorem rN:∀(n:Nat) {p:PS},p.at_<L.length->dI L p (cO L n p).2:=by
 intro n
 induction n with
 |zero=>
  intro p h;unfold cO;dsimp only;have h1:=dP T [str "policy",str "set"] h;have h2:=jC T h1.lt;have h3:=dP T dD h2.lt;have h4:=lM T h3.lt;have h5:=fY T qV h4.lt;have h15:=h1.trans (h2.trans (h3.trans (h4.trans h5)));by_cases a:decide ((aZ L [str "policy",str "set"] p).1=2)=true
  .rw[iP a];have h6:=qO (one:=fun q=>(lX,q)) (fun h=>dI.refl h) true L.length [] h5.lt;exact NQ
  .rw[iN a];have h6:=sP T L.length [] h5.lt;exact NQ
 |succ n b=>
  intro p h;unfold cO;dsimp only;have h1:=dP T [str "policy",str "set"] h;have h2:=jC T h1.lt;have h3:=dP T dD h2.lt;have h4:=lM T h3.lt;have h5:=fY T qV h4.lt;have h15:=h1.trans (h2.trans (h3.trans (h4.trans h5)));by_cases a:decide ((aZ L [str "policy",str "set"] p).1=2)=true
  .rw[iP a];have h6:=qO (one:=cO L n) b false L.length [] h5.lt;exact NQ
  .rw[iN a];have h6:=sP T L.length [] h5.lt;exact NQ
end
theorem aC{a w w':World}(h:Below a.heap.size a w)(k:Below w.heap.size w w'):Below a.heap.size a w':=h.trans (k.mono h.size)
theorem qB{a w w2:World}(h:Hid (Below a.heap.size a w))(k:Below w.heap.size w w2):Hid (Below a.heap.size a w2):=aA (aC h.o k)
theorem fX{B:Nat}{a w w':World}(h:Below B a w)(k:jP w w'):Below B a w':=by
 obtain⟨n,rfl⟩:=k;exact⟨h.os,h.tape,h.output,h.size,h.block⟩
theorem aB(w:World)(o:Obj):Below w.heap.size w (w.alloc o):=(Below.refl _ _).alloc (lR _) _
theorem vN(w:World)(cs:Array Value)(t:TypeId)(fr:Nat×Nat)(i:Nat)(v:Value)(h:cs[i]? =some v):(w.alloc (.cells cs t fr)).cell? ⟨w.heap.size,i,none⟩=some v:=by
 unfold World.cell?;rw[heap_alloc_new];simpa using h
theorem QCi{p:Prop}(h:p:=by
 have HB:=aA hb1;clear HH hb1;go_wp2_with fail;refine(HW.o).mono ?_;rintro e w2 ⟨rfl,h2,k2⟩;go_wp2;go_returns;exact⟨rfl,h2,(aJ HB.o).trans k2⟩):p:=h
theorem Fl{α:Type}{a0 a a2 a3:α}{l:List α}{p:Nat->α->Prop}(h:∀j x,(a0::a::a2::a3::l)[j]? =some x->p j x):p 0 a0/\p 1 a/\p 2 a2/\p 3 a3:=⟨h 0 _ rfl,h 1 _ rfl,h 2 _ rfl,h 3 _ rfl⟩
theorem qI{P:Program}{id:Nat}{Q:Exit->Act->World->Prop}{a:Act}{w:World}{l:List Oper}(n:Nat)(hm:P.follows .mixedOrders=true)(c:Region.lexTailB .any l.toArray n=true)
 (h:wpStill P l.toArray w.drew (fun b=>wpList P l.toArray Q (l.drop n) b w.drew) (l.take n) a):(Code.region id l.toArray true).wp P Q a w:=wp_region_still_tail n hm c h
def PW(L:List Tok)(w:World)(g:Nat)(p:PS):Prop:=
 ∃A c,w.heap[g]? =some (.cells #[.slice A L.length c,.int .i64 p.at_,.int .i64 p.aCH,.int .i64 p.bad,.int .i64 p.place] 168 (0,0))/\aH RW w (fun b=>b<g) (.slice A L.length c) L
theorem PW.lt{L:List Tok}{w:World}{g:Nat}{p:PS}(h:PW L w g p):g<w.heap.size:=by
 obtain⟨A,c,h1,_⟩:=h;exact(Array.getElem?_eq_some_iff.1 h1).1
theorem PW.on{L:List Tok}{w w':World}{g:Nat}{p:PS}(h:PW L w g p)(a:Below w.heap.size w w'):PW L w' g p:=by
 have b:=h.lt;obtain⟨A,c,h1,h2⟩:=h;exact⟨A,c,by rw[a.block g b];exact h1,h2.on gX a⟩
theorem PW.aCM{L:List Tok}{w w':World}{g:Nat}{p:PS}{ok:nP}(h:PW L w g p)(a:aN ok w w')(d:∀b,b<=g->ok b):PW L w' g p:=by
 have e:=h.lt;obtain⟨A,c,h1,h2⟩:=h;exact⟨A,c,by rw[a.block g e (d g (lR _))];exact h1,h2.aCM gX (a.mono fun k _ h=>d k (by have:k<g:=h;omega))⟩
theorem PW.set{L:List Tok}{w:World}{g:Nat}{p:PS}(h:PW L w g p){b i:Nat}{v:Value}(c:g<b):PW L (w.setCell ⟨b,i,none⟩ v) g p:=
 h.aCM (ok:=fun x=>x≠b) ⟨rfl,rfl,rfl,by simp[World.setCell],fun k d a=>Below.heap_setCell _ _ _ _ a⟩ (fun x e=>by show x≠b;omega)
theorem PW.cells{L:List Tok}{w:World}{g:Nat}{p:PS}(h:PW L w g p):∃A c,w.cell? ⟨g,0,none⟩=some (.slice A L.length c)/\w.cell? ⟨g,1,none⟩=some (.int .i64 p.at_)/\w.cell? ⟨g,2,none⟩=some (.int .i64 p.aCH)/\w.cell? ⟨g,3,none⟩=some (.int .i64 p.bad)/\w.cell? ⟨g,4,none⟩=some (.int .i64 p.place)/\aH RW w (fun b=>b<g) (.slice A L.length c) L:=by
 obtain⟨A,c,h1,h2⟩:=h;exact⟨A,c,by simp[World.cell?,h1],by simp[World.cell?,h1],by simp[World.cell?,h1],by simp[World.cell?,h1],by simp[World.cell?,h1],h2⟩
theorem PW.free{L:List Tok}{w:World}{g:Nat}{p:PS}(h:PW L w g p)(i:Nat):w.frozen? ⟨g,i,none⟩=false:=by
 obtain⟨A,c,h1,_⟩:=h;simp[World.frozen?,h1]
def cV(B g:Nat)(w w':World):Prop:=aN (fun b=>b<B/\b≠g) w w'
theorem cV.aCV{B g:Nat}{a w w':World}(h:cV B g a w)(k:aN (fun b=>b≠g) w w'):cV B g a w':=aN.trans h (k.mono fun _ _ h=>h.2)
theorem cV.set{B g:Nat}{a w:World}(h:cV B g a w){b i:Nat}{v:Value}(d:B<=b):cV B g a (w.setCell ⟨b,i,none⟩ v):=
 aN.trans h ⟨rfl,rfl,rfl,by simp[World.setCell],fun k e c=>Below.heap_setCell _ _ _ _ (by have:=c.1;simp only;omega)⟩
theorem cV.new{B g:Nat}{a w w':World}(h:cV B g a w)(k:Below w.heap.size w w'):cV B g a w':=aN.trans h (aJ k)
theorem cV.end{g:Nat}{w w':World}(h:cV w.heap.size g w w'):aN (fun b=>b≠g) w w':=aN.mono h fun k a h=>⟨a,h⟩
theorem aF{ok:nP}{w w':World}{b:Nat}{o:Obj}(h:w.heap[b]? =some o)(k:aN ok w w')(a:ok b):w'.heap[b]? =some o:=by
 rw[k.block b (Array.getElem?_eq_some_iff.1 h).1 a];exact h
theorem qS{ok:nP}{w w2:World}{b:Nat}{o:Obj}(h:Hid (w.heap[b]? =some o))(k:aN ok w w2)(a:ok b):Hid (w2.heap[b]? =some o):=aA (aF h.o k a)
theorem aE{w w':World}{b:Nat}{o:Obj}(h:w.heap[b]? =some o)(k:Below w.heap.size w w'):w'.heap[b]? =some o:=by
 rw[k.block b (Array.getElem?_eq_some_iff.1 h).1];exact h
theorem qK{w w2:World}{b:Nat}{o:Obj}(h:Hid (w.heap[b]? =some o))(k:Below w.heap.size w w2):Hid (w2.heap[b]? =some o):=aA (aE h.o k)
theorem bE{w:World}{b b' i:Nat}{v:Value}{o:Obj}(h:w.heap[b]? =some o)(a:b≠b'):(w.setCell ⟨b',i,none⟩ v).heap[b]? =some o:=by
 rw[Below.heap_setCell _ _ _ _ a];exact h
theorem aD{w:World}{b:Nat}{o:Obj}(h:w.heap[b]? =some o):b<w.heap.size:=(Array.getElem?_eq_some_iff.1 h).1
def aP(v:Value)(w:World)(e:Ending)(w':World):Prop:=e=.returned v/\Below w.heap.size w w'
theorem gG{L:List Tok}{p:PS}(hp:p.at_<L.length)(f:L.length<=5000)(g:Nat)(w:World)(h:PW L w g p):
 Calls prog 91 #[.pointer (some ⟨g,0,none⟩)] w (aP (gY (aU L p)) w):=by
 rw[EC hp];have j:=h.lt;obtain⟨A,c,c0,c1,_,_,_,d⟩:=h.cells;obtain⟨b,off,r,rfl,_,i,⟨rfl,_⟩,a⟩:=aH.at gX d hp qe;obtain⟨e,l,m,n⟩:=Fl a;rw[Nat.add_zero] at e;have i0:(0:Int)<=(p.at_:Int):=qo;have k:(p.at_:Int)<(L.length:Int):=qo;clear a d h;unfold aP;unfold gY;generalize L[p.at_]=t at *;go_enter func91,ntmps91;go_wp2;refine qI 10 (by kernel_rfl) (by kernel_rfl) ?_;simp only[List.take_succ_cons,List.take_zero,List.drop_succ_cons,List.drop_zero]
 repeat still_step
 refine wpStill_nil ?_;go_wp2;go_returns;exact⟨rfl,((Below.refl _ _).alloc (lR _) _).drew⟩
def eP(L:List Tok)(g:Nat)(w:World)(v:Value)(p':PS)(e:Ending)(w':World):Prop:=e=.returned v/\PW L w' g p'/\aN (fun b=>b≠g) w w'
theorem aG{w:World}{g:Nat}{cs:Array Value}{t:TypeId}{m:Nat×Nat}(h:w.heap[g]? =some (.cells cs t m))(i:Nat)(v:Value):(w.setCell ⟨g,i,none⟩ v).heap[g]? =some (.cells (cs.setIfInBounds i v) t m):=by
 simp only[World.setCell,Array.getElem?_modify,h];simp
theorem aI{w:World}{g i:Nat}(v:Value):aN (fun b=>b≠g) w (w.setCell ⟨g,i,none⟩ v):=⟨rfl,rfl,rfl,by simp[World.setCell],fun k c a=>Below.heap_setCell _ _ _ _ a⟩
theorem PW.stay{L:List Tok}{w w':World}{g:Nat}{p p':PS}(h:PW L w g p)(d:aN (fun b=>b≠g) w w')(a:∀A c,w.heap[g]? =some (.cells #[.slice A L.length c,.int .i64 p.at_,.int .i64 p.aCH,.int .i64 p.bad,.int .i64 p.place] 168 (0,0))->w'.heap[g]? =some (.cells #[.slice A L.length c,.int .i64 p'.at_,.int .i64 p'.aCH,.int .i64 p'.bad,.int .i64 p'.place] 168 (0,0))):PW L w' g p':=by
 obtain⟨A,c,h1,h2⟩:=h;exact⟨A,c,a A c h1,h2.aCM gX (d.mono fun k _ h=>by show k≠g;have:k<g:=h;omega)⟩
theorem tQ{L:List Tok}{p:PS}(e pl:Int)(g:Nat)(w:World)(h:PW L w g p):
 Calls prog 94 #[.pointer (some ⟨g,0,none⟩),.int .i64 e,.int .i64 pl] w (eP L g w (.tuple #[]) (eM e pl p)):=by
 have f:=h.lt;obtain⟨A,c,c0,c1,c2,c3,c4,b⟩:=h.cells;have H:=aA h;have f3:=h.free 3;have f4:=h.free 4;unfold eP;unfold eM;clear h b;by_cases a:p.bad=0
 .rw[iP a];rw[a] at c3;clear a;go_enter func94,ntmps94;go_wp2;go_returns;refine⟨rfl,H.o.stay ((aI _).trans (aI _)) fun A c h=> ?_,(aI _).trans (aI _)⟩;rw[aG (aG h 3 _) 4 _];rfl
 .rw[iN a];have d:(p.bad==0)=false:=bN.2 a;clear a;go_enter func94,ntmps94;go_wp2;go_returns;exact⟨rfl,H.o,aN.refl _ _⟩
theorem RY(a b c:Int)(s:bY)(w:World):(Instr.field 98 (.agg #[.int .i64 a,.int .i64 b,.int .i64 c,.string s]) 1).run prog w=.ok (.int .i64 b) w:=by kernel_rfl
theorem aP.aCV{L:List Tok}{p:PS}{g:Nat}{w:World}{v:Value}{e:Ending}{w':World}(h:aP v w e w')(hp:PW L w g p):eP L g w v p e w':=⟨h.1,hp.on h.2,aJ h.2⟩
theorem lN{L:List Tok}{p:PS}(hp:p.at_<L.length)(a:L.length<=5000)(g:Nat)(w:World)(h:PW L w g p):
 Calls prog 92 #[.pointer (some ⟨g,0,none⟩)] w (eP L g w (.tuple #[]) (dK L p)):=by
 have HH:=aA (gG hp a g w h);have H:=aA h;clear h;unfold eP dK;unfold gY at HH;generalize aU L p=t at *;go_enter func92,ntmps92;have b:=RY t.aCF t.at_ t.num t.str;go_wp2_with fail;refine(HH.o).mono ?_;rintro e w1 ⟨rfl,hb1⟩;have HW:=aA (tQ 5 t.at_ g w1 (H.o.on hb1));exact QCi
theorem kO{L:List Tok}{p:PS}(more:Bool)(hp:p.at_<L.length)(a:L.length<=5000)(g:Nat)(w:World)(h:PW L w g p):
 Calls prog 192 #[.pointer (some ⟨g,0,none⟩),.bool more] w (eP L g w (.tuple #[]) (cQ L more p)):=by
 have HH:=aA (gG hp a g w h);have H:=aA h;clear h;unfold eP cQ;unfold gY at HH;generalize aU L p=t at *
 cases more
 .rw[iN qe];go_enter func192,ntmps192;go_wp2;go_returns;exact⟨rfl,H.o,aN.refl _ _⟩
 .rw[iP rfl];go_enter func192,ntmps192;have b:=RY t.aCF t.at_ t.num t.str;go_wp2_with fail;refine(HH.o).mono ?_;rintro e w1 ⟨rfl,hb1⟩;have HW:=aA (tQ 6 t.at_ g w1 (H.o.on hb1));exact QCi
end Go.Proofs.YtlfngkelmbdehaaGreatDoor

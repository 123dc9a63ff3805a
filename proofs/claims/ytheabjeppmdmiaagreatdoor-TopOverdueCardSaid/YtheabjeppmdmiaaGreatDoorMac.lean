/- Lemmas. -/
import Derived.Test.YtheabjeppmdmiaaGreatDoorMab
import Derived.Laws.CopyOwn
import Derived.Deep.OwnRows
import Derived.Deep.QuietTactic
import Derived.BigQuiet
import Derived.LoopN
import Derived.StillTailTactics
namespace Go.Proofs.YtheabjeppmdmiaaGreatDoor
open Go.RowKit
set_option linter.unusedVariables false
set_option linter.unusedSimpArgs false
set_option maxHeartbeats 16000000
open _root_.Go.Proofs.Tryz
set_option maxRecDepth 20000
def yN(a:At):Bool:=(decide (1<=a.cat)&&decide (a.cat<=4))&&eL a.name
def sX(m:Ma):Bool:=yN m.aD7&&(decide (1<=m.op)&&decide (m.op<=3))&&aT m.val
def oL(n:Nat):Int:=if n=0 then 1 else if 8<n then 6 else 0
def gI{α:Type}(f:α->Int):List α->Int
 | []=>0
 |x::l=>if f x≠0 then f x else gI f l
def rR(l:List Ma):Int:=if oL l.length≠0 then oL l.length else gI (fun m=>if sX m then 0 else 1) l
def rS(l:List (List Ma)):Int:=if oL l.length≠0 then oL l.length else gI rR l
def fA(t:Ta):Int:=if 8<t.length then 6 else gI rS t
def mW(op:Int):Option (List Bool):=
 if op=1\/op=2 then some [] else if op=3\/op=4 then some [true] else if op=5 then some [true,false]
 else if op=11 then some [false] else if 6<=op/\op<=13 then some [false,false] else none
def qZ(n:No):Bool:=
 if n.op=1 then aT n.val&&decide (n.aD7=uS)
 else if n.op=2 then yN n.aD7&&decide (n.val=bD)
 else decide (n.val=bD)&&decide (n.aD7=uS)
def lG(l:List Bool)(n:No):Option (List Bool):=
 match mW n.op with
 |none=>none
 |some w=>
  if qZ n/\w.length<=l.length/\l.drop (l.length - w.length)=w then some (l.take (l.length - w.length)++[decide (n.op=2)]) else none
def iS:List No->List Bool->Option (List Bool)
 | [],l=>some l
 |n::r,l=>match lG l n with
  |none=>none
  |some a=>iS r a
def lH(l:List No):Int:=
 if 32<l.length then 6
 else match iS l [] with
  |none=>1
  |some made=>if 0<l.length/\made≠[false] then 1 else 0
def lI(l:List Ob):Int:=if 8<l.length then 6 else gI (fun o=>if (1<=o.on/\o.on<=2)/\(1<=o.aDG/\o.aDG<=4)/\eL o.arg=true then 0 else 1) l
structure WS where
 met:List ByteArray
 aDK:Nat
def gQ(s:bY)(w:WS):Bool×WS:=if w.met.any (fun t=>decide (t=s))=true\/eL s=false then (false,w) else (true,{w with met:=s::w.met})
def fS(r:Ru)(w:WS):Int×WS:=
 let (ok,w1):=gQ r.id w
 if ok=false then (1,w1)
 else
  let w2:={w1 with aDK:=w1.aDK+1}
  if 64<w2.aDK then (6,w2)
  else if fA r.aDR≠0 then (fA r.aDR,w2)
  else if lH r.cond≠0 then (lH r.cond,w2)
  else (lI r.aDX,w2)
def fL(p:Po)(w:WS):Int×WS:=
 let (ok,w1):=gQ p.id w
 if ok=false\/p.alg<1\/6<p.alg then (1,w1)
 else if (p.set=true/\p.aDK≠[])\/(p.set=false/\(0<p.aDV.length\/p.alg=4)) then (1,w1)
 else if fA p.aDR≠0 then (fA p.aDR,w1)
 else if lI p.aDX≠0 then (lI p.aDX,w1)
 else if 16<p.aDK.length\/16<p.aDV.length then (6,w1)
 else (0,w1)
def jH{α:Type}(f:α->WS->Int×WS):List α->WS->Int×WS
 | [],w=>(0,w)
 |x::l,w=>
  let (e,w1):=f x w
  if e≠0 then (e,w1) else jH f l w1
def eQ:Nat->Po->WS->Int×WS
 |0,_,w=>(6,w)
 |n+1,p,w=>
  let (e,w1):=fL p w
  if e≠0 then (e,w1)
  else
   let (e2,w2):=jH fS p.aDK w1
   if e2≠0 then (e2,w2) else jH (eQ n) p.aDV w2
def fC(p:Po):Int:=(eQ 4 p ⟨[],0⟩).1
def fG(S:bY):Po×Int×Int:=
 let (l,e,place):=jR S.data.toList
 if e≠0 then (mJ,e,place)
 else
  let (out,p):=cP l 3 ⟨0,0,0,0⟩
  let a:=if (aU l p).aDG≠7 then dM l p else p
  let b:=if a.bad=0/\fC out≠0 then eR 5 S.size a else a
  if b.bad≠0 then (mJ,b.bad,b.place) else (out,0,0)
def kI:Int:= -9223372036854775808
def lO:Int:=9223372036854775807
def jZ(a b:V3):Bool×Int:=
 if aT a=false\/aT b=false then (false,1)
 else if a.1≠b.1\/a.1=1 then (false,2)
 else if a.1=3\/a.1=5 then (decide (a.2.2.toList<b.2.2.toList),0)
 else (decide (a.2.1<b.2.1),0)
def gZ(m:Ma)(v:V3):Bool×Int:=
 if m.op=1 then (if v.1≠m.val.1 then (false,2) else (decide (v=m.val),0))
 else if m.op=2 then jZ v m.val
 else jZ m.val v
def qE(g:List Gv)(a:At):List V3×Int:=if uR g a.cat a.name=[]/\a.aEe=true then ([],4) else (uR g a.cat a.name,0)
def mL(m:Ma):List V3->Nat->Nat
 | [],out=>out
 |v::l,out=>if (gZ m v).1 then 2 else mL m l (if (gZ m v).2≠0 then 1 else out)
def lY(g:List Gv)(m:Ma):Nat:=if (qE g m.aD7).2≠0 then 1 else mL m (qE g m.aD7).1 0
def zL(g:List Gv)(l:List Ma):Nat:=l.foldl (fun out m=>min out (lY g m)) 2
def rT(g:List Gv)(t:Ta):Nat:=t.foldl (fun out l=>min out (l.foldl (fun a x=>max a (zL g x)) 0)) 2
structure It where
 bag:List V3
 val:V3
 err:Int
deriving DecidableEq
def cJ(b:Bool):V3:=(1,if b then 1 else 0,ByteArray.empty)
def jM(v:V3)(e:Int):It:=⟨[],v,e⟩
def It.is(x:It)(n:Int):Bool:=decide (x.err=0)&&decide (x.val=(1,n,ByteArray.empty))
def sY(a b:Int):Int×Int:=if kI<=a+b/\a+b<=lO then (a+b,0) else (0,3)
def sZ(a b:Int):Int×Int:=if kI<=a - b/\a - b<=lO then (a - b,0) else (0,3)
def mM(a b:Int):Int×Int:=if kI<=a * b/\a * b<=lO then (a * b,0) else (0,3)
def eJ(f:Int->Int->Int×Int)(a b:V3):V3×Int:=
 if a.1≠2\/b.1≠2 then (bD,2) else if (f a.2.1 b.2.1).2≠0 then (bD,(f a.2.1 b.2.1).2) else ((2,(f a.2.1 b.2.1).1,ByteArray.empty),0)
def nY(op:Int)(a:V3):V3×Int:=if aT a=false then (bD,1) else if a.1≠1 then (bD,2) else (cJ (decide (a.2.1=0)),0)
def dJ(op:Int)(a b:V3):V3×Int:=
 if aT a=false\/aT b=false then (bD,1)
 else if op=6 then (if a.1≠b.1 then (bD,2) else (cJ (decide (a=b)),0))
 else if op=7 then (if (jZ a b).2≠0 then (bD,(jZ a b).2) else (cJ (jZ a b).1,0))
 else if op=8 then eJ sY a b
 else if op=9 then eJ sZ a b
 else if op=10 then eJ mM a b
 else if a.1≠1\/b.1≠1 then (bD,2)
 else if op=12 then (cJ (decide (a.2.1=1)&&decide (b.2.1=1)),0)
 else (cJ (decide (a.2.1=1)||decide (b.2.1=1)),0)
def iT(g:List Gv)(n:No)(l:List It):It:=
 match l with
 | []=>if n.op=1 then jM n.val 0 else ⟨(qE g n.aD7).1,bD,(qE g n.aD7).2⟩
 | [a]=>
   if a.err≠0 then jM bD a.err
   else if n.op=3 then (match a.bag with | [v]=>jM v 0|_=>jM bD 4)
   else if n.op=4 then jM (2,a.bag.length,ByteArray.empty) 0
   else jM (nY n.op a.val).1 (nY n.op a.val).2
 |a::b::_=>
  if (n.op=12\/n.op=13)/\(a.is (n.op - 12)\/b.is (n.op - 12)) then jM (cJ (decide (n.op=13))) 0
  else if a.err≠0 then jM bD a.err
  else if b.err≠0 then jM bD b.err
  else if n.op=5 then jM (cJ (a.bag.any (fun v=>decide (v=b.val)))) 0
  else jM (dJ n.op a.val b.val).1 (dJ n.op a.val b.val).2
def jO(op:Int):Nat:=if op=1\/op=2 then 0 else if op=3\/op=4\/op=11 then 1 else 2
def zM(g:List Gv):List No->List It->List It
 | [],st=>st
 |n::r,st=>zM g r (st.take (st.length - jO n.op)++[iT g n (st.drop (st.length - jO n.op))])
def nZ(g:List Gv)(l:List No):V3×Int:=
 if l=[]\/lH l≠0 then (bD,1) else match zM g l [] with |x::_=>(x.val,x.err)| []=>(bD,1)
def tR(g:List Gv)(l:List No):Nat:=
 if l=[] then 2
 else
  let x:=jM (nZ g l).1 (nZ g l).2
  if x.is 1 then 2 else if x.is 0 then 0 else 1
abbrev Mk:=Nat×Nat
def tY(m:Mk):Mk:=if m=(4,0) then (2,0) else if m=(0,4) then (0,2) else m
def gR(l:List Ob)(m:Mk):List Ob:=l.filter (fun o=>(decide (o.on=1)&&decide (m=(4,0)))||(decide (o.on=2)&&decide (m=(0,4))))
def ES(r:Ru)(t c:Nat):Mk×List Ob:=
 let m:Mk:=if r.aEi then (0,4) else (4,0)
 if t=0\/(t=2/\c=0) then ((0,0),[])
 else if t=1\/c=1 then (tY m,[])
 else (m,gR r.aDX m)
def iC(g:List Gv)(r:Ru):Mk×List Ob:=ES r (rT g r.aDR) (tR g r.cond)
def aAI(a b:Mk):Mk:=(max a.1 b.1,max a.2 b.2)
def Ce(m:Mk):Mk:=(m.2,m.1)
def SP(m:Mk):Mk:=
 if m.2=4 then (0,4) else if m.2=2/\2<=m.1 then (2,2) else if m.2=2 then (0,2) else if m.1=4 then (4,0) else if m.1=2 then (2,0) else (0,0)
def Hb(l:List Mk):Mk:=l.foldl aAI (0,0)
def SQ(m:Mk):Bool:=decide (m=(0,0))||(decide (m=(4,0))||decide (m=(0,4)))
def ET(j m:Mk):Mk:=if j=(0,0) then m else if m=(0,0) then j else (2,2)
def CE(l:List Mk):Mk:=(l.find? (fun m=>decide (m≠(0,0)))).getD (0,0)
def SR(l:List Mk):Mk:=if l.all SQ then l.foldl ET (0,0) else (2,2)
def rI(l:List Mk)(m other:Mk):Mk:=if l.any (fun x=>decide (x=other)) then other else m
def CF(alg:Int)(l:List Mk):Mk:=
 if alg=1 then SP (Hb l)
 else if alg=2 then Ce (SP (Ce (Hb l)))
 else if alg=3 then CE l
 else if alg=4 then SR l
 else if alg=5 then rI l (0,4) (4,0)
 else if alg=6 then rI l (4,0) (0,4)
 else (0,0)
def gJ(first:Bool)(m:Mk):List (Mk×List Ob)->List Ob
 | []=>[]
 |x::l=>if x.1≠m then gJ first m l else if first then x.2 else x.2++gJ first m l
def rU(alg:Int)(obls:List Ob)(t:Nat)(parts:List (Mk×List Ob)):Mk×List Ob:=
 let m:=CF alg (parts.map (·.1))
 if t=0 then ((0,0),[])
 else if t=1 then (tY m,[])
 else if m≠(4,0)/\m≠(0,4) then (m,[])
 else (m,gJ (decide (alg=3)) m parts++gR obls m)
def cU(g:List Gv):Nat->Po->Mk×List Ob
 |0,_=>((0,0),[])
 |n+1,p=>
  let t:=rT g p.aDR
  if t=0 then ((0,0),[])
  else rU p.alg p.aDX t (p.aDK.map (iC g)++p.aDV.map (cU g n))
def qV(g:List Gv)(p:Po):(Mk×List Ob)×Int:=if fC p≠0 then (((0,0),[]),1) else (cU g 4 p,0)
def qG(t:Ta):Option Ma:=
 (t.filter (fun l=>decide (l.length=1))).findSome? (fun l=>((l.head?).getD []).find? (fun m=>decide (m.op=1)&& !m.aD7.aEe))
def oA(g:List Gv)(k:Po):Bool:=match qG k.aDR with |none=>true |some m=>decide (lY g m≠0)
def kA(g:List Gv):Nat->Po->Po
 |0,p=>p
 |n+1,p=> .mk p.id p.set p.alg p.aDR p.aDK ((p.aDV.filter (oA g)).map (kA g n)) p.aDX
def gD(g:List Gv)(p:Po):(Mk×List Ob)×Int:=if fC p≠0 then (((0,0),[]),1) else qV g (kA g 4 p)
def cQ:Nat:=1000000
def cR(v:V3):Prop:=bJ v.1/\bJ v.2.1/\v.2.2.size<=cQ
def IZ(v:V3):List Value:=[.int .i64 v.1,.int .i64 v.2.1,.string v.2.2]
def dE(v:V3):Value:= .agg #[.int .i64 v.1,.int .i64 v.2.1,.string v.2.2]
def NI(t:Tok):Prop:=bJ t.aDG/\bJ t.at_/\bJ t.num/\t.str.size<=cQ
def Hc(t:Tok):List Value:=[.int .i64 t.aDG,.int .i64 t.at_,.int .i64 t.num,.string t.str]
def iE(t:Tok):Value:= .agg #[.int .i64 t.aDG,.int .i64 t.at_,.int .i64 t.num,.string t.str]
def CG(a:At):Prop:=bJ a.cat/\a.name.size<=cQ
def oM(a:At):Value:= .agg #[.int .i64 a.cat,.string a.name,.bool a.aEe]
def tZ(m:Ma):Prop:=CG m.aD7/\bJ m.op/\cR m.val
def Cf(m:Ma):List Value:=[.int .i64 m.aD7.cat,.string m.aD7.name,.bool m.aD7.aEe,.int .i64 m.op,.int .i64 m.val.1,.int .i64 m.val.2.1,.string m.val.2.2]
def kU(m:Ma):Value:= .agg #[.int .i64 m.aD7.cat,.string m.aD7.name,.bool m.aD7.aEe,.int .i64 m.op,.int .i64 m.val.1,.int .i64 m.val.2.1,.string m.val.2.2]
def oU(n:No):Prop:=bJ n.op/\cR n.val/\CG n.aD7
def Cg(n:No):List Value:=[.int .i64 n.op,.int .i64 n.val.1,.int .i64 n.val.2.1,.string n.val.2.2,.int .i64 n.aD7.cat,.string n.aD7.name,.bool n.aD7.aEe]
def jP(n:No):Value:= .agg #[.int .i64 n.op,.int .i64 n.val.1,.int .i64 n.val.2.1,.string n.val.2.2,.int .i64 n.aD7.cat,.string n.aD7.name,.bool n.aD7.aEe]
def yO(o:Ob):Prop:=bJ o.on/\bJ o.aDG/\o.arg.size<=cQ
def EU(o:Ob):List Value:=[.int .i64 o.on,.int .i64 o.aDG,.string o.arg]
def VR:Rep V3:=mS IZ cR
def TE:Rep Tok:=mS Hc NI
def rV:Rep Ma:=mS Cf tZ
def KD:Rep No:=mS Cg oU
def kB:Rep Ob:=mS EU yO
theorem bG:Firm VR 3:=gH (fun _=>rfl) (fun x v h=>by simp only[IZ,List.mem_cons,List.not_mem_nil,or_false] at h;rcases h with rfl|rfl|rfl<;>rfl)
theorem iD:Firm TE 4:=gH (fun _=>rfl) (fun x v h=>by simp only[Hc,List.mem_cons,List.not_mem_nil,or_false] at h;rcases h with rfl|rfl|rfl|rfl<;>rfl)
theorem eS:Firm rV 7:=gH (fun _=>rfl) (fun x v h=>by simp only[Cf,List.mem_cons,List.not_mem_nil,or_false] at h;rcases h with rfl|rfl|rfl|rfl|rfl|rfl|rfl<;>rfl)
theorem dU:Firm KD 7:=gH (fun _=>rfl) (fun x v h=>by simp only[Cg,List.mem_cons,List.not_mem_nil,or_false] at h;rcases h with rfl|rfl|rfl|rfl|rfl|rfl|rfl<;>rfl)
theorem aO:Firm kB 3:=gH (fun _=>rfl) (fun x v h=>by simp only[EU,List.mem_cons,List.not_mem_nil,or_false] at h;rcases h with rfl|rfl|rfl<;>rfl)
abbrev oG(w:World)(ok:nP)(v:Value)(t:Ta):Prop:=aH (rows (rows rV)) w ok v t
theorem dR:Firm (rows rV) 1:=rQ eS
theorem aS:Firm (rows (rows rV)) 1:=rQ dR
def rW(w:World)(ok:nP)(r:Ru)(vt vc vo:Value):Prop:=r.id.size<=cQ/\oG w ok vt r.aDR/\aH KD w ok vc r.cond/\aH kB w ok vo r.aDX
def yP:Rep Ru:=fun w ok cs r=>∃vt vc vo,cs=[.string r.id,.bool r.aEi,vt,vc,vo]/\rW w ok r vt vc vo
theorem rW.aDQ{w w':World}{ok:nP}{r:Ru}{vt vc vo:Value}(h:rW w ok r vt vc vo)(a:aN ok w w'):rW w' ok r vt vc vo:=⟨h.1,aH.aDQ aS h.2.1 a,aH.aDQ dU h.2.2.1 a,aH.aDQ aO h.2.2.2 a⟩
theorem rW.more{w:World}{ok ok':nP}{r:Ru}{vt vc vo:Value}(h:rW w ok r vt vc vo)(a:∀b,ok b->ok' b):rW w ok' r vt vc vo:=⟨h.1,aH.more aS h.2.1 a,aH.more dU h.2.2.1 a,aH.more aO h.2.2.2 a⟩
theorem rW.inb{w:World}{ok:nP}{r:Ru}{vt vc vo:Value}(h:rW w ok r vt vc vo):rW w (fun b=>ok b/\b<w.heap.size) r vt vc vo:=⟨h.1,aH.inb aS h.2.1,aH.inb dU h.2.2.1,aH.inb aO h.2.2.2⟩
theorem lA{α:Type}{R:Rep α}{w:World}{ok:nP}{v:Value}{l:List α}(h:aH R w ok v l):v.oneCell'=true:=by
 obtain⟨a,c,rfl,_⟩:=h.slice;rfl
theorem bL:Firm yP 5:={
 aDQ:=fun⟨vt,vc,vo,e,h⟩ b=>⟨vt,vc,vo,e,h.aDQ b⟩
 more:=fun⟨vt,vc,vo,e,h⟩ c=>⟨vt,vc,vo,e,h.more c⟩
 len:=fun⟨vt,vc,vo,e,h⟩=>by rw[e];rfl
 one:=fun⟨vt,vc,vo,e,h⟩=>by
  intro v a;rw[e] at a;simp only[List.mem_cons,List.not_mem_nil,or_false] at a
  rcases a with rfl|rfl|rfl|rfl|rfl
  .rfl
  .rfl
  .exact lA h.2.1
  .exact lA h.2.2.1
  .exact lA h.2.2.2
 inb:=fun⟨vt,vc,vo,e,h⟩=>⟨vt,vc,vo,e,h.inb⟩}
def qM:Nat->Rep Po
 |0=>fun _ _ _ _=>False
 |n+1=>fun w ok cs p=>∃vt vr vk vo,cs=[.string p.id,.bool p.set,.int .i64 p.alg,vt,vr,vk,vo]/\p.id.size<=cQ/\bJ p.alg/\oG w ok vt p.aDR/\aH yP w ok vr p.aDK/\aH (qM n) w ok vk p.aDV/\aH kB w ok vo p.aDX
def fO(n:Nat)(w:World)(ok:nP)(p:Po)(vt vr vk vo:Value):Prop:=p.id.size<=cQ/\bJ p.alg/\oG w ok vt p.aDR/\aH yP w ok vr p.aDK/\aH (qM n) w ok vk p.aDV/\aH kB w ok vo p.aDX
theorem bB:∀n,Firm (qM n) 7
 |0=>⟨fun h=>h.elim,fun h=>h.elim,fun h=>h.elim,fun h=>h.elim,fun h=>h.elim⟩
 |n+1=>by
  have F:=bB n;refine⟨?_,?_,?_,?_,?_⟩
  .rintro w w' ok cs x ⟨vt,vr,vk,vo,e,h1,h2,h3,h4,h5,h6⟩ a;exact⟨vt,vr,vk,vo,e,h1,h2,aH.aDQ aS h3 a,aH.aDQ bL h4 a,aH.aDQ F h5 a,aH.aDQ aO h6 a⟩
  .rintro w ok ok' cs x ⟨vt,vr,vk,vo,e,h1,h2,h3,h4,h5,h6⟩ b;exact⟨vt,vr,vk,vo,e,h1,h2,aH.more aS h3 b,aH.more bL h4 b,aH.more F h5 b,aH.more aO h6 b⟩
  .rintro w ok cs x ⟨vt,vr,vk,vo,e,h⟩;rw[e];rfl
  .rintro w ok cs x ⟨vt,vr,vk,vo,e,h1,h2,h3,h4,h5,h6⟩ v c;rw[e] at c;simp only[List.mem_cons,List.not_mem_nil,or_false] at c
   rcases c with rfl|rfl|rfl|rfl|rfl|rfl|rfl
   .rfl
   .rfl
   .rfl
   .exact lA h3
   .exact lA h4
   .exact lA h5
   .exact lA h6
  .rintro w ok cs x ⟨vt,vr,vk,vo,e,h1,h2,h3,h4,h5,h6⟩;exact⟨vt,vr,vk,vo,e,h1,h2,aH.inb aS h3,aH.inb bL h4,aH.inb F h5,aH.inb aO h6⟩
def PoV(n:Nat)(w:World)(ok:nP)(v:Value)(p:Po):Prop:=∃vt vr vk vo,v=.agg #[.string p.id,.bool p.set,.int .i64 p.alg,vt,vr,vk,vo]/\fO n w ok p vt vr vk vo
theorem fO.aDQ{n:Nat}{w w':World}{ok:nP}{p:Po}{vt vr vk vo:Value}(h:fO n w ok p vt vr vk vo)(a:aN ok w w'):fO n w' ok p vt vr vk vo:=
 ⟨h.1,h.2.1,aH.aDQ aS h.2.2.1 a,aH.aDQ bL h.2.2.2.1 a,aH.aDQ (bB n) h.2.2.2.2.1 a,aH.aDQ aO h.2.2.2.2.2 a⟩
theorem fO.inb{n:Nat}{w:World}{ok:nP}{p:Po}{vt vr vk vo:Value}(h:fO n w ok p vt vr vk vo):fO n w (fun b=>ok b/\b<w.heap.size) p vt vr vk vo:=
 ⟨h.1,h.2.1,aH.inb aS h.2.2.1,aH.inb bL h.2.2.2.1,aH.inb (bB n) h.2.2.2.2.1,aH.inb aO h.2.2.2.2.2⟩
theorem fO.more{n:Nat}{w:World}{ok ok':nP}{p:Po}{vt vr vk vo:Value}(h:fO n w ok p vt vr vk vo)(a:∀b,ok b->ok' b):fO n w ok' p vt vr vk vo:=
 ⟨h.1,h.2.1,aH.more aS h.2.2.1 a,aH.more bL h.2.2.2.1 a,aH.more (bB n) h.2.2.2.2.1 a,aH.more aO h.2.2.2.2.2 a⟩
theorem Sx{p:Prop}(h:p:=by
 split
 .exact h1.trans (CH _ _ h1.lt)
 .exact h1):p:=h
theorem PD{p:Prop}(h:p:=by
 have h7:=gB T yM h6.lt;exact h15.trans (h6.trans (h7.trans (vD T h7.lt)))):p:=h
structure Toks (L:List Tok):Prop where
 len:L.length<=5000
 last:∀i t,L[i]? =some t->t.aDG≠7->i+1<L.length
 size:∀t∈L,t.str.size<=4096
 num:∀t∈L,bJ t.num
 place:∀t∈L,0<=t.at_/\t.at_<=4096
 aDG:∀t∈L,1<=t.aDG/\t.aDG<=7
def eT(L:List Tok)(p:PS):V3×PS:=
 let t:=aU L p
 if t.aDG=2 then ((2,t.num,t.str),p)
 else if t.aDG=3 then ((4,t.num,t.str),p)
 else if t.aDG=4 then ((5,t.num,t.str),p)
 else if t.aDG=5 then ((3,t.num,t.str),p)
 else if cM L (str "true") p then ((1,1,ByteArray.empty),p)
 else if cM L (str "false") p then ((1,0,ByteArray.empty),p)
 else ((0,t.num,t.str),dM L p)
structure dL (L:List Tok) (p p':PS):Prop where
 le:p.at_<=p'.at_
 lt:p'.at_<L.length
 aDK:p.aDK<=p'.aDK
 aEt:p.aDK<=64->p'.aDK<=64
section
variable {L:List Tok} (T:Toks L)
theorem dL.refl{p:PS}(h:p.at_<L.length):dL L p p:=⟨lR _,h,lR _,id⟩
theorem dL.trans{p q r:PS}(h:dL L p q)(k:dL L q r):dL L p r:=⟨lT h.le k.le,k.lt,lT h.aDK k.aDK,fun x=>k.aEt (h.aEt x)⟩
theorem EV{p:PS}(h:p.at_<L.length):aU L p=L[p.at_]:=by
 unfold aU;rw[gE h];rfl
theorem JA(e pl:Int)(p:PS):(eR e pl p).at_=p.at_/\(eR e pl p).aDK=p.aDK:=by
 unfold eR;split<;>exact⟨rfl,rfl⟩
theorem lZ(e pl:Int)(he:e≠0)(p:PS):(eR e pl p).bad≠0:=by
 unfold eR;split
 .exact he
 .assumption
theorem CH(e pl:Int){p:PS}(h:p.at_<L.length):dL L p (eR e pl p):=by
 have:=JA e pl p;exact⟨qo,qo,qo,qo⟩
theorem rX{p:PS}(h:p.at_<L.length):dL L p (dM L p):=CH _ _ h
theorem kX(b:Bool){p:PS}(h:p.at_<L.length):dL L p (cT L b p):=by
 unfold cT;split
 .exact CH _ _ h
 .exact dL.refl h
include T
theorem Vd{p:PS}(h:p.at_<L.length)(a:(aU L p).aDG≠7):p.at_+1<L.length:=T.last p.at_ _ (by rw[gE h]) (by rwa [EV h] at a)
theorem zN{p:PS}(h:p.at_<L.length)(a:(aU L p).aDG≠7):dL L p {p with at_:=p.at_+1}:=⟨Nat.le_succ _,Vd T h a,lR _,id⟩
omit T in
theorem lP{s:bY}{p:PS}(h:cM L s p=true):p.bad=0/\(aU L p).str=s/\((aU L p).aDG=1\/(aU L p).aDG=6):=by
 unfold cM at h;rw[Bool.and_eq_true,Bool.and_eq_true,Bool.or_eq_true,decide_eq_true_eq,decide_eq_true_eq,decide_eq_true_eq,decide_eq_true_eq] at h;exact⟨h.1,h.2.1,h.2.2⟩
theorem fQ{s:bY}{p:PS}(h:p.at_<L.length)(a:cM L s p=true):dL L p {p with at_:=p.at_+1}:=zN T h (qA ((lP a).2.2))
theorem TF(s:bY){p:PS}(h:p.at_<L.length):dL L p (kS L s p).2:=by
 unfold kS;split
 .exact fQ T h (by assumption)
 .exact dL.refl h
theorem gB(s:bY){p:PS}(h:p.at_<L.length):dL L p (eM L s p):=by
 unfold eM;split
 .exact fQ T h (by assumption)
 .exact rX h
theorem jI{p:PS}(h:p.at_<L.length):dL L p (bT L p).2:=by
 unfold bT;dsimp only;by_cases a:(aU L p).aDG≠1
 .rw[iP a,iP (show (dM L p).bad≠0 from lZ 5 _ qe _)];exact rX h
 .rw[iN a];split
  .exact dL.refl h
  .exact zN T h qo
theorem dV(words:List ByteArray){p:PS}(h:p.at_<L.length):dL L p (aZ L words p).2:=by
 unfold aZ;dsimp only;split
 .rename_i a;exact zN T h qo
 .exact rX h
theorem nO{p:PS}(h:p.at_<L.length):dL L p (cE L p).2:=by
 unfold cE;dsimp only;have h1:=dV T [str "subject",str "action",str "case",str "env"] h;have h2:=gB T (str ".") h1.lt;have h3:=jI T h2.lt;have h4:=TF T (str "!") h3.lt;exact h1.trans (h2.trans (h3.trans h4))
omit T in
theorem zO(L:List Tok)(p:PS):dC L p=if (eT L p).2.bad≠0 then (bD,(eT L p).2) else ((eT L p).1,{(eT L p).2 with at_:=(eT L p).2.at_+1}):=rfl
omit T in
theorem Ch{p:PS}(h:p.at_<L.length):dL L p (eT L p).2/\((eT L p).2.bad=0->(eT L p).2=p/\(aU L p).aDG≠7):=by
 unfold eT;dsimp only;split
 .exact⟨dL.refl h,fun _=>⟨rfl,qo⟩⟩
 split
 .exact⟨dL.refl h,fun _=>⟨rfl,qo⟩⟩
 split
 .exact⟨dL.refl h,fun _=>⟨rfl,qo⟩⟩
 split
 .exact⟨dL.refl h,fun _=>⟨rfl,qo⟩⟩
 split
 .rename_i a;exact⟨dL.refl h,fun _=>⟨rfl,qA ((lP a).2.2)⟩⟩
 split
 .rename_i a;exact⟨dL.refl h,fun _=>⟨rfl,qA ((lP a).2.2)⟩⟩
 .exact⟨rX h,fun b=>absurd b (lZ _ _ qe _)⟩
theorem wX{p:PS}(h:p.at_<L.length):dL L p (dC L p).2:=by
 rw[zO];have h1:=Ch (L:=L) h;by_cases a:(eT L p).2.bad≠0
 .rw[iP a];exact h1.1
 .rw[iN a];obtain⟨e,b⟩:=h1.2 (by simpa using a);rw[e];exact zN T h b
theorem yQ{p:PS}(h:p.at_<L.length):dL L p (sP L p).2:=by
 unfold sP
 repeat' split
 .exact fQ T h (by assumption)
 .exact fQ T h (by assumption)
 .exact fQ T h (by assumption)
 .exact rX h
theorem CI{p:PS}(h:p.at_<L.length):dL L p (eH L p).2:=by
 unfold eH;dsimp only;have h1:=nO T h;have h2:=yQ T h1.lt;have h3:=wX T h2.lt;exact h1.trans (h2.trans h3)
theorem vX{α:Type}{one:PS->α×PS}(a:∀{p:PS},p.at_<L.length->dL L p (one p).2)(sep:bY):∀(f:Nat) (l:List α) {p:PS},p.at_<L.length->dL L p (jY L one sep f l p).2
 |0,l,p,h=>dL.refl h
 |f+1,l,p,h=>by
  unfold jY;split
  .rename_i b;have h1:=fQ T h b;have h2:=a h1.lt;have h3:=kX (decide (8<(l++[(one {p with at_:=p.at_+1}).1]).length)) h2.lt;exact h1.trans (h2.trans (h3.trans (vX a sep f _ h3.lt)))
  .exact dL.refl h
theorem NJ{p:PS}(h:p.at_<L.length):dL L p (jD L p).2:=by
 unfold jD;dsimp only;have h1:=CI T h;exact h1.trans (vX T (CI T) _ _ _ h1.lt)
theorem NL{p:PS}(h:p.at_<L.length):dL L p (mK L p).2:=by
 unfold mK;dsimp only;have h0:=gB T (str "(") h;have h1:=NJ T h0.lt;have h2:=vX T (NJ T) (str "or") L.length [(jD L (eM L (str "(") p)).1] h1.lt;exact h0.trans (h1.trans (h2.trans (gB T _ h2.lt)))
theorem mA{p:PS}(h:p.at_<L.length):dL L p (bU L p).2:=by
 unfold bU;split
 .rename_i a;dsimp only;have h0:=fQ T h a;have h1:=NL T h0.lt;exact h0.trans (h1.trans (vX T (NL T) _ _ _ h1.lt))
 .exact dL.refl h
theorem JB{p:PS}(h:p.at_<L.length):dL L p (tQ L p).2:=by
 unfold tQ;dsimp only;have h1:=dV T [str "permit",str "deny"] h;have h2:=dV T [str "log",str "redact",str "review",str "notify"] h1.lt;have h3:=jI T h2.lt;exact h1.trans (h2.trans h3)
theorem vD{p:PS}(h:p.at_<L.length):dL L p (gO L p).2:=vX T (JB T) _ _ _ h
def dG(L:List Tok)(f:Nat)(acc:List No×PS)(must:Bool):List No×PS:=
 if acc.2.bad≠0 then acc else
  ((eZ L f acc.1 acc.2).1.1,if (eZ L f acc.1 acc.2).1.2≠must then eR 5 (aU L acc.2).at_ (eZ L f acc.1 acc.2).2 else (eZ L f acc.1 acc.2).2)
theorem zP:∀(f:Nat) (l:List No) {p:PS},p.at_<L.length->dL L p (eZ L f l p).2
 |0,l,p,h=>by unfold eZ;exact dL.refl h
 |f+1,l,p,h=>by
  have c:∀{l:List No} {p:PS} (must:Bool),p.at_<L.length->dL L p (dG L f (l,p) must).2:=by
   intro l p must h;unfold dG;dsimp only;split
   .exact dL.refl h
   .have h1:=zP f l h;exact Sx
  have b:∀(ms:List Bool) {l:List No} {p:PS},p.at_<L.length->dL L p (ms.foldl (dG L f) (l,p)).2:=by
   intro ms
   induction ms with
   |nil=>intro l p h;exact dL.refl h
   |cons m ms d=>
    intro l p h;have h1:=c (l:=l) m h;exact h1.trans (d h1.lt)
  unfold eZ;dsimp only;by_cases a:cM L (str "(") p=true
  .rw[iP a];have h0:=fQ T h a;have h1:=dV T eG h0.lt;have h2:=b (fN (2+(aZ L eG {p with at_:=p.at_+1}).1)) (l:=l) h1.lt;have h3:=gB T (str ")") h2.lt;exact h0.trans (h1.trans (h2.trans (h3.trans (kX _ h3.lt))))
  .rw[iN a];split
   .have h1:=nO T h;exact h1.trans (kX _ h1.lt)
   .have h1:=wX T h;exact h1.trans (kX _ h1.lt)
theorem GF(l:List No)(must:Bool){p:PS}(h:p.at_<L.length):dL L p (jG L l must p).2:=by
 unfold jG;dsimp only;have h1:=zP T L.length l h;exact Sx
theorem JC(deny:Bool){p:PS}(h:p.at_<L.length):dL L p (kT L deny p).2:=by
 unfold kT;dsimp only;have h1:=jI T h;have h2:=mA T h1.lt;have h3:dL L (bU L (bT L p).2).2 (if cM L (str "if") (bU L (bT L p).2).2=true then jG L [] false {(bU L (bT L p).2).2 with at_:=(bU L (bT L p).2).2.at_+1} else ([],(bU L (bT L p).2).2)).2:=by
  split
  .rename_i a;have h0:=fQ T h2.lt a;exact h0.trans (GF T _ _ h0.lt)
  .exact dL.refl h2.lt
 have h4:=vD T h3.lt;exact h1.trans (h2.trans (h3.trans (h4.trans (gB T _ h4.lt))))
omit T in
theorem Ci{b:Bool}{p:PS}(h:(cT L b p).bad=0):b=false/\cT L b p=p:=by
 cases b
 .exact⟨rfl,by unfold cT;rw[iN qe]⟩
 .unfold cT at h;rw[iP rfl] at h;exact absurd h (lZ _ _ qe _)
theorem tA:∀(f:Nat) (l:List Ru) {p:PS},p.at_<L.length->dL L p (iO L f l p).2
 |0,l,p,h=>by unfold iO;exact dL.refl h
 |f+1,l,p,h=>by
  unfold iO;split
  .rename_i a;dsimp only;split
   .exact kX _ h
   .rename_i d;obtain⟨b,hp⟩:=Ci (by simpa using d);rw[hp];have h0:dL L p {p with at_:=p.at_+1}:=by
     rw[Bool.or_eq_true] at a
     rcases a with a|a
     .exact fQ T h a
     .exact fQ T h a
    have c:p.aDK≠64:=by
     intro c;rw[c] at b;simp at b
    have h1:dL L p {p with aDK:=p.aDK+1,at_:=p.at_+1}:=⟨h0.le,h0.lt,Nat.le_succ _,fun x=>by show p.aDK+1<=64;omega⟩;have h2:=JC T (cM L (str "deny") p) h1.lt;exact h1.trans (h2.trans (tA f _ h2.lt))
  .exact dL.refl h
omit T in
theorem rA{one:PS->Po×PS}(a:∀{p:PS},p.at_<L.length->dL L p (one p).2)(deep:Bool):∀(f:Nat) (l:List Po) {p:PS},p.at_<L.length->dL L p (gP L one deep f l p).2
 |0,l,p,h=>by unfold gP;exact dL.refl h
 |f+1,l,p,h=>by
  unfold gP;split
  .dsimp only;split
   .exact kX _ h
   .have h0:=kX (L:=L) (decide (l.length=16)||deep) h;have h1:=a h0.lt;exact h0.trans (h1.trans (rA a deep f _ h1.lt))
  .exact dL.refl h
theorem rY:∀(n:Nat) {p:PS},p.at_<L.length->dL L p (cP L n p).2:=by
 intro n
 induction n with
 |zero=>
  intro p h;unfold cP;dsimp only;have h1:=dV T [str "policy",str "set"] h;have h2:=jI T h1.lt;have h3:=dV T dH h2.lt;have h4:=mA T h3.lt;have h5:=gB T rH h4.lt;have h15:=h1.trans (h2.trans (h3.trans (h4.trans h5)));by_cases a:decide ((aZ L [str "policy",str "set"] p).1=2)=true
  .rw[iP a];have h6:=rA (one:=fun q=>(mJ,q)) (fun h=>dL.refl h) true L.length [] h5.lt;exact PD
  .rw[iN a];have h6:=tA T L.length [] h5.lt;exact PD
 |succ n b=>
  intro p h;unfold cP;dsimp only;have h1:=dV T [str "policy",str "set"] h;have h2:=jI T h1.lt;have h3:=dV T dH h2.lt;have h4:=mA T h3.lt;have h5:=gB T rH h4.lt;have h15:=h1.trans (h2.trans (h3.trans (h4.trans h5)));by_cases a:decide ((aZ L [str "policy",str "set"] p).1=2)=true
  .rw[iP a];have h6:=rA (one:=cP L n) b false L.length [] h5.lt;exact PD
  .rw[iN a];have h6:=tA T L.length [] h5.lt;exact PD
end
def iU(n lo a:Int):Int:=lo+n % (a - lo+1)
theorem wY(n lo a:Int)(h:lo<=a):lo<=iU n lo a:=by
 unfold iU;have:=Int.emod_nonneg n (show a - lo+1≠0 by omega);omega
theorem wZ(n lo a:Int)(h:lo<=a):iU n lo a<=a:=by
 unfold iU;have:=Int.emod_lt_of_pos n (show 0<a - lo+1 by omega);omega
theorem KE(n lo hi:Int)(w:World)(h1:0<=lo)(h2:lo<=hi)(h3:hi<=1000000):
 Calls prog 6 #[.int .i64 n,.int .i64 lo,.int .i64 hi] w fun e w'=>e=.returned (.int .i64 (iU n lo hi))/\w=w':=by
 exact QAB
theorem aC{a w w':World}(h:Below a.heap.size a w)(k:Below w.heap.size w w'):Below a.heap.size a w':=h.trans (k.mono h.size)
theorem qB{a w w2:World}(h:Hid (Below a.heap.size a w))(k:Below w.heap.size w w2):Hid (Below a.heap.size a w2):=aA (aC h.o k)
theorem gA{B:Nat}{a w w':World}(h:Below B a w)(k:jW w w'):Below B a w':=by
 obtain⟨n,rfl⟩:=k;exact⟨h.os,h.tape,h.output,h.size,h.block⟩
theorem aB(w:World)(o:Obj):Below w.heap.size w (w.alloc o):=(Below.refl _ _).alloc (lR _) _
theorem vY(w:World)(cs:Array Value)(t:TypeId)(fr:Nat×Nat)(i:Nat)(v:Value)(h:cs[i]? =some v):(w.alloc (.cells cs t fr)).cell? ⟨w.heap.size,i,none⟩=some v:=by
 unfold World.cell?;rw[heap_alloc_new];simpa using h
theorem QCl{p:Prop}(h:p:=by
 have HB:=aA hb1;clear HH hb1;go_wp2_with fail;refine(HW.o).mono ?_;rintro e w2 ⟨rfl,h2,k2⟩;go_wp2;go_returns;exact⟨rfl,h2,(aJ HB.o).trans k2⟩):p:=h
theorem Hd{α:Type}{a0 a a2 a3:α}{l:List α}{p:Nat->α->Prop}(h:∀j x,(a0::a::a2::a3::l)[j]? =some x->p j x):p 0 a0/\p 1 a/\p 2 a2/\p 3 a3:=⟨h 0 _ rfl,h 1 _ rfl,h 2 _ rfl,h 3 _ rfl⟩
theorem qW{P:Program}{id:Nat}{Q:Exit->Act->World->Prop}{a:Act}{w:World}{l:List Oper}(n:Nat)(hm:P.follows .mixedOrders=true)(c:Region.lexTailB .any l.toArray n=true)
 (h:wpStill P l.toArray w.drew (fun b=>wpList P l.toArray Q (l.drop n) b w.drew) (l.take n) a):(Code.region id l.toArray true).wp P Q a w:=wp_region_still_tail n hm c h
def PW(L:List Tok)(w:World)(g:Nat)(p:PS):Prop:=
 ∃A c,w.heap[g]? =some (.cells #[.slice A L.length c,.int .i64 p.at_,.int .i64 p.aDK,.int .i64 p.bad,.int .i64 p.place] 137 (0,0))/\aH TE w (fun b=>b<g) (.slice A L.length c) L
theorem PW.lt{L:List Tok}{w:World}{g:Nat}{p:PS}(h:PW L w g p):g<w.heap.size:=by
 obtain⟨A,c,h1,_⟩:=h;exact(Array.getElem?_eq_some_iff.1 h1).1
theorem PW.on{L:List Tok}{w w':World}{g:Nat}{p:PS}(h:PW L w g p)(a:Below w.heap.size w w'):PW L w' g p:=by
 have b:=h.lt;obtain⟨A,c,h1,h2⟩:=h;exact⟨A,c,by rw[a.block g b];exact h1,h2.on iD a⟩
theorem PW.aDQ{L:List Tok}{w w':World}{g:Nat}{p:PS}{ok:nP}(h:PW L w g p)(a:aN ok w w')(d:∀b,b<=g->ok b):PW L w' g p:=by
 have e:=h.lt;obtain⟨A,c,h1,h2⟩:=h;exact⟨A,c,by rw[a.block g e (d g (lR _))];exact h1,h2.aDQ iD (a.mono fun k _ h=>d k (by have:k<g:=h;omega))⟩
theorem PW.set{L:List Tok}{w:World}{g:Nat}{p:PS}(h:PW L w g p){b i:Nat}{v:Value}(c:g<b):PW L (w.setCell ⟨b,i,none⟩ v) g p:=
 h.aDQ (ok:=fun x=>x≠b) ⟨rfl,rfl,rfl,by simp[World.setCell],fun k d a=>Below.heap_setCell _ _ _ _ a⟩ (fun x e=>by show x≠b;omega)
theorem PW.cells{L:List Tok}{w:World}{g:Nat}{p:PS}(h:PW L w g p):∃A c,w.cell? ⟨g,0,none⟩=some (.slice A L.length c)/\w.cell? ⟨g,1,none⟩=some (.int .i64 p.at_)/\w.cell? ⟨g,2,none⟩=some (.int .i64 p.aDK)/\w.cell? ⟨g,3,none⟩=some (.int .i64 p.bad)/\w.cell? ⟨g,4,none⟩=some (.int .i64 p.place)/\aH TE w (fun b=>b<g) (.slice A L.length c) L:=by
 obtain⟨A,c,h1,h2⟩:=h;exact⟨A,c,by simp[World.cell?,h1],by simp[World.cell?,h1],by simp[World.cell?,h1],by simp[World.cell?,h1],by simp[World.cell?,h1],h2⟩
theorem PW.free{L:List Tok}{w:World}{g:Nat}{p:PS}(h:PW L w g p)(i:Nat):w.frozen? ⟨g,i,none⟩=false:=by
 obtain⟨A,c,h1,_⟩:=h;simp[World.frozen?,h1]
def cZ(B g:Nat)(w w':World):Prop:=aN (fun b=>b<B/\b≠g) w w'
theorem cZ.aDY{B g:Nat}{a w w':World}(h:cZ B g a w)(k:aN (fun b=>b≠g) w w'):cZ B g a w':=aN.trans h (k.mono fun _ _ h=>h.2)
theorem cZ.set{B g:Nat}{a w:World}(h:cZ B g a w){b i:Nat}{v:Value}(d:B<=b):cZ B g a (w.setCell ⟨b,i,none⟩ v):=
 aN.trans h ⟨rfl,rfl,rfl,by simp[World.setCell],fun k e c=>Below.heap_setCell _ _ _ _ (by have:=c.1;simp only;omega)⟩
theorem cZ.new{B g:Nat}{a w w':World}(h:cZ B g a w)(k:Below w.heap.size w w'):cZ B g a w':=aN.trans h (aJ k)
theorem cZ.end{g:Nat}{w w':World}(h:cZ w.heap.size g w w'):aN (fun b=>b≠g) w w':=aN.mono h fun k a h=>⟨a,h⟩
theorem aF{ok:nP}{w w':World}{b:Nat}{o:Obj}(h:w.heap[b]? =some o)(k:aN ok w w')(a:ok b):w'.heap[b]? =some o:=by
 rw[k.block b (Array.getElem?_eq_some_iff.1 h).1 a];exact h
theorem qS{ok:nP}{w w2:World}{b:Nat}{o:Obj}(h:Hid (w.heap[b]? =some o))(k:aN ok w w2)(a:ok b):Hid (w2.heap[b]? =some o):=aA (aF h.o k a)
theorem aE{w w':World}{b:Nat}{o:Obj}(h:w.heap[b]? =some o)(k:Below w.heap.size w w'):w'.heap[b]? =some o:=by
 rw[k.block b (Array.getElem?_eq_some_iff.1 h).1];exact h
theorem qK{w w2:World}{b:Nat}{o:Obj}(h:Hid (w.heap[b]? =some o))(k:Below w.heap.size w w2):Hid (w2.heap[b]? =some o):=aA (aE h.o k)
theorem bE{w:World}{b b' i:Nat}{v:Value}{o:Obj}(h:w.heap[b]? =some o)(a:b≠b'):(w.setCell ⟨b',i,none⟩ v).heap[b]? =some o:=by
 rw[Below.heap_setCell _ _ _ _ a];exact h
theorem aD{w:World}{b:Nat}{o:Obj}(h:w.heap[b]? =some o):b<w.heap.size:=(Array.getElem?_eq_some_iff.1 h).1
def aP(v:Value)(w:World)(e:Ending)(w':World):Prop:=e=.returned v/\Below w.heap.size w w'
theorem gK{L:List Tok}{p:PS}(hp:p.at_<L.length)(f:L.length<=5000)(g:Nat)(w:World)(h:PW L w g p):
 Calls prog 61 #[.pointer (some ⟨g,0,none⟩)] w (aP (iE (aU L p)) w):=by
 rw[EV hp];have j:=h.lt;obtain⟨A,c,c0,c1,_,_,_,d⟩:=h.cells;obtain⟨b,off,r,rfl,_,i,⟨rfl,_⟩,a⟩:=aH.at iD d hp qe;obtain⟨e,l,m,n⟩:=Hd a;rw[Nat.add_zero] at e;have i0:(0:Int)<=(p.at_:Int):=qo;have k:(p.at_:Int)<(L.length:Int):=qo;clear a d h;unfold aP;unfold iE;generalize L[p.at_]=t at *;go_enter func61,ntmps61;go_wp2;refine qW 10 (by kernel_rfl) (by kernel_rfl) ?_;simp only[List.take_succ_cons,List.take_zero,List.drop_succ_cons,List.drop_zero]
 repeat still_step
 refine wpStill_nil ?_;go_wp2;go_returns;exact⟨rfl,((Below.refl _ _).alloc (lR _) _).drew⟩
def eU(L:List Tok)(g:Nat)(w:World)(v:Value)(p':PS)(e:Ending)(w':World):Prop:=e=.returned v/\PW L w' g p'/\aN (fun b=>b≠g) w w'
theorem aG{w:World}{g:Nat}{cs:Array Value}{t:TypeId}{m:Nat×Nat}(h:w.heap[g]? =some (.cells cs t m))(i:Nat)(v:Value):(w.setCell ⟨g,i,none⟩ v).heap[g]? =some (.cells (cs.setIfInBounds i v) t m):=by
 simp only[World.setCell,Array.getElem?_modify,h];simp
theorem aI{w:World}{g i:Nat}(v:Value):aN (fun b=>b≠g) w (w.setCell ⟨g,i,none⟩ v):=⟨rfl,rfl,rfl,by simp[World.setCell],fun k c a=>Below.heap_setCell _ _ _ _ a⟩
theorem PW.stay{L:List Tok}{w w':World}{g:Nat}{p p':PS}(h:PW L w g p)(d:aN (fun b=>b≠g) w w')(a:∀A c,w.heap[g]? =some (.cells #[.slice A L.length c,.int .i64 p.at_,.int .i64 p.aDK,.int .i64 p.bad,.int .i64 p.place] 137 (0,0))->w'.heap[g]? =some (.cells #[.slice A L.length c,.int .i64 p'.at_,.int .i64 p'.aDK,.int .i64 p'.bad,.int .i64 p'.place] 137 (0,0))):PW L w' g p':=by
 obtain⟨A,c,h1,h2⟩:=h;exact⟨A,c,a A c h1,h2.aDQ iD (d.mono fun k _ h=>by show k≠g;have:k<g:=h;omega)⟩
theorem uA{L:List Tok}{p:PS}(e pl:Int)(g:Nat)(w:World)(h:PW L w g p):
 Calls prog 64 #[.pointer (some ⟨g,0,none⟩),.int .i64 e,.int .i64 pl] w (eU L g w (.tuple #[]) (eR e pl p)):=by
 have f:=h.lt;obtain⟨A,c,c0,c1,c2,c3,c4,b⟩:=h.cells;have H:=aA h;have f3:=h.free 3;have f4:=h.free 4;unfold eU;unfold eR;clear h b;by_cases a:p.bad=0
 .rw[iP a];rw[a] at c3;clear a;go_enter func64,ntmps64;go_wp2;go_returns;refine⟨rfl,H.o.stay ((aI _).trans (aI _)) fun A c h=> ?_,(aI _).trans (aI _)⟩;rw[aG (aG h 3 _) 4 _];rfl
 .rw[iN a];have d:(p.bad==0)=false:=bN.2 a;clear a;go_enter func64,ntmps64;go_wp2;go_returns;exact⟨rfl,H.o,aN.refl _ _⟩
theorem TG(a b c:Int)(s:bY)(w:World):(Instr.field 140 (.agg #[.int .i64 a,.int .i64 b,.int .i64 c,.string s]) 1).run prog w=.ok (.int .i64 b) w:=by kernel_rfl
theorem aP.aDY{L:List Tok}{p:PS}{g:Nat}{w:World}{v:Value}{e:Ending}{w':World}(h:aP v w e w')(hp:PW L w g p):eU L g w v p e w':=⟨h.1,hp.on h.2,aJ h.2⟩
theorem mB{L:List Tok}{p:PS}(hp:p.at_<L.length)(a:L.length<=5000)(g:Nat)(w:World)(h:PW L w g p):
 Calls prog 62 #[.pointer (some ⟨g,0,none⟩)] w (eU L g w (.tuple #[]) (dM L p)):=by
 have HH:=aA (gK hp a g w h);have H:=aA h;clear h;unfold eU dM;unfold iE at HH;generalize aU L p=t at *;go_enter func62,ntmps62;have b:=TG t.aDG t.at_ t.num t.str;go_wp2_with fail;refine(HH.o).mono ?_;rintro e w1 ⟨rfl,hb1⟩;have HW:=aA (uA 5 t.at_ g w1 (H.o.on hb1));exact QCl
theorem kY{L:List Tok}{p:PS}(more:Bool)(hp:p.at_<L.length)(a:L.length<=5000)(g:Nat)(w:World)(h:PW L w g p):
 Calls prog 166 #[.pointer (some ⟨g,0,none⟩),.bool more] w (eU L g w (.tuple #[]) (cT L more p)):=by
 have HH:=aA (gK hp a g w h);have H:=aA h;clear h;unfold eU cT;unfold iE at HH;generalize aU L p=t at *
 cases more
 .rw[iN qe];go_enter func166,ntmps166;go_wp2;go_returns;exact⟨rfl,H.o,aN.refl _ _⟩
 .rw[iP rfl];go_enter func166,ntmps166;have b:=TG t.aDG t.at_ t.num t.str;go_wp2_with fail;refine(HH.o).mono ?_;rintro e w1 ⟨rfl,hb1⟩;have HW:=aA (uA 6 t.at_ g w1 (H.o.on hb1));exact QCl
end Go.Proofs.YtheabjeppmdmiaaGreatDoor

/- Lemmas. -/
import Derived.Test.YtjlkljmickcacaaGreatDoorMab
import Derived.Laws.CopyOwn
import Derived.Deep.OwnRows
import Derived.Deep.QuietTactic
import Derived.BigQuiet
import Derived.LoopN
import Derived.StillTailTactics
namespace Go.Proofs.YtjlkljmickcacaaGreatDoor
open Go.RowKit
set_option linter.unusedVariables false
set_option linter.unusedSimpArgs false
set_option maxHeartbeats 16000000
open _root_.Go.Proofs.Tryz
set_option maxRecDepth 20000
def yO(a:At):Bool:=(decide (1<=a.cat)&&decide (a.cat<=4))&&eM a.name
def sX(m:Ma):Bool:=yO m.aDN&&(decide (1<=m.op)&&decide (m.op<=3))&&aT m.val
def oO(n:Nat):Int:=if n=0 then 1 else if 8<n then 6 else 0
def gJ{α:Type}(f:α->Int):List α->Int
 | []=>0
 |x::l=>if f x≠0 then f x else gJ f l
def rT(l:List Ma):Int:=if oO l.length≠0 then oO l.length else gJ (fun m=>if sX m then 0 else 1) l
def rU(l:List (List Ma)):Int:=if oO l.length≠0 then oO l.length else gJ rT l
def eZ(t:Ta):Int:=if 8<t.length then 6 else gJ rU t
def mY(op:Int):Option (List Bool):=
 if op=1\/op=2 then some [] else if op=3\/op=4 then some [true] else if op=5 then some [true,false]
 else if op=11 then some [false] else if 6<=op/\op<=13 then some [false,false] else none
def rA(n:No):Bool:=
 if n.op=1 then aT n.val&&decide (n.aDN=uS)
 else if n.op=2 then yO n.aDN&&decide (n.val=bD)
 else decide (n.val=bD)&&decide (n.aDN=uS)
def lH(l:List Bool)(n:No):Option (List Bool):=
 match mY n.op with
 |none=>none
 |some w=>
  if rA n/\w.length<=l.length/\l.drop (l.length - w.length)=w then some (l.take (l.length - w.length)++[decide (n.op=2)]) else none
def iQ:List No->List Bool->Option (List Bool)
 | [],l=>some l
 |n::r,l=>match lH l n with
  |none=>none
  |some a=>iQ r a
def lI(l:List No):Int:=
 if 32<l.length then 6
 else match iQ l [] with
  |none=>1
  |some made=>if 0<l.length/\made≠[false] then 1 else 0
def lJ(l:List Ob):Int:=if 8<l.length then 6 else gJ (fun o=>if (1<=o.on/\o.on<=2)/\(1<=o.aDo/\o.aDo<=4)/\eM o.arg=true then 0 else 1) l
structure WS where
 met:List ByteArray
 aDq:Nat
def gR(s:bY)(w:WS):Bool×WS:=if w.met.any (fun t=>decide (t=s))=true\/eM s=false then (false,w) else (true,{w with met:=s::w.met})
def fS(r:Ru)(w:WS):Int×WS:=
 let (ok,w1):=gR r.id w
 if ok=false then (1,w1)
 else
  let w2:={w1 with aDq:=w1.aDq+1}
  if 64<w2.aDq then (6,w2)
  else if eZ r.aDy≠0 then (eZ r.aDy,w2)
  else if lI r.cond≠0 then (lI r.cond,w2)
  else (lJ r.aDE,w2)
def fK(p:Po)(w:WS):Int×WS:=
 let (ok,w1):=gR p.id w
 if ok=false\/p.alg<1\/6<p.alg then (1,w1)
 else if (p.set=true/\p.aDq≠[])\/(p.set=false/\(0<p.aDD.length\/p.alg=4)) then (1,w1)
 else if eZ p.aDy≠0 then (eZ p.aDy,w1)
 else if lJ p.aDE≠0 then (lJ p.aDE,w1)
 else if 16<p.aDq.length\/16<p.aDD.length then (6,w1)
 else (0,w1)
def jJ{α:Type}(f:α->WS->Int×WS):List α->WS->Int×WS
 | [],w=>(0,w)
 |x::l,w=>
  let (e,w1):=f x w
  if e≠0 then (e,w1) else jJ f l w1
def eO:Nat->Po->WS->Int×WS
 |0,_,w=>(6,w)
 |n+1,p,w=>
  let (e,w1):=fK p w
  if e≠0 then (e,w1)
  else
   let (e2,w2):=jJ fS p.aDq w1
   if e2≠0 then (e2,w2) else jJ (eO n) p.aDD w2
def fB(p:Po):Int:=(eO 4 p ⟨[],0⟩).1
def fH(S:bY):Po×Int×Int:=
 let (l,e,place):=jT S.data.toList
 if e≠0 then (mJ,e,place)
 else
  let (out,p):=cO l 3 ⟨0,0,0,0⟩
  let a:=if (aU l p).aDo≠7 then dN l p else p
  let b:=if a.bad=0/\fB out≠0 then eP 5 S.size a else a
  if b.bad≠0 then (mJ,b.bad,b.place) else (out,0,0)
def kK:Int:= -9223372036854775808
def lP:Int:=9223372036854775807
def kB(a b:V3):Bool×Int:=
 if aT a=false\/aT b=false then (false,1)
 else if a.1≠b.1\/a.1=1 then (false,2)
 else if a.1=3\/a.1=5 then (decide (a.2.2.toList<b.2.2.toList),0)
 else (decide (a.2.1<b.2.1),0)
def fT(m:Ma)(v:V3):Bool×Int:=
 if m.op=1 then (if v.1≠m.val.1 then (false,2) else (decide (v=m.val),0))
 else if m.op=2 then kB v m.val
 else kB m.val v
def oL(g:List Gv)(a:At):List V3×Int:=if mW g a.cat a.name=[]/\a.aDW=true then ([],4) else (mW g a.cat a.name,0)
def mL(m:Ma):List V3->Nat->Nat
 | [],out=>out
 |v::l,out=>if (fT m v).1 then 2 else mL m l (if (fT m v).2≠0 then 1 else out)
def fN(g:List Gv)(m:Ma):Nat:=if (oL g m.aDN).2≠0 then 1 else mL m (oL g m.aDN).1 0
def zM(g:List Gv)(l:List Ma):Nat:=l.foldl (fun out m=>min out (fN g m)) 2
def qE(g:List Gv)(t:Ta):Nat:=t.foldl (fun out l=>min out (l.foldl (fun a x=>max a (zM g x)) 0)) 2
structure It where
 bag:List V3
 val:V3
 err:Int
deriving DecidableEq
def cH(b:Bool):V3:=(1,if b then 1 else 0,ByteArray.empty)
def jO(v:V3)(e:Int):It:=⟨[],v,e⟩
def It.is(x:It)(n:Int):Bool:=decide (x.err=0)&&decide (x.val=(1,n,ByteArray.empty))
def sY(a b:Int):Int×Int:=if kK<=a+b/\a+b<=lP then (a+b,0) else (0,3)
def sZ(a b:Int):Int×Int:=if kK<=a - b/\a - b<=lP then (a - b,0) else (0,3)
def mM(a b:Int):Int×Int:=if kK<=a * b/\a * b<=lP then (a * b,0) else (0,3)
def eH(f:Int->Int->Int×Int)(a b:V3):V3×Int:=
 if a.1≠2\/b.1≠2 then (bD,2) else if (f a.2.1 b.2.1).2≠0 then (bD,(f a.2.1 b.2.1).2) else ((2,(f a.2.1 b.2.1).1,ByteArray.empty),0)
def oC(op:Int)(a:V3):V3×Int:=if aT a=false then (bD,1) else if a.1≠1 then (bD,2) else (cH (decide (a.2.1=0)),0)
def dL(op:Int)(a b:V3):V3×Int:=
 if aT a=false\/aT b=false then (bD,1)
 else if op=6 then (if a.1≠b.1 then (bD,2) else (cH (decide (a=b)),0))
 else if op=7 then (if (kB a b).2≠0 then (bD,(kB a b).2) else (cH (kB a b).1,0))
 else if op=8 then eH sY a b
 else if op=9 then eH sZ a b
 else if op=10 then eH mM a b
 else if a.1≠1\/b.1≠1 then (bD,2)
 else if op=12 then (cH (decide (a.2.1=1)&&decide (b.2.1=1)),0)
 else (cH (decide (a.2.1=1)||decide (b.2.1=1)),0)
def iR(g:List Gv)(n:No)(l:List It):It:=
 match l with
 | []=>if n.op=1 then jO n.val 0 else ⟨(oL g n.aDN).1,bD,(oL g n.aDN).2⟩
 | [a]=>
   if a.err≠0 then jO bD a.err
   else if n.op=3 then (match a.bag with | [v]=>jO v 0|_=>jO bD 4)
   else if n.op=4 then jO (2,a.bag.length,ByteArray.empty) 0
   else jO (oC n.op a.val).1 (oC n.op a.val).2
 |a::b::_=>
  if (n.op=12\/n.op=13)/\(a.is (n.op - 12)\/b.is (n.op - 12)) then jO (cH (decide (n.op=13))) 0
  else if a.err≠0 then jO bD a.err
  else if b.err≠0 then jO bD b.err
  else if n.op=5 then jO (cH (a.bag.any (fun v=>decide (v=b.val)))) 0
  else jO (dL n.op a.val b.val).1 (dL n.op a.val b.val).2
def jQ(op:Int):Nat:=if op=1\/op=2 then 0 else if op=3\/op=4\/op=11 then 1 else 2
def zN(g:List Gv):List No->List It->List It
 | [],st=>st
 |n::r,st=>zN g r (st.take (st.length - jQ n.op)++[iR g n (st.drop (st.length - jQ n.op))])
def oE(g:List Gv)(l:List No):V3×Int:=
 if l=[]\/lI l≠0 then (bD,1) else match zN g l [] with |x::_=>(x.val,x.err)| []=>(bD,1)
def tS(g:List Gv)(l:List No):Nat:=
 if l=[] then 2
 else
  let x:=jO (oE g l).1 (oE g l).2
  if x.is 1 then 2 else if x.is 0 then 0 else 1
abbrev Mk:=Nat×Nat
def tZ(m:Mk):Mk:=if m=(4,0) then (2,0) else if m=(0,4) then (0,2) else m
def gS(l:List Ob)(m:Mk):List Ob:=l.filter (fun o=>(decide (o.on=1)&&decide (m=(4,0)))||(decide (o.on=2)&&decide (m=(0,4))))
def EJ(r:Ru)(t c:Nat):Mk×List Ob:=
 let m:Mk:=if r.aDZ then (0,4) else (4,0)
 if t=0\/(t=2/\c=0) then ((0,0),[])
 else if t=1\/c=1 then (tZ m,[])
 else (m,gS r.aDE m)
def iC(g:List Gv)(r:Ru):Mk×List Ob:=EJ r (qE g r.aDy) (tS g r.cond)
def aAs(a b:Mk):Mk:=(max a.1 b.1,max a.2 b.2)
def By(m:Mk):Mk:=(m.2,m.1)
def SJ(m:Mk):Mk:=
 if m.2=4 then (0,4) else if m.2=2/\2<=m.1 then (2,2) else if m.2=2 then (0,2) else if m.1=4 then (4,0) else if m.1=2 then (2,0) else (0,0)
def Gu(l:List Mk):Mk:=l.foldl aAs (0,0)
def SK(m:Mk):Bool:=decide (m=(0,0))||(decide (m=(4,0))||decide (m=(0,4)))
def EK(j m:Mk):Mk:=if j=(0,0) then m else if m=(0,0) then j else (2,2)
def BW(l:List Mk):Mk:=(l.find? (fun m=>decide (m≠(0,0)))).getD (0,0)
def SL(l:List Mk):Mk:=if l.all SK then l.foldl EK (0,0) else (2,2)
def rI(l:List Mk)(m other:Mk):Mk:=if l.any (fun x=>decide (x=other)) then other else m
def BY(alg:Int)(l:List Mk):Mk:=
 if alg=1 then SJ (Gu l)
 else if alg=2 then By (SJ (By (Gu l)))
 else if alg=3 then BW l
 else if alg=4 then SL l
 else if alg=5 then rI l (0,4) (4,0)
 else if alg=6 then rI l (4,0) (0,4)
 else (0,0)
def gK(first:Bool)(m:Mk):List (Mk×List Ob)->List Ob
 | []=>[]
 |x::l=>if x.1≠m then gK first m l else if first then x.2 else x.2++gK first m l
def rV(alg:Int)(obls:List Ob)(t:Nat)(parts:List (Mk×List Ob)):Mk×List Ob:=
 let m:=BY alg (parts.map (·.1))
 if t=0 then ((0,0),[])
 else if t=1 then (tZ m,[])
 else if m≠(4,0)/\m≠(0,4) then (m,[])
 else (m,gK (decide (alg=3)) m parts++gS obls m)
def cS(g:List Gv):Nat->Po->Mk×List Ob
 |0,_=>((0,0),[])
 |n+1,p=>
  let t:=qE g p.aDy
  if t=0 then ((0,0),[])
  else rV p.alg p.aDE t (p.aDq.map (iC g)++p.aDD.map (cS g n))
def qU(g:List Gv)(p:Po):(Mk×List Ob)×Int:=if fB p≠0 then (((0,0),[]),1) else (cS g 4 p,0)
def qG(t:Ta):Option Ma:=
 (t.filter (fun l=>decide (l.length=1))).findSome? (fun l=>((l.head?).getD []).find? (fun m=>decide (m.op=1)&& !m.aDN.aDW))
def oF(g:List Gv)(k:Po):Bool:=match qG k.aDy with |none=>true |some m=>decide (fN g m≠0)
def kC(g:List Gv):Nat->Po->Po
 |0,p=>p
 |n+1,p=> .mk p.id p.set p.alg p.aDy p.aDq ((p.aDD.filter (oF g)).map (kC g n)) p.aDE
def gF(g:List Gv)(p:Po):(Mk×List Ob)×Int:=if fB p≠0 then (((0,0),[]),1) else qU g (kC g 4 p)
def cP:Nat:=1000000
def cT(v:V3):Prop:=bK v.1/\bK v.2.1/\v.2.2.size<=cP
def IN(v:V3):List Value:=[.int .i64 v.1,.int .i64 v.2.1,.string v.2.2]
def dE(v:V3):Value:= .agg #[.int .i64 v.1,.int .i64 v.2.1,.string v.2.2]
def MV(t:Tok):Prop:=bK t.aDo/\bK t.at_/\bK t.num/\t.str.size<=cP
def Gw(t:Tok):List Value:=[.int .i64 t.aDo,.int .i64 t.at_,.int .i64 t.num,.string t.str]
def iE(t:Tok):Value:= .agg #[.int .i64 t.aDo,.int .i64 t.at_,.int .i64 t.num,.string t.str]
def BZ(a:At):Prop:=bK a.cat/\a.name.size<=cP
def oP(a:At):Value:= .agg #[.int .i64 a.cat,.string a.name,.bool a.aDW]
def uA(m:Ma):Prop:=BZ m.aDN/\bK m.op/\cT m.val
def Bz(m:Ma):List Value:=[.int .i64 m.aDN.cat,.string m.aDN.name,.bool m.aDN.aDW,.int .i64 m.op,.int .i64 m.val.1,.int .i64 m.val.2.1,.string m.val.2.2]
def kV(m:Ma):Value:= .agg #[.int .i64 m.aDN.cat,.string m.aDN.name,.bool m.aDN.aDW,.int .i64 m.op,.int .i64 m.val.1,.int .i64 m.val.2.1,.string m.val.2.2]
def oW(n:No):Prop:=bK n.op/\cT n.val/\BZ n.aDN
def Ca(n:No):List Value:=[.int .i64 n.op,.int .i64 n.val.1,.int .i64 n.val.2.1,.string n.val.2.2,.int .i64 n.aDN.cat,.string n.aDN.name,.bool n.aDN.aDW]
def jR(n:No):Value:= .agg #[.int .i64 n.op,.int .i64 n.val.1,.int .i64 n.val.2.1,.string n.val.2.2,.int .i64 n.aDN.cat,.string n.aDN.name,.bool n.aDN.aDW]
def yP(o:Ob):Prop:=bK o.on/\bK o.aDo/\o.arg.size<=cP
def EL(o:Ob):List Value:=[.int .i64 o.on,.int .i64 o.aDo,.string o.arg]
def VR:Rep V3:=mT IN cT
def TA:Rep Tok:=mT Gw MV
def rW:Rep Ma:=mT Bz uA
def JU:Rep No:=mT Ca oW
def kD:Rep Ob:=mT EL yP
theorem bG:Firm VR 3:=gI (fun _=>rfl) (fun x v h=>by simp only[IN,List.mem_cons,List.not_mem_nil,or_false] at h;rcases h with rfl|rfl|rfl<;>rfl)
theorem iD:Firm TA 4:=gI (fun _=>rfl) (fun x v h=>by simp only[Gw,List.mem_cons,List.not_mem_nil,or_false] at h;rcases h with rfl|rfl|rfl|rfl<;>rfl)
theorem eQ:Firm rW 7:=gI (fun _=>rfl) (fun x v h=>by simp only[Bz,List.mem_cons,List.not_mem_nil,or_false] at h;rcases h with rfl|rfl|rfl|rfl|rfl|rfl|rfl<;>rfl)
theorem dS:Firm JU 7:=gI (fun _=>rfl) (fun x v h=>by simp only[Ca,List.mem_cons,List.not_mem_nil,or_false] at h;rcases h with rfl|rfl|rfl|rfl|rfl|rfl|rfl<;>rfl)
theorem aO:Firm kD 3:=gI (fun _=>rfl) (fun x v h=>by simp only[EL,List.mem_cons,List.not_mem_nil,or_false] at h;rcases h with rfl|rfl|rfl<;>rfl)
abbrev oJ(w:World)(ok:nP)(v:Value)(t:Ta):Prop:=aH (rows (rows rW)) w ok v t
theorem dQ:Firm (rows rW) 1:=rS eQ
theorem aS:Firm (rows (rows rW)) 1:=rS dQ
def rX(w:World)(ok:nP)(r:Ru)(vt vc vo:Value):Prop:=r.id.size<=cP/\oJ w ok vt r.aDy/\aH JU w ok vc r.cond/\aH kD w ok vo r.aDE
def yQ:Rep Ru:=fun w ok cs r=>∃vt vc vo,cs=[.string r.id,.bool r.aDZ,vt,vc,vo]/\rX w ok r vt vc vo
theorem rX.aDw{w w':World}{ok:nP}{r:Ru}{vt vc vo:Value}(h:rX w ok r vt vc vo)(a:aN ok w w'):rX w' ok r vt vc vo:=⟨h.1,aH.aDw aS h.2.1 a,aH.aDw dS h.2.2.1 a,aH.aDw aO h.2.2.2 a⟩
theorem rX.more{w:World}{ok ok':nP}{r:Ru}{vt vc vo:Value}(h:rX w ok r vt vc vo)(a:∀b,ok b->ok' b):rX w ok' r vt vc vo:=⟨h.1,aH.more aS h.2.1 a,aH.more dS h.2.2.1 a,aH.more aO h.2.2.2 a⟩
theorem rX.inb{w:World}{ok:nP}{r:Ru}{vt vc vo:Value}(h:rX w ok r vt vc vo):rX w (fun b=>ok b/\b<w.heap.size) r vt vc vo:=⟨h.1,aH.inb aS h.2.1,aH.inb dS h.2.2.1,aH.inb aO h.2.2.2⟩
theorem lB{α:Type}{R:Rep α}{w:World}{ok:nP}{v:Value}{l:List α}(h:aH R w ok v l):v.oneCell'=true:=by
 obtain⟨a,c,rfl,_⟩:=h.slice;rfl
theorem bM:Firm yQ 5:={
 aDw:=fun⟨vt,vc,vo,e,h⟩ b=>⟨vt,vc,vo,e,h.aDw b⟩
 more:=fun⟨vt,vc,vo,e,h⟩ c=>⟨vt,vc,vo,e,h.more c⟩
 len:=fun⟨vt,vc,vo,e,h⟩=>by rw[e];rfl
 one:=fun⟨vt,vc,vo,e,h⟩=>by
  intro v a;rw[e] at a;simp only[List.mem_cons,List.not_mem_nil,or_false] at a
  rcases a with rfl|rfl|rfl|rfl|rfl
  .rfl
  .rfl
  .exact lB h.2.1
  .exact lB h.2.2.1
  .exact lB h.2.2.2
 inb:=fun⟨vt,vc,vo,e,h⟩=>⟨vt,vc,vo,e,h.inb⟩}
def qM:Nat->Rep Po
 |0=>fun _ _ _ _=>False
 |n+1=>fun w ok cs p=>∃vt vr vk vo,cs=[.string p.id,.bool p.set,.int .i64 p.alg,vt,vr,vk,vo]/\p.id.size<=cP/\bK p.alg/\oJ w ok vt p.aDy/\aH yQ w ok vr p.aDq/\aH (qM n) w ok vk p.aDD/\aH kD w ok vo p.aDE
def fO(n:Nat)(w:World)(ok:nP)(p:Po)(vt vr vk vo:Value):Prop:=p.id.size<=cP/\bK p.alg/\oJ w ok vt p.aDy/\aH yQ w ok vr p.aDq/\aH (qM n) w ok vk p.aDD/\aH kD w ok vo p.aDE
theorem bB:∀n,Firm (qM n) 7
 |0=>⟨fun h=>h.elim,fun h=>h.elim,fun h=>h.elim,fun h=>h.elim,fun h=>h.elim⟩
 |n+1=>by
  have F:=bB n;refine⟨?_,?_,?_,?_,?_⟩
  .rintro w w' ok cs x ⟨vt,vr,vk,vo,e,h1,h2,h3,h4,h5,h6⟩ a;exact⟨vt,vr,vk,vo,e,h1,h2,aH.aDw aS h3 a,aH.aDw bM h4 a,aH.aDw F h5 a,aH.aDw aO h6 a⟩
  .rintro w ok ok' cs x ⟨vt,vr,vk,vo,e,h1,h2,h3,h4,h5,h6⟩ b;exact⟨vt,vr,vk,vo,e,h1,h2,aH.more aS h3 b,aH.more bM h4 b,aH.more F h5 b,aH.more aO h6 b⟩
  .rintro w ok cs x ⟨vt,vr,vk,vo,e,h⟩;rw[e];rfl
  .rintro w ok cs x ⟨vt,vr,vk,vo,e,h1,h2,h3,h4,h5,h6⟩ v c;rw[e] at c;simp only[List.mem_cons,List.not_mem_nil,or_false] at c
   rcases c with rfl|rfl|rfl|rfl|rfl|rfl|rfl
   .rfl
   .rfl
   .rfl
   .exact lB h3
   .exact lB h4
   .exact lB h5
   .exact lB h6
  .rintro w ok cs x ⟨vt,vr,vk,vo,e,h1,h2,h3,h4,h5,h6⟩;exact⟨vt,vr,vk,vo,e,h1,h2,aH.inb aS h3,aH.inb bM h4,aH.inb F h5,aH.inb aO h6⟩
def PoV(n:Nat)(w:World)(ok:nP)(v:Value)(p:Po):Prop:=∃vt vr vk vo,v=.agg #[.string p.id,.bool p.set,.int .i64 p.alg,vt,vr,vk,vo]/\fO n w ok p vt vr vk vo
theorem fO.aDw{n:Nat}{w w':World}{ok:nP}{p:Po}{vt vr vk vo:Value}(h:fO n w ok p vt vr vk vo)(a:aN ok w w'):fO n w' ok p vt vr vk vo:=
 ⟨h.1,h.2.1,aH.aDw aS h.2.2.1 a,aH.aDw bM h.2.2.2.1 a,aH.aDw (bB n) h.2.2.2.2.1 a,aH.aDw aO h.2.2.2.2.2 a⟩
theorem fO.inb{n:Nat}{w:World}{ok:nP}{p:Po}{vt vr vk vo:Value}(h:fO n w ok p vt vr vk vo):fO n w (fun b=>ok b/\b<w.heap.size) p vt vr vk vo:=
 ⟨h.1,h.2.1,aH.inb aS h.2.2.1,aH.inb bM h.2.2.2.1,aH.inb (bB n) h.2.2.2.2.1,aH.inb aO h.2.2.2.2.2⟩
theorem fO.more{n:Nat}{w:World}{ok ok':nP}{p:Po}{vt vr vk vo:Value}(h:fO n w ok p vt vr vk vo)(a:∀b,ok b->ok' b):fO n w ok' p vt vr vk vo:=
 ⟨h.1,h.2.1,aH.more aS h.2.2.1 a,aH.more bM h.2.2.2.1 a,aH.more (bB n) h.2.2.2.2.1 a,aH.more aO h.2.2.2.2.2 a⟩
theorem Sn{p:Prop}(h:p:=by
 split
 .exact h1.trans (CA _ _ h1.lt)
 .exact h1):p:=h
theorem OU{p:Prop}(h:p:=by
 have h7:=gC T yN h6.lt;exact h15.trans (h6.trans (h7.trans (vC T h7.lt)))):p:=h
structure Toks (L:List Tok):Prop where
 len:L.length<=5000
 last:∀i t,L[i]? =some t->t.aDo≠7->i+1<L.length
 size:∀t∈L,t.str.size<=4096
 num:∀t∈L,bK t.num
 place:∀t∈L,0<=t.at_/\t.at_<=4096
 aDo:∀t∈L,1<=t.aDo/\t.aDo<=7
def eR(L:List Tok)(p:PS):V3×PS:=
 let t:=aU L p
 if t.aDo=2 then ((2,t.num,t.str),p)
 else if t.aDo=3 then ((4,t.num,t.str),p)
 else if t.aDo=4 then ((5,t.num,t.str),p)
 else if t.aDo=5 then ((3,t.num,t.str),p)
 else if cL L (str "true") p then ((1,1,ByteArray.empty),p)
 else if cL L (str "false") p then ((1,0,ByteArray.empty),p)
 else ((0,t.num,t.str),dN L p)
structure dM (L:List Tok) (p p':PS):Prop where
 le:p.at_<=p'.at_
 lt:p'.at_<L.length
 aDq:p.aDq<=p'.aDq
 aD9:p.aDq<=64->p'.aDq<=64
section
variable {L:List Tok} (T:Toks L)
theorem dM.refl{p:PS}(h:p.at_<L.length):dM L p p:=⟨lR _,h,lR _,id⟩
theorem dM.trans{p q r:PS}(h:dM L p q)(k:dM L q r):dM L p r:=⟨lT h.le k.le,k.lt,lT h.aDq k.aDq,fun x=>k.aD9 (h.aD9 x)⟩
theorem EM{p:PS}(h:p.at_<L.length):aU L p=L[p.at_]:=by
 unfold aU;rw[gE h];rfl
theorem IP(e pl:Int)(p:PS):(eP e pl p).at_=p.at_/\(eP e pl p).aDq=p.aDq:=by
 unfold eP;split<;>exact⟨rfl,rfl⟩
theorem mA(e pl:Int)(he:e≠0)(p:PS):(eP e pl p).bad≠0:=by
 unfold eP;split
 .exact he
 .assumption
theorem CA(e pl:Int){p:PS}(h:p.at_<L.length):dM L p (eP e pl p):=by
 have:=IP e pl p;exact⟨qo,qo,qo,qo⟩
theorem rY{p:PS}(h:p.at_<L.length):dM L p (dN L p):=CA _ _ h
theorem kX(b:Bool){p:PS}(h:p.at_<L.length):dM L p (cQ L b p):=by
 unfold cQ;split
 .exact CA _ _ h
 .exact dM.refl h
include T
theorem Us{p:PS}(h:p.at_<L.length)(a:(aU L p).aDo≠7):p.at_+1<L.length:=T.last p.at_ _ (by rw[gE h]) (by rwa [EM h] at a)
theorem zO{p:PS}(h:p.at_<L.length)(a:(aU L p).aDo≠7):dM L p {p with at_:=p.at_+1}:=⟨Nat.le_succ _,Us T h a,lR _,id⟩
omit T in
theorem lQ{s:bY}{p:PS}(h:cL L s p=true):p.bad=0/\(aU L p).str=s/\((aU L p).aDo=1\/(aU L p).aDo=6):=by
 unfold cL at h;rw[Bool.and_eq_true,Bool.and_eq_true,Bool.or_eq_true,decide_eq_true_eq,decide_eq_true_eq,decide_eq_true_eq,decide_eq_true_eq] at h;exact⟨h.1,h.2.1,h.2.2⟩
theorem fP{s:bY}{p:PS}(h:p.at_<L.length)(a:cL L s p=true):dM L p {p with at_:=p.at_+1}:=zO T h (qA ((lQ a).2.2))
theorem TB(s:bY){p:PS}(h:p.at_<L.length):dM L p (kT L s p).2:=by
 unfold kT;split
 .exact fP T h (by assumption)
 .exact dM.refl h
theorem gC(s:bY){p:PS}(h:p.at_<L.length):dM L p (eJ L s p):=by
 unfold eJ;split
 .exact fP T h (by assumption)
 .exact rY h
theorem jK{p:PS}(h:p.at_<L.length):dM L p (bT L p).2:=by
 unfold bT;dsimp only;by_cases a:(aU L p).aDo≠1
 .rw[iP a,iP (show (dN L p).bad≠0 from mA 5 _ qe _)];exact rY h
 .rw[iN a];split
  .exact dM.refl h
  .exact zO T h qo
theorem dU(words:List ByteArray){p:PS}(h:p.at_<L.length):dM L p (aZ L words p).2:=by
 unfold aZ;dsimp only;split
 .rename_i a;exact zO T h qo
 .exact rY h
theorem nS{p:PS}(h:p.at_<L.length):dM L p (cF L p).2:=by
 unfold cF;dsimp only;have h1:=dU T [str "subject",str "action",str "case",str "env"] h;have h2:=gC T (str ".") h1.lt;have h3:=jK T h2.lt;have h4:=TB T (str "!") h3.lt;exact h1.trans (h2.trans (h3.trans h4))
omit T in
theorem zP(L:List Tok)(p:PS):dB L p=if (eR L p).2.bad≠0 then (bD,(eR L p).2) else ((eR L p).1,{(eR L p).2 with at_:=(eR L p).2.at_+1}):=rfl
omit T in
theorem Cb{p:PS}(h:p.at_<L.length):dM L p (eR L p).2/\((eR L p).2.bad=0->(eR L p).2=p/\(aU L p).aDo≠7):=by
 unfold eR;dsimp only;split
 .exact⟨dM.refl h,fun _=>⟨rfl,qo⟩⟩
 split
 .exact⟨dM.refl h,fun _=>⟨rfl,qo⟩⟩
 split
 .exact⟨dM.refl h,fun _=>⟨rfl,qo⟩⟩
 split
 .exact⟨dM.refl h,fun _=>⟨rfl,qo⟩⟩
 split
 .rename_i a;exact⟨dM.refl h,fun _=>⟨rfl,qA ((lQ a).2.2)⟩⟩
 split
 .rename_i a;exact⟨dM.refl h,fun _=>⟨rfl,qA ((lQ a).2.2)⟩⟩
 .exact⟨rY h,fun b=>absurd b (mA _ _ qe _)⟩
theorem xB{p:PS}(h:p.at_<L.length):dM L p (dB L p).2:=by
 rw[zP];have h1:=Cb (L:=L) h;by_cases a:(eR L p).2.bad≠0
 .rw[iP a];exact h1.1
 .rw[iN a];obtain⟨e,b⟩:=h1.2 (by simpa using a);rw[e];exact zO T h b
theorem yR{p:PS}(h:p.at_<L.length):dM L p (sR L p).2:=by
 unfold sR
 repeat' split
 .exact fP T h (by assumption)
 .exact fP T h (by assumption)
 .exact fP T h (by assumption)
 .exact rY h
theorem CC{p:PS}(h:p.at_<L.length):dM L p (eF L p).2:=by
 unfold eF;dsimp only;have h1:=nS T h;have h2:=yR T h1.lt;have h3:=xB T h2.lt;exact h1.trans (h2.trans h3)
theorem wC{α:Type}{one:PS->α×PS}(a:∀{p:PS},p.at_<L.length->dM L p (one p).2)(sep:bY):∀(f:Nat) (l:List α) {p:PS},p.at_<L.length->dM L p (kA L one sep f l p).2
 |0,l,p,h=>dM.refl h
 |f+1,l,p,h=>by
  unfold kA;split
  .rename_i b;have h1:=fP T h b;have h2:=a h1.lt;have h3:=kX (decide (8<(l++[(one {p with at_:=p.at_+1}).1]).length)) h2.lt;exact h1.trans (h2.trans (h3.trans (wC a sep f _ h3.lt)))
  .exact dM.refl h
theorem MW{p:PS}(h:p.at_<L.length):dM L p (jE L p).2:=by
 unfold jE;dsimp only;have h1:=CC T h;exact h1.trans (wC T (CC T) _ _ _ h1.lt)
theorem MX{p:PS}(h:p.at_<L.length):dM L p (mK L p).2:=by
 unfold mK;dsimp only;have h0:=gC T (str "(") h;have h1:=MW T h0.lt;have h2:=wC T (MW T) (str "or") L.length [(jE L (eJ L (str "(") p)).1] h1.lt;exact h0.trans (h1.trans (h2.trans (gC T _ h2.lt)))
theorem mB{p:PS}(h:p.at_<L.length):dM L p (bU L p).2:=by
 unfold bU;split
 .rename_i a;dsimp only;have h0:=fP T h a;have h1:=MX T h0.lt;exact h0.trans (h1.trans (wC T (MX T) _ _ _ h1.lt))
 .exact dM.refl h
theorem IQ{p:PS}(h:p.at_<L.length):dM L p (tR L p).2:=by
 unfold tR;dsimp only;have h1:=dU T [str "permit",str "deny"] h;have h2:=dU T [str "log",str "redact",str "review",str "notify"] h1.lt;have h3:=jK T h2.lt;exact h1.trans (h2.trans h3)
theorem vC{p:PS}(h:p.at_<L.length):dM L p (gP L p).2:=wC T (IQ T) _ _ _ h
def dG(L:List Tok)(f:Nat)(acc:List No×PS)(must:Bool):List No×PS:=
 if acc.2.bad≠0 then acc else
  ((eY L f acc.1 acc.2).1.1,if (eY L f acc.1 acc.2).1.2≠must then eP 5 (aU L acc.2).at_ (eY L f acc.1 acc.2).2 else (eY L f acc.1 acc.2).2)
theorem zQ:∀(f:Nat) (l:List No) {p:PS},p.at_<L.length->dM L p (eY L f l p).2
 |0,l,p,h=>by unfold eY;exact dM.refl h
 |f+1,l,p,h=>by
  have c:∀{l:List No} {p:PS} (must:Bool),p.at_<L.length->dM L p (dG L f (l,p) must).2:=by
   intro l p must h;unfold dG;dsimp only;split
   .exact dM.refl h
   .have h1:=zQ f l h;exact Sn
  have b:∀(ms:List Bool) {l:List No} {p:PS},p.at_<L.length->dM L p (ms.foldl (dG L f) (l,p)).2:=by
   intro ms
   induction ms with
   |nil=>intro l p h;exact dM.refl h
   |cons m ms d=>
    intro l p h;have h1:=c (l:=l) m h;exact h1.trans (d h1.lt)
  unfold eY;dsimp only;by_cases a:cL L (str "(") p=true
  .rw[iP a];have h0:=fP T h a;have h1:=dU T eE h0.lt;have h2:=b (fM (2+(aZ L eE {p with at_:=p.at_+1}).1)) (l:=l) h1.lt;have h3:=gC T (str ")") h2.lt;exact h0.trans (h1.trans (h2.trans (h3.trans (kX _ h3.lt))))
  .rw[iN a];split
   .have h1:=nS T h;exact h1.trans (kX _ h1.lt)
   .have h1:=xB T h;exact h1.trans (kX _ h1.lt)
theorem FR(l:List No)(must:Bool){p:PS}(h:p.at_<L.length):dM L p (jI L l must p).2:=by
 unfold jI;dsimp only;have h1:=zQ T L.length l h;exact Sn
theorem IS(deny:Bool){p:PS}(h:p.at_<L.length):dM L p (kU L deny p).2:=by
 unfold kU;dsimp only;have h1:=jK T h;have h2:=mB T h1.lt;have h3:dM L (bU L (bT L p).2).2 (if cL L (str "if") (bU L (bT L p).2).2=true then jI L [] false {(bU L (bT L p).2).2 with at_:=(bU L (bT L p).2).2.at_+1} else ([],(bU L (bT L p).2).2)).2:=by
  split
  .rename_i a;have h0:=fP T h2.lt a;exact h0.trans (FR T _ _ h0.lt)
  .exact dM.refl h2.lt
 have h4:=vC T h3.lt;exact h1.trans (h2.trans (h3.trans (h4.trans (gC T _ h4.lt))))
omit T in
theorem Cc{b:Bool}{p:PS}(h:(cQ L b p).bad=0):b=false/\cQ L b p=p:=by
 cases b
 .exact⟨rfl,by unfold cQ;rw[iN qe]⟩
 .unfold cQ at h;rw[iP rfl] at h;exact absurd h (mA _ _ qe _)
theorem tA:∀(f:Nat) (l:List Ru) {p:PS},p.at_<L.length->dM L p (iL L f l p).2
 |0,l,p,h=>by unfold iL;exact dM.refl h
 |f+1,l,p,h=>by
  unfold iL;split
  .rename_i a;dsimp only;split
   .exact kX _ h
   .rename_i d;obtain⟨b,hp⟩:=Cc (by simpa using d);rw[hp];have h0:dM L p {p with at_:=p.at_+1}:=by
     rw[Bool.or_eq_true] at a
     rcases a with a|a
     .exact fP T h a
     .exact fP T h a
    have c:p.aDq≠64:=by
     intro c;rw[c] at b;simp at b
    have h1:dM L p {p with aDq:=p.aDq+1,at_:=p.at_+1}:=⟨h0.le,h0.lt,Nat.le_succ _,fun x=>by show p.aDq+1<=64;omega⟩;have h2:=IS T (cL L (str "deny") p) h1.lt;exact h1.trans (h2.trans (tA f _ h2.lt))
  .exact dM.refl h
omit T in
theorem rB{one:PS->Po×PS}(a:∀{p:PS},p.at_<L.length->dM L p (one p).2)(deep:Bool):∀(f:Nat) (l:List Po) {p:PS},p.at_<L.length->dM L p (gQ L one deep f l p).2
 |0,l,p,h=>by unfold gQ;exact dM.refl h
 |f+1,l,p,h=>by
  unfold gQ;split
  .dsimp only;split
   .exact kX _ h
   .have h0:=kX (L:=L) (decide (l.length=16)||deep) h;have h1:=a h0.lt;exact h0.trans (h1.trans (rB a deep f _ h1.lt))
  .exact dM.refl h
theorem rZ:∀(n:Nat) {p:PS},p.at_<L.length->dM L p (cO L n p).2:=by
 intro n
 induction n with
 |zero=>
  intro p h;unfold cO;dsimp only;have h1:=dU T [str "policy",str "set"] h;have h2:=jK T h1.lt;have h3:=dU T dI h2.lt;have h4:=mB T h3.lt;have h5:=gC T rH h4.lt;have h15:=h1.trans (h2.trans (h3.trans (h4.trans h5)));by_cases a:decide ((aZ L [str "policy",str "set"] p).1=2)=true
  .rw[iP a];have h6:=rB (one:=fun q=>(mJ,q)) (fun h=>dM.refl h) true L.length [] h5.lt;exact OU
  .rw[iN a];have h6:=tA T L.length [] h5.lt;exact OU
 |succ n b=>
  intro p h;unfold cO;dsimp only;have h1:=dU T [str "policy",str "set"] h;have h2:=jK T h1.lt;have h3:=dU T dI h2.lt;have h4:=mB T h3.lt;have h5:=gC T rH h4.lt;have h15:=h1.trans (h2.trans (h3.trans (h4.trans h5)));by_cases a:decide ((aZ L [str "policy",str "set"] p).1=2)=true
  .rw[iP a];have h6:=rB (one:=cO L n) b false L.length [] h5.lt;exact OU
  .rw[iN a];have h6:=tA T L.length [] h5.lt;exact OU
end
theorem aC{a w w':World}(h:Below a.heap.size a w)(k:Below w.heap.size w w'):Below a.heap.size a w':=h.trans (k.mono h.size)
theorem qB{a w w2:World}(h:Hid (Below a.heap.size a w))(k:Below w.heap.size w w2):Hid (Below a.heap.size a w2):=aA (aC h.o k)
theorem gB{B:Nat}{a w w':World}(h:Below B a w)(k:jX w w'):Below B a w':=by
 obtain⟨n,rfl⟩:=k;exact⟨h.os,h.tape,h.output,h.size,h.block⟩
theorem aB(w:World)(o:Obj):Below w.heap.size w (w.alloc o):=(Below.refl _ _).alloc (lR _) _
theorem wF(w:World)(cs:Array Value)(t:TypeId)(fr:Nat×Nat)(i:Nat)(v:Value)(h:cs[i]? =some v):(w.alloc (.cells cs t fr)).cell? ⟨w.heap.size,i,none⟩=some v:=by
 unfold World.cell?;rw[heap_alloc_new];simpa using h
theorem QCl{p:Prop}(h:p:=by
 have HB:=aA hb1;clear HH hb1;go_wp2_with fail;refine(HW.o).mono ?_;rintro e w2 ⟨rfl,h2,k2⟩;go_wp2;go_returns;exact⟨rfl,h2,(aJ HB.o).trans k2⟩):p:=h
theorem Gx{α:Type}{a0 a a2 a3:α}{l:List α}{p:Nat->α->Prop}(h:∀j x,(a0::a::a2::a3::l)[j]? =some x->p j x):p 0 a0/\p 1 a/\p 2 a2/\p 3 a3:=⟨h 0 _ rfl,h 1 _ rfl,h 2 _ rfl,h 3 _ rfl⟩
theorem qV{P:Program}{id:Nat}{Q:Exit->Act->World->Prop}{a:Act}{w:World}{l:List Oper}(n:Nat)(hm:P.follows .mixedOrders=true)(c:Region.lexTailB .any l.toArray n=true)
 (h:wpStill P l.toArray w.drew (fun b=>wpList P l.toArray Q (l.drop n) b w.drew) (l.take n) a):(Code.region id l.toArray true).wp P Q a w:=wp_region_still_tail n hm c h
def PW(L:List Tok)(w:World)(g:Nat)(p:PS):Prop:=
 ∃A c,w.heap[g]? =some (.cells #[.slice A L.length c,.int .i64 p.at_,.int .i64 p.aDq,.int .i64 p.bad,.int .i64 p.place] 169 (0,0))/\aH TA w (fun b=>b<g) (.slice A L.length c) L
theorem PW.lt{L:List Tok}{w:World}{g:Nat}{p:PS}(h:PW L w g p):g<w.heap.size:=by
 obtain⟨A,c,h1,_⟩:=h;exact(Array.getElem?_eq_some_iff.1 h1).1
theorem PW.on{L:List Tok}{w w':World}{g:Nat}{p:PS}(h:PW L w g p)(a:Below w.heap.size w w'):PW L w' g p:=by
 have b:=h.lt;obtain⟨A,c,h1,h2⟩:=h;exact⟨A,c,by rw[a.block g b];exact h1,h2.on iD a⟩
theorem PW.aDw{L:List Tok}{w w':World}{g:Nat}{p:PS}{ok:nP}(h:PW L w g p)(a:aN ok w w')(d:∀b,b<=g->ok b):PW L w' g p:=by
 have e:=h.lt;obtain⟨A,c,h1,h2⟩:=h;exact⟨A,c,by rw[a.block g e (d g (lR _))];exact h1,h2.aDw iD (a.mono fun k _ h=>d k (by have:k<g:=h;omega))⟩
theorem PW.set{L:List Tok}{w:World}{g:Nat}{p:PS}(h:PW L w g p){b i:Nat}{v:Value}(c:g<b):PW L (w.setCell ⟨b,i,none⟩ v) g p:=
 h.aDw (ok:=fun x=>x≠b) ⟨rfl,rfl,rfl,by simp[World.setCell],fun k d a=>Below.heap_setCell _ _ _ _ a⟩ (fun x e=>by show x≠b;omega)
theorem PW.cells{L:List Tok}{w:World}{g:Nat}{p:PS}(h:PW L w g p):∃A c,w.cell? ⟨g,0,none⟩=some (.slice A L.length c)/\w.cell? ⟨g,1,none⟩=some (.int .i64 p.at_)/\w.cell? ⟨g,2,none⟩=some (.int .i64 p.aDq)/\w.cell? ⟨g,3,none⟩=some (.int .i64 p.bad)/\w.cell? ⟨g,4,none⟩=some (.int .i64 p.place)/\aH TA w (fun b=>b<g) (.slice A L.length c) L:=by
 obtain⟨A,c,h1,h2⟩:=h;exact⟨A,c,by simp[World.cell?,h1],by simp[World.cell?,h1],by simp[World.cell?,h1],by simp[World.cell?,h1],by simp[World.cell?,h1],h2⟩
theorem PW.free{L:List Tok}{w:World}{g:Nat}{p:PS}(h:PW L w g p)(i:Nat):w.frozen? ⟨g,i,none⟩=false:=by
 obtain⟨A,c,h1,_⟩:=h;simp[World.frozen?,h1]
def cY(B g:Nat)(w w':World):Prop:=aN (fun b=>b<B/\b≠g) w w'
theorem cY.aDF{B g:Nat}{a w w':World}(h:cY B g a w)(k:aN (fun b=>b≠g) w w'):cY B g a w':=aN.trans h (k.mono fun _ _ h=>h.2)
theorem cY.set{B g:Nat}{a w:World}(h:cY B g a w){b i:Nat}{v:Value}(d:B<=b):cY B g a (w.setCell ⟨b,i,none⟩ v):=
 aN.trans h ⟨rfl,rfl,rfl,by simp[World.setCell],fun k e c=>Below.heap_setCell _ _ _ _ (by have:=c.1;simp only;omega)⟩
theorem cY.new{B g:Nat}{a w w':World}(h:cY B g a w)(k:Below w.heap.size w w'):cY B g a w':=aN.trans h (aJ k)
theorem cY.end{g:Nat}{w w':World}(h:cY w.heap.size g w w'):aN (fun b=>b≠g) w w':=aN.mono h fun k a h=>⟨a,h⟩
theorem aF{ok:nP}{w w':World}{b:Nat}{o:Obj}(h:w.heap[b]? =some o)(k:aN ok w w')(a:ok b):w'.heap[b]? =some o:=by
 rw[k.block b (Array.getElem?_eq_some_iff.1 h).1 a];exact h
theorem qS{ok:nP}{w w2:World}{b:Nat}{o:Obj}(h:Hid (w.heap[b]? =some o))(k:aN ok w w2)(a:ok b):Hid (w2.heap[b]? =some o):=aA (aF h.o k a)
theorem aE{w w':World}{b:Nat}{o:Obj}(h:w.heap[b]? =some o)(k:Below w.heap.size w w'):w'.heap[b]? =some o:=by
 rw[k.block b (Array.getElem?_eq_some_iff.1 h).1];exact h
theorem qK{w w2:World}{b:Nat}{o:Obj}(h:Hid (w.heap[b]? =some o))(k:Below w.heap.size w w2):Hid (w2.heap[b]? =some o):=aA (aE h.o k)
theorem bE{w:World}{b b' i:Nat}{v:Value}{o:Obj}(h:w.heap[b]? =some o)(a:b≠b'):(w.setCell ⟨b',i,none⟩ v).heap[b]? =some o:=by
 rw[Below.heap_setCell _ _ _ _ a];exact h
theorem aD{w:World}{b:Nat}{o:Obj}(h:w.heap[b]? =some o):b<w.heap.size:=(Array.getElem?_eq_some_iff.1 h).1
def aP(v:Value)(w:World)(e:Ending)(w':World):Prop:=e=.returned v/\Below w.heap.size w w'
theorem gL{L:List Tok}{p:PS}(hp:p.at_<L.length)(f:L.length<=5000)(g:Nat)(w:World)(h:PW L w g p):
 Calls prog 92 #[.pointer (some ⟨g,0,none⟩)] w (aP (iE (aU L p)) w):=by
 rw[EM hp];have j:=h.lt;obtain⟨A,c,c0,c1,_,_,_,d⟩:=h.cells;obtain⟨b,off,r,rfl,_,i,⟨rfl,_⟩,a⟩:=aH.at iD d hp qe;obtain⟨e,l,m,n⟩:=Gx a;rw[Nat.add_zero] at e;have i0:(0:Int)<=(p.at_:Int):=qo;have k:(p.at_:Int)<(L.length:Int):=qo;clear a d h;unfold aP;unfold iE;generalize L[p.at_]=t at *;go_enter func92,ntmps92;go_wp2;refine qV 10 (by kernel_rfl) (by kernel_rfl) ?_;simp only[List.take_succ_cons,List.take_zero,List.drop_succ_cons,List.drop_zero]
 repeat still_step
 refine wpStill_nil ?_;go_wp2;go_returns;exact⟨rfl,((Below.refl _ _).alloc (lR _) _).drew⟩
def eS(L:List Tok)(g:Nat)(w:World)(v:Value)(p':PS)(e:Ending)(w':World):Prop:=e=.returned v/\PW L w' g p'/\aN (fun b=>b≠g) w w'
theorem aG{w:World}{g:Nat}{cs:Array Value}{t:TypeId}{m:Nat×Nat}(h:w.heap[g]? =some (.cells cs t m))(i:Nat)(v:Value):(w.setCell ⟨g,i,none⟩ v).heap[g]? =some (.cells (cs.setIfInBounds i v) t m):=by
 simp only[World.setCell,Array.getElem?_modify,h];simp
theorem aI{w:World}{g i:Nat}(v:Value):aN (fun b=>b≠g) w (w.setCell ⟨g,i,none⟩ v):=⟨rfl,rfl,rfl,by simp[World.setCell],fun k c a=>Below.heap_setCell _ _ _ _ a⟩
theorem PW.stay{L:List Tok}{w w':World}{g:Nat}{p p':PS}(h:PW L w g p)(d:aN (fun b=>b≠g) w w')(a:∀A c,w.heap[g]? =some (.cells #[.slice A L.length c,.int .i64 p.at_,.int .i64 p.aDq,.int .i64 p.bad,.int .i64 p.place] 169 (0,0))->w'.heap[g]? =some (.cells #[.slice A L.length c,.int .i64 p'.at_,.int .i64 p'.aDq,.int .i64 p'.bad,.int .i64 p'.place] 169 (0,0))):PW L w' g p':=by
 obtain⟨A,c,h1,h2⟩:=h;exact⟨A,c,a A c h1,h2.aDw iD (d.mono fun k _ h=>by show k≠g;have:k<g:=h;omega)⟩
theorem uB{L:List Tok}{p:PS}(e pl:Int)(g:Nat)(w:World)(h:PW L w g p):
 Calls prog 95 #[.pointer (some ⟨g,0,none⟩),.int .i64 e,.int .i64 pl] w (eS L g w (.tuple #[]) (eP e pl p)):=by
 have f:=h.lt;obtain⟨A,c,c0,c1,c2,c3,c4,b⟩:=h.cells;have H:=aA h;have f3:=h.free 3;have f4:=h.free 4;unfold eS;unfold eP;clear h b;by_cases a:p.bad=0
 .rw[iP a];rw[a] at c3;clear a;go_enter func95,ntmps95;go_wp2;go_returns;refine⟨rfl,H.o.stay ((aI _).trans (aI _)) fun A c h=> ?_,(aI _).trans (aI _)⟩;rw[aG (aG h 3 _) 4 _];rfl
 .rw[iN a];have d:(p.bad==0)=false:=bN.2 a;clear a;go_enter func95,ntmps95;go_wp2;go_returns;exact⟨rfl,H.o,aN.refl _ _⟩
theorem TC(a b c:Int)(s:bY)(w:World):(Instr.field 109 (.agg #[.int .i64 a,.int .i64 b,.int .i64 c,.string s]) 1).run prog w=.ok (.int .i64 b) w:=by kernel_rfl
theorem aP.aDF{L:List Tok}{p:PS}{g:Nat}{w:World}{v:Value}{e:Ending}{w':World}(h:aP v w e w')(hp:PW L w g p):eS L g w v p e w':=⟨h.1,hp.on h.2,aJ h.2⟩
theorem mC{L:List Tok}{p:PS}(hp:p.at_<L.length)(a:L.length<=5000)(g:Nat)(w:World)(h:PW L w g p):
 Calls prog 93 #[.pointer (some ⟨g,0,none⟩)] w (eS L g w (.tuple #[]) (dN L p)):=by
 have HH:=aA (gL hp a g w h);have H:=aA h;clear h;unfold eS dN;unfold iE at HH;generalize aU L p=t at *;go_enter func93,ntmps93;have b:=TC t.aDo t.at_ t.num t.str;go_wp2_with fail;refine(HH.o).mono ?_;rintro e w1 ⟨rfl,hb1⟩;have HW:=aA (uB 5 t.at_ g w1 (H.o.on hb1));exact QCl
theorem kY{L:List Tok}{p:PS}(more:Bool)(hp:p.at_<L.length)(a:L.length<=5000)(g:Nat)(w:World)(h:PW L w g p):
 Calls prog 199 #[.pointer (some ⟨g,0,none⟩),.bool more] w (eS L g w (.tuple #[]) (cQ L more p)):=by
 have HH:=aA (gL hp a g w h);have H:=aA h;clear h;unfold eS cQ;unfold iE at HH;generalize aU L p=t at *
 cases more
 .rw[iN qe];go_enter func199,ntmps199;go_wp2;go_returns;exact⟨rfl,H.o,aN.refl _ _⟩
 .rw[iP rfl];go_enter func199,ntmps199;have b:=TC t.aDo t.at_ t.num t.str;go_wp2_with fail;refine(HH.o).mono ?_;rintro e w1 ⟨rfl,hb1⟩;have HW:=aA (uB 6 t.at_ g w1 (H.o.on hb1));exact QCl
end Go.Proofs.YtjlkljmickcacaaGreatDoor

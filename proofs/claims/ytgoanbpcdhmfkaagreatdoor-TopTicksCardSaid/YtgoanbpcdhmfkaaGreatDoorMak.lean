/- Lemmas. -/
import Derived.Test.YtgoanbpcdhmfkaaGreatDoorMaj
import Derived.Laws.CopyRow
import Derived.IntWalk
namespace Go.Proofs.YtgoanbpcdhmfkaaGreatDoor
open Go.RowKit
set_option linter.unusedVariables false
set_option linter.unusedSimpArgs false
set_option maxHeartbeats 16000000
open _root_.Go.Proofs.Tryz
set_option maxRecDepth 20000
section
open Pv
section
variable {P:Program} {w:World}
theorem KG(g o:Nat)(t ty:TypeId)(cur cells:Array Value)(d:w.heap[g]? =some (.cells cur t (0,0)))(c:o+cells.size<=cur.size)(b:(P.info? ty).map (·.size)=some cells.size)(h1:cells.all (·.oneCell')=true):
 (storeVar ty ⟨g,o,none⟩ (.agg cells)).run P w=.ok () (w.setRow g (cur.toList.take o++cells.toList++cur.toList.drop (o+cells.size)).toArray):=by
 have h:=run_storeCells_at P g o t cells.toList 0 cur w d (by simpa using c) (fun v f=>(Array.all_eq_true_iff_forall_mem.1 h1) v (by simpa using f))
 cases a:P.info? ty with
 |none=>simp[a] at b
 |some i=>
  have e:cells.size=i.size:=by simp[a] at b;omega
  simp only[Nat.add_zero,Array.length_toList] at h;simp[storeVar,sizeOf,typeInfo,a,Value.cells,e,h]
theorem Nz{op:Oper}{a:Act}{K:Act->World->Prop}{Q:Exit->Act->World->Prop}(ty:TypeId)(x y:Operand)(i:op.op=.store ty x y)(g o:Nat)(cells:Array Value)(j:a.eval x=.pointer (some ⟨g,o,none⟩))(k:a.eval y=.agg cells)(t:TypeId)(cur new:Array Value)(c:w.heap[g]? =some (.cells cur t (0,0)))(e:(P.info? ty).map (·.size)=some cells.size)(d:o+cells.size<=cur.size)(f:(cur.toList.take o++cells.toList++cur.toList.drop (o+cells.size)).toArray=new)(h1:cells.all (·.oneCell')=true)
 (h:∀w',Hid (w'.heap[g]? =some (.cells new t (0,0)))->Hid (aN (fun b=>b≠g) w w')->K (a.put op.dst undef) w'):op.wp P a w K Q:=by
 unfold Oper.wp execOp;simp only[i,j,k,Instr.storeAt,Instr.sureAddr,Sem.run_bind,Sem.run_pure,Result.andThen_ok,KG g o t ty cur cells c d e h1,f];exact h _ (setRow_heap w g cur new t (0,0) c) (CN g new)
theorem TX{ops:Array Oper}{rest:List Oper}{op:Oper}{a:Act}{Q:Exit->Act->World->Prop}(f:op.guard=none)(ty:TypeId)(x y:Operand)(k:op.op=.store ty x y)(g o:Nat)(cells:Array Value)(l:a.eval x=.pointer (some ⟨g,o,none⟩))(m:a.eval y=.agg cells)(t:TypeId)(cur new:Array Value)(e:w.heap[g]? =some (.cells cur t (0,0)))(i:(P.info? ty).map (·.size)=some cells.size)(d:o+cells.size<=cur.size)(j:(cur.toList.take o++cells.toList++cur.toList.drop (o+cells.size)).toArray=new)(h1:cells.all (·.oneCell')=true)
 (h:∀w',Hid (w'.heap[g]? =some (.cells new t (0,0)))->Hid (aN (fun b=>b≠g) w w')->wpList P ops Q rest (a.put op.dst undef) w'):wpList P ops Q (op::rest) a w:=
 wpList_plain f fun _ c=>Nz ty x y k g o cells l m t cur new e i d j h1 fun w' h2 h3=>c _ _ (h w' h2 h3)
end
abbrev oZ(J:Nat)(s:Sto)(vc vr vn vo vt vu vk vb a:Value)(h:BitVec 64):Obj:= .cells #[.pointer (some ⟨J,0,none⟩),.int .i64 s.aCR,vc,vr,vn,vo,.string s.aCL.id,.bool s.aCL.set,.int .i64 s.aCL.alg,vt,vu,vk,vb,.int .i64 s.aCW,a,.int .u64 (n64 h)] 66
theorem Zw:dV prog 63 89 16 208:=fP (z:= .agg #[.int .i64 0,.string ByteArray.empty,.string ByteArray.empty,.string ByteArray.empty,.string ByteArray.empty,.int .i64 0,.int .i64 0,.string ByteArray.empty,.int .i64 0,.string ByteArray.empty,.string ByteArray.empty,.bool false,.int .i64 0,.complex .f64 0 0,.bool false,.slice none 0 0]) underlying63 (by kernel_rfl) rfl qe
theorem Cn{ok:nP}(E J:Nat)(s:Sto)(vc vr vn vo vt vu vk vb d:Value)(h:BitVec 64)(w:World)(b:eZ w ok s vc vr vn vo vt vu vk vb)(a:w.heap[E]? =some (oZ J s vc vr vn vo vt vu vk vb d h)):Calls prog 6 #[.pointer (some ⟨E,0,none⟩)] w (aP (.agg (aV s vc vr vn vo vt vu vk vb)) w):=by
 obtain⟨g,i,ra,rc,F,G,H,I,K,L,M,N,C,D,e,f,rfl,-,rfl,-,rfl,-,rfl,-,rfl,-,rfl,-,rfl,-,rfl,-⟩:=b.sl;clear b;obtain⟨⟨j,k,r,t,v,x,y,z,A,B,l,m,n,o,p,q⟩,-⟩:=kO a;have O:=aD a;have c:=aA (aB w);unfold aV aP;clear a;go_enter func6,ntmps6;go_wp2;go_returns;exact⟨rfl,c.o _⟩
theorem ZR{w:World}{ok:nP}{s:Sto}{vc vr vn vo vt vu vk vb:Value}(a:eZ w ok s vc vr vn vo vt vu vk vb):(aV s vc vr vn vo vt vu vk vb).all (·.oneCell')=true:=by
 obtain⟨d,e,ra,rc,i,j,k,l,m,n,o,p,f,g,b,c,rfl,-,rfl,-,rfl,-,rfl,-,rfl,-,rfl,-,rfl,-,rfl,-⟩:=a.sl;simp[aV,Value.oneCell']
def Oa(E J base:Nat)(s:Sto)(vc vr vn vo vt vu vk vb:Value)(la:oD)(lu:List Unit)(lc:Nat)(w:World)(e:Ending)(w':World):Prop:=
 e=.returned (.tuple #[])/\∃(c:oD) (d:Nat) (a:List Unit) (f:BitVec 64),a.length=lu.length+1/\w'.heap[E]? =some (oZ J s vc vr vn vo vt vu vk vb (.slice c a.length d) f)/\aM (wG 16) 16 89 w' base (fun _=>False) (.slice c a.length d) a/\(∀b,(Value.slice c a.length d).ownBlock=some b->(Value.slice la lu.length lc).ownBlock=some b\/w.heap.size<=b)/\aN (fun b=>b≠E/\some b≠(Value.slice la lu.length lc).ownBlock) w w'
theorem Hu{ok:nP}(E J base lc:Nat)(s0 s:Sto)(O ur un uo ut uu uk ub vc vr vn vo vt vu vk vb:Value)(la:oD)(lu:List Unit)(h:BitVec 64)(d:Deci)(R:Value)(bw:R.oneCell'=true)(a:oD)(c:Nat)(p:lU)(w:World)(hS:eZ w ok s vc vr vn vo vt vu vk vb)(hE:w.heap[E]? =some (oZ J s0 O ur un uo ut uu uk ub (.slice la lu.length lc) h))(hG:aM (wG 16) 16 89 w base (fun _=>False) (.slice la lu.length lc) lu)(bg:E<base/\base<=w.heap.size)(bh:lu.length<=900000)(hp:iY w (fun b=>b≠E/\some b≠(Value.slice la lu.length lc).ownBlock) a (bF p))(h8:p.length<=8192):
 Calls prog 25 #[.pointer (some ⟨E,0,none⟩),.agg (aV s vc vr vn vo vt vu vk vb),.agg (mU d R),.slice a p.length c] w (Oa E J base s vc vr vn vo vt vu vk vb la lu lc w):=by
 have bo:=aA (ZR hS);obtain⟨Y,Z,ra,rc,na,nc,oa,oc,ta,tc,ua,O,ka,kc,V,W,rfl,-,rfl,-,rfl,-,rfl,-,rfl,-,rfl,-,rfl,-,rfl,-⟩:=hS.sl;obtain⟨W0,aa⟩:=xE ((w.alloc (.cells (aV s (.slice Y s.aCK.length Z) (.slice ra s.aCO.length rc) (.slice na s.aCS.length nc) (.slice oa s.aCX.length oc) (.slice ta s.aCL.aCU.length tc) (.slice ua s.aCL.aCM.length O) (.slice ka s.aCL.aCY.length kc) (.slice V s.aCL.aC0.length W)) 40)).alloc (.cells (mU d R) 89));have ah:Below w.heap.size w W0:=by rw[aa];exact aC (aB _ _) (aB _ _)
 have A:Hid (W0.heap[w.heap.size]? =some (.cells (aV s (.slice Y s.aCK.length Z) (.slice ra s.aCO.length rc) (.slice na s.aCS.length nc) (.slice oa s.aCX.length oc) (.slice ta s.aCL.aCU.length tc) (.slice ua s.aCL.aCM.length O) (.slice ka s.aCL.aCY.length kc) (.slice V s.aCL.aC0.length W)) 40 (0,0))):=aA (by rw[aa];exact aE (aK _ _ _ rfl) (aB _ _));have D:Hid (W0.heap[w.heap.size+1]? =some (.cells (mU d R) 89 (0,0))):=aA (by rw[aa];exact aK _ _ _ qs);obtain⟨ar,HG,ab,HS,L,bn⟩:=hD6 (aE hE ah) hG ah hp (And.intro bg (And.intro bh h8)) (aD hE);unfold aV mU oZ at *;have bp:=aA aa;clear aa ah hS hE hG hp bg bh h8;obtain⟨⟨a0,a1,a2,a3,a4,a5,a6,a7,a8,a9,br,bs,a12⟩,-⟩:=bS A.o;have za:=aD A.o;have i:=aD ar.o;go_enter func25,ntmps25;go_upto_region 1 with (fail)
 rw[<-bp.o];go_upto_region 2 with (refine TX rfl _ (.tmp 11) (.tmp 9) rfl E 1 _ rfl rfl _ _ _ ar.o (by kernel_rfl) (by show 1+13<=16;omega) rfl bo.o ?_;intro w1 au P)
 have aq:=qS D P.o (by show (_:Nat)≠_;have:=bn.o;omega);have g:Hid (w1.heap[E]? =some (oZ J s (.slice Y s.aCK.length Z) (.slice ra s.aCO.length rc) (.slice na s.aCS.length nc) (.slice oa s.aCX.length oc) (.slice ta s.aCL.aCU.length tc) (.slice ua s.aCL.aCM.length O) (.slice ka s.aCL.aCY.length kc) (.slice V s.aCL.aC0.length W) (.slice la lu.length lc) h)/\w1.heap[w.heap.size+1]? =some (.cells #[.int .i64 d.op.aCJ,.string d.op.aCZ,.string d.op.aCQ,.string d.op.aC4,.string d.op.to_,.int .i64 d.op.val.1,.int .i64 d.op.val.2.1,.string d.op.val.2.2,.int .i64 d.op.aC6,.string d.op.text,.string d.op.aC7,.bool d.op.aDc,.int .i64 d.aCW,.complex .f64 (Cm.qb d.mark.1) (Cm.qb d.mark.2),.bool d.aDc,R] 89 (0,0))):=aA ⟨au.o,aq.o⟩;have bl:Hid (aM (wG 16) 16 89 w1 base (fun _=>False) (.slice la lu.length lc) lu):=aA ((HG.o.on (kI 16) ab.o).stays (kI 16) P.o (fun b f e=>qD ((HG.o.lt b f).1) L.o.1.1) (fun _ h _=>h.elim));clear a0 a1 a2 a3 a4 a5 a6 a7 a8 a9 br bs a12 za i;have bd:Below w1.heap.size w1 w1.drew:=(Below.refl _ _).drew;have ad:=aA bd;refine cC 10 [(0,false),(1,false),(2,false),(3,false),(4,false),(5,false),(6,true),(7,true),(8,false),(9,false)] [(10,true)] (fun w'=>w'.heap[E]? =some (oZ J s (.slice Y s.aCK.length Z) (.slice ra s.aCO.length rc) (.slice na s.aCS.length nc) (.slice oa s.aCX.length oc) (.slice ta s.aCL.aCU.length tc) (.slice ua s.aCL.aCM.length O) (.slice ka s.aCL.aCY.length kc) (.slice V s.aCL.aC0.length W) (.slice la lu.length lc) h)/\w'.heap[w.heap.size+1]? =some (.cells #[.int .i64 d.op.aCJ,.string d.op.aCZ,.string d.op.aCQ,.string d.op.aC4,.string d.op.to_,.int .i64 d.op.val.1,.int .i64 d.op.val.2.1,.string d.op.val.2.2,.int .i64 d.op.aC6,.string d.op.text,.string d.op.aC7,.bool d.op.aDc,.int .i64 d.aCW,.complex .f64 (Cm.qb d.mark.1) (Cm.qb d.mark.2),.bool d.aDc,R] 89 (0,0))) (by kernel_rfl) (by kernel_rfl) g.o ?_
 simp only[List.cons_append,List.nil_append];obtain⟨⟨k,l,x,y,z,B,C,F,G,H,m,n,o,q,r,t⟩,-⟩:=kO g.o.1;have i:=aD g.o.1;obtain⟨⟨d0,d1,d2,d3,d4,d5,d6,d7,d8,d9,d10,d11,d12,d13,d14,d15⟩,-⟩:=kO g.o.2;have S:=aD g.o.2
 repeat (refine dG rfl (fun K M=> ?_);unfold rd;go_simp;refine M _ (fun bx h1=> ?_) ?_;(· clear M K k l x y z B C F G H m n o q r t i d0 d1 d2 d3 d4 d5 d6 d7 d8 d9 d10 d11 d12 d13 d14 d15 S;obtain⟨⟨k,l,x,y,z,B,C,F,G,H,m,n,o,q,r,t⟩,-⟩:=kO h1.1;have i:=aD h1.1;obtain⟨⟨d0,d1,d2,d3,d4,d5,d6,d7,d8,d9,d10,d11,d12,d13,d14,d15⟩,-⟩:=kO h1.2;have S:=aD h1.2;unfold rd;go_simp);clear M K)
 clear k l x y z B C F G H m n o q r t i d0 d1 d2 d3 d4 d5 d6 d7 d8 d9 d10 d11 d12 d13 d14 d15 S bd;refine bJ rfl (fun U I=> ?_);unfold mv;go_simp;refine I _ _ (fun _=>⟨aE g.o.1 (aC ad.o (aB _ _)),aE g.o.2 (aC ad.o (aB _ _))⟩) ?_;clear I U;refine bJ rfl (fun U I=> ?_);unfold mv;refine iV (base:=base) Zw (kI 16) rfl (.tmp 16) (.tmp 18) rfl _ lu rfl (bl.o.on (kI 16) (aC ad.o (aB _ _))) w1.drew.heap.size 1 _ _ _ () rfl (aK _ _ _ rfl) ⟨rfl,fun v hv=> ?_⟩ (qA L.o) qe (by have:=ab.o.size;have:=P.o.size;have:=L.o.1;simp;omega) ?_
 .simp only[List.mem_cons,List.not_mem_nil,or_false] at hv
  rcases hv with rfl|rfl|rfl|rfl|rfl|rfl|rfl|rfl|rfl|rfl|rfl|rfl|rfl|rfl|rfl|rfl<;>first|rfl|exact bw
 intro N bf T X w3 az be bb;have bu:some E≠(Value.slice la lu.length lc).ownBlock:=fun e=>qD ((HG.o.lt E e.symm).1) L.o.1
 have bt:some (w.heap.size+1)≠(Value.slice la lu.length lc).ownBlock:=fun e=>qA ((HG.o.lt _ e.symm).2)
 have ag:=aA ((aJ (ok:=fun b=>some b≠(Value.slice la lu.length lc).ownBlock) (aC ad.o (aB _ _))).trans (cV be));have j:=And.intro (aF g.o.1 ag.o bu) (aF g.o.2 ag.o bt);have j:=aA j;have av:=aA az;have bm:Hid (N.length=lu.length+1):=aA (by rw[bf.o,aL];rfl);have bj:Hid (∀b,(Value.slice T N.length X).ownBlock=some b->(Value.slice la lu.length lc).ownBlock=some b\/w.heap.size<=b):=aA (fun b f=>by
  rcases bb with h|h
  .exact .inl (h▸f)
  .rw[h] at f;injection f with f
   have h1:=ab.o.size;have h2:=P.o.size;refine .inr ?_;simp at f;omega)
 refine I _ _ (fun _=>j.o) ?_;clear I U az be bb bf;obtain⟨⟨d0,d1,d2,d3,d4,d5,d6,d7,d8,d9,d10,d11,d12,d13,d14,d15⟩,-⟩:=kO j.o.2;have S:=aD j.o.2;obtain⟨⟨k,l,x,y,z,B,C,F,G,H,m,n,o,q,r,t⟩,E0,E1,E2,E3,E4,E5,E6,E7,E8,E9,ai,aj,ak,al,an,ao⟩:=kO j.o.1;have i:=aD j.o.1
 repeat (refine dG rfl (fun K M=> ?_);unfold rd;go_simp;refine M _ (fun bx h1=> ?_) ?_;(· clear M K k l x y z B C F G H m n o q r t i d0 d1 d2 d3 d4 d5 d6 d7 d8 d9 d10 d11 d12 d13 d14 d15 S;obtain⟨⟨k,l,x,y,z,B,C,F,G,H,m,n,o,q,r,t⟩,-⟩:=kO h1.1;have i:=aD h1.1;obtain⟨⟨d0,d1,d2,d3,d4,d5,d6,d7,d8,d9,d10,d11,d12,d13,d14,d15⟩,-⟩:=kO h1.2;have S:=aD h1.2;unfold rd;go_simp);clear M K)
 refine bJ rfl (fun U I=> ?_);unfold mv;go_simp;refine I _ _ (fun h=>absurd h qe) ?_;clear I U;unfold cI;obtain⟨Q,ae⟩:=xE (w3.setCell ⟨E,14,none⟩ (.slice T N.length X));have af:Hid (Q.heap[E]? =some (oZ J s (.slice Y s.aCK.length Z) (.slice ra s.aCO.length rc) (.slice na s.aCS.length nc) (.slice oa s.aCX.length oc) (.slice ta s.aCL.aCU.length tc) (.slice ua s.aCL.aCM.length O) (.slice ka s.aCL.aCY.length kc) (.slice V s.aCL.aC0.length W) (.slice T N.length X) h)):=aA (by rw[ae];exact aG j.o.1 14 _);have ax:Hid (aN (fun b=>b≠E) w3 Q):=aA (by rw[ae];exact aI _);have ay:Hid (aN (fun b=>b≠E/\some b≠(Value.slice la lu.length lc).ownBlock) w Q):=aA ((((aJ ab.o).trans (P.o.mono fun b _ f=>f.1)).trans (ag.o.mono fun b _ f=>f.2)).trans (ax.o.mono fun b _ f=>f.1));have aw:Hid (aM (wG 16) 16 89 Q base (fun _=>False) (.slice T N.length X) N):=aA (av.o.stays (kI 16) ax.o (fun b f e=>qD ((av.o.lt b f).1) L.o.1) (fun _ h _=>h.elim));have bk:=aA (Hp h a c p.length p rfl Q Q.heap.size (qA L.o) (HS.o.aCT ay.o).lt);have bq:=aA ae;clear ae k l x y z B C F G H m n o q r t E0 E1 E2 E3 E4 E5 E6 E7 E8 E9 ai aj ak al an ao i j g aq au P;obtain⟨⟨k,l,x,y,z,B,C,F,G,H,m,n,o,q,r,t⟩,E0,E1,E2,E3,E4,E5,E6,E7,E8,E9,ai,aj,ak,al,an,ao⟩:=kO af.o;have i:=aD af.o;rw[<-bq.o];go_wp2_with fail;refine bk.o.mono ?_;rintro e w5 ⟨rfl,rfl⟩;go_wp2;go_returns;refine⟨rfl,T,X,N,Fnv.aCI h p,bm.o,aG af.o 15 _,?_,bj.o,ay.o.trans ((aI _).mono fun b _ f=>f.1)⟩;exact aw.o.stays (kI 16) (aI _) (fun b f e=>qD ((aw.o.lt b f).1) L.o.1) (fun _ h _=>h.elim)
end
theorem gZ.more{K:nP}{base B:Nat}{a b c:World}{s:Sto}(h:gZ K base B a b s)(d:Below b.heap.size b c):gZ K base B a c s:=by
 obtain⟨L,ro,vc,vr,vn,vo,vt,vu,vk,vb,h1,h2,h3⟩:=h;exact⟨L,ro,vc,vr,vn,vo,vt,vu,vk,vb,aE h1 d,h2.on d,h3.trans (aJ d)⟩
theorem bC.aDQ{K:nP}{base:Nat}{w:World}{s:Sto}{L:List Mix}{ro:Option Value}{vc vr vn vo vt vu vk vb:Value}(h:bC K base w s L ro vc vr vn vo vt vu vk vb)(h1:s.aCK.length<=1000000):aH pW w (fun b=>K b\/base<=b) vc s.aCK:=by
 exact QCp
theorem bC.logAt{K:nP}{base:Nat}{w:World}{s:Sto}{L:List Mix}{ro:Option Value}{c:oD}{n d:Nat}{vr vn vo vt vu vk vb:Value}(h:bC K base w s L ro (.slice c n d) vr vn vo vt vu vk vb){k:Nat}(a:k<L.length):
 ∃g la lc,c=some ⟨g,0,none⟩/\L[k].2.2=some (.slice la L[k].1.log.length lc)/\w.cell? ⟨g,k * 5+4,none⟩=some (.slice la L[k].1.log.length lc)/\base<=g/\g<w.heap.size/\aM mS 3 54 w base (fun _=>False) (.slice la L[k].1.log.length lc) L[k].1.log/\some g≠(Value.slice la L[k].1.log.length lc).ownBlock/\(∀i,w.frozen? ⟨g,i,none⟩=false)/\¬K g:=by
 obtain⟨g,r,e,h1,h2,hm,f,j⟩:=h.aCK.at (dP base K) a qe;obtain⟨y,z,rfl,m,o,p,q,p5⟩:=hm;obtain⟨v,b⟩:=Option.isSome_iff_exists.1 (h.aDd k a);have l:=(kE h.aCK a).2 v b;rw[b] at p5;obtain⟨rfl,q1,t,x⟩:=p5;obtain⟨la,lc,rfl⟩:=q1.slice;subst e;exact⟨g,la,lc,rfl,b,f 4 _ rfl,h1,h2,q1,fun e=>l.2.1 g e.symm rfl,j,fun a=>(h.kept g a).2.1 rfl⟩
theorem gJ{w1 d c:World}{b:Nat}{O:Obj}{o:Option Nat}(h:w1.heap[b]? =some O)(a:Below w1.heap.size w1 d)(e:d.grownBy c o)(f:some b≠o):c.heap[b]? =some O:=(e.block b (aD (aE h a)) f).trans (aE h a)
theorem Co{K:nP}{base B:Nat}{w d c:World}{s:Sto}{L:List Mix}{ro:Option Value}{g n l:Nat}{vr vn vo vt vu vk vb:Value}{k:Nat}(a:bC K base d s L ro (.slice (some ⟨g,0,none⟩) n l) vr vn vo vt vu vk vb)(i:k<L.length)(x:B<base)(t:Below w.heap.size w d){v v':Value}(j:L[k].2.2=some v){l':List tU}(q:l'.length<=1000000)(m:d.grownBy c v.ownBlock)(o:aM mS 3 54 c base (fun _=>False) v' l')(p:v'.ownBlock=v.ownBlock\/v'.ownBlock=some d.heap.size):
 Hid (bC K base (c.setCell ⟨g,k * 5+4,none⟩ v') {s with aCK:=s.aCK.set k {L[k].1 with log:=l'}} (L.set k ({L[k].1 with log:=l'},L[k].2.1,some v')) ro (.slice (some ⟨g,0,none⟩) n l) vr vn vo vt vu vk vb)/\Hid (aN (fun b=>(b<base/\b≠B)\/K b) w (c.setCell ⟨g,k * 5+4,none⟩ v')):=by
 have r:=(kE a.aCK i).2 v j;have y:=a.aCK.lt g rfl;exact⟨a.log i j m o (yN p (lR _)) q,((aJ t).trans ((cV m).mono (fun b _ f e=>f.elim (fun h=>qD ((r.1.lt b e.symm).1) h.1) (fun h=>(a.aDe k i).2 b (cM.2 ⟨v,j,e.symm⟩) h)))).trans ((aI _).mono (fun b _ f e=>f.elim (fun h=>qA h.1) (fun h=>(a.kept b h).2.1 (by rw[e];rfl))))⟩
theorem Oc{K:nP}{base B:Nat}(o:Op)(ho:kG o)(s:Sto)(what:bY)(aw:what.size<=cQ)(w:World)(b:¬K B)(hB:B<base)(hl:s.aCK.length<=990000)(bf:∀c∈s.aCK,c.log.length<=990000)(h:gZ K base B w w s):
 Calls prog 113 #[.pointer (some ⟨B,0,none⟩),fA o,.string what] w (fun e w'=>e=.returned (.tuple #[])/\gZ K base B w w' (lS s o what)):=by
 obtain⟨L,ro,vc,vr,vn,vo,vt,vu,vk,vb,W,v,_⟩:=h;obtain⟨ca,M,rfl⟩:=v.aCK.slice;have U:=v.len;obtain⟨N,P⟩:=xE L.length;rw[<-P] at W v;obtain⟨r,d⟩:∃O:Obj,O=.cells (aV s (.slice ca N M) vr vn vo vt vu vk vb) 40:=⟨_,rfl⟩;obtain⟨t,ad⟩:∃O:Obj,O=.cells (bZ o) 46:=⟨_,rfl⟩;rw[<-d] at W;obtain⟨W0,R⟩:=xE (w.alloc t);have D:Below w.heap.size w W0:=by rw[R];exact aB _ _
 have S:Hid (Kq w B w.heap.size r t W0):=aA ⟨D,aE W D,by rw[R];exact aK _ _ _ rfl⟩;have z:Hid (∀(w':World),(w'.heap[B]? =some r/\w'.heap[w.heap.size]? =some t)->w'.cell? ⟨B,0,none⟩=some (.int .i64 s.aCR)/\w'.cell? ⟨B,1,none⟩=some (.slice ca N M)/\B<w'.heap.size/\w'.cell? ⟨w.heap.size,0,none⟩=some (.int .i64 o.aCJ)/\w'.cell? ⟨w.heap.size,1,none⟩=some (.string o.aCZ)/\w'.cell? ⟨w.heap.size,2,none⟩=some (.string o.aCQ)/\w.heap.size<w'.heap.size):=aA (fun w' F=>by
  have h1:=F.1;have h2:=F.2;rw[d] at h1;rw[ad] at h2;exact⟨aQ h1 0 _ rfl,aQ h1 1 _ rfl,aD h1,aQ h2 0 _ rfl,aQ h2 1 _ rfl,aQ h2 2 _ rfl,aD h2⟩)
 have ai:=aA (fun w' (hb:Below w.heap.size w w')=>v.on hb);have av:=(v.on D).aDQ qo;obtain⟨c0,c1,l,p,q,i,j⟩:=z.o _ S.o.2;have Z:=aA (XI _ s.aCK o.aCQ w.heap.size W0 av ⟨i,j⟩);have bd:∃f,f=s.aCK.findIdx (fun c=>decide (c.id=o.aCQ)):=⟨_,rfl⟩;obtain⟨f,hf⟩:=bd;have ag:Hid (eU (fun x=>decide (x.id=o.aCQ)) s.aCK=if f<N then (f:Int) else -1):=aA (by unfold eU;rw[<-hf,P,U]);have aa:Hid (lS s o what=if f<N/\o.aCJ≠6 then fE s f (fun c=>oE s c o.aCZ what) else s):=aA (by unfold lS;dsimp only;rw[<-hf,P,U]);generalize eU (fun x=>decide (x.id=o.aCQ)) s.aCK=ix at *;rw[ad] at R;obtain⟨bj,ay,a8,a1,az,bk⟩:=hD6 b ho aw d P U;have bm:N<=990000:=qo;have ae:Hid (gZ K base B w W0 s):=aA ⟨L,ro,_,vr,vn,vo,vt,vu,vk,vb,by rw[<-d];exact S.o.2.1,v.on D,aJ D⟩;unfold fA bZ aP at *;have ab:=aA R;clear R D W v d ad P U hf av b ho aw;by_cases Q:f<N
 .have h1:ix=(f:Int):=by rw[ag.o,iP Q]
  subst h1;by_cases h6:o.aCJ=6
  .have ba:(o.aCJ==(6:Int))=true:=bQ.2 h6;have Y:=aA h6;clear h6;have i0:¬((f:Int)<0):=qo;go_enter func113,ntmps113;go_upto_region 1 with (fail)
   rw[<-ab.o];go_wp2_with fail;refine Z.o.mono ?_;rintro e w1 ⟨rfl,y⟩;obtain⟨c0,c1,l,p,q,i,j⟩:=z.o _ (Kq.on S.o y).2;go_wp2;go_returns;rw[aa.o,iN (fun h=>h.2 Y.o)];exact⟨rfl,ae.o.more y⟩
  .have ba:(o.aCJ==(6:Int))=false:=bN.2 h6;have Y:=aA h6;clear h6;have i0:¬((f:Int)<0):=qo;have i1:(f:Int)<(N:Int):=qo;go_enter func113,ntmps113;go_upto_region 1 with (fail)
   rw[<-ab.o];go_wp2_with fail;refine Z.o.mono ?_;rintro e w1 ⟨rfl,y⟩;have G:=aA (Kq.on S.o y);have d:=ai.o _ G.o.1;have E:f<L.length:=by rw[<-az.o];exact Q
   have bh:=aA E;obtain⟨g,la,lc,rfl,hv,al,bn,bc,n,ao,an,bl⟩:=d.logAt E;obtain⟨A,V⟩:∃A,w1.heap[g]? =some A:=⟨_,Array.getElem?_eq_getElem bc⟩;have T:Hid (∀(w':World),(w'.heap[B]? =some r/\w'.heap[w.heap.size]? =some t/\w'.heap[g]? =some A)->w'.cell? ⟨g,f * 5+4,none⟩=some (.slice la L[f].1.log.length lc)/\w'.frozen? ⟨g,f * 5+4,none⟩=false/\g<w'.heap.size):=aA (fun w' F=>⟨(World.cell?_of_block (a:=⟨g,f * 5+4,none⟩) (F.2.2.trans V.symm)).trans al,(World.frozen?_of_block (a:=⟨g,f * 5+4,none⟩) (F.2.2.trans V.symm)).trans (an _),aD F.2.2⟩);have k:Hid (w1.heap[B]? =some r/\w1.heap[w.heap.size]? =some t/\w1.heap[g]? =some A):=aA ⟨G.o.2.1,G.o.2.2,V⟩;obtain⟨H,HV,af,ax⟩:=dD d hv n ao;clear al an V d hv n ao y;obtain⟨c0,c1,l,p,q,i,j⟩:=z.o _ G.o.2;obtain⟨d0,d1,C⟩:=T.o _ k.o;have bo:L[f].1.log.length<=990000:=bf _ (List.mem_of_getElem? (H.o.aCQ E));have hh:vJ ⟨s.aCR,o.aCZ,what⟩:=⟨H.o.aCR,ay.o.2.1,a8.o⟩;generalize hx:L[f].1=x at *;go_upto_region 4 with (fail)
   refine cC 17 [(0,false),(1,false),(2,false),(3,false),(4,false),(5,false),(6,false),(7,false),(8,false),(9,false),(10,false),(11,false),(12,false),(13,true),(14,true),(15,false),(16,false)] [(17,true)] (fun w'=>w'.heap[B]? =some r/\w'.heap[w.heap.size]? =some t/\w'.heap[g]? =some A) (by kernel_rfl) (by kernel_rfl) k.o ?_;simp only[List.cons_append,List.nil_append];have aj:=aA hx;clear hx
   repeat (refine dG rfl (fun K b=> ?_);unfold rd;go_simp;refine b _ (fun bg h1=> ?_) ?_;(· clear b K c0 c1 l p q i j d0 d1 C;obtain⟨c0,c1,l,p,q,i,j⟩:=z.o _ ⟨h1.1,h1.2.1⟩;obtain⟨d0,d1,C⟩:=T.o _ h1;unfold rd;go_simp);clear b K)
   refine bJ rfl (fun J m=> ?_);unfold mv;go_simp;refine m _ _ (fun _=>⟨aE k.o.1 (aB _ _).drew,aE k.o.2.1 (aB _ _).drew,aE k.o.2.2 (aB _ _).drew⟩) ?_;clear m J;refine bJ rfl (fun J m=> ?_);unfold mv;refine iV (base:=base) Bv bW rfl (.tmp 31) (.tmp 40) rfl _ x.log rfl (af.o.on bW (aB _ _).drew) w1.heap.size 1 _ _ _ ⟨s.aCR,o.aCZ,what⟩ rfl (aK _ _ _ rfl) ⟨rfl,hh⟩ qo qe (lT H.o.size (aB _ _).drew.size) ?_;intro l' aq A' c' X hG n ak;have ar:some B≠(Value.slice la x.log.length lc).ownBlock:=fun e=>qA ((af.o.lt B e.symm).1)
   have au:some w.heap.size≠(Value.slice la x.log.length lc).ownBlock:=fun e=>by
    have:=((ai.o w (Below.refl _ _)).lt f E).2 w.heap.size (cM.2 ⟨_,HV.o,e.symm⟩);omega
   have I:Hid (X.heap[B]? =some r/\X.heap[w.heap.size]? =some t/\X.heap[g]? =some A):=aA ⟨gJ k.o.1 (aB _ _).drew n ar,gJ k.o.2.1 (aB _ _).drew n au,gJ k.o.2.2 (aB _ _).drew n ax.o⟩;have ah:=aA aq.o;have be:l'.length<=1000000:=by rw[ah.o,aL];simp only[List.length_cons,List.length_nil];omega
   obtain⟨a6,a7⟩:=Co (H.o.on (aB _ _).drew) E hB (aC G.o.1 (aB _ _).drew) HV.o be n hG ak;refine m _ _ (fun _=>I.o) ?_;clear m J hG n ak aq ar au c0 c1 l p q i j d0 d1 C;obtain⟨c0,c1,l,p,q,i,j⟩:=z.o _ ⟨I.o.1,I.o.2.1⟩;obtain⟨d0,d1,C⟩:=T.o _ I.o
   repeat (refine dG rfl (fun K b=> ?_);unfold rd;go_simp;refine b _ (fun bg h1=> ?_) ?_;(· clear b K c0 c1 l p q i j d0 d1 C;obtain⟨c0,c1,l,p,q,i,j⟩:=z.o _ ⟨h1.1,h1.2.1⟩;obtain⟨d0,d1,C⟩:=T.o _ h1;unfold rd;go_simp);clear b K)
   refine bJ rfl (fun J m=> ?_);unfold mv;go_simp;refine m _ _ (fun h=>absurd h qe) ?_;clear m J;unfold cI;go_returns;rw[aa.o,iP ⟨Q,Y.o⟩];have e9:({s with aCK:=s.aCK.set f {L[f].1 with log:=l'}}:Sto)=fE s f (fun c=>oE s c o.aCZ what):=by
    unfold fE;have bb:s.aCK[f]? =some x:=(H.o.aCQ E).trans (congrArg some aj.o);rw[bb];simp only[ah.o,aj.o];rfl
   refine⟨rfl,L.set f ({L[f].1 with log:=l'},L[f].2.1,some (.slice A' l'.length c')),ro,.slice (some ⟨g,0,none⟩) N M,vr,vn,vo,vt,vu,vk,vb,?_,by rw[<-e9];exact a6.o,a7.o⟩;have h8:(X.setCell ⟨g,f * 5+4,none⟩ (.slice A' l'.length c')).heap[B]? =some r:=bE I.o.1 (fun e=>by omega);have e8:aV (fE s f (fun c=>oE s c o.aCZ what)) (.slice (some ⟨g,0,none⟩) N M) vr vn vo vt vu vk vb=aV s (.slice (some ⟨g,0,none⟩) N M) vr vn vo vt vu vk vb:=rfl;rw[h8,a1.o,e8]
 .have h1:ix= -1:=by rw[ag.o,iN Q]
  subst h1;go_enter func113,ntmps113;go_upto_region 1 with (fail)
  rw[<-ab.o];go_wp2_with fail;refine Z.o.mono ?_;rintro e w1 ⟨rfl,y⟩;go_wp2;go_returns;rw[aa.o,iN (fun h=>Q h.1)];exact⟨rfl,ae.o.more y⟩
structure kF (n:Nat) (s:Sto):Prop where
 aCK:s.aCK.length<=n
 aCO:s.aCO.length<=n
 aCS:s.aCS.length<=n
 aDd:∀c∈s.aCK,c.log.length<=n
theorem kF.more{n m:Nat}{s:Sto}(h:kF n s)(a:n<=m):kF m s:=⟨lT h.aCK a,lT h.aCO a,lT h.aCS a,fun c b=>lT (h.aDd c b) a⟩
theorem XT{n:Nat}{s:Sto}(h:kF n s)(i:Nat)(a b:bY):kF (n+1) (fE s i (fun c=>oE s c a b)):=by
 refine⟨?_,Nat.le_succ_of_le h.aCO,Nat.le_succ_of_le h.aCS,fun c e=> ?_⟩
 .have h1:(fE s i (fun c=>oE s c a b)).aCK.length=s.aCK.length:=by
   unfold fE;dsimp only;split
   .exact List.length_set
   .rfl
  rw[h1];exact Nat.le_succ_of_le h.aCK
 .have h1:c∈s.aCK\/∃d,s.aCK[i]? =some d/\c=oE s d a b:=by
   unfold fE at e;dsimp only at e;split at e
   .rename_i d f
    rcases List.mem_or_eq_of_mem_set e with h2|h2
    .exact .inl h2
    .exact .inr ⟨d,f,h2⟩
   .exact .inl e
  rcases h1 with h1|⟨d,f,rfl⟩
  .exact Nat.le_succ_of_le (h.aDd c h1)
  .have:=h.aDd d (List.mem_of_getElem? f);unfold oE;simp only[aL,List.length_cons,List.length_nil];omega
theorem Hv{n:Nat}{s:Sto}(h:kF n s)(o:Op)(what:bY):kF (n+1) (lS s o what):=by
 unfold lS;dsimp only;split
 .exact XT h _ _ _
 .exact h.more (Nat.le_succ n)
theorem DH{n:Nat}{s:Sto}(h:kF n s)(o:Op)(r:bY):kF (n+1) (gB s o r):=
 ⟨Nat.le_succ_of_le h.aCK,by unfold gB;simp only[aL,List.length_cons,List.length_nil];have:=h.aCO;omega,Nat.le_succ_of_le h.aCS,fun c a=>Nat.le_succ_of_le (h.aDd c a)⟩
theorem Hw{n:Nat}{s:Sto}(h:kF n s)(o:Op)(d:Bool)(x:Ob):kF (n+1) (cX o d s x):=by
 unfold cX;split
 .exact Hv h _ _
 .split
  .exact DH h _ _
  .split
   .exact⟨Nat.le_succ_of_le h.aCK,Nat.le_succ_of_le h.aCO,by simp only[aL,List.length_cons,List.length_nil];have:=h.aCS;omega,fun c a=>Nat.le_succ_of_le (h.aDd c a)⟩
   .exact h.more (Nat.le_succ n)
theorem xV(o:Op)(d:Bool):∀(l:List Ob) (n:Nat) (s:Sto),kF n s->kF (n+l.length) (l.foldl (cX o d) s)
 | [],_,_,h=>h
 |x::l,n,s,h=>by
  have:=xV o d l (n+1) _ (Hw h o d x);rw[List.length_cons,show n+(l.length+1)=n+1+l.length by omega];exact this
theorem Hy{α β:Type}(f:β->α->β)(l:List α)(b:β){k:Nat}(a:k<l.length):(l.take (k+1)).foldl f b=f ((l.take k).foldl f b) l[k]:=by
 rw[List.take_succ_eq_append_getElem a,List.foldl_append];rfl
theorem gZ.aDx{K:nP}{base B:Nat}{w w':World}{s:Sto}(h:gZ K base B w w s)(a:Below w.heap.size w w'):gZ (fun b=>K b\/(w.heap.size<=b/\b<w'.heap.size)) base B w' w' s:=by
 obtain⟨L,ro,vc,vr,vn,vo,vt,vu,vk,vb,h1,h2,h3⟩:=h;exact⟨L,ro,vc,vr,vn,vo,vt,vu,vk,vb,aE h1 a,h2.aDx a,aN.refl _ _⟩
theorem gZ.size{K:nP}{base B:Nat}{a b:World}{s:Sto}(h:gZ K base B a b s):base<=b.heap.size:=by
 obtain⟨_,_,_,_,_,_,_,_,_,_,_,h2,_⟩:=h;exact h2.size
theorem gZ.stays{K:nP}{base B:Nat}{a b:World}{s:Sto}(h:gZ K base B a b s):aN (fun b=>(b<base/\b≠B)\/K b) a b:=by
 obtain⟨_,_,_,_,_,_,_,_,_,_,_,_,h3⟩:=h;exact h3
theorem TY{K:nP}{base B:Nat}{w d c:World}{s:Sto}{L:List Mix}{ro:Option Value}{vc vr vn vo vt vu vk vb:Value}{i:Obj}(f:bC K base d s L ro vc vr vn vo vt vu vk vb)(a:d.heap[B]? =some i)(k:B<base)(n:Below w.heap.size w d){v':Value}{l':List xP}(g:d.grownBy c vn.ownBlock)(l:aM vV 3 182 c base (fun _=>False) v' l')(m:v'.ownBlock=vn.ownBlock\/v'.ownBlock=some d.heap.size):
 Hid (c.heap[B]? =some i)/\Hid (bC K base c {s with aCS:=l'} L ro vc vr v' vo vt vu vk vb)/\Hid (aN (fun b=>(b<base/\b≠B)\/K b) w c):=by
 have j:∀b,b<base->some b≠vn.ownBlock:=fun b a e=>qA ((f.aCS.lt b e.symm).1)
 exact⟨(g.block B (aD a) (j B k)).trans a,f.aDS g l (yN m (lR _)),(aJ n).trans ((cV g).mono (fun b _ a=>a.elim (fun h=>j b h.1) (fun h=>(f.kept b h).2.2.2.1)))⟩
theorem QCX{p:Prop}(h:p:=by
 go_enter func293,ntmps293;go_wp2;go_returns;exact ZS (by unfold kB lF;omega)):p:=h
theorem QCg{p:Prop}(h:p:=by
 go_wp2
 all_goals go_returns
 all_goals first|exact Od ⟨by unfold kB;omega,by unfold lF;omega⟩|exact ZS (by unfold kB lF;omega)):p:=h
theorem Sd{p:Prop}(h:p:=by
 go_wp2
 all_goals go_returns
 all_goals (rw[HV.o];exact⟨rfl,rfl⟩)):p:=h
def vL(r:Int×Int)(w:World)(e:Ending)(w':World):Prop:=e=.returned (.tuple #[.int .i64 r.1,.int .i64 r.2])/\w=w'
theorem Od{P:Prop}[Decidable P]{x:Int}(h:P){w:World}:vL (if P then (x,0) else (0,3)) w (.returned (.tuple #[.int .i64 x,.int .i64 0])) w:=by rw[iP h];exact⟨rfl,rfl⟩
theorem ZS{P:Prop}[Decidable P]{x:Int}(h:¬P){w:World}:vL (if P then (x,0) else (0,3)) w (.returned (.tuple #[.int .i64 0,.int .i64 3])) w:=by rw[iN h];exact⟨rfl,rfl⟩
theorem Oe(a b:Int)(ha:bK a)(c:bK b)(w:World):Calls prog 291 #[.int .i64 a,.int .i64 b] w (vL (sO a b) w):=by
 unfold bK at ha c;obtain⟨d,e⟩:=ha;obtain⟨f,g⟩:=c;go_enter func291,ntmps291;exact QCg
theorem Oh(a b:Int)(ha:bK a)(c:bK b)(w:World):Calls prog 292 #[.int .i64 a,.int .i64 b] w (vL (sP a b) w):=by
 unfold bK at ha c;obtain⟨d,e⟩:=ha;obtain⟨f,g⟩:=c;go_enter func292,ntmps292;exact QCg
theorem Oi(n:Int):∃k:Int,IntKind.i64.wrap n=n+k * 18446744073709551616/\-9223372036854775808<=IntKind.i64.wrap n/\IntKind.i64.wrap n<=9223372036854775807:=by
 rw[IntKind.wrap_i64];refine⟨-((n+9223372036854775808) / 18446744073709551616),?_,?_,?_⟩<;>omega
theorem Oj{a b c:Int}(ha:bK a)(e:bK b)(h0:a≠0)(h1:a≠ -1)(f:IntKind.i64.wrap (a * b)=c):(IntKind.i64.wrap (c.tdiv a)=b->(kB<=a * b/\a * b<=lF)/\c=a * b)/\(IntKind.i64.wrap (c.tdiv a)≠b->¬(kB<=a * b/\a * b<=lF)):=by
 unfold bK at ha e;unfold kB lF;obtain⟨k,i,j,l⟩:=Oi (a * b);rw[f] at i j l;have o:=Int.mul_tdiv_add_tmod c a;have s:(c.tmod a).natAbs<a.natAbs:=by
  rw[Int.natAbs_tmod];exact Nat.mod_lt _ (Int.natAbs_pos.2 h0)
 constructor
 .intro d;have q:IntKind.i64.wrap (c.tdiv a)=c.tdiv a:=by
   refine IntWalk.i64_in _ ?_;have h2:(c.tdiv a).natAbs<=c.natAbs:=by rw[Int.natAbs_tdiv];exact Nat.div_le_self _ _
   by_cases g:c.tdiv a=9223372036854775808
   .exfalso;have h3:c= -9223372036854775808:=qo;have h4:(c.tdiv a).natAbs=c.natAbs / a.natAbs:=Int.natAbs_tdiv _ _;rw[g,h3] at h4;have h5:a.natAbs=1:=by
     rcases Nat.lt_or_ge 1 a.natAbs with h|h
     .have:=Nat.div_lt_self (n:=(-9223372036854775808:Int).natAbs) qe h;omega
     .omega
    have h6:a=1:=qo;rw[h6,Int.tdiv_one] at g;omega
   .omega
  rw[q] at d;rw[d] at o;have:c=a * b:=by
   generalize a * b=p at *;generalize c.tmod a=r at *;omega
  exact⟨by rw[<-this];omega,this⟩
 .intro d ⟨h2,h3⟩;have m:c=a * b:=by rw[<-f];exact IntWalk.i64_in _ ⟨h2,h3⟩
  apply d
  rw[m,Int.mul_tdiv_cancel_left _ h0];exact IntWalk.i64_in _ e
theorem Ok(a b:Int)(ha:bK a)(j:bK b)(w:World):Calls prog 293 #[.int .i64 a,.int .i64 b] w (vL (mE a b) w):=by
 have p:=aA ha;have r:=aA j;unfold bK at ha j;obtain⟨v,x⟩:=ha;obtain⟨y,z⟩:=j;by_cases e:a= -1/\b= -9223372036854775808
 .obtain⟨rfl,rfl⟩:=e;exact QCX
 by_cases g:b= -1/\a= -9223372036854775808
 .obtain⟨rfl,rfl⟩:=g;exact QCX
 by_cases h0:a=0
 .subst h0;have HV:Hid (mE 0 b=(0,0)):=aA (by unfold mE;rw[Int.zero_mul,iP qe]);clear e;have f:IntKind.i64.wrap (0 * b)=0:=by rw[Int.zero_mul];exact IntWalk.i64_in _ qo
  have d1:((0:Int)== -9223372036854775808)=false:=rfl;go_enter func293,ntmps293;exact Sd
 by_cases h1:a= -1
 .subst h1;have h2:b≠ -9223372036854775808:=fun h=>e ⟨rfl,h⟩
  have d1:(b== -9223372036854775808)=false:=bN.2 h2;have HV:Hid (mE (-1) b=(-b,0)):=aA (by unfold mE kB lF;rw[show (-1:Int) * b= -b by omega,iP qo]);have f:IntKind.i64.wrap (-1 * b)= -b:=by rw[show (-1:Int) * b= -b by omega];exact IntWalk.i64_in _ qo
  have d2:(wrap64 (- -b) != b)=false:=by rw[Int.neg_neg,<-IntWalk.i64_left,IntWalk.i64_in _ qo];simp
  have d3:(wrap64 b != b)=false:=by rw[<-IntWalk.i64_left,IntWalk.i64_in _ qo];simp
  have d4:((-1:Int)== -9223372036854775808)=false:=rfl;have n:wrap64 (-b)= -b:=by rw[<-IntWalk.i64_left];exact IntWalk.i64_in _ qo
  have d5:wrap64 b=b:=by rw[<-IntWalk.i64_left,IntWalk.i64_in _ qo]
  clear e g h2;by_cases l:b= -1
  .subst l;have C:wrap64 1=1:=by rw[<-IntWalk.i64_left];exact IntWalk.i64_in _ qo
   clear n d5 f d1 d2 d3;go_enter func293,ntmps293;exact Sd
  .have d6:(b== -1)=false:=bN.2 l;have s:=aA n;clear l;go_enter func293,ntmps293;go_wp2
   all_goals go_returns
   all_goals (rw[HV.o];exact⟨by show Ending.returned (.tuple #[.int .i64 (wrap64 (-b)),.int .i64 0])=_;rw[s.o],rfl⟩)
 obtain⟨c,f⟩:∃c,IntKind.i64.wrap (a * b)=c:=⟨_,rfl⟩;obtain⟨q,o⟩:∃q,IntKind.i64.wrap (c.tdiv a)=q:=⟨_,rfl⟩;have i:=aA (Oj p.o r.o h0 h1 f);rw[o] at i;have d0:(a==0)=false:=bN.2 h0;have A:(a != 0)=true:=bne_iff_ne.2 h0;have d1:(a== -1)=false:=bN.2 h1;have t:=aA g;have B:wrap64 (c.tdiv a)=q:=by rw[<-IntWalk.i64_left];exact o
 clear e g v x y z;have m:Hid ((b== -1)=true/\(a== -9223372036854775808)=false\/(b== -1)=false):=aA (by
  by_cases k:b= -1
  .exact .inl ⟨bQ.2 k,bN.2 (fun h=>t.o ⟨k,h⟩)⟩
  .exact .inr (bN.2 k))
 by_cases d:q=b
 .have d3:(q != b)=false:=by rw[d];simp
  have HV:Hid (mE a b=(c,0)):=aA (by
   obtain⟨h2,h3⟩:=i.o.1 d;unfold mE;rw[iP h2,h3])
  clear d
  rcases m.o with ⟨d5,d6⟩|d5
  all_goals
   go_enter func293,ntmps293;exact Sd
 .have d3:(q != b)=true:=bne_iff_ne.2 d;have HV:Hid (mE a b=(0,3)):=aA (by
   have h2:=i.o.2 d;unfold mE;rw[iN h2])
  clear d
  rcases m.o with ⟨d5,d6⟩|d5
  all_goals
   go_enter func293,ntmps293;exact Sd
theorem QCQ{p:Prop}(h:p:=by
 go_wp2;go_roundw
 case rel=>exact⟨j+1,qo,by go_num,HS2,HB2⟩
 case measure=>simp[intOf];omega):p:=h
theorem rW(b:Bool)(w:World):Calls prog 289 #[.bool b] w (aP (dB (cH b)) w):=by
 have a:Hid (∀x,dB (1,x,ByteArray.empty)=.agg #[.int .i64 1,.int .i64 x,.string ByteArray.empty]):=aA (fun x=>rfl);have e:cH b=(1,if b then 1 else 0,ByteArray.empty):=rfl;rw[e,a.o];clear e;have HBE:=aA (fun c d:Obj=>aC (aB w c) (aB _ d));unfold aP
 cases b
 .go_enter func289,ntmps289;exact QDj
 .go_enter func289,ntmps289;exact QDk
theorem sY{ok:nP}(k:Int)(v:Value)(l:List V3)(w:World)(h:aH VR w ok v l):Calls prog 294 #[.int .i64 k,v] w (aP (.bool (l.all (fun x=>decide (x.1=k)))) w):=by
 obtain⟨a,c,rfl,C⟩:=h.slice;have t:=aA h;clear h;unfold aP;obtain⟨p,hp⟩:∃p:V3->Bool,p=(fun x=>decide (x.1=k)):=⟨_,rfl⟩;have s:=aA hp;rw[<-hp];obtain⟨res,n⟩:=xE (l.all p);rw[<-n];have HR0:Hid ((l.drop 0).all p=res):=aA (by rw[List.drop_zero];exact n.symm);clear n hp;go_enter func294,ntmps294;go_wp2;go_loopw [9] (fun i wr=>∃j:Nat,j<=l.length/\i=.int .i64 j/\Hid ((l.drop j).all p=res)/\Hid (Below w.heap.size w wr)) (fun i _=>l.length - (intOf i).toNat)
 case atStart=>exact ZE
 case round=>
  clear HR0;obtain⟨j,hj,rfl,g,HB⟩:=hrel;by_cases q:j<l.length
  .have z:(j:Int)<(l.length:Int):=qo;obtain⟨b,off,r,rfl,_,B,⟨rfl,y⟩,o⟩:=aH.at bG (t.o.on bG HB.o) q qe;obtain⟨A,D,E⟩:=cR3 o;rw[Nat.add_zero] at A;obtain⟨m,f,HB2⟩:=aY (by have h:=g.o;rw[List.drop_eq_getElem_cons q,List.all_cons] at h;exact h:(p l[j]&&(l.drop (j+1)).all p)=res) (show p l[j]=decide (l[j].1=k) by rw[s.o]) (aC HB.o (aB wr (.cells #[.int .i64 l[j].1,.int .i64 l[j].2.1,.string l[j].2.2] 44)));clear o g y;generalize l[j]=x at *;by_cases e:x.1=k
   .have d:(x.1 != k)=false:=by rw[e];simp
    have HS2:Hid ((l.drop (j+1)).all p=res):=aA (by have:=m.o;rwa [f.o,dX e,Bool.true_and] at this);clear e m f;exact QCQ
   .have d:(x.1 != k)=true:=bne_iff_ne.2 e;have HS2:Hid (false=res):=aA (by have:=m.o;rwa [f.o,dF e,Bool.false_and] at this);clear e m f;go_wp2;go_returns;exact⟨by rw[<-HS2.o];rfl,HB2.o⟩
  .have z:¬(j:Int)<(l.length:Int):=qo;obtain rfl:j=l.length:=qo;have HE:Hid (true=res):=aA (by have:=g.o;rwa [List.drop_length] at this);clear g;exact Rq
def RQ(op:Int):Nat:=if op=11 then 1 else 2
theorem nQ{ok:nP}(op:Int)(v:Value)(l:List V3)(w:World)(h:aH VR w ok v l)(h6:6<=op)(h13:op<=13)(d:l.length=RQ op):Calls prog 288 #[.int .i64 op,v] w (aP (.bool (l.all aT)) w):=by
 obtain⟨a,c,rfl,F⟩:=h.slice;have D:=aA h;clear h;unfold aP;obtain⟨res,s⟩:=xE (l.all aT);rw[<-s];have HR0:Hid ((l.drop 0).all aT=res):=aA (by rw[List.drop_zero];exact s.symm);have d1:decide (op<6)=false:=dF qo;have d2:decide (op > 13)=false:=dF qo;obtain⟨n,q⟩:=xE l.length;have t:=aA q;rw[<-q] at d F ⊢;clear s q;have E:Hid ((op==11)=true/\n=1\/(op==11)=false/\n=2):=aA (by
  unfold RQ at d;by_cases m:op=11
  .rw[iP m] at d;exact .inl ⟨bQ.2 m,d⟩
  .rw[iN m] at d;exact .inr ⟨bN.2 m,d⟩)
 clear d h6 h13
 rcases E.o with ⟨d3,rfl⟩|⟨d3,rfl⟩
 all_goals
  go_enter func288,ntmps288;go_wp2;go_loopw [24] (fun i wr=>∃j:Nat,j<=l.length/\i=.int .i64 j/\Hid ((l.drop j).all aT=res)/\Hid (Below w.heap.size w wr)) (fun i _=>l.length - (intOf i).toNat)
  case atStart=>exact ZE
  case round=>
   clear HR0;obtain⟨j,hj,rfl,g,HB⟩:=hrel;by_cases B:j<l.length
   .have f:=t.o;have p:(j:Int)<(l.length:Int):=qo;rw[<-f] at p;obtain⟨b,off,r,rfl,_,I,⟨rfl,A⟩,z⟩:=aH.at bG (D.o.on bG HB.o) B qe;obtain⟨C,G,H⟩:=cR3 z;rw[Nat.add_zero] at C;have o:=aA (by have h:=g.o;rw[List.drop_eq_getElem_cons B,List.all_cons] at h;exact h:(aT l[j]&&(l.drop (j+1)).all aT)=res);have k:=aA (fun w=>nJ l[j].1 l[j].2.1 l[j].2.2 (sU A.2.2) w);unfold lD at k;have e:aT (l[j].1,l[j].2.1,l[j].2.2)=aT l[j]:=rfl;rw[e] at k;clear z g A f e;generalize l[j]=x at *;generalize aT x=r at *;go_wp2_with fail;refine(k.o _).mono ?_;rintro e w2 ⟨rfl,y⟩;have HB2:=aA (aC (aC HB.o (aB _ _)) y);clear y k C G H
    cases r
    .have HS2:Hid (false=res):=o.o;go_wp2;go_returns;exact⟨by rw[<-HS2.o];rfl,HB2.o⟩
    .have HS2:Hid ((l.drop (j+1)).all aT=res):=o.o;clear o;exact QCQ
   .have f:=t.o;have p:¬(j:Int)<(l.length:Int):=qo;rw[<-f] at p;obtain rfl:j=l.length:=qo;have HE:Hid (true=res):=aA (by have:=g.o;rwa [List.drop_length] at this);clear g f;exact Rq
theorem Xt{p:Prop}(h:p:=by
 by_cases h1:x.1=2
 .rw[dF (p:=y.1=2) (fun h2=>hk ⟨h1,h2⟩),Bool.and_false]
 .rw[dF h1,Bool.false_and]):p:=h
theorem ZT{p:Prop}(h:p:=by
 unfold eA;rw[HV2.o];exact⟨rfl,(((fI HB1.o ⟨_,rfl⟩).setCell (lR _) _).setCell (lR _) _).setCell (lR _) _⟩):p:=h
theorem Xu{p:Prop}(h:p:=by
 clear e hk;go_enter func290,ntmps290;go_wp2_with fail;refine HA.o.mono ?_;rintro e w1 ⟨rfl,hb_⟩;have HB1:=qB HB0 hb_;replace B0:=qK B0 hb_;obtain⟨⟨B00,B01,B02⟩,_⟩:=cD B0.o;have zB0:=aD B0.o;clear hb_ HA;go_wp2;refine bR (.tuple #[.agg #[.int .i64 0,.int .i64 0,.string ⟨#[]⟩],.int .i64 2]) ?_;unfold eA;rw[HV.o];exact⟨rfl,((HB1.o.setCell (lR _) _).setCell (lR _) _).setCell (lR _) _⟩):p:=h
def eA(r:V3×Int)(w:World)(e:Ending)(w':World):Prop:=e=.returned (.tuple #[dB r.1,.int .i64 r.2])/\Below w.heap.size w w'
theorem iR{w:World}{ok:nP}{a:oD}{n c:Nat}{x y:V3}(h:aH VR w ok (.slice a n c) [x,y]):∃b off,a=some ⟨b,off,none⟩/\b<w.heap.size/\cS x/\cS y/\n=2:=by
 obtain⟨b,off,r,e,_,h1,⟨_,g1⟩,_⟩:=aH.at bG (k:=0) h qs qe;obtain⟨_,_,i,_,_,_,⟨_,g2⟩,_⟩:=aH.at bG (k:=1) h qs qe;obtain⟨f,g,d,_⟩:=h.slice;injection d with _ d _;exact⟨b,off,e,h1,g1,g2,d⟩
theorem mV{w:World}{ok:nP}{b off n c:Nat}{x y:V3}(h:aH VR w ok (.slice (some ⟨b,off,none⟩) n c) [x,y]):
 w.cell? ⟨b,off,none⟩=some (.int .i64 x.1)/\w.cell? ⟨b,off+1,none⟩=some (.int .i64 x.2.1)/\w.cell? ⟨b,off+2,none⟩=some (.string x.2.2)/\
 w.cell? ⟨b,off+3,none⟩=some (.int .i64 y.1)/\w.cell? ⟨b,off+3+1,none⟩=some (.int .i64 y.2.1)/\w.cell? ⟨b,off+3+2,none⟩=some (.string y.2.2):=by
 obtain⟨b1,v,r,e,_,h1,⟨rfl,g1⟩,s⟩:=aH.at bG (k:=0) h qs qe;obtain⟨b2,z,A,a,_,_,⟨rfl,g2⟩,t⟩:=aH.at bG (k:=1) h qs qe;injection e with e;injection e with m o _;injection a with a;injection a with p q _;subst m o p q;obtain⟨d,f,g⟩:=cR3 s;obtain⟨i,j,l⟩:=cR3 t;simp only[Nat.zero_mul,Nat.one_mul,Nat.add_zero,List.getElem_cons_zero,List.getElem_cons_succ] at d f g i j l;exact⟨d,f,g,i,j,l⟩
theorem KH{w:World}{ok:nP}{a:oD}{n c:Nat}{x:V3}(h:aH VR w ok (.slice a n c) [x]):∃b off,a=some ⟨b,off,none⟩/\b<w.heap.size/\cS x/\n=1:=by
 obtain⟨b,off,r,e,_,h1,⟨_,g1⟩,_⟩:=aH.at bG (k:=0) h qs qe;obtain⟨f,g,d,_⟩:=h.slice;injection d with _ d _;exact⟨b,off,e,h1,g1,d⟩
theorem ET{w:World}{ok:nP}{b off n c:Nat}{x:V3}(h:aH VR w ok (.slice (some ⟨b,off,none⟩) n c) [x]):
 w.cell? ⟨b,off,none⟩=some (.int .i64 x.1)/\w.cell? ⟨b,off+1,none⟩=some (.int .i64 x.2.1)/\w.cell? ⟨b,off+2,none⟩=some (.string x.2.2):=by
 obtain⟨b1,l,r,e,_,h1,⟨rfl,g1⟩,j⟩:=aH.at bG (k:=0) h qs qe;injection e with e;injection e with g i _;subst g i;obtain⟨a,d,f⟩:=cR3 j;simp only[Nat.zero_mul,Nat.add_zero,List.getElem_cons_zero] at a d f;exact⟨a,d,f⟩
theorem IT{f:FuncId}{args:Array Value}{w:World}{n:Nat}{r:Int×Int}(h:Calls prog f args (w.drewN n) (vL r (w.drewN n))):Calls prog f args (w.drewN n) fun e w'=>e=.returned (.tuple #[.int .i64 r.1,.int .i64 r.2])/\∃m,w'=w.drewN m:=QI h
theorem Cp{ok:nP}(v:Value)(x y:V3)(w:World)(h:aH VR w ok v [x,y]):Calls prog 290 #[.func (.func 291) #[] #[],v] w (eA (eF sO x y) w):=by
 have HB0:=aA (aB w (.cells fU 44));have B0:=aA (aK w (.cells fU 44) _ rfl);have HA:=aA (sY 2 v [x,y] _ (h.on bG HB0.o));have k:=aA h;obtain⟨a,c,rfl,_⟩:=h.slice;obtain⟨b,off,rfl,m,g,i,_⟩:=iR h;clear h;unfold aP at HA;have e:[x,y].all (fun z=>decide (z.1=2))=(decide (x.1=2)&&decide (y.1=2)):=by simp
 rw[e] at HA;clear e;by_cases hk:x.1=2/\y.1=2
 case neg=>
  have e:(decide (x.1=2)&&decide (y.1=2))=false:=by
   exact Xt
  rw[e] at HA;have HV:Hid (eF sO x y=(bD,2)):=aA (iP (by
   by_cases h1:x.1=2
   .exact .inr (fun h2=>hk ⟨h1,h2⟩)
   .exact .inl h1))
  exact Xu
 rw[dX hk.1,dX hk.2,Bool.and_true] at HA;have j:=aA (fun w'=>Oe x.2.1 y.2.1 g.2.1 i.2.1 w');have HV:Hid (eF sO x y=if (sO x.2.1 y.2.1).2≠0 then (bD,(sO x.2.1 y.2.1).2) else ((2,(sO x.2.1 y.2.1).1,ByteArray.empty),0)):=aA (iN (fun h=>h.elim (fun h=>h hk.1) (fun h=>h hk.2)));generalize sO x.2.1 y.2.1=r at *;obtain⟨n,f⟩:=r;clear hk g i;go_enter func290,ntmps290;go_wp2_with fail;refine HA.o.mono ?_;rintro e w1 ⟨rfl,hb_⟩;have HB1:=qB HB0 hb_;have l:=aA (k.o.on bG HB1.o);obtain⟨o,q,s,t,A,B⟩:=mV l.o;replace B0:=qK B0 hb_;obtain⟨⟨B00,B01,B02⟩,_⟩:=cD B0.o;have zB0:=aD B0.o;clear hb_ HA;go_wp2;go_quiet ((go_at_call 291;exact IT (j.o _)))
 by_cases he:f=0
 .have d:(f != 0)=false:=by rw[he];rfl
  have HV2:Hid (eF sO x y=((2,n,ByteArray.empty),0)):=aA (by have:=HV.o;rwa [iN (fun h=>h he)] at this);clear he HV;go_wp2;refine bR (.tuple #[.agg #[.int .i64 2,.int .i64 n,.string ⟨#[]⟩],.int .i64 0]) ?_;exact ZT
 .have d:(f != 0)=true:=bne_iff_ne.2 he;have HV2:Hid (eF sO x y=(bD,f)):=aA (by have:=HV.o;rwa [iP he] at this);clear he HV;go_wp2;refine bR (.tuple #[.agg #[.int .i64 0,.int .i64 0,.string ⟨#[]⟩],.int .i64 f]) ?_;exact ZT
theorem Cq{ok:nP}(v:Value)(x y:V3)(w:World)(h:aH VR w ok v [x,y]):Calls prog 290 #[.func (.func 292) #[] #[],v] w (eA (eF sP x y) w):=by
 have HB0:=aA (aB w (.cells fU 44));have B0:=aA (aK w (.cells fU 44) _ rfl);have HA:=aA (sY 2 v [x,y] _ (h.on bG HB0.o));have k:=aA h;obtain⟨a,c,rfl,_⟩:=h.slice;obtain⟨b,off,rfl,m,g,i,_⟩:=iR h;clear h;unfold aP at HA;have e:[x,y].all (fun z=>decide (z.1=2))=(decide (x.1=2)&&decide (y.1=2)):=by simp
 rw[e] at HA;clear e;by_cases hk:x.1=2/\y.1=2
 case neg=>
  have e:(decide (x.1=2)&&decide (y.1=2))=false:=by
   exact Xt
  rw[e] at HA;have HV:Hid (eF sP x y=(bD,2)):=aA (iP (by
   by_cases h1:x.1=2
   .exact .inr (fun h2=>hk ⟨h1,h2⟩)
   .exact .inl h1))
  exact Xu
 rw[dX hk.1,dX hk.2,Bool.and_true] at HA;have j:=aA (fun w'=>Oh x.2.1 y.2.1 g.2.1 i.2.1 w');have HV:Hid (eF sP x y=if (sP x.2.1 y.2.1).2≠0 then (bD,(sP x.2.1 y.2.1).2) else ((2,(sP x.2.1 y.2.1).1,ByteArray.empty),0)):=aA (iN (fun h=>h.elim (fun h=>h hk.1) (fun h=>h hk.2)));generalize sP x.2.1 y.2.1=r at *;obtain⟨n,f⟩:=r;clear hk g i;go_enter func290,ntmps290;go_wp2_with fail;refine HA.o.mono ?_;rintro e w1 ⟨rfl,hb_⟩;have HB1:=qB HB0 hb_;have l:=aA (k.o.on bG HB1.o);obtain⟨o,q,s,t,A,B⟩:=mV l.o;replace B0:=qK B0 hb_;obtain⟨⟨B00,B01,B02⟩,_⟩:=cD B0.o;have zB0:=aD B0.o;clear hb_ HA;go_wp2;go_quiet ((go_at_call 292;exact IT (j.o _)))
 by_cases he:f=0
 .have d:(f != 0)=false:=by rw[he];rfl
  have HV2:Hid (eF sP x y=((2,n,ByteArray.empty),0)):=aA (by have:=HV.o;rwa [iN (fun h=>h he)] at this);clear he HV;go_wp2;refine bR (.tuple #[.agg #[.int .i64 2,.int .i64 n,.string ⟨#[]⟩],.int .i64 0]) ?_;exact ZT
 .have d:(f != 0)=true:=bne_iff_ne.2 he;have HV2:Hid (eF sP x y=(bD,f)):=aA (by have:=HV.o;rwa [iP he] at this);clear he HV;go_wp2;refine bR (.tuple #[.agg #[.int .i64 0,.int .i64 0,.string ⟨#[]⟩],.int .i64 f]) ?_;exact ZT
theorem Cr{ok:nP}(v:Value)(x y:V3)(w:World)(h:aH VR w ok v [x,y]):Calls prog 290 #[.func (.func 293) #[] #[],v] w (eA (eF mE x y) w):=by
 have HB0:=aA (aB w (.cells fU 44));have B0:=aA (aK w (.cells fU 44) _ rfl);have HA:=aA (sY 2 v [x,y] _ (h.on bG HB0.o));have k:=aA h;obtain⟨a,c,rfl,_⟩:=h.slice;obtain⟨b,off,rfl,m,g,i,_⟩:=iR h;clear h;unfold aP at HA;have e:[x,y].all (fun z=>decide (z.1=2))=(decide (x.1=2)&&decide (y.1=2)):=by simp
 rw[e] at HA;clear e;by_cases hk:x.1=2/\y.1=2
 case neg=>
  have e:(decide (x.1=2)&&decide (y.1=2))=false:=by
   exact Xt
  rw[e] at HA;have HV:Hid (eF mE x y=(bD,2)):=aA (iP (by
   by_cases h1:x.1=2
   .exact .inr (fun h2=>hk ⟨h1,h2⟩)
   .exact .inl h1))
  exact Xu
 rw[dX hk.1,dX hk.2,Bool.and_true] at HA;have j:=aA (fun w'=>Ok x.2.1 y.2.1 g.2.1 i.2.1 w');have HV:Hid (eF mE x y=if (mE x.2.1 y.2.1).2≠0 then (bD,(mE x.2.1 y.2.1).2) else ((2,(mE x.2.1 y.2.1).1,ByteArray.empty),0)):=aA (iN (fun h=>h.elim (fun h=>h hk.1) (fun h=>h hk.2)));generalize mE x.2.1 y.2.1=r at *;obtain⟨n,f⟩:=r;clear hk g i;go_enter func290,ntmps290;go_wp2_with fail;refine HA.o.mono ?_;rintro e w1 ⟨rfl,hb_⟩;have HB1:=qB HB0 hb_;have l:=aA (k.o.on bG HB1.o);obtain⟨o,q,s,t,A,B⟩:=mV l.o;replace B0:=qK B0 hb_;obtain⟨⟨B00,B01,B02⟩,_⟩:=cD B0.o;have zB0:=aD B0.o;clear hb_ HA;go_wp2;go_quiet ((go_at_call 293;exact IT (j.o _)))
 by_cases he:f=0
 .have d:(f != 0)=false:=by rw[he];rfl
  have HV2:Hid (eF mE x y=((2,n,ByteArray.empty),0)):=aA (by have:=HV.o;rwa [iN (fun h=>h he)] at this);clear he HV;go_wp2;refine bR (.tuple #[.agg #[.int .i64 2,.int .i64 n,.string ⟨#[]⟩],.int .i64 0]) ?_;exact ZT
 .have d:(f != 0)=true:=bne_iff_ne.2 he;have HV2:Hid (eF mE x y=(bD,f)):=aA (by have:=HV.o;rwa [iP he] at this);clear he HV;go_wp2;refine bR (.tuple #[.agg #[.int .i64 0,.int .i64 0,.string ⟨#[]⟩],.int .i64 f]) ?_;exact ZT
theorem QCl{p:Prop}(h:p:=by
 simp only[Program.fieldsOf,underlying44];go_simp;by_cases h1:x0=y0<;>by_cases h2:x1=y1<;>by_cases h3:x2=y2<;>simp[h1,h2,h3,CV]):p:=h
theorem Xv{p:Prop}(h:p:=by
 have hb1:b<w1.heap.size:=lL hbl HB1.o.size;replace B0:=qK B0 hb_;obtain⟨⟨B00,B01,B02⟩,_⟩:=cD B0.o;have zB0:=aD B0.o;clear hb_ HM;go_wp2_with fail;refine(HK.o _ HB1.o).mono ?_;rintro e w2 ⟨rfl,hb_⟩;have HB2:=qB HB1 hb_
 try clear B00 B01 B02 zB0
 replace B0:=qK B0 hb_;obtain⟨⟨B00,B01,B02⟩,_⟩:=cD B0.o;have zB0:=aD B0.o;clear hb_ HK;go_wp2;refine bR (.tuple #[.agg #[.int .i64 0,.int .i64 0,.string ⟨#[]⟩],.int .i64 2]) ?_;unfold eA;rw[HV.o];exact⟨rfl,(((HB2.o).setCell (lR _) _).setCell (lR _) _).setCell (lR _) _⟩):p:=h
theorem QAu{p:Prop}(h:p:=by
 go_wp2_with fail;refine(HE.o _).mono ?_;rintro e w3 ⟨rfl,hb_⟩;have HB3:=aA (aC (HB2.o) hb_);have B3:=aA (aE (show (w2).heap[w.heap.size]? =_ from B0.o) hb_);obtain⟨⟨u0,u1,u2⟩,_⟩:=cD B3.o;have zu:=aD B3.o;clear hb_ HE;go_wp2;refine bR (.tuple #[.agg #[.int .i64 1,.int .i64 n,.string ByteArray.empty],.int .i64 0]) ?_;unfold eA;rw[HV.o];exact⟨rfl,(((HB3.o).setCell (lR _) _).setCell (lR _) _).setCell (lR _) _⟩):p:=h
theorem QAp{p:Prop}(h:p:=by
 have dp:(x.2.1==1)=p:=hp;have dq:(y.2.1==1)=q:=hq;clear h hr e ek HRR gx gy hk HV0 hp hq HT
 cases p<;>cases q
 all_goals
  subst ht;clear hbl;have hbl:b<w.heap.size:=by obtain⟨b',off',e',h',_⟩:=iR HS.o;injection e' with e';injection e' with e';omega
  go_enter func285,ntmps285;go_wp2_with fail;refine HM.o.mono ?_;rintro e w1 ⟨rfl,hb_⟩;have HB1:=qB HB0 hb_;have HS1:=aA (HS.o.on bG HB1.o);obtain⟨x0,x1,x2,y0,y1,y2⟩:=mV HS1.o;have hb1:b<w1.heap.size:=lL hbl HB1.o.size;replace B0:=qK B0 hb_;obtain⟨⟨B00,B01,B02⟩,_⟩:=cD B0.o;have zB0:=aD B0.o;clear hb_ HM;go_wp2_with fail;refine(HK.o _ HB1.o).mono ?_;rintro e w2 ⟨rfl,hb_⟩;have HB2:=qB HB1 hb_;have HS2:=aA (HS.o.on bG HB2.o);clear x0 x1 x2 y0 y1 y2;obtain⟨x0,x1,x2,y0,y1,y2⟩:=mV HS2.o
  try clear B00 B01 B02 zB0
  replace B0:=qK B0 hb_;obtain⟨⟨B00,B01,B02⟩,_⟩:=cD B0.o;have zB0:=aD B0.o;clear hb_ HK;go_wp2_with fail;refine(HE.o _).mono ?_;rintro e w3 ⟨rfl,hb_⟩;have HB3:=aA (aC (HB2.o) hb_);have B3:=aA (aE (show (w2).heap[w.heap.size]? =_ from B0.o) hb_);obtain⟨⟨u0,u1,u2⟩,_⟩:=cD B3.o;have zu:=aD B3.o;clear hb_ HE;go_wp2;refine bR (.tuple #[.agg #[.int .i64 1,.int .i64 n,.string ByteArray.empty],.int .i64 0]) ?_;unfold eA;rw[HV.o];exact⟨rfl,(((HB3.o).setCell (lR _) _).setCell (lR _) _).setCell (lR _) _⟩):p:=h
theorem Xw{p:Prop}(h:p:=by
 obtain⟨⟨r0,r1,r2⟩,en⟩:=r;simp only at HN;clear h hr e HRR gx gy;go_enter func285,ntmps285;go_wp2_with fail;refine HM.o.mono ?_;rintro e w1 ⟨rfl,hb_⟩;have HB1:=qB HB0 hb_;have HS1:=aA (HS.o.on bG HB1.o);obtain⟨x0,x1,x2,y0,y1,y2⟩:=mV HS1.o;have hb1:b<w1.heap.size:=lL hbl HB1.o.size;replace B0:=qK B0 hb_;obtain⟨⟨B00,B01,B02⟩,_⟩:=cD B0.o;have zB0:=aD B0.o;clear hb_ HM;go_wp2_with fail;refine(HN.o _ HB1.o).mono ?_;rintro e w2 ⟨rfl,hb_⟩;have HB2:=qB HB1 hb_;replace B0:=qK B0 hb_;obtain⟨⟨B00,B01,B02⟩,_⟩:=cD B0.o;have zB0:=aD B0.o;clear hb_ HN;go_wp2;refine bR (.tuple #[.agg #[.int .i64 r0,.int .i64 r1,.string r2],.int .i64 en]) ?_;unfold eA;rw[HV.o];exact⟨rfl,(((HB2.o).setCell (lR _) _).setCell (lR _) _).setCell (lR _) _⟩):p:=h
theorem EU(x y:V3)(w:World):Sem.run prog (binOp .eql 44 (.agg #[.int .i64 x.1,.int .i64 x.2.1,.string x.2.2]) (.agg #[.int .i64 y.1,.int .i64 y.2.1,.string y.2.2])) w=.ok (.bool (decide (x=y))) w:=by
 obtain⟨x0,x1,x2⟩:=x;obtain⟨y0,y1,y2⟩:=y;have u3:=underlying3;have a3:=isAgg3;have z3:=sizeOf3;have u9:=underlying9;have a9:=isAgg9;have z9:=sizeOf9;have a:prog.underlying 44=some (.struct (prog.fieldsOf 44)):=by kernel_rfl
 have hp:prog.stoodInHeld 44=false:=by kernel_rfl
 rw[run_eql_struct,show (10000:Nat)=9999+1 from rfl,run_equalIn_agg w 9999 44 _ _ a hp];exact QCl
theorem FW{ok:nP}(op:Int)(v:Value)(l:List V3)(w:World)(h:aH VR w ok v l)(h6:6<=op)(h13:op<=13)(i:l.length=RQ op)(j:l.all aT=false):Calls prog 285 #[.int .i64 op,v] w (eA (bD,1) w):=by
 have g:=aA (aB w (.cells fU 44));have b:=aA (aK w (.cells fU 44) _ rfl);have d:=aA (nQ op v l _ (h.on bG g.o) h6 h13 i);obtain⟨a,c,rfl,_⟩:=h.slice;unfold aP at d;rw[j] at d;clear h h6 h13 i j;go_enter func285,ntmps285;go_wp2_with fail;refine d.o.mono ?_;rintro e w1 ⟨rfl,f⟩;have k:=qB g f;replace b:=qK b f;obtain⟨⟨m,n,o⟩,_⟩:=cD b.o;have p:=aD b.o;clear f d;go_wp2;refine bR (.tuple #[.agg #[.int .i64 0,.int .i64 0,.string ⟨#[]⟩],.int .i64 1]) ?_;unfold eA;exact⟨rfl,((k.o.setCell (lR _) _).setCell (lR _) _).setCell (lR _) _⟩
theorem Hz{ok:nP}(v:Value)(x y:V3)(w:World)(h:aH VR w ok v [x,y])(l:aT x=true/\aT y=true):Calls prog 285 #[.int .i64 6,v] w (eA (dI 6 x y) w):=by
 have p:=aA (aB w (.cells fU 44));have g:=aA (aK w (.cells fU 44) _ rfl);have j:=aA (nQ 6 v [x,y] _ (h.on bG p.o) qe qe rfl);have B:=aA h;obtain⟨a,c,rfl,_⟩:=h.slice;obtain⟨b,off,rfl,G,E,F,_⟩:=iR h;unfold aP at j;have e:[x,y].all aT=true:=by simp[l.1,l.2]
 rw[e] at j;have o:¬(aT x=false\/aT y=false):=by rw[l.1,l.2];decide
 by_cases k:x.1=y.1
 case neg=>
  have r:Hid (dI 6 x y=(bD,2)):=aA (by unfold dI;rw[iN o,iP rfl,iP k]);have d:(x.1 != y.1)=true:=bne_iff_ne.2 k;clear h l e o E F k;go_enter func285,ntmps285;go_wp2_with fail;refine j.o.mono ?_;rintro e w1 ⟨rfl,f⟩;have i:=qB p f;have q:=aA (B.o.on bG i.o);obtain⟨N,O,P,Q,R,S⟩:=mV q.o;have L:b<w1.heap.size:=lL G i.o.size;replace g:=qK g f;obtain⟨⟨H,I,J⟩,_⟩:=cD g.o;have T:=aD g.o;clear f j;go_wp2;go_quiet (fail)
  go_wp2;refine bR (.tuple #[.agg #[.int .i64 0,.int .i64 0,.string ⟨#[]⟩],.int .i64 2]) ?_;unfold eA;rw[r.o];exact⟨rfl,(((fI i.o ⟨_,rfl⟩).setCell (lR _) _).setCell (lR _) _).setCell (lR _) _⟩
 have M:=EU x y;obtain⟨t,z⟩:∃t:Bool,decide (x=y)=t:=⟨_,rfl⟩;obtain⟨n,s⟩:∃n:Int,(if t=true then (1:Int) else 0)=n:=⟨_,rfl⟩;have m:=aA (fun w'=>rW t w');have D:dB (cH t)=.agg #[.int .i64 1,.int .i64 n,.string ByteArray.empty]:=by unfold dB cH;simp only[s]
 unfold aP at m;rw[D] at m;have C:Hid (cH t=(1,n,ByteArray.empty)):=aA (by unfold cH;rw[s]);clear D s;have r:Hid (dI 6 x y=((1,n,ByteArray.empty),0)):=aA (by unfold dI;rw[iN o,iP rfl,iN (fun h=>h k),z,C.o]);have d:(x.1 != y.1)=false:=by rw[k];simp
 rw[z] at M;clear h l e o E F k z C;go_enter func285,ntmps285;go_wp2_with fail;refine j.o.mono ?_;rintro e w1 ⟨rfl,f⟩;have i:=qB p f;have q:=aA (B.o.on bG i.o);obtain⟨N,O,P,Q,R,S⟩:=mV q.o;have L:b<w1.heap.size:=lL G i.o.size;replace g:=qK g f;obtain⟨⟨H,I,J⟩,_⟩:=cD g.o;have T:=aD g.o;clear f j;go_wp2;go_quiet (fail)
 go_wp2;refine qL 7 (by kernel_rfl) (by kernel_rfl) ?_;simp only[List.take_succ_cons,List.take_zero,List.drop_succ_cons,List.drop_zero]
 repeat still_step
 refine wpStill_nil ?_;go_wp2_with fail;refine(m.o _).mono ?_;rintro e U ⟨rfl,f⟩;have K:=aA (aC ((fI i.o ⟨nq,rfl⟩).drew) f);have A:=aA (aE (show ((w1.drewN nq).drew).heap[w.heap.size]? =_ from g.o) f);obtain⟨⟨u0,u1,u2⟩,_⟩:=cD A.o;have V:=aD A.o;clear f m;go_wp2;refine bR (.tuple #[.agg #[.int .i64 1,.int .i64 n,.string ByteArray.empty],.int .i64 0]) ?_;unfold eA;rw[r.o];exact⟨rfl,(((K.o).setCell (lR _) _).setCell (lR _) _).setCell (lR _) _⟩
theorem Ia{ok:nP}(v:Value)(x y:V3)(w:World)(h:aH VR w ok v [x,y])(j:aT x=true/\aT y=true):Calls prog 285 #[.int .i64 7,v] w (eA (dI 7 x y) w):=by
 have A:=aA (aB w (.cells fU 44));have B0:=aA (aK w (.cells fU 44) _ rfl);have l:=aA (nQ 7 v [x,y] _ (h.on bG A.o) qe qe rfl);have O:=aA h;obtain⟨a,c,rfl,_⟩:=h.slice;obtain⟨b,off,rfl,Q,F,G,_⟩:=iR h;unfold aP at l;have e:[x,y].all aT=true:=by simp[j.1,j.2]
 rw[e] at l;have B:¬(aT x=false\/aT y=false):=by rw[j.1,j.2];decide
 have k:=aA (fun w'=>CP x y F G w');have f:Hid (dI 7 x y=if (jT x y).2≠0 then (bD,(jT x y).2) else (cH (jT x y).1,0)):=aA (by unfold dI;rw[iN B,iN qe,iP rfl]);unfold sV dB at k;generalize jT x y=r at *;obtain⟨t0,i⟩:=r;simp only at k f;obtain⟨t,R⟩:∃t:Bool,t0=t:=⟨_,rfl⟩;obtain⟨n,o⟩:∃n:Int,(if t=true then (1:Int) else 0)=n:=⟨_,rfl⟩;have HE:=aA (fun w'=>rW t w');have E:dB (cH t)=.agg #[.int .i64 1,.int .i64 n,.string ByteArray.empty]:=by unfold dB cH;simp only[o]
 unfold aP at HE;rw[E] at HE;have D:Hid (cH t=(1,n,ByteArray.empty)):=aA (by unfold cH;rw[o]);clear E o;subst R;rw[D.o] at f;clear h j e B F G D;go_enter func285,ntmps285;go_wp2_with fail;refine l.o.mono ?_;rintro e w1 ⟨rfl,hb_⟩;have m:=qB A hb_;have P:=aA (O.o.on bG m.o);obtain⟨H,I,J,K,L,M⟩:=mV P.o;have g:b<w1.heap.size:=lL Q m.o.size;replace B0:=qK B0 hb_;obtain⟨⟨q,s,z⟩,_⟩:=cD B0.o;have N:=aD B0.o;clear hb_ l;go_wp2;have T:∀p:In (AZ w1),p.w.cell? ⟨b,off,none⟩=some (.int .i64 x.1):=fun p=>(p.h.cell (p:=⟨b,off,none⟩) g).trans H
 have U:∀p:In (AZ w1),p.w.cell? ⟨b,off+1,none⟩=some (.int .i64 x.2.1):=fun p=>(p.h.cell (p:=⟨b,off+1,none⟩) g).trans I
 have V:∀p:In (AZ w1),p.w.cell? ⟨b,off+2,none⟩=some (.string x.2.2):=fun p=>(p.h.cell (p:=⟨b,off+2,none⟩) g).trans J
 have W:∀p:In (AZ w1),p.w.cell? ⟨b,off+3,none⟩=some (.int .i64 y.1):=fun p=>(p.h.cell (p:=⟨b,off+3,none⟩) g).trans K
 have X:∀p:In (AZ w1),p.w.cell? ⟨b,off+3+1,none⟩=some (.int .i64 y.2.1):=fun p=>(p.h.cell (p:=⟨b,off+3+1,none⟩) g).trans L
 have Y:∀p:In (AZ w1),p.w.cell? ⟨b,off+3+2,none⟩=some (.string y.2.2):=fun p=>(p.h.cell (p:=⟨b,off+3+2,none⟩) g).trans M
 clear H I J K L M;refine BV (C:=AZ w1) (by kernel_rfl) (by kernel_rfl) (SC w1) ?_
 repeat (go_big_quiet_step (exact in_call fun _ S=>(k.o _).mono fun e Z h=>⟨h.1,aC S h.2⟩))
 refine wpQuiet_nil ?_;intro w2 hb_;have HB2:=qB m hb_;clear T U V W X Y
 try clear q s z N
 replace B0:=qK B0 hb_;obtain⟨⟨q,s,z⟩,_⟩:=cD B0.o;have N:=aD B0.o;clear hb_ k;by_cases he:i=0
 .have d:(i != 0)=false:=by rw[he];rfl
  have HV:Hid (dI 7 x y=((1,n,ByteArray.empty),0)):=aA (by have:=f.o;rwa [iN (fun h=>h he)] at this);clear he f;exact QAu
 .have d:(i != 0)=true:=bne_iff_ne.2 he;have HV:Hid (dI 7 x y=(bD,i)):=aA (by have:=f.o;rwa [iP he] at this);clear he f HE;go_wp2;refine bR (.tuple #[.agg #[.int .i64 0,.int .i64 0,.string ⟨#[]⟩],.int .i64 i]) ?_;unfold eA;rw[HV.o];exact⟨rfl,(((HB2.o).setCell (lR _) _).setCell (lR _) _).setCell (lR _) _⟩
theorem Ib{ok:nP}(v:Value)(x y:V3)(w:World)(h:aH VR w ok v [x,y])(hr:aT x=true/\aT y=true):Calls prog 285 #[.int .i64 8,v] w (eA (dI 8 x y) w):=by
 have HB0:=aA (aB w (.cells fU 44));have B0:=aA (aK w (.cells fU 44) _ rfl);have HM:=aA (nQ 8 v [x,y] _ (h.on bG HB0.o) qe qe rfl);have HS:=aA h;obtain⟨a,c,rfl,_⟩:=h.slice;obtain⟨b,off,rfl,hbl,gx,gy,_⟩:=iR h;unfold aP at HM;have e:[x,y].all aT=true:=by simp[hr.1,hr.2]
 rw[e] at HM;have HRR:¬(aT x=false\/aT y=false):=by rw[hr.1,hr.2];decide
 have HN:=aA (fun w' (h:Below w.heap.size w w')=>Cp _ x y w' (HS.o.on bG h));have HV:Hid (dI 8 x y=eF sO x y):=aA (by unfold dI;rw[iN HRR,iN qe,iN qe,iP rfl]);unfold eA dB at HN;generalize eF sO x y=r at *;exact Xw
theorem Ic{ok:nP}(v:Value)(x y:V3)(w:World)(h:aH VR w ok v [x,y])(hr:aT x=true/\aT y=true):Calls prog 285 #[.int .i64 9,v] w (eA (dI 9 x y) w):=by
 have HB0:=aA (aB w (.cells fU 44));have B0:=aA (aK w (.cells fU 44) _ rfl);have HM:=aA (nQ 9 v [x,y] _ (h.on bG HB0.o) qe qe rfl);have HS:=aA h;obtain⟨a,c,rfl,_⟩:=h.slice;obtain⟨b,off,rfl,hbl,gx,gy,_⟩:=iR h;unfold aP at HM;have e:[x,y].all aT=true:=by simp[hr.1,hr.2]
 rw[e] at HM;have HRR:¬(aT x=false\/aT y=false):=by rw[hr.1,hr.2];decide
 have HN:=aA (fun w' (h:Below w.heap.size w w')=>Cq _ x y w' (HS.o.on bG h));have HV:Hid (dI 9 x y=eF sP x y):=aA (by unfold dI;rw[iN HRR,iN qe,iN qe,iN qe,iP rfl]);unfold eA dB at HN;generalize eF sP x y=r at *;exact Xw
theorem Cs{ok:nP}(v:Value)(x y:V3)(w:World)(h:aH VR w ok v [x,y])(hr:aT x=true/\aT y=true):Calls prog 285 #[.int .i64 10,v] w (eA (dI 10 x y) w):=by
 have HB0:=aA (aB w (.cells fU 44));have B0:=aA (aK w (.cells fU 44) _ rfl);have HM:=aA (nQ 10 v [x,y] _ (h.on bG HB0.o) qe qe rfl);have HS:=aA h;obtain⟨a,c,rfl,_⟩:=h.slice;obtain⟨b,off,rfl,hbl,gx,gy,_⟩:=iR h;unfold aP at HM;have e:[x,y].all aT=true:=by simp[hr.1,hr.2]
 rw[e] at HM;have HRR:¬(aT x=false\/aT y=false):=by rw[hr.1,hr.2];decide
 have HN:=aA (fun w' (h:Below w.heap.size w w')=>Cr _ x y w' (HS.o.on bG h));have HV:Hid (dI 10 x y=eF mE x y):=aA (by unfold dI;rw[iN HRR,iN qe,iN qe,iN qe,iN qe,iP rfl]);unfold eA dB at HN;generalize eF mE x y=r at *;exact Xw
theorem Ct{ok:nP}(v:Value)(x y:V3)(w:World)(h:aH VR w ok v [x,y])(hr:aT x=true/\aT y=true):Calls prog 285 #[.int .i64 12,v] w (eA (dI 12 x y) w):=by
 have HB0:=aA (aB w (.cells fU 44));have B0:=aA (aK w (.cells fU 44) _ rfl);have HM:=aA (nQ 12 v [x,y] _ (h.on bG HB0.o) qe qe rfl);have HS:=aA h;obtain⟨a,c,rfl,_⟩:=h.slice;obtain⟨b,off,rfl,hbl,gx,gy,_⟩:=iR h;unfold aP at HM;have e:[x,y].all aT=true:=by simp[hr.1,hr.2]
 rw[e] at HM;have HRR:¬(aT x=false\/aT y=false):=by rw[hr.1,hr.2];decide
 have HK:=aA (fun w' (h:Below w.heap.size w w')=>sY 1 _ [x,y] w' (HS.o.on bG h));unfold aP at HK;have HV0:Hid (dI 12 x y=if x.1≠1\/y.1≠1 then (bD,2) else (cH (decide (x.2.1=1)&&decide (y.2.1=1)),0)):=aA (by unfold dI;rw[iN HRR,iN qe,iN qe,iN qe,iN qe,iN qe];rfl);by_cases hk:x.1=1/\y.1=1
 case neg=>
  have ek:[x,y].all (fun z=>decide (z.1=1))=false:=by
   rw[Bool.eq_false_iff];intro h;simp at h;exact hk h
  have HV:Hid (dI 12 x y=(bD,2)):=aA (by have:=HV0.o;rwa [iP (by by_cases h1:x.1=1;exact .inr (fun h2=>hk ⟨h1,h2⟩);exact .inl h1)] at this);rw[ek] at HK;clear h hr e ek HRR gx gy hk HV0;go_enter func285,ntmps285;go_wp2_with fail;refine HM.o.mono ?_;rintro e w1 ⟨rfl,hb_⟩;have HB1:=qB HB0 hb_;have HS1:=aA (HS.o.on bG HB1.o);obtain⟨x0,x1,x2,y0,y1,y2⟩:=mV HS1.o;exact Xv
 have ek:[x,y].all (fun z=>decide (z.1=1))=true:=by simp[hk.1,hk.2]
 rw[ek] at HK;obtain⟨p,hp⟩:∃p,decide (x.2.1=1)=p:=⟨_,rfl⟩;obtain⟨q,hq⟩:∃q,decide (y.2.1=1)=q:=⟨_,rfl⟩;obtain⟨t,ht⟩:∃t:Bool,(p&&q)=t:=⟨_,rfl⟩;obtain⟨n,d⟩:∃n:Int,(if t=true then (1:Int) else 0)=n:=⟨_,rfl⟩;have HE:=aA (fun w'=>rW t w');have f:dB (cH t)=.agg #[.int .i64 1,.int .i64 n,.string ByteArray.empty]:=by unfold dB cH;simp only[d]
 unfold aP at HE;rw[f] at HE;have HT:Hid (cH t=(1,n,ByteArray.empty)):=aA (by unfold cH;rw[d]);clear f d;have HV:Hid (dI 12 x y=((1,n,ByteArray.empty),0)):=aA (by have:=HV0.o;rwa [iN (fun h=>h.elim (fun h=>h hk.1) (fun h=>h hk.2)),hp,hq,ht,HT.o] at this);exact QAp
theorem Cu{ok:nP}(v:Value)(x y:V3)(w:World)(h:aH VR w ok v [x,y])(hr:aT x=true/\aT y=true):Calls prog 285 #[.int .i64 13,v] w (eA (dI 13 x y) w):=by
 have HB0:=aA (aB w (.cells fU 44));have B0:=aA (aK w (.cells fU 44) _ rfl);have HM:=aA (nQ 13 v [x,y] _ (h.on bG HB0.o) qe qe rfl);have HS:=aA h;obtain⟨a,c,rfl,_⟩:=h.slice;obtain⟨b,off,rfl,hbl,gx,gy,_⟩:=iR h;unfold aP at HM;have e:[x,y].all aT=true:=by simp[hr.1,hr.2]
 rw[e] at HM;have HRR:¬(aT x=false\/aT y=false):=by rw[hr.1,hr.2];decide
 have HK:=aA (fun w' (h:Below w.heap.size w w')=>sY 1 _ [x,y] w' (HS.o.on bG h));unfold aP at HK;have HV0:Hid (dI 13 x y=if x.1≠1\/y.1≠1 then (bD,2) else (cH (decide (x.2.1=1)||decide (y.2.1=1)),0)):=aA (by unfold dI;rw[iN HRR,iN qe,iN qe,iN qe,iN qe,iN qe];rfl);by_cases hk:x.1=1/\y.1=1
 case neg=>
  have ek:[x,y].all (fun z=>decide (z.1=1))=false:=by
   rw[Bool.eq_false_iff];intro h;simp at h;exact hk h
  have HV:Hid (dI 13 x y=(bD,2)):=aA (by have:=HV0.o;rwa [iP (by by_cases h1:x.1=1;exact .inr (fun h2=>hk ⟨h1,h2⟩);exact .inl h1)] at this);rw[ek] at HK;clear h hr e ek HRR gx gy hk HV0;go_enter func285,ntmps285;go_wp2_with fail;refine HM.o.mono ?_;rintro e w1 ⟨rfl,hb_⟩;have HB1:=qB HB0 hb_;have HS1:=aA (HS.o.on bG HB1.o);obtain⟨x0,x1,x2,y0,y1,y2⟩:=mV HS1.o;exact Xv
 have ek:[x,y].all (fun z=>decide (z.1=1))=true:=by simp[hk.1,hk.2]
 rw[ek] at HK;obtain⟨p,hp⟩:∃p,decide (x.2.1=1)=p:=⟨_,rfl⟩;obtain⟨q,hq⟩:∃q,decide (y.2.1=1)=q:=⟨_,rfl⟩;obtain⟨t,ht⟩:∃t:Bool,(p||q)=t:=⟨_,rfl⟩;obtain⟨n,d⟩:∃n:Int,(if t=true then (1:Int) else 0)=n:=⟨_,rfl⟩;have HE:=aA (fun w'=>rW t w');have f:dB (cH t)=.agg #[.int .i64 1,.int .i64 n,.string ByteArray.empty]:=by unfold dB cH;simp only[d]
 unfold aP at HE;rw[f] at HE;have HT:Hid (cH t=(1,n,ByteArray.empty)):=aA (by unfold cH;rw[d]);clear f d;have HV:Hid (dI 13 x y=((1,n,ByteArray.empty),0)):=aA (by have:=HV0.o;rwa [iN (fun h=>h.elim (fun h=>h hk.1) (fun h=>h hk.2)),hp,hq,ht,HT.o] at this);exact QAp
theorem Cv{ok:nP}(v:Value)(x:V3)(w:World)(h:aH VR w ok v [x])(i:aT x=true):Calls prog 285 #[.int .i64 11,v] w (eA (nT 11 x) w):=by
 have j:=aA (aB w (.cells fU 44));have B0:=aA (aK w (.cells fU 44) _ rfl);have HM:=aA (nQ 11 v [x] _ (h.on bG j.o) qe qe rfl);have f:=aA h;obtain⟨a,c,rfl,_⟩:=h.slice;obtain⟨b,off,rfl,hbl,A,_⟩:=KH h;unfold aP at HM;have e:[x].all aT=true:=by simp[i]
 rw[e] at HM;have g:Hid (nT 11 x=if x.1≠1 then (bD,2) else (cH (decide (x.2.1=0)),0)):=aA (iN (by rw[i];decide));have HK:=aA (fun w' (h:Below w.heap.size w w')=>sY 1 _ [x] w' (f.o.on bG h));unfold aP at HK;have l:[x].all (fun z=>decide (z.1=1))=decide (x.1=1):=by simp
 rw[l] at HK;by_cases d:x.1=1
 case neg=>
  have HV:Hid (nT 11 x=(bD,2)):=aA (by have:=g.o;rwa [iP d] at this);rw[dF d] at HK;clear h i e l A d g;go_enter func285,ntmps285;go_wp2_with fail;refine HM.o.mono ?_;rintro e w1 ⟨rfl,hb_⟩;have HB1:=qB j hb_;have k:=aA (f.o.on bG HB1.o);obtain⟨p,q,r⟩:=ET k.o;exact Xv
 rw[dX d] at HK;obtain⟨t,o⟩:∃t:Bool,decide (x.2.1=0)=t:=⟨_,rfl⟩;obtain⟨n,m⟩:∃n:Int,(if t=true then (1:Int) else 0)=n:=⟨_,rfl⟩;have HE:=aA (fun w'=>rW t w');have y:dB (cH t)=.agg #[.int .i64 1,.int .i64 n,.string ByteArray.empty]:=by unfold dB cH;simp only[m]
 unfold aP at HE;rw[y] at HE;have s:Hid (cH t=(1,n,ByteArray.empty)):=aA (by unfold cH;rw[m]);clear y m;have HV:Hid (nT 11 x=((1,n,ByteArray.empty),0)):=aA (by have:=g.o;rwa [iN (fun h=>h d),o,s.o] at this);have C:(x.2.1==0)=t:=o;clear h i e l A d g o s;go_enter func285,ntmps285;go_wp2_with fail;refine HM.o.mono ?_;rintro e w1 ⟨rfl,hb_⟩;have HB1:=qB j hb_;have k:=aA (f.o.on bG HB1.o);obtain⟨p,q,r⟩:=ET k.o;have hb1:b<w1.heap.size:=lL hbl HB1.o.size;replace B0:=qK B0 hb_;obtain⟨⟨B00,B01,B02⟩,_⟩:=cD B0.o;have zB0:=aD B0.o;clear hb_ HM;go_wp2_with fail;refine(HK.o _ HB1.o).mono ?_;rintro e w2 ⟨rfl,hb_⟩;have HB2:=qB HB1 hb_;have B:=aA (f.o.on bG HB2.o);clear p q r;obtain⟨p,q,r⟩:=ET B.o
 try clear B00 B01 B02 zB0
 replace B0:=qK B0 hb_;obtain⟨⟨B00,B01,B02⟩,_⟩:=cD B0.o;have zB0:=aD B0.o;clear hb_ HK;exact QAu
end Go.Proofs.YtgoanbpcdhmfkaaGreatDoor

/- Lemmas. -/
import Derived.Test.YtbinmcabjnoliaaGreatDoorMbn
import Derived.Test.YtbinmcabjnoliaaGreatDoorMbo
namespace Go.Proofs.YtbinmcabjnoliaaGreatDoor
open Go.RowKit
set_option linter.unusedVariables false
set_option linter.unusedSimpArgs false
set_option maxHeartbeats 16000000
open _root_.Go.Proofs.Tryz
set_option maxRecDepth 20000
section
open Pv
structure Et (w:World) (E J D base:Nat) (M K:Nat->Prop) (Q m n:Nat) (s:Sto) (vc vr vn vo vt vu vk vb:Value) (la:Option Addr) (lc:Nat) (lu:List Unit) (h:BitVec 64) (ra:Option Addr) (rc:Nat) (ru:List Unit) (da:Option Addr) (dc:Nat) (bs:List UInt8) (sy:Int):Prop where
 eng:w.heap[E]? =some (oZ J s vc vr vn vo vt vu vk vb (.slice la lu.length lc) h)
 jou:w.heap[J]? =some (DJ D (.slice ra ru.length rc))
 dsk:w.heap[D]? =some (oV Q da bs.length dc sy)
 sto:eZ w K s vc vr vn vo vt vu vk vb
 log:aM (wG 16) 16 92 w base (fun _=>False) (.slice la lu.length lc) lu
 aDL:aM (wG 1) 1 83 w base (fun _=>False) (.slice ra ru.length rc) ru
 byt:gY w K da (bF bs)
 len:bs.length=m
 lts:E<base/\J<base/\D<base/\base<=w.heap.size
 nes:E≠J/\E≠D/\J≠D
 mem:M E/\M J/\M D
 aDE:∀b,(Value.slice la lu.length lc).ownBlock=some b->M b
 aDD:∀b,(Value.slice ra ru.length rc).ownBlock=some b->M b
 kept:∀b,K b->¬M b/\b<w.heap.size
 low:∀b,M b->b<w.heap.size
 rows:lu.length<=n/\ru.length<=n
def sG(w:World)(E D:Nat)(M K:nP)(Q m n:Nat)(s:Sto):Prop:=∃(J base:Nat) (vc vr vn vo vt vu vk vb:Value) (la:oD) (lc:Nat) (lu:List Unit) (h:BitVec 64) (ra:oD) (rc:Nat) (ru:List Unit) (da:oD) (dc:Nat) (bs:lU) (sy:Int),Et w E J D base M K Q m n s vc vr vn vo vt vu vk vb la lc lu h ra rc ru da dc bs sy
theorem Et.stays{w w':World}{E J D base:Nat}{M K:nP}{Q m n:Nat}{s:Sto}{vc vr vn vo vt vu vk vb:Value}{la:oD}{lc:Nat}{lu:List Unit}{h:BitVec 64}{ra:oD}{rc:Nat}{ru:List Unit}{da:oD}{dc:Nat}{bs:lU}{sy:Int}(H:Et w E J D base M K Q m n s vc vr vn vo vt vu vk vb la lc lu h ra rc ru da dc bs sy){q:nP}(c:aN q w w')(d:∀b,M b\/K b->q b):Et w' E J D base M K Q m n s vc vr vn vo vt vu vk vb la lc lu h ra rc ru da dc bs sy:={
 eng:=aF H.eng c (d _ (.inl H.mem.1))
 jou:=aF H.jou c (d _ (.inl H.mem.2.1))
 dsk:=aF H.dsk c (d _ (.inl H.mem.2.2))
 sto:=H.sto.aC0 (c.mono fun b _ a=>d b (.inr a))
 log:=H.log.stays (kH 16) c (fun b a=>d b (.inl (H.aDE b a))) (fun _ h _=>h.elim)
 aDL:=H.aDL.stays (kH 1) c (fun b a=>d b (.inl (H.aDD b a))) (fun _ h _=>h.elim)
 byt:=H.byt.aC0 (c.mono fun b _ a=>d b (.inr a))
 len:=H.len
 lts:=⟨H.lts.1,H.lts.2.1,H.lts.2.2.1,lT H.lts.2.2.2 c.size⟩
 nes:=H.nes
 mem:=H.mem
 aDE:=H.aDE
 aDD:=H.aDD
 kept:=fun b a=>⟨(H.kept b a).1,lL (H.kept b a).2 c.size⟩
 low:=fun b a=>lL (H.low b a) c.size
 rows:=H.rows}
theorem sG.stays{w w':World}{E D:Nat}{M K:nP}{Q m n:Nat}{s:Sto}(H:sG w E D M K Q m n s){q:nP}(c:aN q w w')(a:∀b,M b\/K b->q b):sG w' E D M K Q m n s:=by
 obtain⟨J,base,vc,vr,vn,vo,vt,vu,vk,vb,la,lc,lu,h,ra,rc,ru,da,dc,bs,sy,h0⟩:=H;exact⟨J,base,vc,vr,vn,vo,vt,vu,vk,vb,la,lc,lu,h,ra,rc,ru,da,dc,bs,sy,h0.stays c a⟩
theorem sG.on{w w':World}{E D:Nat}{M K:nP}{Q m n:Nat}{s:Sto}(H:sG w E D M K Q m n s)(a:Below w.heap.size w w'):sG w' E D M K Q m n s:=H.stays (aJ (ok:=fun _=>True) a) (fun _ _=>trivial)
def WH(E D:Nat)(M K:nP)(Q m n:Nat)(s:Sto)(o:Op)(w:World)(e:Ending)(w':World):Prop:=
 e=.returned (.agg (eV (cY s o).2.1))/\∃(c K':nP) (a:Nat),sG w' E D c K' Q a (n+1) (cY s o).1/\(∀b,c b->M b\/w.heap.size<=b)/\(∀b,K' b->K b\/w.heap.size<=b)/\aN (fun b=>¬M b) w w'/\m<=a/\a<=m+400+o.text.size/\((cY s o).2.2.2≠0->a=m)
abbrev DZ:Obj:= .cells #[.int .i64 0,.slice none 0 0,.slice none 0 0,.slice none 0 0,.slice none 0 0,.string ⟨#[]⟩,.bool false,.int .i64 0,.slice none 0 0,.slice none 0 0,.slice none 0 0,.slice none 0 0,.int .i64 0] 40
abbrev NI:Obj:= .cells #[.int .i64 0,.complex .f64 0 0,.bool false,.int .i64 0,.int .i64 0,.string ⟨#[]⟩,.bool false,.int .i64 0] 78
abbrev NJ:Obj:= .cells #[.int .i64 0,.string ⟨#[]⟩,.string ⟨#[]⟩,.string ⟨#[]⟩,.string ⟨#[]⟩,.int .i64 0,.int .i64 0,.string ⟨#[]⟩,.int .i64 0,.string ⟨#[]⟩,.string ⟨#[]⟩,.bool false,.int .i64 0,.complex .f64 0 0,.bool false,.slice none 0 0] 92
structure wP (K:Nat->Prop) (W0 w':World) (G:Sto×Rpl×Option Deci×Int) (vs vd:Option Value) (p5 p6 p7:Option Nat):Prop where
 below:Below W0.heap.size W0 w'
 b5:∀g,p5=some g->W0.heap.size<=g/\w'.heap[g]? =some DZ
 b6:∀g,p6=some g->W0.heap.size<=g/\w'.heap[g]? =some NI
 b7:∀g,p7=some g->W0.heap.size<=g/\w'.heap[g]? =some NJ
 res:∀v,vs=some v->∃vc vr vn vo vt vu vk vb,v=.agg (aV G.1 vc vr vn vo vt vu vk vb)/\eZ w' (fun b=>(K b\/W0.heap.size<=b)/\b<w'.heap.size/\some b≠p5/\some b≠p6/\some b≠p7) G.1 vc vr vn vo vt vu vk vb
 dec:∀v,vd=some v->(match G.2.2.1 with |none=>v=.agg oY|some d=>∃a n c,v=.agg (mT d (.slice a n c)))
section
variable {K:nP} {W0 w' w2:World} {G:Sto×Rpl×Option Deci×Int} {vs vd:Option Value} {p5 p6 p7:Option Nat}
theorem wP.on5(H:wP K W0 w' G vs vd none p6 p7):wP K W0 (w'.alloc DZ) G vs vd (some w'.heap.size) p6 p7:={
 below:=aC H.below (aB _ _)
 b5:=fun g a=>by injection a with a;subst a;exact⟨H.below.size,aK _ _ _ rfl⟩
 b6:=fun g a=>⟨(H.b6 g a).1,aE (H.b6 g a).2 (aB _ _)⟩
 b7:=fun g a=>⟨(H.b7 g a).1,aE (H.b7 g a).2 (aB _ _)⟩
 res:=fun v d=>by
  obtain⟨vc,vr,vn,vo,vt,vu,vk,vb,e,h⟩:=H.res v d;refine⟨vc,vr,vn,vo,vt,vu,vk,vb,e,(h.on (aB _ _)).more fun b c=>⟨c.1,?_,fun e=> ?_,c.2.2.2.1,c.2.2.2.2⟩⟩
  .have:=c.2.1;simp;omega
  .injection e with e;have:=c.2.1;omega
 dec:=H.dec}
theorem wP.on6(H:wP K W0 w' G vs vd p5 none p7):wP K W0 (w'.alloc NI) G vs vd p5 (some w'.heap.size) p7:={
 below:=aC H.below (aB _ _)
 b5:=fun g a=>⟨(H.b5 g a).1,aE (H.b5 g a).2 (aB _ _)⟩
 b6:=fun g a=>by injection a with a;subst a;exact⟨H.below.size,aK _ _ _ rfl⟩
 b7:=fun g a=>⟨(H.b7 g a).1,aE (H.b7 g a).2 (aB _ _)⟩
 res:=fun v d=>by
  obtain⟨vc,vr,vn,vo,vt,vu,vk,vb,e,h⟩:=H.res v d;refine⟨vc,vr,vn,vo,vt,vu,vk,vb,e,(h.on (aB _ _)).more fun b c=>⟨c.1,?_,c.2.2.1,fun e=> ?_,c.2.2.2.2⟩⟩
  .have:=c.2.1;simp;omega
  .injection e with e;have:=c.2.1;omega
 dec:=H.dec}
theorem wP.on7(H:wP K W0 w' G vs vd p5 p6 none):wP K W0 (w'.alloc NJ) G vs vd p5 p6 (some w'.heap.size):={
 below:=aC H.below (aB _ _)
 b5:=fun g a=>⟨(H.b5 g a).1,aE (H.b5 g a).2 (aB _ _)⟩
 b6:=fun g a=>⟨(H.b6 g a).1,aE (H.b6 g a).2 (aB _ _)⟩
 b7:=fun g a=>by injection a with a;subst a;exact⟨H.below.size,aK _ _ _ rfl⟩
 res:=fun v d=>by
  obtain⟨vc,vr,vn,vo,vt,vu,vk,vb,e,h⟩:=H.res v d;refine⟨vc,vr,vn,vo,vt,vu,vk,vb,e,(h.on (aB _ _)).more fun b c=>⟨c.1,?_,c.2.2.1,c.2.2.2.1,fun e=> ?_⟩⟩
  .have:=c.2.1;simp;omega
  .injection e with e;have:=c.2.1;omega
 dec:=H.dec}
theorem wP.call(H:wP K W0 w' G none none p5 p6 p7)(m:∀b,K b->b<W0.heap.size){e:Ending}(h:FC K G w' e w2):∃v d,e=.returned (.tuple #[v,.agg (eV G.2.1),d,.int .i64 G.2.2.2])/\wP K W0 w2 G (some v) (some d) p5 p6 p7:=by
 obtain⟨vc,vr,vn,vo,vt,vu,vk,vb,d,rfl,n,k,j⟩:=h;refine⟨_,d,rfl,⟨aC H.below j,fun g f=>⟨(H.b5 g f).1,aE (H.b5 g f).2 j⟩,fun g f=>⟨(H.b6 g f).1,aE (H.b6 g f).2 j⟩,fun g f=>⟨(H.b7 g f).1,aE (H.b7 g f).2 j⟩,fun v i=> ?_,fun v i=> ?_⟩⟩
 .injection i with i;refine⟨vc,vr,vn,vo,vt,vu,vk,vb,i.symm,n.inb.more fun b l=> ?_⟩;have f:∀{p:Option Nat} {O:Obj},(∀g,p=some g->W0.heap.size<=g/\w'.heap[g]? =some O)->some b≠p:=fun hp e=>by
   have h1:=hp b e.symm
   rcases l.1 with h2|h2
   .have:=m b h2.1;omega
   .have:=aD h1.2;omega
  exact⟨l.1.imp (fun h=>h.1) (fun h=>lT H.below.size h),l.2,f H.b5,f H.b6,f H.b7⟩
 .injection i with i;subst i;split
  .rename_i h0;rw[h0] at k;exact k
  .rename_i q h0;rw[h0] at k;obtain⟨r,e,o⟩:=k;obtain⟨a,c,rfl,_⟩:=o.slice;exact⟨a,_,c,e⟩
end
def DoI(E z:Nat)(K:nP)(W0:World)(G:Sto×Rpl×Option Deci×Int)(a:Act)(w':World):Prop:=
 ∃(g5 g6 g7:Nat) (v d:Value) (u:Nat->Value),a={tmps:=#[.pointer (some ⟨E,0,none⟩),u 1,u 2,.pointer (some ⟨z,0,none⟩),.pointer (some ⟨z+1,0,none⟩),.pointer (some ⟨g5,0,none⟩),.pointer (some ⟨g6,0,none⟩),.pointer (some ⟨g7,0,none⟩),u 8,u 9,u 10,u 11,u 12,u 13,u 14,u 15,u 16,u 17,u 18,u 19,u 20,u 21,u 22,u 23,v,.agg (eV G.2.1),d,.int .i64 G.2.2.2,u 28,u 29,u 30,u 31,u 32,u 33,u 34,u 35,u 36,u 37,u 38,u 39,u 40,u 41,u 42,u 43,u 44,u 45,u 46,u 47,u 48,u 49,u 50,u 51,u 52],defers:=[]}/\wP K W0 w' G (some v) (some d) (some g5) (some g6) (some g7)
theorem Le{E z:Nat}{K:nP}{W0:World}{G:Sto×Rpl×Option Deci×Int}{a:Act}{w':World}{g5 g6 g7:Nat}{v d:Value}(ha:a={tmps:=#[.pointer (some ⟨E,0,none⟩),gT a 1,gT a 2,.pointer (some ⟨z,0,none⟩),.pointer (some ⟨z+1,0,none⟩),.pointer (some ⟨g5,0,none⟩),.pointer (some ⟨g6,0,none⟩),.pointer (some ⟨g7,0,none⟩),gT a 8,gT a 9,gT a 10,gT a 11,gT a 12,gT a 13,gT a 14,gT a 15,gT a 16,gT a 17,gT a 18,gT a 19,gT a 20,gT a 21,gT a 22,gT a 23,v,.agg (eV G.2.1),d,.int .i64 G.2.2.2,gT a 28,gT a 29,gT a 30,gT a 31,gT a 32,gT a 33,gT a 34,gT a 35,gT a 36,gT a 37,gT a 38,gT a 39,gT a 40,gT a 41,gT a 42,gT a 43,gT a 44,gT a 45,gT a 46,gT a 47,gT a 48,gT a 49,gT a 50,gT a 51,gT a 52],defers:=[]})(h:wP K W0 w' G (some v) (some d) (some g5) (some g6) (some g7)):DoI E z K W0 G a w':=
 ⟨g5,g6,g7,v,d,fun n=>a.tmps.getD n undef,ha,h⟩
theorem Lf{K:nP}{G:Sto×Rpl×Option Deci×Int}{w w2:World}{e:Ending}(h:FC K G w e w2):Below w.heap.size w w2:=by obtain⟨_,_,_,_,_,_,_,_,_,_,_,_,h⟩:=h;exact h
theorem NL{s:bY}(h:eO s=true):s.size<=16:=by
 unfold eO at h;simp only[Bool.and_eq_true,decide_eq_true_eq] at h;exact h.2.2
theorem JL{s:bY}(h:¬mR s=false):s.size<=16:=by
 unfold mR at h;simp only[Bool.not_eq_false,Bool.or_eq_true,decide_eq_true_eq] at h
 rcases h with h|h
 .omega
 .exact NL h
theorem Qo{v:V3}(h:¬(v≠bD/\aT v=false)):v.2.2.size<=64:=by
 by_cases h0:v=bD
 .rw[h0];decide
 have h1:aT v=true:=by
  cases a:aT v
  .exact absurd ⟨h0,a⟩ h
  .rfl
 unfold aT at h1;split at h1
 .simp only[Bool.and_eq_true,decide_eq_true_eq] at h1;omega
 split at h1
 .simp only[decide_eq_true_eq] at h1;omega
 split at h1
 .simp only[Bool.and_eq_true,decide_eq_true_eq] at h1;omega
 split at h1
 .simp only[Bool.and_eq_true,decide_eq_true_eq] at h1;omega
 split at h1
 .simp only[Bool.and_eq_true,decide_eq_true_eq] at h1;have:=NL h1.2;omega
 .cases h1
theorem Qp{o:Op}(a:gP o=true):RT o:=by
 unfold gP at a;split at a
 .cases a
 rename_i h1;split at a
 .cases a
 rename_i h2;simp only[not_or] at h1 h2;have b:oA o=true:=by simpa using h1.2.1
 refine⟨NL (by simpa using h1.1),JL h2.1,JL h2.2.1,JL h2.2.2.1,Qo h2.2.2.2,?_,qA h1.2.2⟩;unfold oA at b;split at b
 .simp only[decide_eq_true_eq] at b;omega
 .simp only[Bool.and_eq_true,decide_eq_true_eq] at b;omega
theorem YR{s:Sto}{o:Op}(h:(cY s o).2.2.2=0):RT o:=by
 have hw:=nK s o
 rcases a:cY s o with ⟨t,r,d,e⟩
 rw[a] at hw h
 cases hw with
 |none _ _ he k _=>exact absurd h he
 |some m l glass hidden v b j g c i f n=>exact Qp (lI b)
theorem Lg{s:Sto}{o:Op}(h:(cY s o).2.2.2≠0):(cY s o).1=s/\(cY s o).2.2.1=none:=by
 have hw:=nK s o
 rcases a:cY s o with ⟨t,r,d,e⟩
 rw[a] at hw h
 cases hw with
 |none _ _ he j _=>exact⟨rfl,rfl⟩
 |some m l glass hidden v k i f b g c n=>exact absurd rfl h
theorem Eu{s:Sto}{o:Op}(h:(cY s o).2.2.2=0):∃d,(cY s o).2.2.1=some d:=by
 have hw:=nK s o
 rcases a:cY s o with ⟨t,r,d,e⟩
 rw[a] at hw h
 cases hw with
 |none _ _ he j _=>exact absurd h he
 |some m l glass hidden v k i f b g c n=>exact⟨_,rfl⟩
theorem Vx{M K:nP}(E D Q m n k:Nat)(s:Sto)(o:Op)(ho:kF o)(w:World)(hX:sG w E D M K Q m n s)(dj:gV w)(hB:mG k s)(hk:k<=900000)(hn:n<=800000)(di:m+400+o.text.size<=Q)(hQ:Q<=900000):
 Calls prog 17 #[.pointer (some ⟨E,0,none⟩),fF o] w (WH E D M K Q m n s o w):=by
 obtain⟨J,base,vc,vr,vn,vo,vt,vu,vk,vb,la,lc,lu,h,ra,rc,ru,da,dc,bs,sy,H⟩:=hX;obtain⟨W0,bb⟩:=xE ((w.alloc (.cells (cB o) 71)).alloc (.cells QB 78));have bj:Below w.heap.size w W0:=by rw[bb];exact aC (aB _ _) (aB _ _)
 have O:Hid (W0.heap[w.heap.size]? =some (.cells (cB o) 71 (0,0))):=aA (by rw[bb];exact aE (aK _ _ _ rfl) (aB _ _));have R:Hid (W0.heap[w.heap.size+1]? =some (.cells QB 78 (0,0))):=aA (by rw[bb];exact aK _ _ _ qs);have H0:=aA (H.stays (aJ (ok:=fun _=>True) bj) (fun _ _=>trivial));obtain⟨bq,HN,ej,r,cr⟩:=gC bj (And.intro hk (And.intro hn (And.intro di hQ))) ho hB (dj.on bj);have a7:=YQ (ok:=K) s vc vr vn vo vt vu vk vb o ho;obtain⟨G,hG⟩:=xE (cY s o);have aj:=aA hG;rw[<-hG] at a7;unfold fF aV cB at *;have a7:=aA a7;have cb:=aA bb;clear bb bj ho dj hB hk hn di hQ hG;obtain⟨⟨C,F,U,V,W,X,Y,Z,e8,e9,I,L,N,P,S,T⟩,-⟩:=kN H0.o.eng;have ze:=aD H0.o.eng;go_enter func17,ntmps17;go_upto_region 1 with (fail)
 rw[<-cb.o];go_wp2_with fail;refine(Hu J D _ W0 H0.o.jou).mono ?_;rintro e w1 ⟨rfl,ds⟩;rw[ds];clear ds w1;go_upto_region 3 with (fail)
 clear C F U V W X Y Z e8 e9 I L N P S T ze;have HC:Hid (W0.heap[E]? =some (oZ J s vc vr vn vo vt vu vk vb (.slice la lu.length lc) h)/\W0.heap[w.heap.size]? =some (.cells (rE o) 71 (0,0))):=aA ⟨H0.o.eng,O.o⟩;have ck:Below W0.heap.size W0 W0.drew:=(Below.refl _ _).drew;have fk:=aA ck;have c7:∀b,K b->b<W0.heap.size:=fun b a=>lL (H0.o.kept b a).2 (lR _)
 have en:=aA c7;have cq:Hid (∀w',Below W0.heap.size W0 w'->Calls prog 24 #[.agg #[.int .i64 s.aCZ,vc,vr,vn,vo,.string s.aCS.id,.bool s.aCS.set,.int .i64 s.aCS.alg,vt,vu,vk,vb,.int .i64 s.aC2],.agg #[.int .i64 o.aCR,.string o.aC6,.string o.aCX,.string o.aDc,.string o.to_,.int .i64 o.val.1,.int .i64 o.val.2.1,.string o.val.2.2,.int .i64 o.aDd,.string o.text,.string o.aDf,.bool o.aDk]] w' (FC K G w')):=aA (fun w' a=>a7.o w' (H0.o.sto.on a) (cr.o.on a) r.o.1 (lT r.o.1.1.aC4 qo) ⟨r.o.2.1,qD r.o.2.2 HN.o.1⟩);have bt:Hid (wP K W0 W0.drew G none none none none none):=aA ⟨ck,fun _ h=>(by cases h),fun _ h=>(by cases h),fun _ h=>(by cases h),fun _ h=>(by cases h),fun _ h=>(by cases h)⟩;clear ck a7 c7;refine LX 17 [(0,false),(1,false),(2,false),(3,false),(4,false)] 4 9 (fun i=>if i=5 then [6,7,8,9,10] else []) [(14,true),(15,true),(16,true)] [(17,true)] (fun w'=>w'.heap[E]? =some (oZ J s vc vr vn vo vt vu vk vb (.slice la lu.length lc) h)/\w'.heap[w.heap.size]? =some (.cells (rE o) 71 (0,0)))
  (DoI E w.heap.size K W0 G)
  (by kernel_rfl) (by kernel_rfl) HC.o ?_ ?_
 .obtain⟨⟨C,F,U,V,W,X,Y,Z,e8,e9,I,L,N,P,S,T⟩,-⟩:=kN HC.o.1;have ze:=aD HC.o.1;obtain⟨⟨o0,o1,o2,o3,o4,o5,o6,o7,o8,o9,an,ao⟩,-⟩:=bO HC.o.2;have zo:=aD HC.o.2
  repeat (refine cU rfl (fun K hK=> ?_);unfold rd;go_simp;refine hK _ (fun eb h1=> ?_) ?_;(· clear hK K C F U V W X Y Z e8 e9 I L N P S T ze o0 o1 o2 o3 o4 o5 o6 o7 o8 o9 an ao zo;obtain⟨⟨C,F,U,V,W,X,Y,Z,e8,e9,I,L,N,P,S,T⟩,-⟩:=kN h1.1;have ze:=aD h1.1;obtain⟨⟨o0,o1,o2,o3,o4,o5,o6,o7,o8,o9,an,ao⟩,-⟩:=bO h1.2;have zo:=aD h1.2;unfold rd;go_simp);clear hK K)
  clear C F U V W X Y Z e8 e9 I L N P S T ze o0 o1 o2 o3 o4 o5 o6 o7 o8 o9 an ao zo;unfold cG;intro _;have x:=bt;have c:Hid (W0.drew.heap[E]? =some (oZ J s vc vr vn vo vt vu vk vb (.slice la lu.length lc) h)/\W0.drew.heap[w.heap.size]? =some (.cells (rE o) 71 (0,0))):=aA HC.o;clear bt HC;generalize W0.drew=WD at x c ⊢
  iterate 4 all_goals (
   (first
     |refine gK [5,11,12,13] (by decide +kernel) ?_
     |refine gK [11,12,13] (by decide +kernel) ?_
     |refine gK [5,12,13] (by decide +kernel) ?_
     |refine gK [5,11,13] (by decide +kernel) ?_
     |refine gK [5,11,12] (by decide +kernel) ?_
     |refine gK [5,11] (by decide +kernel) ?_
     |refine gK [5,12] (by decide +kernel) ?_
     |refine gK [5,13] (by decide +kernel) ?_
     |refine gK [11,12] (by decide +kernel) ?_
     |refine gK [11,13] (by decide +kernel) ?_
     |refine gK [12,13] (by decide +kernel) ?_
     |refine gK [5] (by decide +kernel) ?_
     |refine gK [11] (by decide +kernel) ?_
     |refine gK [12] (by decide +kernel) ?_
     |refine gK [13] (by decide +kernel) ?_)
   (repeat' (refine Qn ?_ ?_))
   all_goals first
    |(exact fun _ h=>(by cases h))
    |(refine⟨_,rfl,fun j f=> ?_⟩
      unfold mv;go_simp
      first
     |(refine f _ (World.alloc _ DZ) ⟨aE c.o.1 (aB _ _),aE c.o.2 (aB _ _)⟩ ?_
       replace c:=aA (And.intro (aE c.o.1 (aB _ DZ)) (aE c.o.2 (aB _ DZ)));replace x:=aA x.o.on5;clear f j;generalize World.alloc _ DZ=W' at c x ⊢;simp only[Nat.reduceEqDiff,reduceIte,List.map_cons,List.map_nil];unfold cG)
     |(refine f _ (World.alloc _ NI) ⟨aE c.o.1 (aB _ _),aE c.o.2 (aB _ _)⟩ ?_
       replace c:=aA (And.intro (aE c.o.1 (aB _ NI)) (aE c.o.2 (aB _ NI)));replace x:=aA x.o.on6;clear f j;generalize World.alloc _ NI=W' at c x ⊢;simp only[Nat.reduceEqDiff,reduceIte,List.map_cons,List.map_nil];unfold cG)
     |(refine f _ (World.alloc _ NJ) ⟨aE c.o.1 (aB _ _),aE c.o.2 (aB _ _)⟩ ?_
       replace c:=aA (And.intro (aE c.o.1 (aB _ NJ)) (aE c.o.2 (aB _ NJ)));replace x:=aA x.o.on7;clear f j;generalize World.alloc _ NJ=W' at c x ⊢;simp only[Nat.reduceEqDiff,reduceIte,List.map_cons,List.map_nil];unfold cG)
     |(refine(cq.o _ x.o.below).mono ?_
       intro e w2 hp;have a:=Lf hp;obtain⟨v,d,rfl,hd⟩:=x.o.call en.o hp;replace c:=aA (And.intro (aE c.o.1 a) (aE c.o.2 a));replace x:=aA hd;refine f _ _ c.o ?_;clear f j hp a hd;simp only[reduceIte,List.map_cons,List.map_nil]
       repeat (refine cU rfl (fun K hK=> ?_);unfold rd;go_simp;refine hK _ (fun eb h1=> ?_) ?_;(· clear hK K;unfold rd;go_simp);clear hK K)
       unfold cG)))
  all_goals (unfold JK;exact Le rfl x.o)
 .rintro a' w' ⟨g5,g6,g7,v,d,u,rfl,HD⟩ hC;obtain⟨du,dy,dw,dx,dz,ea,dv,dt,rfl,hS⟩:=HD.res v rfl;have bm:=HD.dec d rfl;have al:=HD.b5 _ rfl;have ae:=HD.b6 _ rfl;have af:=HD.b7 _ rfl;have h56:g5≠g6:=fun e=>by subst e;have h1:=Option.some.inj (al.2.symm.trans ae.2);injection h1 with _ h2;exact absurd h2 qe
  have h57:g5≠g7:=fun e=>by subst e;have h1:=Option.some.inj (al.2.symm.trans af.2);injection h1 with _ h2;exact absurd h2 qe
  have h67:g6≠g7:=fun e=>by subst e;have h1:=Option.some.inj (ae.2.symm.trans af.2);injection h1 with _ h2;exact absurd h2 qe
  have cj:W0.heap.size=w.heap.size+2:=by rw[cb.o];simp
  have ew:=aD H.eng;have g:Hid ((E≠g5/\w.heap.size≠g5)/\(E≠g6/\w.heap.size≠g6)/\(E≠g7/\w.heap.size≠g7)/\g5≠g6/\g5≠g7/\g6≠g7):=aA ⟨⟨qA al.1,qA al.1⟩,⟨qA ae.1,qA ae.1⟩,⟨qA af.1,qA af.1⟩,h56,h57,h67⟩;have ag:Hid (w.heap.size+2<=g5/\w.heap.size+2<=g6/\w.heap.size+2<=g7):=aA ⟨cj▸al.1,cj▸ae.1,cj▸af.1⟩;obtain⟨bc,ab,t,bu⟩:=dG al.2 ae.2 af.2 (ZY hS);have bw:Hid ((eV G.2.1).all (·.oneCell')=true):=aA (by simp[eV,Value.oneCell']);have cy:=aA hS;have c:Hid (w'.heap[E]? =some (oZ J s vc vr vn vo vt vu vk vb (.slice la lu.length lc) h)/\w'.heap[w.heap.size]? =some (.cells (rE o) 71 (0,0))):=aA hC;have b9:=qK R HD.below;have a6:=aA HD.below;clear al ae af h56 h57 h67 ew hS hC HD HC O R cq bt cr;by_cases he:G.2.2.2=0
  .have ca:=aA (YR (s:=s) (o:=o) (by rw[<-aj.o];exact he));obtain⟨dd,hd⟩:=Eu (s:=s) (o:=o) (by rw[<-aj.o];exact he);rw[<-aj.o] at hd;rw[hd] at bm;obtain⟨ax,nx,cx,rfl⟩:=bm;have be:Hid ((mT dd (.slice ax nx cx)).all (·.oneCell')=true):=aA (by simp[mT,Value.oneCell']);have b1:(G.2.2.2 != 0)=false:=by rw[he];rfl
   have HE:=aA he;clear he hd;refine bG rfl (fun j f=> ?_);unfold mv;refine kX rfl _ (.tmp 5) (.tmp 24) rfl g5 _ rfl rfl _ _ bc.o (by kernel_rfl) rfl bu.o ?_;intro wA HA z;replace c:=aA (And.intro (aF c.o.1 z.o g.o.1.1) (aF c.o.2 z.o g.o.1.2));replace ab:=qS ab z.o g.o.2.2.2.1.symm;replace t:=qS t z.o g.o.2.2.2.2.1.symm;refine f _ _ (fun _=>c.o) ?_;clear f j;refine bG rfl (fun j f=> ?_);unfold mv;refine kX rfl _ (.tmp 6) (.tmp 25) rfl g6 _ rfl rfl _ _ ab.o (by kernel_rfl) rfl bw.o ?_;intro wB HB r;replace c:=aA (And.intro (aF c.o.1 r.o g.o.2.1.1) (aF c.o.2 r.o g.o.2.1.2));replace HA:=qS HA r.o g.o.2.2.2.1;replace t:=qS t r.o g.o.2.2.2.2.2.symm;refine f _ _ (fun _=>c.o) ?_;clear f j;refine bG rfl (fun j f=> ?_);unfold mv;refine kX rfl _ (.tmp 7) (.tmp 26) rfl g7 _ rfl rfl _ _ t.o (by kernel_rfl) rfl be.o ?_;intro wD cn A;replace c:=aA (And.intro (aF c.o.1 A.o g.o.2.2.1.1) (aF c.o.2 A.o g.o.2.2.1.2));replace HA:=qS HA A.o g.o.2.2.2.2.1;replace HB:=qS HB A.o g.o.2.2.2.2.2;refine f _ _ (fun _=>c.o) ?_;clear f j;refine bG rfl (fun j f=> ?_);unfold mv;go_simp;refine f _ _ (fun h=>absurd h qe) ?_;clear f j;unfold cG;have ah:Hid (aN (fun b=>b≠g5/\b≠g6/\b≠g7) w' wD):=aA ((z.o.mono fun b _ a=>a.1).trans ((r.o.mono fun b _ a=>a.2.1).trans (A.o.mono fun b _ a=>a.2.2)));clear z r A bc ab t;have bz:=qS b9 ah.o (by have:=ag.o;exact⟨qo,qo,qo⟩);have bh:=XG h o ej.o ca.o;have ar:Hid (aN (fun b=>b<w.heap.size) w wD):=aA ((aJ (aC bq.o a6.o)).trans (ah.o.mono fun b _ a=>by have:=ag.o;exact⟨qo,qo,qo⟩))
   have cd:=aA (H.stays ar.o (fun b a=>a.elim (H.low b) (fun h=>(H.kept b h).2)));have et:=aA (cy.o.aC0 (ah.o.mono fun b _ a=>⟨fun e=>a.2.2.1 (by rw[e]),fun e=>a.2.2.2.1 (by rw[e]),fun e=>a.2.2.2.2 (by rw[e])⟩));have cf:=aA (And.intro a6.o.size (And.intro ah.o.size ar.o.size));unfold fF cB at bh;have bh:=aA bh;have ed:=a6;have ev:=ah;clear cy b9 a6 ah bu bw be ar;go_upto_region 6 with (fail)
   refine cA 6 [(0,false),(1,false),(2,false),(3,false),(4,false),(5,true)] [(6,true)] (fun w'=>w'.heap[E]? =some (oZ J s vc vr vn vo vt vu vk vb (.slice la lu.length lc) h)/\w'.heap[w.heap.size]? =some (.cells (rE o) 71 (0,0))) (by kernel_rfl) (by kernel_rfl) c.o ?_;simp only[List.cons_append,List.nil_append];obtain⟨⟨C,F,U,V,W,X,Y,Z,e8,e9,I,L,N,P,S,T⟩,-⟩:=kN c.o.1;have ze:=aD c.o.1;obtain⟨⟨o0,o1,o2,o3,o4,o5,o6,o7,o8,o9,an,ao⟩,-⟩:=bO c.o.2;have zo:=aD c.o.2
   repeat (refine cU rfl (fun K hK=> ?_);unfold rd;go_simp;refine hK _ (fun eb h1=> ?_) ?_;(· clear hK K C F U V W X Y Z e8 e9 I L N P S T ze o0 o1 o2 o3 o4 o5 o6 o7 o8 o9 an ao zo;obtain⟨⟨C,F,U,V,W,X,Y,Z,e8,e9,I,L,N,P,S,T⟩,-⟩:=kN h1.1;have ze:=aD h1.1;obtain⟨⟨o0,o1,o2,o3,o4,o5,o6,o7,o8,o9,an,ao⟩,-⟩:=bO h1.2;have zo:=aD h1.2;unfold rd;go_simp);clear hK K)
   clear C F U V W X Y Z e8 e9 I L N P S T ze o0 o1 o2 o3 o4 o5 o6 o7 o8 o9 an ao zo;refine bG rfl (fun j f=> ?_);unfold mv;go_simp;refine(bh.o wD.drew).mono ?_;rintro e w5 ⟨⟨p,Ap,cp,rfl,hp,ff,dn,de⟩,dp⟩;have ad:=aA (aC (show Below wD.heap.size wD wD.drew from (Below.refl _ _).drew) de);have HP:=aA (And.intro (dp p Ap cp rfl) hp);have cz:=aA ((ZP dn).more (fun b a=>a):gY w5 (fun b=>wD.heap.size<=b/\b<w5.heap.size) Ap (bF p));replace c:=aA (And.intro (aE c.o.1 ad.o) (aE c.o.2 ad.o));refine f _ _ (fun _=>c.o) ?_;clear f j hp ff dn de dp;refine bG rfl (fun j f=> ?_);unfold mv;go_simp;refine f _ _ (fun h=>absurd h qe) ?_;clear f j;unfold cG;have q:=aA (cd.o.stays (aJ (ok:=fun _=>True) ad.o) (fun _ _=>trivial));have er:=aA (et.o.on ad.o);obtain⟨⟨C,F,U,V,W,X,Y,Z,e8,e9,I,L,N,P,S,T⟩,-⟩:=kN c.o.1;have ze:=aD c.o.1;have cm:=aA (Oh J D Q dc rc base da ra ru sy bs Ap cp p w5 q.o.nes.2.2 q.o.jou q.o.dsk q.o.aDL ⟨q.o.lts.2.1,q.o.lts.2.2.1,q.o.lts.2.2.2⟩ (qD q.o.rows.2 HN.o) q.o.byt.lt (cz.o.more fun b a e=>by have h1:=cd.o.low D cd.o.mem.2.2;have:=a.1;omega) (qA HP.o.1) (qD HP.o.2 ca.o.text) (qF HP.o.2 HN.o q.o.len) HN.o.2.2.2);go_wp2_with fail;refine cm.o.mono ?_;rintro e w6 ⟨rfl,l,A6,ay,c6,az,a1,hl,dq,dk,df,dr,ae,c8,aa⟩;have y:=aA H.lts;have bf:Hid (∀b,(Value.slice ra ru.length rc).ownBlock=some b->base<=b/\b<w.heap.size):=aA (fun b a=>H.aDL.lt b a);have ai:Hid (∀b,(Value.slice la lu.length lc).ownBlock=some b->base<=b/\b<w.heap.size):=aA (fun b a=>H.log.lt b a);have br:Hid (∀b,base<=b->(b≠E/\b≠J/\b≠D)):=aA (fun b a=>by have:=y.o;exact⟨qo,qo,qo⟩)
   have aq:Hid (∀b,w.heap.size<=b->b≠J/\b≠D/\some b≠(Value.slice ra ru.length rc).ownBlock):=aA (fun b a=>⟨qA y.o,qA y.o,fun e=>qA ((bf.o b e.symm).2)⟩);have ba:Hid (∀b,w.heap.size<=b->b≠E/\some b≠(Value.slice la lu.length lc).ownBlock):=aA (fun b a=>⟨qA y.o,fun e=>qA ((ai.o b e.symm).2)⟩);have a8:Hid (∀b,K b->(b≠J/\b≠D/\some b≠(Value.slice ra ru.length rc).ownBlock)/\(b≠E/\some b≠(Value.slice la lu.length lc).ownBlock)/\b<w.heap.size):=aA (fun b a=>by
    have hk:=H.kept b a;exact⟨⟨fun e=>hk.1 (e▸H.mem.2.1),fun e=>hk.1 (e▸H.mem.2.2),fun e=>hk.1 (H.aDD b e.symm)⟩,⟨fun e=>hk.1 (e▸H.mem.1),fun e=>hk.1 (H.aDE b e.symm)⟩,hk.2⟩)
   have cc:Hid (w.heap.size+2<=W0.heap.size):=aA (by rw[cb.o];simp);have cw:=aA (er.o.aC0 (aa.mono fun b _ a=>a.1.elim (fun h=>(a8.o b h).1) (fun h=>aq.o b (qA cc.o))));have eh:=aA (aF c.o.1 aa ⟨q.o.nes.1,q.o.nes.2.1,fun e=>qD ((bf.o E e.symm).1) y.o⟩);obtain⟨ec,ab,ef,eo⟩:=dG (aF (aE HA.o ad.o) aa (aq.o g5 (qA ag.o))) (aF (aE HB.o ad.o) aa (aq.o g6 (qA ag.o))) (aF (aE cn.o ad.o) aa (aq.o g7 (qA ag.o))) (aF (aE bz.o ad.o) aa (aq.o (w.heap.size+1) qo));have ct:Hid (aM (wG 16) 16 92 w6 base (fun _=>False) (.slice la lu.length lc) lu):=aA (q.o.log.stays (kH 16) aa (fun b a=>⟨(br.o b (ai.o b a).1).2.1,(br.o b (ai.o b a).1).2.2,fun e=>by
    rcases vM q.o.log q.o.aDL qe with h1|h1
    .rw[h1] at a;cases a
    .exact h1 (a.trans e)⟩) (fun _ h _=>h.elim))
   have eu:=aA ((cz.o.aC0 (aa.mono fun b _ a=>aq.o b (qD a.1 cf.o))).more fun b a=>(ba.o b (qD a.1 cf.o):b≠E/\some b≠(Value.slice la lu.length lc).ownBlock));have bd:=Ic E J base lc s G.1 vc vr vn vo vt vu vk vb du dy dw dx dz ea dv dt la lu h dd (.slice ax nx cx) rfl Ap cp p w6 cw.o eh.o ct.o ⟨y.o.1,lT q.o.lts.2.2.2 aa.size⟩ (qD q.o.rows.1 HN.o) eu.o (qD HP.o.2 ca.o.text);obtain⟨bx,el,eg,ee,bg,c1⟩:=hD6 (And.intro hl (And.intro dq c8)) dk df dr ae aa;have hA6:=ec.o;have hD6:=ef.o;unfold aV at hA6;unfold mT at hD6;unfold aV mT at bd;have bd:=aA bd;clear hl dq dk df dr ae c8 aa C F U V W X Y Z e8 e9 I L N P S T ze cm;obtain⟨⟨x0,x1,x2,x3,x4,x5,x6,x7,x8,x9,fg,fh,fj⟩,-⟩:=bT hA6;have zx:=aD hA6;obtain⟨⟨d0,d1,d2,d3,d4,d5,d6,d7,d8,d9,d10,d11,d12,d13,d14,d15⟩,-⟩:=kN hD6;have zd:=aD hD6;clear hA6 hD6;go_wp2_with fail;refine bd.o.mono ?_;rintro e w7 ⟨rfl,au,av,aw,h7,dm,dh,af,db,bp⟩;have t:=aF ab.o bp (ba.o g6 (qA ag.o));obtain⟨ep,ei,cu,ak,cv⟩:=gC (aF eo.o bp (ba.o (w.heap.size+1) qo)) dh af bp (And.intro dm db);clear x0 x1 x2 x3 x4 x5 x6 x7 x8 x9 fg fh fj zx d0 d1 d2 d3 d4 d5 d6 d7 d8 d9 d10 d11 d12 d13 d14 d15 zd dh af bp dm db;unfold eV at t;obtain⟨⟨b0,b1,b2,b3,b4,b5,b6,b7⟩,-⟩:=nN t;have zb:=aD t;clear t;go_wp2_with (refine eI rfl _ (.tmp 4) (.tmp 52) rfl (w.heap.size+1) _ rfl rfl _ _ ep.o (by kernel_rfl) rfl (by simp[Value.oneCell']) ?_;intro wE b8 B)
   obtain⟨⟨r0,r1,r2,r3,r4,r5,r6,r7⟩,-⟩:=nN b8.o;refine bR (.agg #[.int .i64 G.2.1.err,.complex .f64 (Cm.qb G.2.1.mark.1) (Cm.qb G.2.1.mark.2),.bool G.2.1.aDk,.int .i64 G.2.1.val.1,.int .i64 G.2.1.val.2.1,.string G.2.1.val.2.2,.bool G.2.1.hidden,.int .i64 G.2.1.at_]) ?_;have hG:=aj.o;unfold WH;rw[<-hG];have fp:=ad.o.size;have fq:=c1.o.size;have fr:=ak.o.size;have ft:=B.o.size;have fs:=cf.o;have bl:∀b,(Value.slice au aw.length av).ownBlock=some b->(Value.slice la lu.length lc).ownBlock=some b\/w6.heap.size<=b:=cv.o.2;have cg:∀b,(Value.slice ay a1.length az).ownBlock=some b->(Value.slice ra ru.length rc).ownBlock=some b\/w5.heap.size<=b:=bx.o.2.2;have cl:w.heap.size+1≠E/\w.heap.size+1≠J/\w.heap.size+1≠D:=by have:=y.o;exact⟨qo,qo,qo⟩
   have ch:∀b,(Value.slice ay a1.length az).ownBlock=some b->b≠E/\some b≠(Value.slice la lu.length lc).ownBlock/\b≠w.heap.size+1:=fun b a=>by
    have h1:=bg.o.lt b a;refine⟨(br.o b h1.1).1,fun e=> ?_,fun e=> ?_⟩
    .rcases vM ct.o bg.o qe with h2|h2
     .rw[h2] at e;cases e
     .exact h2 (e.symm.trans a.symm)
    .rcases cg b a with h2|h2
     .have:=(bf.o b h2).2;omega
     .omega
   have ey:∀b,(Value.slice au aw.length av).ownBlock=some b->b≠w.heap.size+1:=fun b a e=>by
    rcases bl b a with h2|h2
    .have:=(ai.o b h2).2;omega
    .omega
   have bo:∀b,((K b\/W0.heap.size<=b)/\b<w'.heap.size)->(b≠E/\some b≠(Value.slice la lu.length lc).ownBlock)/\b≠w.heap.size+1/\some b≠(Value.slice au aw.length av).ownBlock/\some b≠(Value.slice ay a1.length az).ownBlock:=fun b a=>by
    have fl:=cc.o;refine⟨a.1.elim (fun h=>(a8.o b h).2.1) (fun h=>ba.o b qo),fun e=>a.1.elim (fun h=>qA ((a8.o b h).2.2)) (fun h=>by omega),fun e=> ?_,fun e=> ?_⟩
    .rcases bl b e.symm with h2|h2
     .exact a.1.elim (fun h=>(a8.o b h).2.1.2 h2.symm) (fun h=>qA ((ai.o b h2).2))
     .omega
    .rcases cg b e.symm with h2|h2
     .exact a.1.elim (fun h=>(a8.o b h).1.2.2 h2.symm) (fun h=>qA ((bf.o b h2).2))
     .omega
   have fb:=(cw.o.aC0 (ak.o.mono fun b _ a=>(bo b ⟨a.1,a.2.1⟩).1)).aC0 (B.o.mono fun b _ a=>(bo b ⟨a.1,a.2.1⟩).2.1);have fc:=ee.o.aC0 (ak.o.mono fun b _ a=>ba.o b (qA a.1.1));have fe:=fc.aC0 (B.o.mono fun b _ a=>by have:=a.1.1;show b≠w.heap.size+1;omega);have hlen:l.length=bs.length+(8+p.length):=bx.o.1;have fm:=H.len;have fo:=HP.o;refine⟨rfl,fun b=>M b\/(Value.slice au aw.length av).ownBlock=some b\/(Value.slice ay a1.length az).ownBlock=some b,fun b=>(K b\/w.heap.size<=b)/\b<wE.heap.size/\some b≠(Value.slice au aw.length av).ownBlock/\some b≠(Value.slice ay a1.length az).ownBlock,l.length,?_,?_,fun b a=>a.1,?_,qo,qo,fun h=>absurd HE.o h⟩
   .refine⟨J,base,du,dy,dw,dx,dz,ea,dv,dt,au,av,aw,h7,ay,az,a1,A6,c6,l,l.length,?_⟩;exact {
     eng:=aF ei.o B.o cl.1.symm
     jou:=aF (aF el.o ak.o ⟨q.o.nes.1.symm,fun e=>qD ((ai.o J e.symm).1) y.o⟩) B.o cl.2.1.symm
     dsk:=aF (aF eg.o ak.o ⟨q.o.nes.2.1.symm,fun e=>qD ((ai.o D e.symm).1) y.o⟩) B.o cl.2.2.symm
     sto:=fb.more fun b a=>⟨a.1.imp id (fun h=>qA cc.o),qA a.2.1,(bo b ⟨a.1,a.2.1⟩).2.2.1,(bo b ⟨a.1,a.2.1⟩).2.2.2⟩
     log:=cu.o.stays (kH 16) B.o (fun b a=>ey b a) (fun _ h _=>h.elim)
     aDL:=(bg.o.stays (kH 1) ak.o (fun b a=>⟨(ch b a).1,(ch b a).2.1⟩) (fun _ h _=>h.elim)).stays (kH 1) B.o (fun b a=>(ch b a).2.2) (fun _ h _=>h.elim)
     byt:=fe.more fun b a=>⟨.inr (qA a.1.1),qA a.1.2,fun e=>by
      rcases bl b e.symm with h2|h2
      .have:=(ai.o b h2).2;have:=a.1.1;omega
      .have:=a.1.2;omega,a.2⟩
     len:=rfl
     lts:=⟨y.o.1,y.o.2.1,y.o.2.2.1,qA y.o.2.2.2⟩
     nes:=q.o.nes
     mem:=⟨.inl H.mem.1,.inl H.mem.2.1,.inl H.mem.2.2⟩
     aDE:=fun b a=> .inr (.inl a)
     aDD:=fun b a=> .inr (.inr a)
     kept:=fun b a=>⟨fun hm=>by
      rcases hm with h1|h1|h1
      .rcases a.1 with h2|h2
       .exact(H.kept b h2).1 h1
       .have:=H.low b h1;omega
      .exact a.2.2.1 h1.symm
      .exact a.2.2.2 h1.symm,a.2.1⟩
     low:=fun b hm=>by
      rcases hm with h1|h1|h1
      .have:=H.low b h1;omega
      .have:=(cu.o.lt b h1).2;omega
      .have:=(bg.o.lt b h1).2;omega
     rows:=⟨by rw[cv.o.1];have:=H.rows.1;omega,by rw[bx.o.2.1];have:=H.rows.2;omega⟩}
   .intro b hm
    rcases hm with h1|h1|h1
    .exact .inl h1
    .exact(bl b h1).imp (H.aDE b) (fun h=>by omega)
    .exact(cg b h1).imp (H.aDD b) (fun h=>by omega)
   .have ez:aN (fun b=>b<w.heap.size) w w5:=((aJ (aC bq.o ed.o)).trans (ev.o.mono fun b _ a=>by have:=ag.o;exact⟨qo,qo,qo⟩)).trans (aJ ad.o);have hM:∀b,¬M b->(b≠E/\b≠J/\b≠D)/\some b≠(Value.slice la lu.length lc).ownBlock/\some b≠(Value.slice ra ru.length rc).ownBlock:=fun b a=>⟨⟨fun e=>a (e▸H.mem.1),fun e=>a (e▸H.mem.2.1),fun e=>a (e▸H.mem.2.2)⟩,fun e=>a (H.aDE b e.symm),fun e=>a (H.aDD b e.symm)⟩
    have fa:aN (fun b=>¬M b/\b<w.heap.size) w w7:=((ez.mono fun b _ a=>a.2).trans (c1.o.mono fun b _ a=>⟨(hM b a.1).1.2.1,(hM b a.1).1.2.2,(hM b a.1).2.2⟩)).trans (ak.o.mono fun b _ a=>⟨(hM b a.1).1.1,(hM b a.1).2.1⟩);exact(fa.trans (B.o.mono fun b _ a=>by show b≠w.heap.size+1;have:=a.2;omega)).mono fun b h1 a=>⟨a,h1⟩
  .have bn:=Lg (s:=s) (o:=o) (by rw[<-aj.o];exact he);rw[<-aj.o] at bn;rw[bn.2] at bm;subst bm;have be:Hid (oY.all (·.oneCell')=true):=aA (by simp[oY,Value.oneCell']);have ek:=aA bn;have b1:(G.2.2.2 != 0)=true:=by simpa using he
   have HE:=aA he;clear bn he;refine bG rfl (fun j f=> ?_);unfold mv;refine kX rfl _ (.tmp 5) (.tmp 24) rfl g5 _ rfl rfl _ _ bc.o (by kernel_rfl) rfl bu.o ?_;intro wA HA z;replace c:=aA (And.intro (aF c.o.1 z.o g.o.1.1) (aF c.o.2 z.o g.o.1.2));replace ab:=qS ab z.o g.o.2.2.2.1.symm;replace t:=qS t z.o g.o.2.2.2.2.1.symm;refine f _ _ (fun _=>c.o) ?_;clear f j;refine bG rfl (fun j f=> ?_);unfold mv;refine kX rfl _ (.tmp 6) (.tmp 25) rfl g6 _ rfl rfl _ _ ab.o (by kernel_rfl) rfl bw.o ?_;intro wB HB r;replace c:=aA (And.intro (aF c.o.1 r.o g.o.2.1.1) (aF c.o.2 r.o g.o.2.1.2));replace HA:=qS HA r.o g.o.2.2.2.1;replace t:=qS t r.o g.o.2.2.2.2.2.symm;refine f _ _ (fun _=>c.o) ?_;clear f j;refine bG rfl (fun j f=> ?_);unfold mv;refine kX rfl _ (.tmp 7) (.tmp 26) rfl g7 _ rfl rfl _ _ t.o (by kernel_rfl) rfl be.o ?_;intro wD cn A;replace c:=aA (And.intro (aF c.o.1 A.o g.o.2.2.1.1) (aF c.o.2 A.o g.o.2.2.1.2));replace HA:=qS HA A.o g.o.2.2.2.2.1;replace HB:=qS HB A.o g.o.2.2.2.2.2;refine f _ _ (fun _=>c.o) ?_;clear f j;refine bG rfl (fun j f=> ?_);unfold mv;go_simp;refine f _ _ (fun h=>absurd h qe) ?_;clear f j;unfold cG;have ah:Hid (aN (fun b=>b≠g5/\b≠g6/\b≠g7) w' wD):=aA ((z.o.mono fun b _ a=>a.1).trans ((r.o.mono fun b _ a=>a.2.1).trans (A.o.mono fun b _ a=>a.2.2)));clear z r A bc ab t;have bz:=qS b9 ah.o (by have:=ag.o;exact⟨qo,qo,qo⟩);have bk:=HB.o;unfold eV at bk;obtain⟨⟨b0,b1,b2,b3,b4,b5,b6,b7⟩,-⟩:=nN bk;have zb:=aD bk
   clear bk;go_wp2_with (refine eI rfl _ (.tmp 4) (.tmp 30) rfl (w.heap.size+1) _ rfl rfl _ _ bz.o (by kernel_rfl) rfl (by simp[Value.oneCell']) ?_;intro wE b8 B)
   have ar:Hid (aN (fun b=>b<w.heap.size) w wE):=aA ((aJ (aC bq.o a6.o)).trans ((ah.o.mono fun b _ a=>by have:=ag.o;exact⟨qo,qo,qo⟩).trans (B.o.mono fun b _ a=>by show (_:Nat)≠_;omega)));obtain⟨⟨r0,r1,r2,r3,r4,r5,r6,r7⟩,-⟩:=nN b8.o;refine bR (.agg #[.int .i64 G.2.1.err,.complex .f64 (Cm.qb G.2.1.mark.1) (Cm.qb G.2.1.mark.2),.bool G.2.1.aDk,.int .i64 G.2.1.val.1,.int .i64 G.2.1.val.2.1,.string G.2.1.val.2.2,.bool G.2.1.hidden,.int .i64 G.2.1.at_]) ?_;have hX:=H.stays ar.o (fun b a=>a.elim (H.low b) (fun h=>(H.kept b h).2));have hG:=aj.o;unfold WH;rw[<-hG];refine⟨rfl,M,K,m,?_,fun b a=> .inl a,fun b a=> .inl a,ar.o.mono fun b a _=>a,lR _,qo,fun _=>rfl⟩;rw[ek.o.1];exact⟨J,base,vc,vr,vn,vo,vt,vu,vk,vb,la,lc,lu,h,ra,rc,ru,da,dc,bs,sy,{hX with rows:=⟨Nat.le_succ_of_le hX.rows.1,Nat.le_succ_of_le hX.rows.2⟩}⟩
end
theorem Lh{p:Prop}(h:p:=by
 go_wp2;go_ret;exact⟨by rw[HR.o];rfl,Below.refl _ _⟩):p:=h
structure Gl (w:World):Prop where
 aDQ:gV w
 len:∃m,w.cell? ⟨0,0,none⟩=some (.int .i64 m)
 tab:Lib.TabIs prog w "internal/strconv.uint64pow10" .u64 Lib.pow10Tab
theorem WI:prog.globalNamed "internal/strconv.uint64pow10"=some 3:=by kernel_rfl
theorem Gl.lt{w:World}(h:Gl w):3<w.heap.size:=by
 have h1:=h.tab;unfold Lib.TabIs World.var? at h1;rw[WI] at h1
 rcases Nat.lt_or_ge 3 w.heap.size with h2|h2
 .exact h2
 .simp[Array.getElem?_eq_none h2] at h1
theorem Gl.stay{w w':World}{q:nP}(h:Gl w)(c:aN q w w')(a:∀b,b<6->q b):Gl w':={
 aDQ:=h.aDQ.stay c (a 2 qe)
 len:=by
  obtain⟨m,hm⟩:=h.len;exact⟨m,c.cell (p:=⟨0,0,none⟩) (a 0 qe) hm⟩
 tab:=by
  have h1:=h.tab;unfold Lib.TabIs World.var? at *;rw[WI] at *;simp only[Option.bind_some] at *;rw[c.block 3 h.lt (a 3 qe)];exact h1}
theorem Gl.on{w w':World}(h:Gl w)(a:Below w.heap.size w w'):Gl w':=h.stay (aJ (ok:=fun _=>True) a) (fun _ _=>trivial)
theorem IC:∀(l:lU),(0<=Lib.indexByte l 32->cN l=(l.take (Lib.indexByte l 32).toNat,l.drop ((Lib.indexByte l 32).toNat+1)))/\(Lib.indexByte l 32<0->cN l=(l,[]))
 | []=>⟨fun h=>by simp[Lib.indexByte] at h,fun _=>rfl⟩
 |b::l=>by
  have d:=IC l;have i:=Lib.indexByte_ge l 32;by_cases a:b=32
  .subst a;refine⟨fun _=>rfl,fun h=>by simp[Lib.indexByte] at h⟩
  .have c:b.toNat≠32:=fun e=>a (UInt8.toNat_inj.1 e)
   have f:cN (b::l)=(b::(cN l).1,(cN l).2):=by
    unfold cN;rw[List.takeWhile_cons_of_pos (by simpa using c),List.dropWhile_cons_of_pos (by simpa using c)]
   have g:Lib.indexByte (b::l) 32=if Lib.indexByte l 32== -1 then -1 else Lib.indexByte l 32+1:=by
    rw[Lib.indexByte,iN (by simpa using a)]
   rw[f,g];by_cases h1:Lib.indexByte l 32= -1
   .rw[iP (by simpa using h1)];refine⟨fun h=>absurd h qe,fun _=> ?_⟩;rw[d.2 qo]
   .rw[iN (by simpa using h1)];refine⟨fun _=> ?_,fun h=>by omega⟩;rw[d.1 qo];have e:(Lib.indexByte l 32+1).toNat=(Lib.indexByte l 32).toNat+1:=qo;rw[e];rfl
theorem Li(l:lU):(Lib.cut l [32]).1=(cN l).1/\(Lib.cut l [32]).2.1=(cN l).2:=by
 have h:=IC l;unfold Lib.cut;rw[Lib.index_one];split
 .rename_i h0;rw[h.1 h0];exact⟨rfl,rfl⟩
 .rename_i h0;rw[h.2 qo];exact⟨rfl,rfl⟩
theorem qU(s:bY)(c:s.size<=100000)(w:World)(b:Gl w):Calls prog 26 #[.string s] w (rR (.string (bs (cN s.data.toList).1)) (.string (bs (cN s.data.toList).2)) w):=by
 obtain⟨m,hm⟩:=b.len;have a:=aA (strings_Cut s ⟨#[32]⟩ m w qo hm);have h:=Li s.data.toList;rw[show (⟨#[32]⟩:bY).data.toList=[32] from rfl,h.1,h.2] at a;unfold rR;clear b hm h;go_enter func26,ntmps26;go_wp2_with fail;refine a.o.mono ?_;rintro e w1 ⟨rfl,n,rfl⟩;go_wp2;go_ret2
 exact⟨rfl,fJ (Below.refl _ _) ⟨_,rfl⟩⟩
theorem FJ(s:bY):bs s.data.toList=s:=by unfold bs;rw[Array.toArray_toList]
theorem LY:xR++[str "tick"]=[cJ (1:Nat),cJ (2:Nat),cJ (3:Nat),cJ (4:Nat),cJ (5:Nat),cJ (6:Nat),cJ (7:Nat),cJ (8:Nat)]:=by kernel_rfl
theorem Qq{s:bY}{k:Nat}(h1:1<=k)(h8:k<=8)(e:∀j:Nat,1<=j->j<k->cJ j≠s)(he:cJ k=s):oG s.data.toList=k:=by
 unfold oG;rw[LY,FJ];have f:k=1\/k=2\/k=3\/k=4\/k=5\/k=6\/k=7\/k=8:=qo;have c:∀j:Nat,1<=j->j<k->decide (cJ j=s)=false:=fun j a b=>dF (e j a b)
 have d:decide (cJ k=s)=true:=dX he;clear he e
 rcases f with rfl|rfl|rfl|rfl|rfl|rfl|rfl|rfl
 .simp only[List.findIdx_cons,d];rfl
 .simp only[List.findIdx_cons,d,c 1 qe qe];rfl
 .simp only[List.findIdx_cons,d,c 1 qe qe,c 2 qe qe];rfl
 .simp only[List.findIdx_cons,d,c 1 qe qe,c 2 qe qe,c 3 qe qe];rfl
 .simp only[List.findIdx_cons,d,c 1 qe qe,c 2 qe qe,c 3 qe qe,c 4 qe qe];rfl
 .simp only[List.findIdx_cons,d,c 1 qe qe,c 2 qe qe,c 3 qe qe,c 4 qe qe,c 5 qe qe];rfl
 .simp only[List.findIdx_cons,d,c 1 qe qe,c 2 qe qe,c 3 qe qe,c 4 qe qe,c 5 qe qe,c 6 qe qe];rfl
 .simp only[List.findIdx_cons,d,c 1 qe qe,c 2 qe qe,c 3 qe qe,c 4 qe qe,c 5 qe qe,c 6 qe qe,c 7 qe qe];rfl
theorem Qr{s:bY}(d:∀j:Nat,1<=j->j<9->cJ j≠s):oG s.data.toList=0:=by
 unfold oG;rw[LY,FJ];have c:∀j:Nat,1<=j->j<9->decide (cJ j=s)=false:=fun j a b=>dF (d j a b)
 simp only[List.findIdx_cons,c 1 qe qe,c 2 qe qe,c 3 qe qe,c 4 qe qe,c 5 qe qe,c 6 qe qe,c 7 qe qe,c 8 qe qe];rfl
theorem Qs(s:bY)(w:World):Calls prog 28 #[.string s] w (aO (.int .i64 (oG s.data.toList)) w):=by
 obtain⟨R,c⟩:=xE (oG s.data.toList);have r:=aA (fun (k:Nat) h1 h8 m he=>c.trans (Qq (s:=s) (k:=k) h1 h8 m he));have t:=aA (fun m=>c.trans (Qr (s:=s) m));have q:=aA (fun k w=>AF k w);rw[<-c];unfold aO at *;clear c;go_enter func28,ntmps28;go_wp2;go_loopw [3] (fun i wr=>∃(k:Nat),1<=k/\k<=9/\i=.int .i64 k/\Hid (∀j:Nat,1<=j->j<k->cJ j≠s)/\Hid (Below w.heap.size w wr)) (fun i _=>9 - (intOf i).toNat)
 case atStart=>exact⟨1,qo,qo,rfl,aA (fun j a b=>by omega),aA (Below.refl _ _)⟩
 case round=>
  obtain⟨k,h1,h9,rfl,f,n⟩:=hrel;by_cases x:k<=8
  .have y:(k:Int)<=8:=qo;go_wp2_with fail;refine(q.o _ _).mono ?_;rintro e w1 ⟨rfl,p⟩;have o:=qB n p;have d:=aA (fun he=>r.o k h1 x f.o he);clear p;have l:Hid (cJ (k:Int)≠s->∀j:Nat,1<=j->j<k+1->cJ j≠s):=aA (fun he j a b=>by
    by_cases hj:j=k
    .rw[hj];exact he
    .exact f.o j a qo)
   by_cases he:cJ (k:Int)=s
   .have b1:((cJ (k:Int)).toList==s.toList)=true:=by rw[he];simp
    have g:=aA (d.o he);clear he d l;generalize cJ (k:Int)=a at *;go_wp2;go_ret;exact⟨by rw[g.o];rfl,o.o⟩
   .have b1:((cJ (k:Int)).toList==s.toList)=false:=by
     rw[Bool.eq_false_iff];intro h;exact he (EY (by simpa using h))
    have v:=aA (l.o he);clear he d l;generalize cJ (k:Int)=a at b1 ⊢;go_wp2;go_round
    case rel=>exact⟨k+1,qo,qo,by go_num,v,o⟩
    case measure=>simp[intOf];omega
  .obtain rfl:k=9:=qo;have g:=aA (t.o (fun j a b=>f.o j a b));go_wp2;go_ret;exact⟨by rw[g.o];rfl,n.o⟩
theorem NM:∀(l:lU) (a:Nat),(∀c∈l,bA c=true)->l.foldl (fun a c=>a * 10+(c.toNat - 48)) a<(a+1) * 10 ^ l.length
 | [],a,_=>by simp
 |c::l,a,h=>by
  have e:=(eT c).1 (h c List.mem_cons_self);have d:=NM l (a * 10+(c.toNat - 48)) (fun x b=>h x (List.mem_cons_of_mem _ b));rw[List.foldl_cons,List.length_cons,Nat.pow_succ];refine lL d ?_;have h1:a * 10+(c.toNat - 48)+1<=(a+1) * 10:=qo
  calc (a * 10+(c.toNat - 48)+1) * 10 ^ l.length<=((a+1) * 10) * 10 ^ l.length:=Nat.mul_le_mul_right _ h1
   _=(a+1) * (10 ^ l.length * 10):=by rw[Nat.mul_assoc,Nat.mul_comm 10]
theorem LZ{l:lU}(h:¬(l=[]\/9<l.length\/l.head?=some 48\/l.all bA=false)):jE l=(pR l:Int)/\Lib.atoiAll l=.ok (pR l:Int):=by
 simp only[not_or] at h;obtain⟨h1,h2,h3,h4⟩:=h;have a:∀c∈l,bA c=true:=by simpa using h4
 have b:=NM l 0 a;have hp:10 ^ l.length<=10 ^ 9:=Nat.pow_le_pow_right qe qo;refine⟨?_,?_⟩
 .unfold jE;rw[iN (by simp only[not_or];exact⟨h1,h2,h3,h4⟩)]
 .rw[zO a h1,iP (by unfold pR;omega)]
theorem sH{l:lU}(h:l=[]\/9<l.length\/l.head?=some 48\/l.all bA=false):jE l=0:=by unfold jE;rw[iP h]
theorem Ev(s:bY)(H:s.size<=100000)(w:World)(G:gV w):Calls prog 30 #[.string s] w (aO (.int .i64 (jE s.data.toList)) w):=by
 have f:Hid (s.data.toList.length=s.size):=aA (by rw[Array.length_toList];rfl);unfold aO;by_cases h0:s=⟨#[]⟩
 .have HR:Hid (jE s.data.toList=0):=aA (sH (.inl (by rw[h0])));obtain⟨d1,D⟩:=fO s [] h0;clear h0;go_enter func30,ntmps30;exact Lh
 .obtain⟨d1,D⟩:=fH s [] h0;have r:0<s.size:=by
   rcases Nat.eq_zero_or_pos s.size with h|h
   .exact absurd (EY (a:=s) (b:=⟨#[]⟩) (by
     have:s.data.toList=[]:=List.length_eq_zero_iff.1 (by rw[f.o];exact h);have E:s=⟨#[]⟩:=by rw[<-FJ s,this];rfl
     rw[E])) h0
   .exact h
  have C:=aA r;clear h0;by_cases h9:9<s.size
  .have HR:Hid (jE s.data.toList=0):=aA (sH (.inr (.inl (by rw[f.o];exact h9))));have h91:(9:Int)<(s.size:Int):=qo;go_enter func30,ntmps30;exact Lh
  .have h91:¬((9:Int)<(s.size:Int)):=qo;have p:s.data.toList.head?=some s[0]:=by
    rw[List.head?_eq_getElem?,gE (by rw[f.o];exact r)];rfl
   have g:=aA p;clear p;by_cases h48:(s[0].toNat:Int)=48
   .have HR:Hid (jE s.data.toList=0):=aA (sH (.inr (.inr (.inl (by rw[g.o];congr 1;exact UInt8.toNat_inj.1 (by show s[0].toNat=48;omega))))));clear g;generalize M:s[0].toNat=c0 at *;go_enter func30,ntmps30;exact Lh
   .have B:Hid (s.data.toList.head?≠some 48):=aA (by
     rw[g.o];intro e;injection e with e;rw[e] at h48;exact h48 rfl)
    have t:=aA h9;clear g;go_enter func30,ntmps30;go_wp2;go_loop [3,20] (fun c i=>∃(k:Nat),k<=s.size/\i=.int .i64 k/\Hid (∀x∈s.data.toList.take k,bA x=true)) (fun _ i=>s.size - (intOf i).toNat)
    case atStart=>exact⟨0,qo,rfl,aA (fun x d=>by simp at d)⟩
    case round=>
     obtain⟨k,J,rfl,n⟩:=hrel;by_cases q:k<s.size
     .have z:Hid (bA s[k]=true->∀x∈s.data.toList.take (k+1),bA x=true):=aA (fun h x d=>by
       rw[List.take_succ_eq_append_getElem (by rw[f.o];exact q),List.mem_append,List.mem_singleton] at d
       rcases d with d|d
       .exact n.o x d
       .rw[d];exact h)
      have o:Hid (bA s[k]=false->jE s.data.toList=0):=aA (fun h=>sH (.inr (.inr (.inr (List.all_eq_false.2 ⟨s[k],by
       have:s.data.toList[k]'(by rw[f.o];exact q)=s[k]:=rfl;rw[<-this];exact List.getElem_mem _,by rw[h];decide⟩)))))
      have j:=aA (eT s[k]);by_cases K:(s[k].toNat:Int)<48
      .have HR:=aA (o.o (by rw[Bool.eq_false_iff];intro h;have:=(j.o.1 h).1;omega));exact Lh
      .by_cases L:(57:Int)<(s[k].toNat:Int)
       .have HR:=aA (o.o (by rw[Bool.eq_false_iff];intro h;have:=(j.o.1 h).2;omega));exact Lh
       .have A:=aA (z.o (j.o.2 ⟨qo,qo⟩));go_wp2;go_round
        case rel=>exact⟨k+1,qo,by go_num,A⟩
        case measure=>simp[intOf];omega
     .obtain rfl:k=s.size:=qo;have m:=aA (LZ (l:=s.data.toList) (by
       simp only[not_or];refine⟨fun e=> ?_,by rw[f.o];exact t.o,B.o,?_⟩
       .have h1:=f.o;rw[e] at h1;have h2:=C.o;simp at h1;omega
       .rw[Bool.not_eq_false,List.all_eq_true];intro x d;exact n.o x (by rw[List.take_of_length_le (by rw[f.o];exact lR _)];exact d)))
      have y:=aA (SP s H (by rw[m.o.2];intro h;cases h) w G);go_wp2_with fail;refine y.o.mono ?_;rintro e w1 ⟨v,I,rfl,hm,F⟩;rw[m.o.2] at hm;obtain⟨rfl,rfl⟩:=hm;go_wp2;go_ret;exact⟨by rw[m.o.1];rfl,F⟩
end Go.Proofs.YtbinmcabjnoliaaGreatDoor

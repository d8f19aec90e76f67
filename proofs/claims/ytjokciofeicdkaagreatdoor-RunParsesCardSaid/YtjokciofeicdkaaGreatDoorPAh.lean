/- A part of the proof of RunParses: QrI. -/
import Derived.Test.YtjokciofeicdkaaGreatDoorPAb
import Derived.Test.YtjokciofeicdkaaGreatDoorPAd
set_option maxHeartbeats 16000000
set_option maxRecDepth 100000
set_option linter.all false
namespace Go.Proofs.YtjokciofeicdkaaGreatDoor
open Go.RowKit
attribute [local go_sem ↓] Go.wp_at_zero Go.wp_at_succ
theorem alloc_size (w:World)(o:Obj):(w.alloc o).heap.size=w.heap.size+1:=by simp
structure Res4 (w:World)(R:Nat)(v:Value)(b c ln:Int):Prop where
 h0:w.heap[R]?=some (.cells #[v] 34 (0,0))
 h1:w.heap[R+1]?=some (.cells #[.int .i64 b] 3 (0,0))
 h2:w.heap[R+2]?=some (.cells #[.int .i64 c] 27 (0,0))
 h3:w.heap[R+3]?=some (.cells #[.int .i64 ln] 3 (0,0))
theorem cell_one {w:World}{k:Nat}{T:TypeId}{u:Value}(h:w.heap[k]?=some (.cells #[u] T (0,0))):w.cell? ⟨k,0,none⟩=some u∧w.frozen? ⟨k,0,none⟩=false:=
 ⟨by have:=cell_of_row w k 0 _ _ _ h;simpa using this,by simp [World.frozen?,h]⟩
section
variable {w w':World} {R M:Nat} {v:Value} {b c ln:Int}
theorem Res4.lt (h:Res4 w R v b c ln):R+3<w.heap.size:=(Array.getElem?_eq_some_iff.1 h.h3).1
theorem Res4.keep (h:Res4 w R v b c ln)(hk:∀ k,R≤k→k≤R+3→w'.heap[k]?=w.heap[k]?):Res4 w' R v b c ln:=
 ⟨(hk R (by omega) (by omega)).trans h.h0,(hk (R+1) (by omega) (by omega)).trans h.h1,(hk (R+2) (by omega) (by omega)).trans h.h2,(hk (R+3) (by omega) (by omega)).trans h.h3⟩
theorem Res4.up (h:Res4 w R v b c ln)(hb:Below w.heap.size w w'):Res4 w' R v b c ln:=h.keep fun k _ h2=>hb.block k (by have:=h.lt;omega)
theorem Res4.kp (h:Res4 w R v b c ln)(hk:Kp M w w')(hM:R+3<M):Res4 w' R v b c ln:=h.keep fun k _ h2=>hk.block k (by have:=h.lt;omega) (fun e=>by injection e;omega)
theorem Res4.set0 (h:Res4 w R v b c ln)(u:Value):Res4 (w.setCell ⟨R,0,none⟩ u) R u b c ln:=by
 have o:∀ k,k≠R→(w.setCell ⟨R,0,none⟩ u).heap[k]?=w.heap[k]?:=fun k hk=>Below.heap_setCell _ _ _ _ hk
 exact ⟨by have:=h.h0;simp [World.setCell,Array.getElem?_modify,this],(o _ (by omega)).trans h.h1,(o _ (by omega)).trans h.h2,(o _ (by omega)).trans h.h3⟩
theorem Res4.set1 (h:Res4 w R v b c ln)(u:Int):Res4 (w.setCell ⟨R+1,0,none⟩ (.int .i64 u)) R v u c ln:=by
 have o:∀ k,k≠R+1→(w.setCell ⟨R+1,0,none⟩ (.int .i64 u)).heap[k]?=w.heap[k]?:=fun k hk=>Below.heap_setCell _ _ _ _ hk
 exact ⟨(o _ (by omega)).trans h.h0,by have:=h.h1;simp [World.setCell,Array.getElem?_modify,this],(o _ (by omega)).trans h.h2,(o _ (by omega)).trans h.h3⟩
theorem Res4.set2 (h:Res4 w R v b c ln)(u:Int):Res4 (w.setCell ⟨R+2,0,none⟩ (.int .i64 u)) R v b u ln:=by
 have o:∀ k,k≠R+2→(w.setCell ⟨R+2,0,none⟩ (.int .i64 u)).heap[k]?=w.heap[k]?:=fun k hk=>Below.heap_setCell _ _ _ _ hk
 exact ⟨(o _ (by omega)).trans h.h0,(o _ (by omega)).trans h.h1,by have:=h.h2;simp [World.setCell,Array.getElem?_modify,this],(o _ (by omega)).trans h.h3⟩
theorem Res4.set3 (h:Res4 w R v b c ln)(u:Int):Res4 (w.setCell ⟨R+3,0,none⟩ (.int .i64 u)) R v b c u:=by
 have o:∀ k,k≠R+3→(w.setCell ⟨R+3,0,none⟩ (.int .i64 u)).heap[k]?=w.heap[k]?:=fun k hk=>Below.heap_setCell _ _ _ _ hk
 exact ⟨(o _ (by omega)).trans h.h0,(o _ (by omega)).trans h.h1,(o _ (by omega)).trans h.h2,by have:=h.h3;simp [World.setCell,Array.getElem?_modify,this]⟩
theorem Res4.all (h:Res4 w R v b c ln):(w.cell? ⟨R,0,none⟩=some v∧w.cell? ⟨R+1,0,none⟩=some (.int .i64 b)∧w.cell? ⟨R+2,0,none⟩=some (.int .i64 c)∧w.cell? ⟨R+3,0,none⟩=some (.int .i64 ln))∧w.frozen? ⟨R,0,none⟩=false∧w.frozen? ⟨R+1,0,none⟩=false∧w.frozen? ⟨R+2,0,none⟩=false∧w.frozen? ⟨R+3,0,none⟩=false:=
 ⟨⟨(cell_one h.h0).1,(cell_one h.h1).1,(cell_one h.h2).1,(cell_one h.h3).1⟩,(cell_one h.h0).2,(cell_one h.h1).2,(cell_one h.h2).2,(cell_one h.h3).2⟩
theorem res_new (w:World):Res4 ((((w.alloc (.cells #[.slice none 0 0] 34 (0,0))).alloc (.cells #[.int .i64 0] 3 (0,0))).alloc (.cells #[.int .i64 0] 27 (0,0))).alloc (.cells #[.int .i64 0] 3 (0,0))) w.heap.size (.slice none 0 0) 0 0 0∧Below w.heap.size w ((((w.alloc (.cells #[.slice none 0 0] 34 (0,0))).alloc (.cells #[.int .i64 0] 3 (0,0))).alloc (.cells #[.int .i64 0] 27 (0,0))).alloc (.cells #[.int .i64 0] 3 (0,0)))∧((((w.alloc (.cells #[.slice none 0 0] 34 (0,0))).alloc (.cells #[.int .i64 0] 3 (0,0))).alloc (.cells #[.int .i64 0] 27 (0,0))).alloc (.cells #[.int .i64 0] 3 (0,0))).heap.size=w.heap.size+4:=
 ⟨⟨((heap_alloc_old _ _ (by simp<;>omega)).trans ((heap_alloc_old _ _ (by simp<;>omega)).trans (heap_alloc_old _ _ (by simp<;>omega)))).trans (heap_alloc_new w _),
  ((heap_alloc_old _ _ (by simp<;>omega)).trans (heap_alloc_old _ _ (by simp<;>omega))).trans (by have:=heap_alloc_new (w.alloc (.cells #[.slice none 0 0] 34 (0,0))) (.cells #[.int .i64 0] 3 (0,0));rwa [alloc_size] at this),
  (heap_alloc_old _ _ (by simp<;>omega)).trans (by have:=heap_alloc_new ((w.alloc (.cells #[.slice none 0 0] 34 (0,0))).alloc (.cells #[.int .i64 0] 3 (0,0))) (.cells #[.int .i64 0] 27 (0,0));rwa [alloc_size,alloc_size] at this),
  (by have:=heap_alloc_new (((w.alloc (.cells #[.slice none 0 0] 34 (0,0))).alloc (.cells #[.int .i64 0] 3 (0,0))).alloc (.cells #[.int .i64 0] 27 (0,0))) (.cells #[.int .i64 0] 3 (0,0));rwa [alloc_size,alloc_size,alloc_size] at this)⟩,
  ((((Below.refl w.heap.size w).alloc (Nat.le_refl _) _).alloc (by simp) _).alloc (by simp;omega) _).alloc (by simp;omega) _,by simp⟩
def put4 (w:World)(R:Nat)(c ln:Int):World:=(((w.setCell ⟨R,0,none⟩ (.slice none 0 0)).setCell ⟨R+1,0,none⟩ (.int .i64 0)).setCell ⟨R+2,0,none⟩ (.int .i64 c)).setCell ⟨R+3,0,none⟩ (.int .i64 ln)
theorem Res4.put (h:Res4 w R v b c ln)(c' ln':Int):Res4 (put4 w R c' ln') R (.slice none 0 0) 0 c' ln':=((h.set0 _).set1 0).set2 c' |>.set3 ln'
theorem put4_below {B:Nat}(hb:B≤R)(c ln:Int):Below B w (put4 w R c ln):=
 ((((Below.refl B w).setCell (p:=⟨R,0,none⟩) hb _).setCell (p:=⟨R+1,0,none⟩) (Nat.le_succ_of_le hb) _).setCell (p:=⟨R+2,0,none⟩) (by show B≤R+2;omega) _).setCell (p:=⟨R+3,0,none⟩) (by show B≤R+3;omega) _
end
theorem que_qry {l:List Tk}{f i j:Nat}{b c:Int}{q:List AskS}{a:AskS}(h:¬ l.length≤i)(hb:isT l i 2 wBudget=false)(hq:q.length≤8)(hr:qryR l i q.length=(c,j,a)) :
  (c≠0→queL l (f+1) i b q=.inr (c,lnOf l i))∧(c=0→queL l (f+1) i b q=queL l f j b (q++[a])∧q.length<8∧kindAt l i≠0∧lineS l (kindAt l i) i=(0,j,a)):=by
 unfold qryR at hr
 split at hr
 ·rename_i hk;simp only [Prod.mk.injEq] at hr;obtain ⟨rfl,-,-⟩:=hr;exact ⟨fun _=>que_kind h hb hk,fun h=>absurd h (by decide)⟩
 ·rename_i hk
  split at hr
  ·rename_i h8;simp only [Prod.mk.injEq] at hr;obtain ⟨rfl,-,-⟩:=hr;exact ⟨fun _=>que_full h hb hk h8,fun h=>absurd h (by decide)⟩
  ·rename_i h8;refine ⟨fun hc=>que_line h hb hk h8 hr hc,fun hc=>?_⟩
   subst hc;exact ⟨que_next h hb hk h8 hr,by omega,hk,hr⟩
section
variable {w w':World} {R M g cap i:Nat} {l:List Tk}
theorem QrAt.setR (h:QrAt w M g cap l i)(E:EnvOn R w)(hM:R+3<M)(hg:R+3<g)(hw:0<R){k:Nat}(hk:R≤k)(hk3:k≤R+3)(u:Value):QrAt (w.setCell ⟨k,0,none⟩ u) M g cap l i where
 box:=(Below.heap_setCell w ⟨k,0,none⟩ u M (by show M≠k;omega)).trans h.box
 gM:=h.gM
 toks:=⟨by simpa [World.setCell] using h.toks.1,fun a t ht j v hv=>(World.cell?_of_block (a:=⟨g,a*4+j,none⟩) (Below.heap_setCell w ⟨k,0,none⟩ u g (by show g≠k;omega))).trans (h.toks.2 a t ht j v hv)⟩
 env:=(E.next ((Below.refl R w).setCell (p:=⟨k,0,none⟩) hk u)).mono (by omega)
 wd:=h.wd.keep (Below.heap_setCell w ⟨k,0,none⟩ u _ (by show _≠k;omega))
 wM:=h.wM
end
theorem kp_below {w w':World}{M B:Nat}(hk:Kp M w w')(hB:B≤M)(hs:B≤w.heap.size):Below B w w':=
 ⟨hk.os,hk.tape,hk.output,hk.size,fun k h=>hk.block k (Nat.lt_of_lt_of_le h hs) (fun e=>by injection e;omega)⟩
structure PaC (w wr:World)(R M:Nat)(A:Option Addr)(cap:Nat)(l:List Tk)(i:Nat)(b:Int)(z:List AskX)(v:Value):Prop where
 box:wr.heap[M]?=some (.cells #[.slice A l.length cap,.int .i64 i] 69 (0,0))
 P:∀ g,A=some ⟨g,0,none⟩→QrAt wr M g cap l i
 E:EnvOn R wr
 res:Res4 wr R v b 0 0
 Z:AsksAt wr (M+1) v z
 B:Below R w wr
section
variable {w wr wr':World} {R M cap g i j:Nat} {A:Option Addr} {l:List Tk} {b:Int} {z:List AskX} {v:Value}
theorem PaC.lt (h:PaC w wr R M A cap l i b z v):M<wr.heap.size:=(Array.getElem?_eq_some_iff.1 h.box).1
theorem PaC.at_ (h:PaC w wr R M A cap l i b z v):atOfM M wr=i:=by
 have:=cell_of_row wr M 1 _ _ (0,0) h.box;unfold atOfM;rw [this];rfl
theorem PaC.qt (h:PaC w wr R M A cap l i b z v)(hq:Qt wr wr'):PaC w wr' R M A cap l i b z v:=
 have hb:=hq.below wr.heap.size
 ⟨(hb.block M h.lt).trans h.box,fun g hg=>(h.P g hg).qt hq,h.E.next (hq.below R),h.res.up hb,h.Z.heap fun b _ hl=>hb.block b hl,h.B.trans (hq.below R)⟩
theorem PaC.kp (h:PaC w wr R M (some ⟨g,0,none⟩) cap l i b z v)(hk:Kp M wr wr')(P:QrAt wr' M g cap l j)(hM:R+3<M):PaC w wr' R M (some ⟨g,0,none⟩) cap l j b z v:=
 have hb:Below R wr wr':=kp_below hk (by omega) (by have:=h.lt;omega)
 ⟨P.box,fun g' hg'=>by cases hg';exact P,h.E.next hb,h.res.kp hk hM,h.Z.kp hk (Nat.lt_succ_self M),h.B.trans hb⟩
theorem PaC.bud (h:PaC w wr R M (some ⟨g,0,none⟩) cap l i b z v)(hM:R+3<M)(hg:R+3<g)(hw:0<R)(n:Int):PaC w (wr.setCell ⟨R+1,0,none⟩ (.int .i64 n)) R M (some ⟨g,0,none⟩) cap l i n z v:=
 have hb:Below R wr (wr.setCell ⟨R+1,0,none⟩ (.int .i64 n)):=(Below.refl R wr).setCell (p:=⟨R+1,0,none⟩) (Nat.le_succ R) _
 ⟨(Below.heap_setCell wr ⟨R+1,0,none⟩ _ M (by show M≠R+1;omega)).trans h.box,fun g' hg'=>by cases hg';exact (h.P g rfl).setR h.E hM hg hw (by omega) (by omega) _,h.E.next hb,h.res.set1 n,
   h.Z.heap fun k hk _=>Below.heap_setCell wr ⟨R+1,0,none⟩ _ k (by show k≠R+1;omega),h.B.trans hb⟩
theorem PaC.push {w8:World}{x:AskX}{xs:List Value}{v':Value}(h:PaC w wr R M (some ⟨g,0,none⟩) cap l i b z v)(hM:R+3<M)(hg:R+3<g)(hw:0<R)
  (h1:wr.ownsRow (M+1) 86 8 x.2.1 x.1.cond.length (flatN x.1.cond)) (h2:wr.ownsRow (M+1) 88 2 x.2.2 x.1.sets.length (flatS x.1.sets))
  (hgr:(wr.alloc (.cells xs.toArray 43)).grownBy w8 v.ownBlock) (ho:w8.ownsRow (M+1) 43 7 v' (z.length+1) (flatA z++askC x)) :
  PaC w (w8.setCell ⟨R,0,none⟩ v') R M (some ⟨g,0,none⟩) cap l i b (z++[x]) v':=by
 have hl:=h.lt;have hX:Below wr.heap.size wr (wr.alloc (.cells xs.toArray 43)):=(Below.refl _ wr).alloc (Nat.le_refl _) _;have hb:Below (M+1) wr w8:=(hX.mono hl).grown hgr (by simp;omega) (fun k hk=>(h.Z.row.lt k hk).1)
 have hZ:=(h.Z.heap fun k _ hk=>hX.block k hk).push (own_heap h1 fun k hk=>hX.block k (h1.lt k hk).2) (own_heap h2 fun k hk=>hX.block k (h2.lt k hk).2) hgr ho
 have P8:QrAt w8 M g cap l i:=(h.P g rfl).keepB hb;have E8:EnvOn R w8:=h.E.next (hb.mono (by omega))
 have hs:Below R w8 (w8.setCell ⟨R,0,none⟩ v'):=(Below.refl R w8).setCell (p:=⟨R,0,none⟩) (Nat.le_refl R) _
 exact ⟨(Below.heap_setCell w8 ⟨R,0,none⟩ _ M (by show M≠R;omega)).trans P8.box,fun g' hg'=>by cases hg';exact P8.setR E8 hM hg hw (Nat.le_refl R) (by omega) _,E8.next hs,
  (h.res.keep fun k _ hk=>hb.block k (by omega)).set0 v',hZ.heap fun k hk _=>Below.heap_setCell w8 ⟨R,0,none⟩ _ k (by show k≠R;omega),(h.B.trans (hb.mono (by omega))).trans hs⟩
theorem PaC.caught (h:PaC w wr R M A cap l i b z v)(c ln:Int):Res4 (Go.Proofs.YtjokciofeicdkaaGreatDoor.caught wr R c ln).drew R (.slice none 0 0) 0 c ln∧Below R w (Go.Proofs.YtjokciofeicdkaaGreatDoor.caught wr R c ln).drew:=by
 have hX:Below wr.heap.size wr (wr.alloc (.cells #[.int .i64 c,.int .i64 ln] 65 (0,0))):=(Below.refl _ wr).alloc (Nat.le_refl _) _;have hR:=h.res.lt;refine ⟨((h.res.up hX).put c ln).keep fun k _ _=>rfl,(h.B.trans ((hX.mono (by omega)).trans (put4_below (Nat.le_refl R) c ln))).trans ((Qt.self _ 1).below R)⟩
end
theorem bud_same {l:List Tk}(hL:Lined l)(hk:kindIs l 0 2=true){c:Int}{j:Nat}(h:budR l 0=(c,j)) :
  (c=0→(budS l).2=0∧j=3∧(budS l).1=(numbS l (0+1) 1 1024).1∧3≤l.length)∧(c≠0→(budS l).2=c∧lnOf l j=lnOf l 0):=by
 have s1:=Stays.step hL hk (by decide)
 unfold budR at h
 by_cases hx:(numbS l 1 1 1024).2=0
 ·rw [if_neg (fun h=>h hx)] at h
  have s2:=s1.trans (numb_in hL hx)
  cases h3:kindIs l 2 1 with
  | false=>
    rw [if_pos h3] at h;simp only [Prod.mk.injEq] at h;obtain ⟨rfl,rfl⟩:=h;rw [bud_end hx h3];exact ⟨fun h=>absurd h (by decide),fun _=>⟨rfl,s2.2.2⟩⟩
  | true=>
    rw [if_neg (by rw [h3];decide)] at h
    simp only [Prod.mk.injEq] at h;obtain ⟨rfl,rfl⟩:=h;rw [bud_ok hx h3];exact ⟨fun _=>⟨hx,rfl,rfl,s2.2.1⟩,fun h=>absurd rfl h⟩
 ·rw [if_pos hx] at h;simp only [Prod.mk.injEq] at h;obtain ⟨rfl,rfl⟩:=h;rw [bud_of hx];exact ⟨fun h=>absurd h hx,fun _=>⟨rfl,s1.2.2⟩⟩
theorem leaves_same {P:Program}{fn:Func}{t t2:Array Value}{R:Ending→World→Prop}(h:results fn t2=results fn t):∀ (ds:List Deferred) (m:FrameMode) (w:World),Leaves P fn t2 R ds m w→Leaves P fn t R ds m w
 | [],.returning,w,hl=>by unfold Leaves at hl ⊢;rwa [h] at hl
 | [],.panicking _,w,hl=>hl
 | [],.run,w,hl=>hl
 | d::ds,m,w,hl=>by
   obtain ⟨h1,fv,cap,f,args,h2,h3,h4⟩:=hl;refine ⟨h1,fv,cap,f,args,h2,h3,h4.mono fun e u w' hx=>?_⟩
   cases e with
   | returned v=>exact leaves_same h ds _ _ hx
   | panicked c=>exact leaves_same h ds _ _ hx
   | outgrown=>exact hx
theorem leaves_put {R:Ending→World→Prop}{a:Act}{k:Nat}{v:Value}(hk:5<k){ds:List Deferred}{m:FrameMode}{w:World}(h:Leaves Tryz.prog Tryz.f9 (a.tmps.setIfInBounds k v) R ds m w):Leaves Tryz.prog Tryz.f9 a.tmps R ds m w:=by
 have hg:∀ j,j≤5→(a.tmps.setIfInBounds k v)[j]?=a.tmps[j]?:=fun j hj=>by rw [Array.getElem?_setIfInBounds,if_neg (by omega)]
 refine leaves_same ?_ ds m w h
 simp [results,Tryz.results9,go_sem,hg 2 (by decide),hg 3 (by decide),hg 4 (by decide),hg 5 (by decide)]
structure PaRel (w wr:World)(R M:Nat)(A:Option Addr)(cap:Nat)(l:List Tk)(f i:Nat)(b:Int)(q:List AskS)(z:List AskX)(v:Value)(r:QueR):Prop where
 C:PaC w wr R M A cap l i b z v
 zq:z.map Prod.fst=q
 R:r=queL l f i b q
 fi:l.length<f+i
 il:i≤l.length
 q8:q.length≤8
theorem q_Parse (s:ByteArray)(w:World)(E:Env w)(hW:WordsAt w)(hs:s.size≤9223372036854775807) :
  Calls Tryz.prog 9 #[.string s] w fun e w'=>QuePost w (queS s) e w':=by
 have hmf:∀ (fn:Fn) (first cap:Array Value) (w:World),(Instr.makeFunc fn first cap).run Tryz.prog w=.ok (.func fn first cap) w:=fun _ _ _ _=>rfl
 by_cases h16:16384<s.size
 ·have H:=Hi (show queS s=.inr (2,0) by unfold queS;rw [if_pos h16])
  have b16:(s.size:Int)>16384:=by omega
  clear h16
  go_enter_defers Tryz.func9,Tryz.ntmps9
  go_upto_region 1 with fail;rw [show w.heap.size+1+1+1=w.heap.size+3 from rfl,show w.heap.size+1+1=w.heap.size+2 from rfl]
  obtain ⟨res0,hb0,hsz0⟩:=res_new w;generalize hW0:(((w.alloc (.cells #[.slice none 0 0] 34 (0,0))).alloc (.cells #[.int .i64 0] 3 (0,0))).alloc (.cells #[.int .i64 0] 27 (0,0))).alloc (.cells #[.int .i64 0] 3 (0,0))=W0 at *;clear hW0;generalize hRe:w.heap.size=R at *;have hRh:=Hi hRe;clear hRe;obtain ⟨⟨x0,x1,x2,x3⟩,y0,y1,y2,y3⟩:=res0.all;have res0:=Hi res0;have hb0:=Hi hb0;go_wp2_with fail;have hr:=res0.out.put 2 0;have hb:=hb0.out.trans (put4_below (w:=W0) (R:=R) (Nat.le_refl R) 2 0);obtain ⟨⟨z0,z1,z2,z3⟩,-⟩:=hr.all;unfold put4 at z0 z1 z2 z3;refine ⟨.tuple #[.slice none 0 0,.int .i64 0,.int .i64 2,.int .i64 0],by simp [results,Tryz.results9,go_sem,z0,z1,z2,z3],QuePost.bad H.out (by rw [hRh.out];exact hb)⟩
 have b16:¬ (s.size:Int)>16384:=by omega
 have cs:=fun W (E:Env W)=>Scan_any s W hs E
 have hqR:∀ x,scanR s=.inr x→queS s=.inr (x.1,x.2.1):=fun x h=>by unfold queS;rw [if_neg h16,h]
 have hqL:∀ l,scanR s=.inl l→queS s=queL l (l.length+1) 0 1024 []:=fun x h=>by unfold queS;rw [if_neg h16,h]
 have hsg:=scanR_good s;obtain ⟨hsm1,hsm2⟩:=scan_same s
 cases hsc:scanR s with
 | inr x=>
   have hq0:=Hi (hqR x hsc);obtain ⟨hx,hss⟩:=hsm2 x hsc;have bx:(x.1 != 0)=true:=by rw [bne,beq_eq_false_iff_ne.2 hx];rfl
   rw [hss] at cs;have cs:=Hi cs;clear hsg hsm1 hsm2 hsc hx h16 hqR hqL hss
   go_enter_defers Tryz.func9,Tryz.ntmps9
   go_upto_region 1 with fail;rw [show w.heap.size+1+1+1=w.heap.size+3 from rfl,show w.heap.size+1+1=w.heap.size+2 from rfl]
   obtain ⟨res0,hb0,hsz0⟩:=res_new w;generalize hW0:(((w.alloc (.cells #[.slice none 0 0] 34 (0,0))).alloc (.cells #[.int .i64 0] 3 (0,0))).alloc (.cells #[.int .i64 0] 27 (0,0))).alloc (.cells #[.int .i64 0] 3 (0,0))=W0 at *;clear hW0;generalize hRe:w.heap.size=R at *;have hRh:=Hi hRe;clear hRe;obtain ⟨⟨x0,x1,x2,x3⟩,y0,y1,y2,y3⟩:=res0.all;have res0:=Hi res0;have hb0:=Hi hb0;have E0:=Hi (E.below (hRh.out▸hb0.out));go_wp2_with (go_at_call 25;refine (cs.out _ E0.out).mono ?_;rintro e w1 ⟨v1,rfl,-,hb1,-⟩;have res1:=res0.out.up hb1;obtain ⟨⟨x0,x1,x2,x3⟩,y0,y1,y2,y3⟩:=res1.all;have res1:=Hi res1;have hb1:=Hi hb1);have hr:=res1.out.put x.1 x.2.1;have hb:=(hb0.out.trans (hb1.out.mono (by omega))).trans (put4_below (w:=w1) (R:=R) (Nat.le_refl R) x.1 x.2.1)
   obtain ⟨⟨z0,z1,z2,z3⟩,-⟩:=hr.all;unfold put4 at z0 z1 z2 z3;refine ⟨.tuple #[.slice none 0 0,.int .i64 0,.int .i64 x.1,.int .i64 x.2.1],by simp [results,Tryz.results9,go_sem,z0,z1,z2,z3],QuePost.bad hq0.out (by rw [hRh.out];exact hb)⟩
 | inl l=>
   have hq0:=Hi (hqL l hsc);have hss:=hsm1 l hsc;obtain ⟨hG,hL⟩:=hsg l hsc;rw [hss] at cs;have cs:=Hi cs;have hwg:=hW.lt;have hW':=Hi hW;have EO:=Hi (EnvOn.of E);clear hsg hsm1 hsm2 hsc h16 hqR hqL hss hW
   go_enter_defers Tryz.func9,Tryz.ntmps9
   go_upto_region 1 with fail;rw [show w.heap.size+1+1+1=w.heap.size+3 from rfl,show w.heap.size+1+1=w.heap.size+2 from rfl]
   obtain ⟨res0,hb0,hsz0⟩:=res_new w;generalize hW0:(((w.alloc (.cells #[.slice none 0 0] 34 (0,0))).alloc (.cells #[.int .i64 0] 3 (0,0))).alloc (.cells #[.int .i64 0] 27 (0,0))).alloc (.cells #[.int .i64 0] 3 (0,0))=W0 at *;clear hW0;generalize hRe:w.heap.size=R at *;have hRh:=Hi hRe;clear hRe;obtain ⟨⟨x0,x1,x2,x3⟩,y0,y1,y2,y3⟩:=res0.all;have res0:=Hi res0;have hb0:=Hi hb0;have E0:=Hi (E.below (hRh.out▸hb0.out));go_upto_region 7 with (go_at_call 25;refine (cs.out _ E0.out).mono ?_;rintro e w1 ⟨v1,rfl,ho1,hb1,hll⟩;have ho1:=Hi ho1;have hb1:=Hi hb1);obtain ⟨A,cap,rfl⟩:=own_shape ho1.out;have hll:l.length≤900000:=by have:l.length≤32769:=hll;omega
   have res1:=res0.out.up hb1.out;obtain ⟨X1,Y1⟩:=one_cell res1.h1 (.cells #[.slice A l.length cap,.int .i64 0] 69 (0,0));clear x0 x1 x2 x3 y0 y1 y2 y3 cs E0;have hbM:Below w1.heap.size w1 (w1.alloc (.cells #[.slice A l.length cap,.int .i64 0] 69 (0,0))):=(Below.refl _ w1).alloc (Nat.le_refl _) _;have res2:=res1.up hbM;have hRM:R+3<w1.heap.size:=res1.lt;have hbR1:Below R w1 (w1.alloc (.cells #[.slice A l.length cap,.int .i64 0] 69 (0,0))):=hbM.mono (by omega)
   have hbR:=(hb0.out.trans (hb1.out.mono (by omega))).trans hbR1
   have E2:EnvOn R (w1.alloc (.cells #[.slice A l.length cap,.int .i64 0] 69 (0,0))):=EO.out.next hbR
   have hgA:∀ g,A=some ⟨g,0,none⟩→R+3<g∧g<w1.heap.size:=fun g hg=>by
    have:=ho1.out.lt g (by rw [hg];rfl)
    omega
   have P2:∀ g,A=some ⟨g,0,none⟩→QrAt (w1.alloc (.cells #[.slice A l.length cap,.int .i64 0] 69 (0,0))) w1.heap.size g cap l 0:=fun g hg=>by
    subst hg;exact ⟨heap_alloc_new w1 _,(hgA g rfl).2,(tokIn_own ho1.out rfl).below hbM (hgA g rfl).2,E2.mono (by omega),hW'.out.keep ((hbR.block _ (by omega))),by omega⟩
   have R0:=Hi (show PaRel w ((w1.alloc (.cells #[.slice A l.length cap,.int .i64 0] 69 (0,0))).setCell ⟨R+1,0,none⟩ (.int .i64 1024)) R w1.heap.size A cap l (l.length+1) 0 1024 [] [] (.slice none 0 0) (queS s) from
    ⟨⟨(Below.heap_setCell _ ⟨R+1,0,none⟩ _ w1.heap.size (by show w1.heap.size≠R+1;omega)).trans (heap_alloc_new w1 _),fun g hg=>(P2 g hg).setR E2 hRM (hgA g hg).1 hwg (by omega) (by omega) _,E2.next ((Below.refl R _).setCell (p:=⟨R+1,0,none⟩) (Nat.le_succ R) _),res2.set1 1024,AsksAt.nil _ _,hbR.trans ((Below.refl R _).setCell (p:=⟨R+1,0,none⟩) (Nat.le_succ R) _)⟩,rfl,hq0.out,by omega,Nat.zero_le _,by decide⟩)
   have hgR:=Hi (fun g hg=>(hgA g hg).1)
   have hAl:=Hi (fun h:0<l.length=>(show ∃ g,A=some ⟨g,0,none⟩ by
    obtain ⟨g,c,he⟩:=Go.Joins.ownsRow_form ho1.out h
    injection he with h1
    exact ⟨g,h1⟩))
   clear res1 res2 hbM hbR1 hbR E2 P2 hb1 hq0 res0 hb0 EO hW' hgA;go_upto_region 10 with fail;clear X1 Y1 ho1;generalize (w1.alloc (.cells #[.slice A l.length cap,.int .i64 0] 69 (0,0))).setCell ⟨R+1,0,none⟩ (.int .i64 1024)=W2 at *;generalize w1.heap.size=M at *
   go_loopw [11] (fun x wr=>∃ (f i:Nat) (b:Int) (q:List AskS) (z:List AskX) (v:Value),x=.bool (decide (i=0))∧Hid (PaRel w wr R M A cap l f i b q z v (queS s))) (fun _ wr=>l.length-atOfM M wr)
   case atStart=>exact ⟨l.length+1,0,1024,[],[],_,rfl,R0⟩
   case round=>
    obtain ⟨f,i,b,q,z,v,rfl,hr⟩:=hrel;obtain ⟨wq,rfl⟩:∃ wq,wq=wr:=⟨_,rfl⟩
    clear R0;have hmu:=Hi hr.out.C.at_;have hfi:=hr.out.fi;have hil:=hr.out.il;have hq8:=hr.out.q8;obtain ⟨f,rfl⟩:∃ f',f=f'+1:=⟨f-1,by omega⟩
    have hRR:=Hi hr.out.R;have hzq:=Hi hr.out.zq;have k0:wq.cell? ⟨M,0,none⟩=some (.slice A l.length cap):=by have:=cell_of_row wq M 0 _ _ (0,0) hr.out.C.box;simpa using this
    have k1:wq.cell? ⟨M,1,none⟩=some (.int .i64 i):=by have:=cell_of_row wq M 1 _ _ (0,0) hr.out.C.box;simpa using this
    have C0:=Hi hr.out.C;clear hr
    by_cases hi:i<l.length
    ·have b1:(i:Int)<(l.length:Int):=by omega
     obtain ⟨g,hgA⟩:=hAl.out (by omega)
     have hg3:=hgR.out g hgA;go_wp2_with fail;go_quiet (fail);have C1:=Hi (C0.out.qt (Qt.self wq nq));clear C0 k0 k1;go_upto_region 12 with fail;generalize wq.drewN nq=W at *;subst hgA;have ci:=Hi (q_is (C1.out.P g rfl) hi 2 wBudget);have hni:¬ l.length≤i:=by omega
     cases hbu:isT l i 2 wBudget with
     | true=>
       rw [hbu] at ci;have hk2:=isT_kind hbu
       by_cases h0:i=0
       ·subst h0;have cb:=fun W (P:QrAt W M g cap l 0)=>q_budget P hk2 hll hG hL
        obtain ⟨⟨c,j⟩,hbr⟩:∃ x,budR l 0=x:=⟨_,rfl⟩
        obtain ⟨hb1,hb2⟩:=bud_same hL hk2 hbr;rw [hbr] at cb;have cb:=Hi cb
        by_cases hc:c=0
        ·subst hc;obtain ⟨hb3,rfl,hb4,hb5⟩:=hb1 rfl;have hR1:=hRR.out.trans (que_bud hni hbu hb3);rw [hb4] at hR1;replace hR1:=Hi hR1;have hfi2:l.length<f+3:=by omega
         have hm2:l.length-3<l.length-0:=by omega
         clear hbr hb1 hb2 hb3 hb4 hbu hk2 hRR;generalize (numbS l (0+1) 1 1024).1=n at *;go_upto_region 13 with (go_at_call 27;refine ci.out.mono ?_;rintro e w3 ⟨rfl,hq3⟩;have C3:=Hi (C1.out.qt hq3));go_wp2_with (go_at_call 28;refine (cb.out _ (C3.out.P g rfl)).mono ?_;rintro e w4 hx;obtain ⟨rfl,hK4,P4⟩:=hx.of rfl;have C4:=C3.out.kp hK4 P4 hRM;obtain ⟨⟨-,x1,-,-⟩,-,y1,-,-⟩:=C4.res.all;have C4:=Hi C4;clear hx);have C5:=C4.out.bud hRM hg3 hwg n;refine ⟨⟨f,3,n,q,z,v,rfl,Hi ⟨C5,hzq.out,hR1.out,hfi2,hb5,hq8⟩⟩,?_⟩;rw [C5.at_,hmu.out];exact hm2
        ·obtain ⟨hb3,hb4⟩:=hb2 hc;have hR1:=hRR.out.trans (que_bad hni hbu (by rw [hb3];exact hc))
         rw [hb3,← hb4] at hR1;replace hR1:=Hi hR1;have hc:=Hi hc;clear hbr hb1 hb2 hb3 hb4 hbu hk2 hRR;go_upto_region 13 with (go_at_call 27;refine ci.out.mono ?_;rintro e w3 ⟨rfl,hq3⟩;have C3:=Hi (C1.out.qt hq3));go_wp2_with (go_at_call 28;refine (cb.out _ (C3.out.P g rfl)).mono ?_;rintro e w4 hx;obtain ⟨rfl,hK4,P4⟩:=hx.off rfl hc.out;have C4:=Hi (C3.out.kp hK4 P4 hRM);clear hx);refine leaves_cons (f:=26) (args:=#[.pointer (some ⟨R,0,none⟩),.pointer (some ⟨R+1,0,none⟩),.pointer (some ⟨R+2,0,none⟩),.pointer (some ⟨R+3,0,none⟩)]) (by simp) (by simp [go_sem]) ?_
         refine (ce_caught R c (lnOf l j) [] _ _ _ _ _ C4.out.res.h0 C4.out.res.h1 C4.out.res.h2 C4.out.res.h3).mono ?_;rintro e u' w9 ⟨rfl,rfl,rfl⟩;obtain ⟨hr9,hb9⟩:=C4.out.caught c (lnOf l j);obtain ⟨⟨z0,z1,z2,z3⟩,-⟩:=hr9.all;generalize (caught _ R c (lnOf l j)).drew=W9 at *;exact ⟨.tuple #[.slice none 0 0,.int .i64 0,.int .i64 c,.int .i64 (lnOf l j)],by simp [results,Tryz.results9,go_sem,z0,z1,z2,z3],QuePost.bad hR1.out (by rw [hRh.out];exact hb9)⟩
       ·have hR1:=Hi (hRR.out.trans (que_late hni hbu h0));have bd:decide (i=0)=false:=decide_eq_false h0;have cb:=Hi (fun W (P:QrAt W M g cap l i)=>q_budget_late P hi)
        clear hbu hk2 hRR h0;go_upto_region 13 with (go_at_call 27;refine ci.out.mono ?_;rintro e w3 ⟨rfl,hq3⟩;have C3:=Hi (C1.out.qt hq3));go_wp2_with (go_at_call 28;refine (cb.out _ (C3.out.P g rfl)).mono ?_;rintro e w4 hx;obtain ⟨rfl,hK4,P4⟩:=hx.off rfl (by decide);have C4:=Hi (C3.out.kp hK4 P4 hRM);clear hx)
        refine leaves_cons (f:=26) (args:=#[.pointer (some ⟨R,0,none⟩),.pointer (some ⟨R+1,0,none⟩),.pointer (some ⟨R+2,0,none⟩),.pointer (some ⟨R+3,0,none⟩)]) (by simp) (by simp [go_sem]) ?_
        refine (ce_caught R 61 (lnOf l i) [] _ _ _ _ _ C4.out.res.h0 C4.out.res.h1 C4.out.res.h2 C4.out.res.h3).mono ?_;rintro e u' w9 ⟨rfl,rfl,rfl⟩;obtain ⟨hr9,hb9⟩:=C4.out.caught 61 (lnOf l i);obtain ⟨⟨z0,z1,z2,z3⟩,-⟩:=hr9.all;generalize (caught _ R 61 (lnOf l i)).drew=W9 at *;exact ⟨.tuple #[.slice none 0 0,.int .i64 0,.int .i64 61,.int .i64 (lnOf l i)],by simp [results,Tryz.results9,go_sem,z0,z1,z2,z3],QuePost.bad hR1.out (by rw [hRh.out];exact hb9)⟩
     | false=>
       rw [hbu] at ci;obtain ⟨⟨c,j,a⟩,hqr⟩:∃ x,qryR l i q.length=x:=⟨_,rfl⟩
       obtain ⟨hn1,hn2⟩:=que_qry (f:=f) (b:=b) hni hbu hq8 hqr;have cq:=fun W (P:QrAt W M g cap l i)=>q_query P hi hll hG hL hq8
       rw [hqr] at cq;have hzl:z.length=q.length:=by rw [← hzq.out,List.length_map]
       have hzl:=Hi hzl;clear hqr hbu;go_upto_region 14 with (go_at_call 27;refine ci.out.mono ?_;rintro e w3 ⟨rfl,hq3⟩;have C3:=Hi (C1.out.qt hq3));obtain ⟨⟨x0,-,-,-⟩,y0,-,-,-⟩:=C3.out.res.all;obtain ⟨vA,vC,hv⟩:=own_shape C3.out.Z.row;rw [hzl.out] at hv;subst hv;have cq3:=Hi (fun W (hq:Qt w3 W)=>cq W ((C3.out.P g rfl).qt hq))
       clear cq ci C1
       by_cases hc:c=0
       ·subst hc;obtain ⟨hR1,h8,hk0,hln⟩:=hn2 rfl;have hi1:i+1<l.length:=(Stays.step hL (isT_kind (kind_is rfl hk0)) (by decide)).2.1
        obtain ⟨hj1,hj2⟩:=line_good hL hi1 hln;have hR1:=Hi (hRR.out.trans hR1);obtain ⟨i0,hi0,hz0,hz1,hz2⟩:=info_parts ask_info;have hi0:=Hi hi0;have hz0:=Hi hz0;have hz1:=Hi hz1;have hz2:=Hi hz2;clear hn1 hn2 hln hk0 hRR hi1;have hM3:M+1≤(w3.drewN 1).heap.size:=C3.out.lt;refine wp_region_any (by kernel_rfl) ?_
        change wpAny _ _ _ _ _ _ _ (World.drew _)
        refine wpAny_take (i:=1) (v:=?v1) rfl (by kernel_rfl) (by kernel_rfl) (by kernel_rfl) (fun c a w h=>leaves_put (k:=46) (by decide) h) (Or.inl ⟨by rfl,?y1⟩) ?r1
        case y1=>(intro w;go_simp;with_reducible rfl)
        refine wpAny_ready (rs:=[0,2]) (by kernel_rfl) (by simp) ?_
        refine AllReady.cons rfl (fun K hK=>?_) ?_
        ·go_simp;refine hK _ _ ?_;clear hK K;refine wpAny_ready (rs:=[2]) (by kernel_rfl) (by simp) ?_
         refine AllReady.cons rfl (fun K hK=>?_) ?_
         ·go_simp;refine hK _ _ ?_;clear hK K;refine wpAny_take (i:=3) (v:=?v2) rfl (by kernel_rfl) (by kernel_rfl) (by kernel_rfl) (fun c a w h=>leaves_put (k:=48) (by decide) h) (Or.inl ⟨by rfl,?y2⟩) ?r2
          case y2=>(intro w;go_simp;with_reducible rfl)
          refine wpAny_ready (rs:=[4]) (by kernel_rfl) (by simp) ?_
          refine AllReady.cons rfl (fun K hK=>?_) ?_
          ·go_simp;go_wp2_with (go_at_call 29;refine (cq3.out _ (Qt.self w3 1)).mono ?_;rintro e w4 hx;obtain ⟨P4,K4,hx2⟩:=hx;obtain ⟨vW,vS,he,ho1,ho2⟩:=(if_pos rfl).mp hx2;obtain ⟨WA,WC,rfl⟩:=own_shape ho1;obtain ⟨SA,SC,rfl⟩:=own_shape ho2;have he:e=.returned (.agg #[.int .i64 a.kind,.string a.src,.string a.dst,.slice WA a.cond.length WC,.string a.along,.slice SA a.sets.length SC,.int .i64 a.hops]):=he;subst he;have C4:=(C3.out.qt (Qt.self w3 1)).kp K4 P4 hRM;obtain ⟨⟨x04,-,-,-⟩,y04,-,-,-⟩:=C4.res.all;have ho1:=Hi (Go.Joins.ownsRow_le ho1 hM3);have ho2:=Hi (Go.Joins.ownsRow_le ho2 hM3);have hZ4:=Hi (show w4.ownsRow (M+1) 43 7 (.slice vA q.length vC) q.length (flatA z) by have:=C4.Z.row;rwa [hzl.out] at this);have hM4:=C4.lt;obtain ⟨x0a,y0a⟩:=one_cell C4.res.h0 (.cells #[.int .i64 a.kind,.string a.src,.string a.dst,.slice WA a.cond.length WC,.string a.along,.slice SA a.sets.length SC,.int .i64 a.hops] 43 (0,0));have C4:=Hi C4;clear hx2 P4 K4)
           refine wpAny_ready (rs:=[5]) (by kernel_rfl) (by simp) ?_
           refine AllReady.cons rfl (fun K hK=>?_) ?_
           ·go_simp;refine hK _ _ ?_;clear hK K;refine wpAny_ready (rs:=[6]) (by kernel_rfl) (by simp) ?_
            refine AllReady.cons rfl (fun K hK=>?_) ?_
            ·refine step_append_lies _ (by rfl) (.tmp 45) (.tmp 50) _ (by rfl) (M+1) 43 i0 _ 7 112 Tryz.underlying34 hi0.out hz0.out hz1.out hz2.out rfl (by decide) (.slice vA q.length vC) q.length (flatA z) (by rfl) (hZ4.out.alloc _) ⟨w4.heap.size,0,none⟩ 1 1 [.int .i64 a.kind,.string a.src,.string a.dst,.slice WA a.cond.length WC,.string a.along,.slice SA a.sets.length SC,.int .i64 a.hops] (by rfl) (by rfl) (World.news_of_block (heap_alloc_new w4 _)) (oc _ rfl) (by decide) (by unfold maxLen;omega) (by omega) (by simp;omega) (w4.heap.size+1) (by simp) ?_
             intro g' cap' w8 hown4 hg4 hat4 hlt4;have hsl:∀ k,k≤M→w8.heap[k]?=w4.heap[k]?:=fun k hk=>(hg4.block k (by simp;omega) (fun e=>by have:=(hZ4.out.lt k e.symm).1;omega)).trans (heap_alloc_old w4 _ (by omega))
             obtain ⟨x08,y08⟩:=cell_one ((hsl R (by omega)).trans C4.out.res.h0)
             have C8:=Hi (C4.out.push (x:=(a,.slice WA a.cond.length WC,.slice SA a.sets.length SC)) (xs:=[.int .i64 a.kind,.string a.src,.string a.dst,.slice WA a.cond.length WC,.string a.along,.slice SA a.sets.length SC,.int .i64 a.hops]) hRM hg3 hwg ho1.out ho2.out hg4 (by rw [hzl.out];exact hown4))
             clear hown4 hg4 hat4 hsl;refine hK _ _ ?_;clear hK K;refine wpAny_ready (rs:=[7]) (by kernel_rfl) (by simp) ?_
             refine AllReady.cons rfl (fun K hK=>?_) ?_
             ·go_simp;refine hK _ _ ?_;clear hK K;refine wpAny_done (by kernel_rfl) ?_ _
              go_wp2_with fail;refine ⟨⟨f,j,b,q++[a],_,_,by rw [decide_eq_false (by omega)],Hi ⟨C8.out,by rw [List.map_append,hzq.out];rfl,hR1.out,by omega,hj2,by rw [List.length_append];show q.length+1≤8;omega⟩⟩,?_⟩
              rw [C8.out.at_,hmu.out];omega
             exact AllReady.nil
            exact AllReady.nil
           exact AllReady.nil
          exact AllReady.nil
         exact AllReady.nil
        refine AllReady.cons rfl (fun K hK=>?_) ?_
        ·go_simp;refine hK _ _ ?_;clear hK K;refine wpAny_take (i:=3) (v:=?v3) rfl (by kernel_rfl) (by kernel_rfl) (by kernel_rfl) (fun c a w h=>leaves_put (k:=48) (by decide) h) (Or.inl ⟨by rfl,?y3⟩) ?r3
         case y3=>(intro w;go_simp;with_reducible rfl)
         refine wpAny_ready (rs:=[0,4]) (by kernel_rfl) (by simp) ?_
         refine AllReady.cons rfl (fun K hK=>?_) ?_
         ·go_simp;refine hK _ _ ?_;clear hK K;refine wpAny_ready (rs:=[4]) (by kernel_rfl) (by simp) ?_
          refine AllReady.cons rfl (fun K hK=>?_) ?_
          ·go_simp;go_wp2_with (go_at_call 29;refine (cq3.out _ (Qt.self w3 1)).mono ?_;rintro e w4 hx;obtain ⟨P4,K4,hx2⟩:=hx;obtain ⟨vW,vS,he,ho1,ho2⟩:=(if_pos rfl).mp hx2;obtain ⟨WA,WC,rfl⟩:=own_shape ho1;obtain ⟨SA,SC,rfl⟩:=own_shape ho2;have he:e=.returned (.agg #[.int .i64 a.kind,.string a.src,.string a.dst,.slice WA a.cond.length WC,.string a.along,.slice SA a.sets.length SC,.int .i64 a.hops]):=he;subst he;have C4:=(C3.out.qt (Qt.self w3 1)).kp K4 P4 hRM;obtain ⟨⟨x04,-,-,-⟩,y04,-,-,-⟩:=C4.res.all;have ho1:=Hi (Go.Joins.ownsRow_le ho1 hM3);have ho2:=Hi (Go.Joins.ownsRow_le ho2 hM3);have hZ4:=Hi (show w4.ownsRow (M+1) 43 7 (.slice vA q.length vC) q.length (flatA z) by have:=C4.Z.row;rwa [hzl.out] at this);have hM4:=C4.lt;obtain ⟨x0a,y0a⟩:=one_cell C4.res.h0 (.cells #[.int .i64 a.kind,.string a.src,.string a.dst,.slice WA a.cond.length WC,.string a.along,.slice SA a.sets.length SC,.int .i64 a.hops] 43 (0,0));have C4:=Hi C4;clear hx2 P4 K4)
           refine wpAny_ready (rs:=[5]) (by kernel_rfl) (by simp) ?_
           refine AllReady.cons rfl (fun K hK=>?_) ?_
           ·go_simp;refine hK _ _ ?_;clear hK K;refine wpAny_ready (rs:=[6]) (by kernel_rfl) (by simp) ?_
            refine AllReady.cons rfl (fun K hK=>?_) ?_
            ·refine step_append_lies _ (by rfl) (.tmp 45) (.tmp 50) _ (by rfl) (M+1) 43 i0 _ 7 112 Tryz.underlying34 hi0.out hz0.out hz1.out hz2.out rfl (by decide) (.slice vA q.length vC) q.length (flatA z) (by rfl) (hZ4.out.alloc _) ⟨w4.heap.size,0,none⟩ 1 1 [.int .i64 a.kind,.string a.src,.string a.dst,.slice WA a.cond.length WC,.string a.along,.slice SA a.sets.length SC,.int .i64 a.hops] (by rfl) (by rfl) (World.news_of_block (heap_alloc_new w4 _)) (oc _ rfl) (by decide) (by unfold maxLen;omega) (by omega) (by simp;omega) (w4.heap.size+1) (by simp) ?_
             intro g' cap' w8 hown4 hg4 hat4 hlt4;have hsl:∀ k,k≤M→w8.heap[k]?=w4.heap[k]?:=fun k hk=>(hg4.block k (by simp;omega) (fun e=>by have:=(hZ4.out.lt k e.symm).1;omega)).trans (heap_alloc_old w4 _ (by omega))
             obtain ⟨x08,y08⟩:=cell_one ((hsl R (by omega)).trans C4.out.res.h0)
             have C8:=Hi (C4.out.push (x:=(a,.slice WA a.cond.length WC,.slice SA a.sets.length SC)) (xs:=[.int .i64 a.kind,.string a.src,.string a.dst,.slice WA a.cond.length WC,.string a.along,.slice SA a.sets.length SC,.int .i64 a.hops]) hRM hg3 hwg ho1.out ho2.out hg4 (by rw [hzl.out];exact hown4))
             clear hown4 hg4 hat4 hsl;refine hK _ _ ?_;clear hK K;refine wpAny_ready (rs:=[7]) (by kernel_rfl) (by simp) ?_
             refine AllReady.cons rfl (fun K hK=>?_) ?_
             ·go_simp;refine hK _ _ ?_;clear hK K;refine wpAny_done (by kernel_rfl) ?_ _
              go_wp2_with fail;refine ⟨⟨f,j,b,q++[a],_,_,by rw [decide_eq_false (by omega)],Hi ⟨C8.out,by rw [List.map_append,hzq.out];rfl,hR1.out,by omega,hj2,by rw [List.length_append];show q.length+1≤8;omega⟩⟩,?_⟩
              rw [C8.out.at_,hmu.out];omega
             exact AllReady.nil
            exact AllReady.nil
           exact AllReady.nil
          exact AllReady.nil
         refine AllReady.cons rfl (fun K hK=>?_) ?_
         ·go_simp;go_wp2_with (go_at_call 29;refine (cq3.out _ (Qt.self w3 1)).mono ?_;rintro e w4 hx;obtain ⟨P4,K4,hx2⟩:=hx;obtain ⟨vW,vS,he,ho1,ho2⟩:=(if_pos rfl).mp hx2;obtain ⟨WA,WC,rfl⟩:=own_shape ho1;obtain ⟨SA,SC,rfl⟩:=own_shape ho2;have he:e=.returned (.agg #[.int .i64 a.kind,.string a.src,.string a.dst,.slice WA a.cond.length WC,.string a.along,.slice SA a.sets.length SC,.int .i64 a.hops]):=he;subst he;have C4:=(C3.out.qt (Qt.self w3 1)).kp K4 P4 hRM;obtain ⟨⟨x04,-,-,-⟩,y04,-,-,-⟩:=C4.res.all;have ho1:=Hi (Go.Joins.ownsRow_le ho1 hM3);have ho2:=Hi (Go.Joins.ownsRow_le ho2 hM3);have hZ4:=Hi (show w4.ownsRow (M+1) 43 7 (.slice vA q.length vC) q.length (flatA z) by have:=C4.Z.row;rwa [hzl.out] at this);have hM4:=C4.lt;obtain ⟨x0a,y0a⟩:=one_cell C4.res.h0 (.cells #[.int .i64 a.kind,.string a.src,.string a.dst,.slice WA a.cond.length WC,.string a.along,.slice SA a.sets.length SC,.int .i64 a.hops] 43 (0,0));have C4:=Hi C4;clear hx2 P4 K4)
          refine wpAny_ready (rs:=[0,5]) (by kernel_rfl) (by simp) ?_
          refine AllReady.cons rfl (fun K hK=>?_) ?_
          ·go_simp;refine hK _ _ ?_;clear hK K;refine wpAny_ready (rs:=[5]) (by kernel_rfl) (by simp) ?_
           refine AllReady.cons rfl (fun K hK=>?_) ?_
           ·go_simp;refine hK _ _ ?_;clear hK K;refine wpAny_ready (rs:=[6]) (by kernel_rfl) (by simp) ?_
            refine AllReady.cons rfl (fun K hK=>?_) ?_
            ·refine step_append_lies _ (by rfl) (.tmp 45) (.tmp 50) _ (by rfl) (M+1) 43 i0 _ 7 112 Tryz.underlying34 hi0.out hz0.out hz1.out hz2.out rfl (by decide) (.slice vA q.length vC) q.length (flatA z) (by rfl) (hZ4.out.alloc _) ⟨w4.heap.size,0,none⟩ 1 1 [.int .i64 a.kind,.string a.src,.string a.dst,.slice WA a.cond.length WC,.string a.along,.slice SA a.sets.length SC,.int .i64 a.hops] (by rfl) (by rfl) (World.news_of_block (heap_alloc_new w4 _)) (oc _ rfl) (by decide) (by unfold maxLen;omega) (by omega) (by simp;omega) (w4.heap.size+1) (by simp) ?_
             intro g' cap' w8 hown4 hg4 hat4 hlt4;have hsl:∀ k,k≤M→w8.heap[k]?=w4.heap[k]?:=fun k hk=>(hg4.block k (by simp;omega) (fun e=>by have:=(hZ4.out.lt k e.symm).1;omega)).trans (heap_alloc_old w4 _ (by omega))
             obtain ⟨x08,y08⟩:=cell_one ((hsl R (by omega)).trans C4.out.res.h0)
             have C8:=Hi (C4.out.push (x:=(a,.slice WA a.cond.length WC,.slice SA a.sets.length SC)) (xs:=[.int .i64 a.kind,.string a.src,.string a.dst,.slice WA a.cond.length WC,.string a.along,.slice SA a.sets.length SC,.int .i64 a.hops]) hRM hg3 hwg ho1.out ho2.out hg4 (by rw [hzl.out];exact hown4))
             clear hown4 hg4 hat4 hsl;refine hK _ _ ?_;clear hK K;refine wpAny_ready (rs:=[7]) (by kernel_rfl) (by simp) ?_
             refine AllReady.cons rfl (fun K hK=>?_) ?_
             ·go_simp;refine hK _ _ ?_;clear hK K;refine wpAny_done (by kernel_rfl) ?_ _
              go_wp2_with fail;refine ⟨⟨f,j,b,q++[a],_,_,by rw [decide_eq_false (by omega)],Hi ⟨C8.out,by rw [List.map_append,hzq.out];rfl,hR1.out,by omega,hj2,by rw [List.length_append];show q.length+1≤8;omega⟩⟩,?_⟩
              rw [C8.out.at_,hmu.out];omega
             exact AllReady.nil
            exact AllReady.nil
           exact AllReady.nil
          refine AllReady.cons rfl (fun K hK=>?_) ?_
          ·go_simp;refine hK _ _ ?_;clear hK K;refine wpAny_ready (rs:=[0]) (by kernel_rfl) (by simp) ?_
           refine AllReady.cons rfl (fun K hK=>?_) ?_
           ·go_simp;refine hK _ _ ?_;clear hK K;refine wpAny_ready (rs:=[6]) (by kernel_rfl) (by simp) ?_
            refine AllReady.cons rfl (fun K hK=>?_) ?_
            ·refine step_append_lies _ (by rfl) (.tmp 45) (.tmp 50) _ (by rfl) (M+1) 43 i0 _ 7 112 Tryz.underlying34 hi0.out hz0.out hz1.out hz2.out rfl (by decide) (.slice vA q.length vC) q.length (flatA z) (by rfl) (hZ4.out.alloc _) ⟨w4.heap.size,0,none⟩ 1 1 [.int .i64 a.kind,.string a.src,.string a.dst,.slice WA a.cond.length WC,.string a.along,.slice SA a.sets.length SC,.int .i64 a.hops] (by rfl) (by rfl) (World.news_of_block (heap_alloc_new w4 _)) (oc _ rfl) (by decide) (by unfold maxLen;omega) (by omega) (by simp;omega) (w4.heap.size+1) (by simp) ?_
             intro g' cap' w8 hown4 hg4 hat4 hlt4;have hsl:∀ k,k≤M→w8.heap[k]?=w4.heap[k]?:=fun k hk=>(hg4.block k (by simp;omega) (fun e=>by have:=(hZ4.out.lt k e.symm).1;omega)).trans (heap_alloc_old w4 _ (by omega))
             obtain ⟨x08,y08⟩:=cell_one ((hsl R (by omega)).trans C4.out.res.h0)
             have C8:=Hi (C4.out.push (x:=(a,.slice WA a.cond.length WC,.slice SA a.sets.length SC)) (xs:=[.int .i64 a.kind,.string a.src,.string a.dst,.slice WA a.cond.length WC,.string a.along,.slice SA a.sets.length SC,.int .i64 a.hops]) hRM hg3 hwg ho1.out ho2.out hg4 (by rw [hzl.out];exact hown4))
             clear hown4 hg4 hat4 hsl;refine hK _ _ ?_;clear hK K;refine wpAny_ready (rs:=[7]) (by kernel_rfl) (by simp) ?_
             refine AllReady.cons rfl (fun K hK=>?_) ?_
             ·go_simp;refine hK _ _ ?_;clear hK K;refine wpAny_done (by kernel_rfl) ?_ _
              go_wp2_with fail;refine ⟨⟨f,j,b,q++[a],_,_,by rw [decide_eq_false (by omega)],Hi ⟨C8.out,by rw [List.map_append,hzq.out];rfl,hR1.out,by omega,hj2,by rw [List.length_append];show q.length+1≤8;omega⟩⟩,?_⟩
              rw [C8.out.at_,hmu.out];omega
             exact AllReady.nil
            exact AllReady.nil
           exact AllReady.nil
          exact AllReady.nil
         exact AllReady.nil
        exact AllReady.nil
       ·have hR1:=Hi (hRR.out.trans (hn1 hc));have hc:=Hi hc;clear hn1 hn2 hRR;refine wp_region_any (by kernel_rfl) ?_
        change wpAny _ _ _ _ _ _ _ (World.drew _)
        refine wpAny_take (i:=1) (v:=?v4) rfl (by kernel_rfl) (by kernel_rfl) (by kernel_rfl) (fun c a w h=>leaves_put (k:=46) (by decide) h) (Or.inl ⟨by rfl,?y4⟩) ?r4
        case y4=>(intro w;go_simp;with_reducible rfl)
        refine wpAny_ready (rs:=[0,2]) (by kernel_rfl) (by simp) ?_
        refine AllReady.cons rfl (fun K hK=>?_) ?_
        ·go_simp;refine hK _ _ ?_;clear hK K;refine wpAny_ready (rs:=[2]) (by kernel_rfl) (by simp) ?_
         refine AllReady.cons rfl (fun K hK=>?_) ?_
         ·go_simp;refine hK _ _ ?_;clear hK K;refine wpAny_take (i:=3) (v:=?v5) rfl (by kernel_rfl) (by kernel_rfl) (by kernel_rfl) (fun c a w h=>leaves_put (k:=48) (by decide) h) (Or.inl ⟨by rfl,?y5⟩) ?r5
          case y5=>(intro w;go_simp;with_reducible rfl)
          refine wpAny_ready (rs:=[4]) (by kernel_rfl) (by simp) ?_
          refine AllReady.cons rfl (fun K hK=>?_) ?_
          ·go_simp;go_wp2_with (go_at_call 29;refine (cq3.out _ (Qt.self w3 1)).mono ?_;rintro e w4 hx;obtain ⟨P4,K4,hx2⟩:=hx;obtain rfl:=(if_neg hc.out).mp hx2;have C4:=Hi ((C3.out.qt (Qt.self w3 1)).kp K4 P4 hRM);clear hx2 P4 K4);refine leaves_cons (f:=26) (args:=#[.pointer (some ⟨R,0,none⟩),.pointer (some ⟨R+1,0,none⟩),.pointer (some ⟨R+2,0,none⟩),.pointer (some ⟨R+3,0,none⟩)]) (by simp) (by simp [go_sem]) ?_
           refine (ce_caught R c (lnOf l i) [] _ _ _ _ _ C4.out.res.h0 C4.out.res.h1 C4.out.res.h2 C4.out.res.h3).mono ?_;rintro e u' w9 ⟨rfl,rfl,rfl⟩;obtain ⟨hr9,hb9⟩:=C4.out.caught c (lnOf l i);obtain ⟨⟨z0,z1,z2,z3⟩,-⟩:=hr9.all;generalize (caught _ R c (lnOf l i)).drew=W9 at *;exact ⟨.tuple #[.slice none 0 0,.int .i64 0,.int .i64 c,.int .i64 (lnOf l i)],by simp [results,Tryz.results9,go_sem,z0,z1,z2,z3],QuePost.bad hR1.out (by rw [hRh.out];exact hb9)⟩
          exact AllReady.nil
         exact AllReady.nil
        refine AllReady.cons rfl (fun K hK=>?_) ?_
        ·go_simp;refine hK _ _ ?_;clear hK K;refine wpAny_take (i:=3) (v:=?v6) rfl (by kernel_rfl) (by kernel_rfl) (by kernel_rfl) (fun c a w h=>leaves_put (k:=48) (by decide) h) (Or.inl ⟨by rfl,?y6⟩) ?r6
         case y6=>(intro w;go_simp;with_reducible rfl)
         refine wpAny_ready (rs:=[0,4]) (by kernel_rfl) (by simp) ?_
         refine AllReady.cons rfl (fun K hK=>?_) ?_
         ·go_simp;refine hK _ _ ?_;clear hK K;refine wpAny_ready (rs:=[4]) (by kernel_rfl) (by simp) ?_
          refine AllReady.cons rfl (fun K hK=>?_) ?_
          ·go_simp;go_wp2_with (go_at_call 29;refine (cq3.out _ (Qt.self w3 1)).mono ?_;rintro e w4 hx;obtain ⟨P4,K4,hx2⟩:=hx;obtain rfl:=(if_neg hc.out).mp hx2;have C4:=Hi ((C3.out.qt (Qt.self w3 1)).kp K4 P4 hRM);clear hx2 P4 K4);refine leaves_cons (f:=26) (args:=#[.pointer (some ⟨R,0,none⟩),.pointer (some ⟨R+1,0,none⟩),.pointer (some ⟨R+2,0,none⟩),.pointer (some ⟨R+3,0,none⟩)]) (by simp) (by simp [go_sem]) ?_
           refine (ce_caught R c (lnOf l i) [] _ _ _ _ _ C4.out.res.h0 C4.out.res.h1 C4.out.res.h2 C4.out.res.h3).mono ?_;rintro e u' w9 ⟨rfl,rfl,rfl⟩;obtain ⟨hr9,hb9⟩:=C4.out.caught c (lnOf l i);obtain ⟨⟨z0,z1,z2,z3⟩,-⟩:=hr9.all;generalize (caught _ R c (lnOf l i)).drew=W9 at *;exact ⟨.tuple #[.slice none 0 0,.int .i64 0,.int .i64 c,.int .i64 (lnOf l i)],by simp [results,Tryz.results9,go_sem,z0,z1,z2,z3],QuePost.bad hR1.out (by rw [hRh.out];exact hb9)⟩
          exact AllReady.nil
         refine AllReady.cons rfl (fun K hK=>?_) ?_
         ·go_simp;go_wp2_with (go_at_call 29;refine (cq3.out _ (Qt.self w3 1)).mono ?_;rintro e w4 hx;obtain ⟨P4,K4,hx2⟩:=hx;obtain rfl:=(if_neg hc.out).mp hx2;have C4:=Hi ((C3.out.qt (Qt.self w3 1)).kp K4 P4 hRM);clear hx2 P4 K4);refine leaves_cons (f:=26) (args:=#[.pointer (some ⟨R,0,none⟩),.pointer (some ⟨R+1,0,none⟩),.pointer (some ⟨R+2,0,none⟩),.pointer (some ⟨R+3,0,none⟩)]) (by simp) (by simp [go_sem]) ?_
          refine (ce_caught R c (lnOf l i) [] _ _ _ _ _ C4.out.res.h0 C4.out.res.h1 C4.out.res.h2 C4.out.res.h3).mono ?_;rintro e u' w9 ⟨rfl,rfl,rfl⟩;obtain ⟨hr9,hb9⟩:=C4.out.caught c (lnOf l i);obtain ⟨⟨z0,z1,z2,z3⟩,-⟩:=hr9.all;generalize (caught _ R c (lnOf l i)).drew=W9 at *;exact ⟨.tuple #[.slice none 0 0,.int .i64 0,.int .i64 c,.int .i64 (lnOf l i)],by simp [results,Tryz.results9,go_sem,z0,z1,z2,z3],QuePost.bad hR1.out (by rw [hRh.out];exact hb9)⟩
         exact AllReady.nil
        exact AllReady.nil
    ·have b1:¬ (i:Int)<(l.length:Int):=by omega
     go_wp2_with fail;go_quiet (fail);have C1:=Hi (C0.out.qt (Qt.self wq nq));clear C0 k0 k1;go_upto_region 15 with fail;generalize wq.drewN nq=W at *;obtain ⟨⟨x0,x1,x2,x3⟩,y0,y1,y2,y3⟩:=C1.out.res.all;obtain ⟨vA,vC,hv⟩:=own_shape C1.out.Z.row;have hzl:z.length=q.length:=by rw [← hzq.out,List.length_map]
     rw [hzl] at hv;subst hv
     by_cases hq:q.length=0
     ·have H:=Hi (hRR.out.trans (que_none (by omega) (List.length_eq_zero_iff.1 hq)))
      have bz:((q.length:Int) == 0)=true:=by rw [hq];rfl
      have hr:=Hi (C1.out.res.put 170 0);have hb:=Hi (C1.out.B.trans (put4_below (Nat.le_refl R) 170 0));clear hRR hzl hq;go_wp2_with fail;refine leaves_cons (f:=26) (args:=#[.pointer (some ⟨R,0,none⟩),.pointer (some ⟨R+1,0,none⟩),.pointer (some ⟨R+2,0,none⟩),.pointer (some ⟨R+3,0,none⟩)]) (by simp) (by simp [go_sem]) ?_
      refine (ce_idle _ _ _ _ _).mono ?_;rintro e u' w9 ⟨rfl,rfl,hb9⟩;have hr9:=hr.out.up hb9;have hB9:=hb.out.trans (hb9.mono (by have:=hb.out.size;rw [hRh.out] at this;exact this))
      obtain ⟨⟨z0,z1,z2,z3⟩,-⟩:=hr9.all;exact ⟨.tuple #[.slice none 0 0,.int .i64 0,.int .i64 170,.int .i64 0],by simp [results,Tryz.results9,go_sem,z0,z1,z2,z3],QuePost.bad H.out (by rw [hRh.out];exact hB9)⟩
     ·have H:=Hi (hRR.out.trans (que_done (by omega) (fun h=>hq (by rw [h];rfl))))
      have bz:((q.length:Int) == 0)=false:=by rw [beq_eq_false_iff_ne];omega
      clear hRR hzl hq;go_wp2_with fail;go_region;go_wp2_with fail;have hr:=((((C1.out.res.set0 (.slice vA q.length vC)).set1 b).set2 0).set3 0);have hr:Res4 (((((W.setCell ⟨R,0,none⟩ (.slice vA q.length vC)).setCell ⟨R+1,0,none⟩ (.int .i64 b)).setCell ⟨R+2,0,none⟩ (.int .i64 0)).setCell ⟨R+3,0,none⟩ (.int .i64 0)).drew) R (.slice vA q.length vC) b 0 0:=hr.keep fun k _ _=>rfl
      have hb:Below R w (((((W.setCell ⟨R,0,none⟩ (.slice vA q.length vC)).setCell ⟨R+1,0,none⟩ (.int .i64 b)).setCell ⟨R+2,0,none⟩ (.int .i64 0)).setCell ⟨R+3,0,none⟩ (.int .i64 0)).drew):=(C1.out.B.trans (((((Below.refl R W).setCell (p:=⟨R,0,none⟩) (Nat.le_refl R) _).setCell (p:=⟨R+1,0,none⟩) (Nat.le_succ R) _).setCell (p:=⟨R+2,0,none⟩) (by show R≤R+2;omega) _).setCell (p:=⟨R+3,0,none⟩) (by show R≤R+3;omega) _)).trans ((Qt.self _ 1).below R)
      have hz:AsksAt (((((W.setCell ⟨R,0,none⟩ (.slice vA q.length vC)).setCell ⟨R+1,0,none⟩ (.int .i64 b)).setCell ⟨R+2,0,none⟩ (.int .i64 0)).setCell ⟨R+3,0,none⟩ (.int .i64 0)).drew) (M+1) (.slice vA q.length vC) z:=C1.out.Z.heap fun k hk _=>((((Below.heap_setCell _ ⟨R+3,0,none⟩ _ k (by show k≠R+3;omega)).trans (Below.heap_setCell _ ⟨R+2,0,none⟩ _ k (by show k≠R+2;omega))).trans (Below.heap_setCell _ ⟨R+1,0,none⟩ _ k (by show k≠R+1;omega))).trans (Below.heap_setCell _ ⟨R,0,none⟩ _ k (by show k≠R;omega)))
      have hr:=Hi hr;have hb:=Hi hb;have hz:=Hi hz;clear x0 x1 x2 x3 y0 y1 y2 y3;generalize ((((W.setCell ⟨R,0,none⟩ (.slice vA q.length vC)).setCell ⟨R+1,0,none⟩ (.int .i64 b)).setCell ⟨R+2,0,none⟩ (.int .i64 0)).setCell ⟨R+3,0,none⟩ (.int .i64 0)).drew=W8 at *;refine leaves_cons (f:=26) (args:=#[.pointer (some ⟨R,0,none⟩),.pointer (some ⟨R+1,0,none⟩),.pointer (some ⟨R+2,0,none⟩),.pointer (some ⟨R+3,0,none⟩)]) (by simp) (by simp [go_sem]) ?_
      refine (ce_idle _ _ _ _ _).mono ?_;rintro e u' w9 ⟨rfl,rfl,hb9⟩;have hr9:=hr.out.up hb9;have hB9:=hb.out.trans (hb9.mono (by have:=hr.out.lt;omega))
      have hz9:=(hz.out.heap fun k _ hk=>hb9.block k hk).le (show R≤M+1 by omega)
      obtain ⟨⟨z0,z1,z2,z3⟩,-⟩:=hr9.all;exact ⟨.tuple #[(.slice vA q.length vC),.int .i64 b,.int .i64 0,.int .i64 0],by simp [results,Tryz.results9,go_sem,z0,z1,z2,z3],QuePost.ok H.out (by rw [hRh.out];exact hB9) (by rw [hRh.out];exact hz9) hzq.out⟩
end Go.Proofs.YtjokciofeicdkaaGreatDoor

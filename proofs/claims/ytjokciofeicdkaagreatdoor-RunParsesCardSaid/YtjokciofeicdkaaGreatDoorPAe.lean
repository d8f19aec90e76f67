/- A part of the proof of RunParses: AskB QueQ LawB EnvB. -/
import Derived.Test.YtjokciofeicdkaaGreatDoorPZ
import Derived.Test.YtjokciofeicdkaaGreatDoorPF
import Derived.Laws.StructEq
import Derived.Test.YtjokciofeicdkaaGreatDoorPAb
import Derived.KernelRfl
import Derived.Test.YtjokciofeicdkaaGreatDoorPAh
import Derived.Test.YtjokciofeicdkaaGreatDoorPAd
import Derived.Test.YtjokciofeicdkaaGreatDoorRows
import Derived.Lib.LaidU8
import Derived.PinnedBridge
import Derived.OpenShut
import Derived.MakeChecks
import Derived.Stop.Joined
import Derived.Shelf.Vars
set_option maxHeartbeats 16000000
set_option maxRecDepth 100000
set_option linter.all false
namespace Go.Proofs.YtjokciofeicdkaaGreatDoor
open Go.RowKit
theorem eq_node (n:Nd)(w:World):(Op.equalIn 10000 86 (.agg n.cells.toArray) (.agg n.cells.toArray)).run Tryz.prog w=.ok true w:=by
 have u3:=Tryz.underlying3;have a3:=Tryz.isAgg3;have z3:=Tryz.sizeOf3;have u9:=Tryz.underlying9;have a9:=Tryz.isAgg9;have z9:=Tryz.sizeOf9;have hS:Tryz.prog.underlying 86=some (.struct (Tryz.prog.fieldsOf 86)):=by kernel_rfl
 rw [show (10000:Nat)=9999+1 from rfl,run_equalIn_agg w 9999 86 _ _ hS (by kernel_rfl)]
 simp only [Program.fieldsOf,Tryz.underlying86,Nd.cells];go_simp
theorem eq_setv (s:ByteArray)(v:Int)(w:World):(Op.equalIn 10000 88 (.agg #[.string s,.int .i64 v]) (.agg #[.string s,.int .i64 v])).run Tryz.prog w=.ok true w:=by
 have u3:=Tryz.underlying3;have a3:=Tryz.isAgg3;have z3:=Tryz.sizeOf3;have u9:=Tryz.underlying9;have a9:=Tryz.isAgg9;have z9:=Tryz.sizeOf9;have hS:Tryz.prog.underlying 88=some (.struct (Tryz.prog.fieldsOf 88)):=by kernel_rfl
 rw [show (10000:Nat)=9999+1 from rfl,run_equalIn_agg w 9999 88 _ _ hS (by kernel_rfl)]
 simp only [Program.fieldsOf,Tryz.underlying88];go_simp
theorem flatN_at (l:List Nd)(k:Nat)(t:Nd)(h:l[k]?=some t)(j:Nat)(u:Value)(hj:t.cells[j]?=some u):(flatN l)[k*8+j]?=some u:=by
 refine flatten_at 8 _ (fun c hc=>?_) k j t.cells u (by rw [List.getElem?_map,h];rfl) hj
 obtain ⟨t,_,rfl⟩:=List.mem_map.1 hc
 rfl
theorem flatS_at (l:List (ByteArray×Int))(k:Nat)(t:ByteArray×Int)(h:l[k]?=some t)(j:Nat)(u:Value)(hj:(setV t)[j]?=some u):(flatS l)[k*2+j]?=some u:=by
 unfold flatS;rw [List.flatMap_def];refine flatten_at 2 _ (fun c hc=>?_) k j (setV t) u (by rw [List.getElem?_map,h];rfl) hj
 obtain ⟨t,_,rfl⟩:=List.mem_map.1 hc
 rfl
theorem own_max {w:World}{B k n:Nat}{T:TypeId}{v:Value}{xs:List Value}(h:w.ownsRow B T k v n xs):n≤9223372036854775807:=by
 rcases h.2 with ⟨-,rfl⟩|⟨g,cap,cur,-,-,-,h1,h2,-⟩
 ·exact Nat.zero_le _
 ·unfold maxLen at h2;omega
theorem row_cell {w:World}{B k n c g:Nat}{T:TypeId}{A:Option Addr}{xs:List Value}(h:w.ownsRow B T k (.slice A n c) n xs)(hA:A=some ⟨g,0,none⟩)(j:Nat)(u:Value)(hj:xs[j]?=some u):w.cell? ⟨g,j,none⟩=some u:=by
 subst hA;rw [h.cellAt j (by have:=(List.getElem?_eq_some_iff.1 hj).1;have:=h.1;omega)];exact hj
theorem h_asks {w:World}{N N2:Nat}{a:AskS}{vW vS uW uS:Value}(hW1:w.ownsRow N 86 8 vW a.cond.length (flatN a.cond))(hS1:w.ownsRow N 88 2 vS a.sets.length (flatS a.sets))(hW2:w.ownsRow N2 86 8 uW a.cond.length (flatN a.cond))(hS2:w.ownsRow N2 88 2 uS a.sets.length (flatS a.sets)) :
  Calls Tryz.prog 11 #[.agg (akBox a vW vS),.agg (akBox a uW uS)] w fun e w'=>e=.returned (.bool true)∧Below w.heap.size w w':=by
 have hl1:=own_max hW1;have hl2:=own_max hS1;obtain ⟨A1,c1,rfl⟩:=own_shape hW1;obtain ⟨A2,c2,rfl⟩:=own_shape hW2;obtain ⟨B1,d1,rfl⟩:=own_shape hS1;obtain ⟨B2,d2,rfl⟩:=own_shape hS2
 show Calls Tryz.prog 11 #[.agg #[.int .i64 a.kind,.string a.src,.string a.dst,.slice A1 a.cond.length c1,.string a.along,.slice B1 a.sets.length d1,.int .i64 a.hops],.agg #[.int .i64 a.kind,.string a.src,.string a.dst,.slice A2 a.cond.length c2,.string a.along,.slice B2 a.sets.length d2,.int .i64 a.hops]] w _
 have hbA:Below w.heap.size w (w.alloc (.cells #[.int .i64 a.kind,.string a.src,.string a.dst,.slice A1 a.cond.length c1,.string a.along,.slice B1 a.sets.length d1,.int .i64 a.hops] 43 (0,0))):=(Below.refl _ w).alloc (Nat.le_refl _) _;have hbB:Below w.heap.size w ((w.alloc (.cells #[.int .i64 a.kind,.string a.src,.string a.dst,.slice A1 a.cond.length c1,.string a.along,.slice B1 a.sets.length d1,.int .i64 a.hops] 43 (0,0))).alloc (.cells #[.int .i64 a.kind,.string a.src,.string a.dst,.slice A2 a.cond.length c2,.string a.along,.slice B2 a.sets.length d2,.int .i64 a.hops] 43 (0,0))):=hbA.alloc (by simp) _
 have hz1:((w.alloc (.cells #[.int .i64 a.kind,.string a.src,.string a.dst,.slice A1 a.cond.length c1,.string a.along,.slice B1 a.sets.length d1,.int .i64 a.hops] 43 (0,0))).alloc (.cells #[.int .i64 a.kind,.string a.src,.string a.dst,.slice A2 a.cond.length c2,.string a.along,.slice B2 a.sets.length d2,.int .i64 a.hops] 43 (0,0))).heap[w.heap.size]?=some (.cells #[.int .i64 a.kind,.string a.src,.string a.dst,.slice A1 a.cond.length c1,.string a.along,.slice B1 a.sets.length d1,.int .i64 a.hops] 43 (0,0)):=(heap_alloc_old _ _ (by simp)).trans (heap_alloc_new w _)
 have hz2:((w.alloc (.cells #[.int .i64 a.kind,.string a.src,.string a.dst,.slice A1 a.cond.length c1,.string a.along,.slice B1 a.sets.length d1,.int .i64 a.hops] 43 (0,0))).alloc (.cells #[.int .i64 a.kind,.string a.src,.string a.dst,.slice A2 a.cond.length c2,.string a.along,.slice B2 a.sets.length d2,.int .i64 a.hops] 43 (0,0))).heap[w.heap.size+1]?=some (.cells #[.int .i64 a.kind,.string a.src,.string a.dst,.slice A2 a.cond.length c2,.string a.along,.slice B2 a.sets.length d2,.int .i64 a.hops] 43 (0,0)):=by
  have:=heap_alloc_new (w.alloc (.cells #[.int .i64 a.kind,.string a.src,.string a.dst,.slice A1 a.cond.length c1,.string a.along,.slice B1 a.sets.length d1,.int .i64 a.hops] 43 (0,0))) (.cells #[.int .i64 a.kind,.string a.src,.string a.dst,.slice A2 a.cond.length c2,.string a.along,.slice B2 a.sets.length d2,.int .i64 a.hops] 43 (0,0))
  rwa [show (w.alloc (.cells #[.int .i64 a.kind,.string a.src,.string a.dst,.slice A1 a.cond.length c1,.string a.along,.slice B1 a.sets.length d1,.int .i64 a.hops] 43 (0,0))).heap.size=w.heap.size+1 by simp] at this
 have hW1:=Hi (own_heap hW1 fun g hg=>hbB.block g (hW1.lt g hg).2)
 have hW2:=Hi (own_heap hW2 fun g hg=>hbB.block g (hW2.lt g hg).2)
 have hS1:=Hi (own_heap hS1 fun g hg=>hbB.block g (hS1.lt g hg).2)
 have hS2:=Hi (own_heap hS2 fun g hg=>hbB.block g (hS2.lt g hg).2)
 have hb0:=Hi hbB;have hz1:=Hi hz1;have hz2:=Hi hz2;clear hbA hbB;go_enter Tryz.func11,Tryz.ntmps11;go_upto_region 1 with fail;generalize (w.alloc (.cells #[.int .i64 a.kind,.string a.src,.string a.dst,.slice A1 a.cond.length c1,.string a.along,.slice B1 a.sets.length d1,.int .i64 a.hops] 43 (0,0))).alloc (.cells #[.int .i64 a.kind,.string a.src,.string a.dst,.slice A2 a.cond.length c2,.string a.along,.slice B2 a.sets.length d2,.int .i64 a.hops] 43 (0,0))=W at *;obtain ⟨x0,x1,x2,x3,x4,x5,x6⟩:=ask_cells hz1.out;obtain ⟨y0,y1,y2,y3,y4,y5,y6⟩:=ask_cells hz2.out;have hK1:=(Array.getElem?_eq_some_iff.1 hz1.out).1;have hK2:=(Array.getElem?_eq_some_iff.1 hz2.out).1;go_upto_region 4 with fail;have Q0:=Hi (Qt.refl W)
 go_loopw [5] (fun x wr=>∃ i:Nat,x=.int .i64 i∧i≤a.cond.length∧Hid (Qt W wr)) (fun x _=>a.cond.length-(intOf x).toNat)
 case atStart=>exact ⟨0,rfl,Nat.zero_le _,Q0⟩
 case round=>
  obtain ⟨i,rfl,hi,hq⟩:=hrel;obtain ⟨wq,rfl⟩:∃ wq,wq=wr:=⟨_,rfl⟩
  clear Q0;have hbq:=hq.out.below W.heap.size;have x3:=(hbq.cell (p:=⟨w.heap.size,3,none⟩) hK1).trans x3;have y3:=(hbq.cell (p:=⟨w.heap.size+1,3,none⟩) hK2).trans y3
  by_cases hin:i<a.cond.length
  ·have b1:(i:Int)<(a.cond.length:Int):=by omega
   have b0:(0:Int)≤(i:Int):=by omega
   have bw:=wS i (by omega)
   obtain ⟨n,hn⟩:∃ n,a.cond[i]?=some n:=⟨_,List.getElem?_eq_getElem hin⟩
   obtain ⟨g1,k1,hg1⟩:=Go.Joins.ownsRow_form hW1.out (by omega)
   obtain ⟨g2,k2,hg2⟩:=Go.Joins.ownsRow_form hW2.out (by omega)
   injection hg1 with hg1 _ hc1
   injection hg2 with hg2 _ hc2
   have hg1c:=fun j u (h:(flatN a.cond)[j]?=some u)=>(hbq.cell (p:=⟨g1,j,none⟩) (hW1.out.lt g1 (by rw [hg1];rfl)).2).trans (row_cell hW1.out hg1 j u h)
   have hg2c:=fun j u (h:(flatN a.cond)[j]?=some u)=>(hbq.cell (p:=⟨g2,j,none⟩) (hW2.out.lt g2 (by rw [hg2];rfl)).2).trans (row_cell hW2.out hg2 j u h)
   subst hg1 hg2 hc1 hc2;have e0:wq.cell? ⟨g1,i*8,none⟩=some (.int .i64 n.kind):=hg1c _ _ (flatN_at a.cond i n hn 0 _ rfl);have e1:wq.cell? ⟨g1,i*8+1,none⟩=some (.string n.field):=hg1c _ _ (flatN_at a.cond i n hn 1 _ rfl);have e2:wq.cell? ⟨g1,i*8+2,none⟩=some (.int .i64 n.op):=hg1c _ _ (flatN_at a.cond i n hn 2 _ rfl);have e3:wq.cell? ⟨g1,i*8+3,none⟩=some (.int .i64 n.form):=hg1c _ _ (flatN_at a.cond i n hn 3 _ rfl);have e4:wq.cell? ⟨g1,i*8+4,none⟩=some (.int .i64 n.lo):=hg1c _ _ (flatN_at a.cond i n hn 4 _ rfl);have e5:wq.cell? ⟨g1,i*8+5,none⟩=some (.int .i64 n.hi):=hg1c _ _ (flatN_at a.cond i n hn 5 _ rfl);have e6:wq.cell? ⟨g1,i*8+6,none⟩=some (.int .i64 n.len):=hg1c _ _ (flatN_at a.cond i n hn 6 _ rfl);have e7:wq.cell? ⟨g1,i*8+7,none⟩=some (.string n.pat):=hg1c _ _ (flatN_at a.cond i n hn 7 _ rfl);have f0:wq.cell? ⟨g2,i*8,none⟩=some (.int .i64 n.kind):=hg2c _ _ (flatN_at a.cond i n hn 0 _ rfl);have f1:wq.cell? ⟨g2,i*8+1,none⟩=some (.string n.field):=hg2c _ _ (flatN_at a.cond i n hn 1 _ rfl);have f2:wq.cell? ⟨g2,i*8+2,none⟩=some (.int .i64 n.op):=hg2c _ _ (flatN_at a.cond i n hn 2 _ rfl);have f3:wq.cell? ⟨g2,i*8+3,none⟩=some (.int .i64 n.form):=hg2c _ _ (flatN_at a.cond i n hn 3 _ rfl);have f4:wq.cell? ⟨g2,i*8+4,none⟩=some (.int .i64 n.lo):=hg2c _ _ (flatN_at a.cond i n hn 4 _ rfl);have f5:wq.cell? ⟨g2,i*8+5,none⟩=some (.int .i64 n.hi):=hg2c _ _ (flatN_at a.cond i n hn 5 _ rfl);have f6:wq.cell? ⟨g2,i*8+6,none⟩=some (.int .i64 n.len):=hg2c _ _ (flatN_at a.cond i n hn 6 _ rfl);have f7:wq.cell? ⟨g2,i*8+7,none⟩=some (.string n.pat):=hg2c _ _ (flatN_at a.cond i n hn 7 _ rfl);have hE:∀ w,(Op.equalIn 10000 86 (.agg #[.int .i64 n.kind,.string n.field,.int .i64 n.op,.int .i64 n.form,.int .i64 n.lo,.int .i64 n.hi,.int .i64 n.len,.string n.pat]) (.agg #[.int .i64 n.kind,.string n.field,.int .i64 n.op,.int .i64 n.form,.int .i64 n.lo,.int .i64 n.hi,.int .i64 n.len,.string n.pat])).run Tryz.prog w=.ok true w:=fun w=>eq_node n w
   clear hg1c hg2c hn;go_wp2_with fail;go_quiet (fail);go_wp2_with fail
   go_round
   case rel=>exact ⟨i+1,rfl,by omega,Hi (hq.out.trans (Qt.self _ _))⟩
   case measure=>simp [intOf];omega
  ·have b1:¬ (i:Int)<(a.cond.length:Int):=by omega
   have hq3:=Hi (hq.out.below W.heap.size);have hSa:=Hi (own_heap hS1.out fun g hg=>hq3.out.block g (hS1.out.lt g hg).2)
   have hSb:=Hi (own_heap hS2.out fun g hg=>hq3.out.block g (hS2.out.lt g hg).2)
   have x5:=(hq3.out.cell (p:=⟨w.heap.size,5,none⟩) hK1).trans x5;have y5:=(hq3.out.cell (p:=⟨w.heap.size+1,5,none⟩) hK2).trans y5;have hK1:=Nat.lt_of_lt_of_le hK1 hq3.out.size;have hK2:=Nat.lt_of_lt_of_le hK2 hq3.out.size;have hb3:=Hi (hb0.out.trans (hq3.out.mono hb0.out.size));go_upto_region 9 with fail;clear hq hbq hq3;generalize wq=W3 at *;have Q0:=Hi (Qt.refl W3)
   go_loopw [6] (fun x wr=>∃ i:Nat,x=.int .i64 i∧i≤a.sets.length∧Hid (Qt W3 wr)) (fun x _=>a.sets.length-(intOf x).toNat)
   case atStart=>exact ⟨0,rfl,Nat.zero_le _,Q0⟩
   case round=>
    obtain ⟨i,rfl,hi,hq⟩:=hrel;obtain ⟨wq,rfl⟩:∃ wq,wq=wr:=⟨_,rfl⟩
    clear Q0;have hbq:=hq.out.below W3.heap.size;have x5:=(hbq.cell (p:=⟨w.heap.size,5,none⟩) hK1).trans x5;have y5:=(hbq.cell (p:=⟨w.heap.size+1,5,none⟩) hK2).trans y5
    by_cases hin:i<a.sets.length
    ·have b1:(i:Int)<(a.sets.length:Int):=by omega
     have b0:(0:Int)≤(i:Int):=by omega
     have bw:=wS i (by omega)
     obtain ⟨n,hn⟩:∃ n,a.sets[i]?=some n:=⟨_,List.getElem?_eq_getElem hin⟩
     obtain ⟨g1,k1,hg1⟩:=Go.Joins.ownsRow_form hSa.out (by omega)
     obtain ⟨g2,k2,hg2⟩:=Go.Joins.ownsRow_form hSb.out (by omega)
     injection hg1 with hg1 _ hc1
     injection hg2 with hg2 _ hc2
     have hg1c:=fun j u (h:(flatS a.sets)[j]?=some u)=>(hbq.cell (p:=⟨g1,j,none⟩) (hSa.out.lt g1 (by rw [hg1];rfl)).2).trans (row_cell hSa.out hg1 j u h)
     have hg2c:=fun j u (h:(flatS a.sets)[j]?=some u)=>(hbq.cell (p:=⟨g2,j,none⟩) (hSb.out.lt g2 (by rw [hg2];rfl)).2).trans (row_cell hSb.out hg2 j u h)
     subst hg1 hg2 hc1 hc2;have e0:wq.cell? ⟨g1,i*2,none⟩=some (.string n.1):=hg1c _ _ (flatS_at a.sets i n hn 0 _ rfl);have e1:wq.cell? ⟨g1,i*2+1,none⟩=some (.int .i64 n.2):=hg1c _ _ (flatS_at a.sets i n hn 1 _ rfl);have f0:wq.cell? ⟨g2,i*2,none⟩=some (.string n.1):=hg2c _ _ (flatS_at a.sets i n hn 0 _ rfl);have f1:wq.cell? ⟨g2,i*2+1,none⟩=some (.int .i64 n.2):=hg2c _ _ (flatS_at a.sets i n hn 1 _ rfl);have hE:∀ w,(Op.equalIn 10000 88 (.agg #[.string n.1,.int .i64 n.2]) (.agg #[.string n.1,.int .i64 n.2])).run Tryz.prog w=.ok true w:=fun w=>eq_setv n.1 n.2 w
     clear hg1c hg2c hn;go_wp2_with fail;go_quiet (fail);go_wp2_with fail
     go_round
     case rel=>exact ⟨i+1,rfl,by omega,Hi (hq.out.trans (Qt.self _ _))⟩
     case measure=>simp [intOf];omega
    ·have b1:¬ (i:Int)<(a.sets.length:Int):=by omega
     go_wp2_with fail;go_ret;exact ⟨rfl,hb3.out.trans (hq.out.below _)⟩
abbrev lawQ:ByteArray:=⟨#[114,101,97,99,104,32,66,46,105,32,116,111,32,66,46,111,32,119,104,101,114,101,32,97,110,121,32,104,111,112,115,32,49]⟩
def oneQ (r:QueR):Bool:=match r with
 | .inl x=>x.1.length == 1
 | .inr _=>false
theorem lawQ_one:oneQ (queS lawQ)=true:=by kernel_rfl
theorem oneQ_out {r:QueR}(h:oneQ r=true):∃ a b,r=.inl ([a],b):=by
 cases r with
 | inr x=>cases h
 | inl x=>
   obtain ⟨q,b⟩:=x;have h:(q.length == 1)=true:=h;rw [beq_iff_eq] at h;obtain ⟨a,rfl⟩:=List.length_eq_one_iff.1 h;exact ⟨a,b,rfl⟩
end Go.Proofs.YtjokciofeicdkaaGreatDoor
namespace Go.Proofs.YtjokciofeicdkaaGreatDoor
open Go.RowKit
attribute [local go_sem ↓] Go.wp_at_zero Go.wp_at_succ
theorem AsksAt.cells {w:World}{N i:Nat}{v:Value}{z:List AskX}{x:AskX}(h:AsksAt w N v z)(hx:z[i]?=some x) :
  ∃ g cap,v=.slice (some ⟨g,0,none⟩) z.length cap∧g<w.heap.size∧w.cell? ⟨g,i*7,none⟩=some (.int .i64 x.1.kind)∧w.cell? ⟨g,i*7+1,none⟩=some (.string x.1.src)∧w.cell? ⟨g,i*7+2,none⟩=some (.string x.1.dst)∧w.cell? ⟨g,i*7+3,none⟩=some x.2.1∧w.cell? ⟨g,i*7+4,none⟩=some (.string x.1.along)∧w.cell? ⟨g,i*7+5,none⟩=some x.2.2∧w.cell? ⟨g,i*7+6,none⟩=some (.int .i64 x.1.hops):=by
 have hi:=(List.getElem?_eq_some_iff.1 hx).1;obtain ⟨g,cap,rfl⟩:=Go.Joins.ownsRow_form h.row (by omega)
 have hc:=fun j u hj=>row_cell h.row rfl _ _ (flatA_at z i x hx j u hj)
 exact ⟨g,cap,rfl,(h.row.lt g rfl).2,hc 0 _ rfl,hc 1 _ rfl,hc 2 _ rfl,hc 3 _ rfl,hc 4 _ rfl,hc 5 _ rfl,hc 6 _ rfl⟩
theorem AsksAt.same {z y:List AskX}(h:z.map Prod.fst=y.map Prod.fst){i:Nat}{x u:AskX}(hx:z[i]?=some x)(hu:y[i]?=some u):u.1=x.1:=by
 have:=congrArg (·[i]?) h;simp only [List.getElem?_map,hx,hu,Option.map_some,Option.some.injEq] at this;exact this.symm
def queQ:QueR→List AskS|.inl x=>x.1|.inr _=>[]
def queB:QueR→Int|.inl x=>x.2|.inr _=>0
def queC:QueR→Int|.inl _=>0|.inr x=>x.1
def queE:QueR→Int|.inl _=>0|.inr x=>x.2
theorem QuePost.all {w w':World}{r:QueR}{e:Ending}(h:QuePost w r e w'):Below w.heap.size w w'∧∃ (v:Value) (z:List AskX),e=.returned (.tuple #[v,.int .i64 (queB r),.int .i64 (queC r),.int .i64 (queE r)])∧AsksAt w' w.heap.size v z∧z.map Prod.fst=queQ r:=by
 obtain ⟨hb,h⟩:=h
 cases r with
 | inr x=>exact ⟨hb,_,[],h,AsksAt.nil _ _,rfl⟩
 | inl x=>exact ⟨hb,h⟩
theorem law_parses (s:ByteArray)(w:World)(E:Env w)(hW:WordsAt w)(hS:SignsR w)(hs:s.size≤9223372036854775807) :
  Calls Tryz.prog 4 #[.string s] w fun e w'=>e=.returned (.bool true)∧Below w.heap.size w w':=by
 have cp:=Hi (q_Parse s w E hW hs);have cr:=Hi (fun W (hb:Below w.heap.size w W)=>h_Parse s W (hS.below hb) hs)
 obtain ⟨ask,bud,hq⟩:=oneQ_out lawQ_one;have cq:=fun W (hb:Below w.heap.size w W)=>q_Parse lawQ W (E.below hb) (hW.keep (hb.block _ hW.lt)) (by decide)
 rw [hq] at cq;have cq:=Hi cq;clear hq E hW hS hs;generalize queS s=r at *;obtain ⟨B,hB⟩:∃ x,queB r=x:=⟨_,rfl⟩
 obtain ⟨C,hC⟩:∃ x,queC r=x:=⟨_,rfl⟩
 obtain ⟨L,hL⟩:∃ x,queE r=x:=⟨_,rfl⟩
 have ha:=fun (w w':World) (e:Ending) (h:QuePost w r e w')=>h.all
 simp only [hB,hC,hL] at ha;replace ha:=Hi ha;clear hB hC hL;go_enter Tryz.func4,Tryz.ntmps4;go_upto_region 3 with (first|(go_at_call 9;refine cp.out.mono ?_;rintro e w1 hx;obtain ⟨hb1,v,z,rfl,hz,hzq⟩:=ha.out _ _ _ hx;have hb1:=Hi hb1;have hz:=Hi hz;have hzq:=Hi hzq;clear hx)|(go_at_call 10;refine (cr.out _ hb1.out).mono ?_;rintro e w2 hx;obtain ⟨hb2,u,y,rfl,hy,hyq⟩:=ha.out _ _ _ hx;have hz2:=Hi (hz.out.heap fun k _ hk=>hb2.block k hk);have hb2:=Hi (hb1.out.trans (hb2.mono hb1.out.size));have hy:=Hi hy;have hyq:=Hi hyq;clear hx))
 have hsame:=Hi (hzq.out.trans hyq.out.symm);have hlen:y.length=z.length:=by have:=congrArg List.length hsame.out;simpa using this.symm
 have hzm:=own_max hz2.out.row;obtain ⟨A1,k1,rfl⟩:=own_shape hz2.out.row;obtain ⟨A2,k2,hu⟩:=own_shape hy.out.row;rw [hlen] at hu;subst hu;replace hlen:=Hi hlen;clear hz hb1 cp cr hzq hyq ha;go_upto_region 6 with fail;have B0:=Hi (Below.refl w2.heap.size w2)
 go_loopw [11] (fun x wr=>∃ i:Nat,x=.int .i64 i∧i≤z.length∧Hid (Below w2.heap.size w2 wr)) (fun x _=>z.length-(intOf x).toNat)
 case atStart=>exact ⟨0,rfl,Nat.zero_le _,B0⟩
 case round=>
  obtain ⟨i,rfl,hi,hb⟩:=hrel;obtain ⟨wq,rfl⟩:∃ wq,wq=wr:=⟨_,rfl⟩
  clear B0
  by_cases hin:i<z.length
  ·have b1:(i:Int)<(z.length:Int):=by omega
   have b0:(0:Int)≤(i:Int):=by omega
   have bw:=wS i (by omega)
   obtain ⟨⟨a,vW,vS⟩,hx⟩:∃ n,z[i]?=some n:=⟨_,List.getElem?_eq_getElem hin⟩
   obtain ⟨⟨a2,uW,uS⟩,ht⟩:∃ n,y[i]?=some n:=⟨_,List.getElem?_eq_getElem (by rw [hlen.out];exact hin)⟩
   have hts:a2=a:=AsksAt.same hsame.out hx ht;subst hts;have hz3:=hz2.out.heap (w':=wq) fun k _ hk=>hb.out.block k hk
   have hy3:=hy.out.heap (w':=wq) fun k _ hk=>hb.out.block k hk
   obtain ⟨g1,d1,hg1,hl1,e0,e1,e2,e3,e4,e5,e6⟩:=hz3.cells hx;obtain ⟨g2,d2,hg2,hl2,f0,f1,f2,f3,f4,f5,f6⟩:=hy3.cells ht;dsimp only at e0 e1 e2 e3 e4 e5 e6 f0 f1 f2 f3 f4 f5 f6;have n1:=hz3.nodes _ (List.mem_of_getElem? hx);have n2:=hz3.sets _ (List.mem_of_getElem? hx);have n3:=hy3.nodes _ (List.mem_of_getElem? ht);have n4:=hy3.sets _ (List.mem_of_getElem? ht);have ca:=Hi (fun W (hb:Below wq.heap.size wq W)=>h_asks (own_up n1 hb) (own_up n2 hb) (own_up n3 hb) (own_up n4 hb))
   injection hg1 with hg1 _ hc1
   rw [hlen.out] at hg2
   injection hg2 with hg2 _ hc2
   subst hg1 hg2 hc1 hc2;clear hx ht hz3 hy3 n1 n2 n3 n4;go_upto_region 8 with fail
   go_cut [12] (fun x wx=>x=.bool true∧Hid (Below wq.heap.size wq wx))
   case first=>
    go_region_law (go_simp;go_at_call 11;refine (ca.out _ ((Qt.self wq 1).below _)).mono ?_;rintro e w4 ⟨rfl,hb4⟩;have hb4:=Hi hb4;go_wp2_with fail)
    all_goals (
     go_wp2_with fail;go_meet;exact ⟨rfl,Hi (((Qt.self wq 1).below _).trans hb4.out)⟩)
   case rest=>
    obtain ⟨rfl,hb4⟩:=hcut;go_wp2_with fail;refine ⟨⟨i+1,rfl,by omega,Hi (hb.out.trans (hb4.out.mono hb.out.size))⟩,?_⟩
    simp only [intOf,Int.toNat_natCast];omega
  ·have b1:¬ (i:Int)<(z.length:Int):=by omega
   have hb3:=Hi (hb2.out.trans (hb.out.mono hb2.out.size));go_wp2_with (go_at_call 9;refine (cq.out _ hb3.out).mono ?_;rintro e w5 ⟨hb5,v5,z5,rfl,hz5,hq5⟩;have hl5:z5.length=1:=(by have:=congrArg List.length hq5;simpa using this);obtain ⟨A5,k5,hv5⟩:=own_shape hz5.row;rw [hl5] at hv5;subst hv5;have hb5:=Hi hb5;clear hz5 hq5)
   go_ret;exact ⟨rfl,hb3.out.trans (hb5.out.mono hb3.out.size)⟩
end Go.Proofs.YtjokciofeicdkaaGreatDoor
namespace Go.Proofs.YtjokciofeicdkaaGreatDoor
open Go.Lib Go.RowKit
section
variable {P:Program} {w:World}
theorem strings_of_array {H:Type}{enc:TypeId×Value→H}{base:Nat}{sp:Nat→Bool}{held:Bool}{fuel:Nat}{t e:TypeId}{n:Nat}{cs:List Value}{bs:List (List UInt8)}{p:List MemPlace}(ht:P.underlying t=some (.array n e))(he:P.underlying e=some .string)(hc:P.cellsOf e=1)(hct:P.cellsOf t=n)
  (h:DataW.trod enc P w base sp held fuel t cs=some (.agg (bs.map fun b=>.lit (.string b)),p)):cs=bs.map fun b=>Value.string ⟨b.toArray⟩:=by
 obtain ⟨xs,m,_,ex,hl,hn,hel⟩:=DataW.trod_array ht h;have e3:(xs.map (·.1))=bs.map fun b=>(.lit (.string b):DataW H):=(DataW.agg.inj (Prod.mk.inj ex).1).symm
 have hbl:bs.length=n:=by have:=congrArg List.length e3;simp at this;omega
 rw [hct] at hl;refine List.ext_getElem? fun i=>?_
 by_cases hi:i<n
 ·have hE:=hel i hi;rw [hc,Nat.mul_one,List.getElem?_eq_getElem (by omega)] at hE
  obtain ⟨s,e1,e2,_⟩:=DataW.trod_string he hE;have e4:(xs.map (·.1))[i]?=(bs.map fun b=>(.lit (.string b):DataW H))[i]?:=by rw [e3]
  rw [List.getElem?_map,List.getElem?_map,List.getElem?_eq_getElem (by omega:i<xs.length),List.getElem?_eq_getElem (by omega:i<bs.length),e2] at e4
  simp only [Option.map_some,Option.some.injEq,DataW.lit.injEq,Lit.string.injEq] at e4;have h0:((cs.drop i).take 1)[0]?=some (.string s):=by rw [e1];rfl
  simp at h0;rw [h0,List.getElem?_map,List.getElem?_eq_getElem (by omega:i<bs.length),← e4]
  rfl
 ·rw [List.getElem?_eq_none (by omega),List.getElem?_eq_none (by simp;omega)]
theorem iface_of_trod {H:Type}{enc:TypeId×Value→H}{base:Nat}{sp:Nat→Bool}{held:Bool}{fuel:Nat}{t:TypeId}{ms:Array (String×TypeId)}{cs:List Value}{x:DataW H×List MemPlace}(ht:P.underlying t=some (.interface ms))(h:DataW.trod enc P w base sp held fuel t cs=some x) :
  ∃ ev,cs=[ev]∧(ev=.nilIface∨∃ te pe,ev=.iface te pe):=by
 cases fuel with
 | zero=>simp [DataW.trod] at h
 | succ m=>
   unfold DataW.trod at h;rw [ht] at h
   split at h<;>simp_all
theorem var_heap {n:String}{g:Nat}{cs:Array Value}(hg:P.globalNamed n=some g)(h:w.var? P n=some cs):∃ t fr,w.heap[g]?=some (.cells cs t fr):=by
 unfold World.var? at h;rw [hg] at h;simp only [Option.bind_some] at h
 split at h
 ·rename_i c t fr hh;exact ⟨t,fr,by rw [hh,Option.some.inj h]⟩
 ·cases h
end
theorem u8Extra:U8Extra Tryz.prog Tryz.lays260_ren where
 n3:=by kernel_rfl
 n4:=by kernel_rfl
 y3:=by kernel_rfl
 y4:=by kernel_rfl
 c5:=by kernel_rfl
 c119:=by kernel_rfl
 c138:=by kernel_rfl
theorem env_parses {W:World}(hL:laidMetH Tryz.prog Rows.runParsesRow.laid W)(hsh:W.ShapedOpen Tryz.prog):Env W∧WordsAt W∧SignsR W:=by
 rw [MakeChecks.laidMetH_plain _ _ _ (by kernel_rfl)] at hL
 have r3 : VarReads Tryz.prog W "unicode/utf8.first" firstData := by
  rw [← Pinned.utf8First_eq];exact laidMet.reads hL (by simp [Rows.runParsesRow,Rows.laid_unicode_utf8_first])
 have r4 : VarReads Tryz.prog W "unicode/utf8.acceptRanges" acceptData := by
  rw [show acceptData=Rows.laid_unicode_utf8_acceptRanges from by kernel_rfl];exact laidMet.reads hL (by simp [Rows.runParsesRow])
 have rs : VarReads Tryz.prog W "reach/scan.signs" Rows.laid_reach_scan_signs := laidMet.reads hL (by simp [Rows.runParsesRow])
 have rr : VarReads Tryz.prog W "reach/reachref3.signs" Rows.laid_reach_reachref3_signs := laidMet.reads hL (by simp [Rows.runParsesRow])
 have rw' : VarReads Tryz.prog W "reach/run.words" Rows.laid_reach_run_words := laidMet.reads hL (by simp [Rows.runParsesRow])
 have re : VarReads Tryz.prog W "strconv.ErrSyntax" Rows.laid_strconv_ErrSyntax := laidMet.reads hL (by simp [Rows.runParsesRow])
 refine ⟨⟨?_,?_,utf8Tabs_of_reads Tryz.lays260 u8Extra r3 r4,?_⟩,?_,?_⟩
 ·exact cell_of_shapedOpen_int (t:=3) (zero:=#[.int .i64 0]) hsh (by decide +kernel) (by kernel_rfl) rfl (by kernel_rfl) (by kernel_rfl) Tryz.underlying3
 ·obtain ⟨g,t,cs,fuel,p,hg,ht,hv,hd⟩:=re
  obtain rfl := Option.some.inj ((show Tryz.prog.globalNamed "strconv.ErrSyntax" = some 8 by kernel_rfl).symm.trans hg)
  obtain rfl:=Option.some.inj ((show (Tryz.prog.globals[8]?).map (·.type)=some 210 by kernel_rfl).symm.trans ht)
  obtain ⟨ev,he,hk⟩:=iface_of_trod Tryz.underlying210 hd;refine ⟨ev,?_,hk⟩;rw [World.var?_cell hg hv 0,← Array.getElem?_toList,he]
  rfl
 ·obtain ⟨g,t,cs,fuel,p,hg,ht,hv,hd⟩:=rs
  obtain rfl := Option.some.inj ((show Tryz.prog.globalNamed "reach/scan.signs" = some 2 by kernel_rfl).symm.trans hg)
  obtain rfl:=Option.some.inj ((show (Tryz.prog.globals[2]?).map (·.type)=some 159 by kernel_rfl).symm.trans ht)
  have hcs:=strings_of_array (bs:=signsB.map fun b=>b.data.toList) Tryz.underlying159 Tryz.underlying9 (by kernel_rfl) (by kernel_rfl) (p:=p) (by rw [hd];rfl)
  obtain ⟨ty,fr,hh⟩:=var_heap hg hv;refine ⟨ty,fr,hh.trans ?_⟩
  have:cs=signsA:=by
   apply Array.toList_inj.1;rw [hcs];rfl
  rw [this]
 ·obtain ⟨g,t,cs,fuel,p,hg,ht,hv,hd⟩:=rw'
  obtain rfl := Option.some.inj ((show Tryz.prog.globalNamed "reach/run.words" = some 0 by kernel_rfl).symm.trans hg)
  obtain rfl:=Option.some.inj ((show (Tryz.prog.globals[0]?).map (·.type)=some 127 by kernel_rfl).symm.trans ht)
  have hcs:=strings_of_array (bs:=wordsB.map fun b=>b.data.toList) Tryz.underlying127 Tryz.underlying9 (by kernel_rfl) (by kernel_rfl) (p:=p) (by rw [hd];rfl)
  obtain ⟨ty,fr,hh⟩:=var_heap hg hv;refine ⟨ty,fr,hh.trans ?_⟩
  have:cs=wordsA:=by
   apply Array.toList_inj.1;rw [hcs];rfl
  rw [this]
 ·obtain ⟨g,t,cs,fuel,p,hg,ht,hv,hd⟩:=rr
  obtain rfl := Option.some.inj ((show Tryz.prog.globalNamed "reach/reachref3.signs" = some 4 by kernel_rfl).symm.trans hg)
  obtain rfl:=Option.some.inj ((show (Tryz.prog.globals[4]?).map (·.type)=some 189 by kernel_rfl).symm.trans ht)
  have hcs:=strings_of_array (bs:=(signsB++[(⟨#[]⟩:ByteArray)]).map fun b:ByteArray=>b.data.toList) Tryz.underlying189 Tryz.underlying9 (by kernel_rfl) (by kernel_rfl) (p:=p) (by rw [hd];rfl)
  intro k s hk;rw [World.var?_cell hg hv k,← Array.getElem?_toList,hcs];rw [List.getElem?_map,List.getElem?_map,List.getElem?_append_left (List.getElem?_eq_some_iff.1 hk).1,hk];rfl
end Go.Proofs.YtjokciofeicdkaaGreatDoor

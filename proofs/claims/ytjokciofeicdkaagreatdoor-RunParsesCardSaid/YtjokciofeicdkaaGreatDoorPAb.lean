/- A part of the proof of RunParses: QrH QueP Catch. -/
import Derived.Test.YtjokciofeicdkaaGreatDoorPAa
import Derived.Test.YtjokciofeicdkaaGreatDoorPA
import Derived.Recover
import Derived.Defers
import Derived.KernelRfl
import Derived.WalkKit
import Derived.WalkSpells
import Derived.WalkLawsBesides
import Derived.Lib.Hide
import Derived.Deep.DeepCutAuto
import Derived.Deep.QuietTactic
import Derived.BigQuiet
set_option maxHeartbeats 16000000
set_option maxRecDepth 100000
set_option linter.all false
namespace Go.Proofs.YtjokciofeicdkaaGreatDoor
open Go.RowKit
attribute [local go_sem ↓] Go.wp_at_zero Go.wp_at_succ
def budR (l:List Tk)(i:Nat):Int×Nat:=if (numbS l (i+1) 1 1024).2≠0 then ((numbS l (i+1) 1 1024).2,i+1) else if kindIs l (i+2) 1=false then (50,i+2) else (0,i+3)
theorem q_budget_late {w:World}{M g cap i:Nat}{l:List Tk}(P:QrAt w M g cap l i)(hi:i<l.length) :
  Calls Tryz.prog 28 #[.pointer (some ⟨M,0,none⟩),.bool false] w fun e w'=>StPost w M g cap l (61,i) (.int .i64 0) e w':=by
 have cf:=Hi (q_fail P hi 61);have hP:=Hi P;clear P;go_enter Tryz.func28,Tryz.ntmps28;go_wp2_with (go_at_call 46;refine cf.out.mono ?_;rintro e w2 ⟨rfl,hq2⟩;have hq2:=Hi hq2);exact ⟨rfl,StPost.bad rfl (by decide) (Kp.qt hq2.out) (hP.out.qt hq2.out)⟩
theorem q_budget {w:World}{M g cap i:Nat}{l:List Tk}(P:QrAt w M g cap l i)(hk:kindIs l i 2=true)(hll:l.length≤900000)(hG:∀ t∈l,TokG t)(hL:Lined l) :
  Calls Tryz.prog 28 #[.pointer (some ⟨M,0,none⟩),.bool true] w fun e w'=>StPost w M g cap l (budR l i) (.int .i64 (numbS l (i+1) 1 1024).1) e w':=by
 have hi1:=(Stays.step hL hk (by decide)).2.1
 have bw:=wS i (by omega)
 have q1:=P.c1;have f1:=P.free 1;have P1:QrAt (w.setCell ⟨M,1,none⟩ (.int .i64 ((i:Int)+1))) M g cap l (i+1):=P.setAt (i+1);have K1:Kp M w (w.setCell ⟨M,1,none⟩ (.int .i64 ((i:Int)+1))):=Kp.setAt _;have P1:=Hi P1;have K1:=Hi K1;clear P hk;go_enter Tryz.func28,Tryz.ntmps28;go_upto_region 4 with fail;clear q1 f1;generalize w.setCell ⟨M,1,none⟩ (.int .i64 ((i:Int)+1))=W1 at *;have cn:=Hi (q_number P1.out hi1 hll hG 1 1024);obtain ⟨⟨v,x⟩,hn⟩:∃ x,numbS l (i+1) 1 1024=x:=⟨_,rfl⟩
 by_cases hx:x=0
 ·subst hx;have hn3:(numbS l (i+1) 1 1024).2=0:=by rw [hn]
  have hi2:=(numb_in hL hn3).2.1;have hr2:=Hi (show numbR l (i+1) 1 1024=(0,i+1+1) by unfold numbR;rw [if_pos hn3])
  have hB:budR l i=if kindIs l (i+1+1) 1=false then (50,i+1+1) else (0,i+1+1+1):=by unfold budR;rw [if_neg (fun h=>h hn3)]
  rw [hn] at cn;have hv:=Hi (show (numbS l (i+1) 1 1024).1=v by rw [hn])
  clear hn hn3;go_upto_region 5 with (go_at_call 47;refine cn.out.mono ?_;rintro e w2 hx;obtain ⟨rfl,hK2,P2⟩:=hx.of hr2.out;have K2:=gb_trans K1.out hK2;have P2:=Hi P2;have K2:=Hi K2;clear hx hK2);have cw:=Hi (q_want P2.out hi2 hll 1 nlB)
  cases hk3:kindIs l (i+1+1) 1 with
  | false=>
    have hw3:=Hi (show wantR l (i+1+1) 1 nlB=(50,i+1+1) by unfold wantR;rw [isT_nl hG,hk3];rfl)
    have hB:=Hi (hB.trans (if_pos hk3));clear hk3;go_wp2_with (go_at_call 48;refine cw.out.mono ?_;rintro e w3 hx;obtain ⟨rfl,hK3,P3⟩:=hx.off hw3.out (by decide);have P3:=Hi P3;have K3:=Hi (gb_trans K2.out hK3);clear hx)
    exact ⟨rfl,StPost.bad hB.out (by decide) K3.out P3.out⟩
  | true=>
    have hw3:=Hi (show wantR l (i+1+1) 1 nlB=(0,i+1+1+1) by unfold wantR;rw [isT_nl hG,hk3];rfl)
    have hB:=Hi (hB.trans (if_neg (by rw [hk3];decide)))
    clear hk3;go_wp2_with (go_at_call 48;refine cw.out.mono ?_;rintro e w3 hx;obtain ⟨rfl,hK3,P3⟩:=hx.of hw3.out;have P3:=Hi P3;have K3:=Hi (gb_trans K2.out hK3);clear hx);go_ret;rw [hv.out];exact StPost.ok hB.out K3.out P3.out
 ·have hn3:(numbS l (i+1) 1 1024).2=x:=by rw [hn]
  have hr2:=Hi (show numbR l (i+1) 1 1024=(x,i+1) by unfold numbR;rw [if_neg (fun h=>hx (hn3.symm.trans h)),hn3])
  have hB:=Hi (show budR l i=(x,i+1) by unfold budR;rw [if_pos (fun h=>hx (hn3.symm.trans h)),hn3])
  have hx:=Hi hx;clear hn hn3;go_wp2_with (go_at_call 47;refine cn.out.mono ?_;rintro e w2 hq;obtain ⟨rfl,hK2,P2⟩:=hq.off hr2.out hx.out;have P2:=Hi P2;have K2:=Hi (gb_trans K1.out hK2);clear hq);exact ⟨rfl,StPost.bad hB.out hx.out K2.out P2.out⟩
end Go.Proofs.YtjokciofeicdkaaGreatDoor
namespace Go.Proofs.YtjokciofeicdkaaGreatDoor
open Go.RowKit
def QuePost (w:World)(r:QueR)(e:Ending)(w':World):Prop:=Below w.heap.size w w'∧match r with
 | .inr x=>e=.returned (.tuple #[.slice none 0 0,.int .i64 0,.int .i64 x.1,.int .i64 x.2])
 | .inl x=>∃ (v:Value) (z:List AskX),e=.returned (.tuple #[v,.int .i64 x.2,.int .i64 0,.int .i64 0])∧AsksAt w' w.heap.size v z∧z.map Prod.fst=x.1
theorem QuePost.bad {w w':World}{r:QueR}{x:Int×Int}(h:r=.inr x)(hb:Below w.heap.size w w'):QuePost w r (.returned (.tuple #[.slice none 0 0,.int .i64 0,.int .i64 x.1,.int .i64 x.2])) w':=by
 subst h;exact ⟨hb,rfl⟩
theorem QuePost.ok {w w':World}{r:QueR}{q:List AskS}{b:Int}{v:Value}{z:List AskX}(h:r=.inl (q,b))(hb:Below w.heap.size w w')(hz:AsksAt w' w.heap.size v z)(hq:z.map Prod.fst=q):QuePost w r (.returned (.tuple #[v,.int .i64 b,.int .i64 0,.int .i64 0])) w':=by
 subst h;exact ⟨hb,v,z,rfl,hz,hq⟩
section
variable {l:List Tk} {f i:Nat} {b:Int} {q:List AskS}
theorem que_none (h:l.length≤i)(hq:q=[]):queL l (f+1) i b q=.inr (170,0):=by unfold queL;rw [if_pos h,if_pos hq]
theorem que_done (h:l.length≤i)(hq:q≠[]):queL l (f+1) i b q=.inl (q,b):=by unfold queL;rw [if_pos h,if_neg hq]
theorem que_late (h:¬ l.length≤i)(hb:isT l i 2 wBudget=true)(hi:i≠0):queL l (f+1) i b q=.inr (61,lnOf l i):=by unfold queL;rw [if_neg h,if_pos hb,if_pos hi]
theorem que_bad (h:¬ l.length≤0)(hb:isT l 0 2 wBudget=true)(he:(budS l).2≠0):queL l (f+1) 0 b q=.inr ((budS l).2,lnOf l 0):=by unfold queL;rw [if_neg h,if_pos hb,if_neg (fun h=>h rfl),if_pos he]
theorem que_bud (h:¬ l.length≤0)(hb:isT l 0 2 wBudget=true)(he:(budS l).2=0):queL l (f+1) 0 b q=queL l f 3 (budS l).1 q:=by rw [queL,if_neg h,if_pos hb,if_neg (fun h=>h rfl),if_neg (fun h=>h he)]
theorem que_kind (h:¬ l.length≤i)(hb:isT l i 2 wBudget=false)(hk:kindAt l i=0):queL l (f+1) i b q=.inr (60,lnOf l i):=by unfold queL;rw [if_neg h,if_neg (by rw [hb];decide),if_pos hk]
theorem que_full (h:¬ l.length≤i)(hb:isT l i 2 wBudget=false)(hk:kindAt l i≠0)(h8:q.length=8):queL l (f+1) i b q=.inr (71,lnOf l i):=by unfold queL;rw [if_neg h,if_neg (by rw [hb];decide),if_neg hk,if_pos h8]
theorem que_line (h:¬ l.length≤i)(hb:isT l i 2 wBudget=false)(hk:kindAt l i≠0)(h8:q.length≠8){c:Int}{j:Nat}{a:AskS}(hl:lineS l (kindAt l i) i=(c,j,a))(hc:c≠0):queL l (f+1) i b q=.inr (c,lnOf l i):=by unfold queL;rw [if_neg h,if_neg (by rw [hb];decide),if_neg hk,if_neg h8,hl,if_pos hc]
theorem que_next (h:¬ l.length≤i)(hb:isT l i 2 wBudget=false)(hk:kindAt l i≠0)(h8:q.length≠8){j:Nat}{a:AskS}(hl:lineS l (kindAt l i) i=(0,j,a)):queL l (f+1) i b q=queL l f j b (q++[a]):=by rw [queL,if_neg h,if_neg (by rw [hb];decide),if_neg hk,if_neg h8,hl,if_neg (fun h=>h rfl)]
theorem line_good (hL:Lined l){k j:Nat}{a:AskS}(hi:i+1<l.length)(h:lineS l k i=(0,j,a)):i<j∧j≤l.length:=by
 have hp:=pcs_in hL (shapeS k++[.word wHops,.hops]) (i+1) true (AskS.of k) hi;unfold lineS restS at h;generalize pcsS l (shapeS k++[.word wHops,.hops]) (i+1) true (AskS.of k)=r at h hp;obtain ⟨h1,h2,-⟩:=hp
 split at h
 ·rename_i h0;rw [h] at h0;exact absurd rfl h0
 ·split at h
  ·simp at h
  ·simp only [Prod.mk.injEq] at h;omega
theorem bud_of (h:(numbS l 1 1 1024).2≠0):budS l=numbS l 1 1 1024:=by unfold budS;rw [if_pos h]
theorem bud_end (h:(numbS l 1 1 1024).2=0)(hk:kindIs l 2 1=false):budS l=(0,50):=by unfold budS;rw [if_neg (fun h2=>h2 h),if_pos hk]
theorem bud_ok (h:(numbS l 1 1 1024).2=0)(hk:kindIs l 2 1=true):budS l=numbS l 1 1 1024:=by unfold budS;rw [if_neg (fun h2=>h2 h),if_neg (by rw [hk];decide)]
end
theorem ce_idle (p q r s:Addr)(w:World) :
  CallsD Tryz.prog 26 #[.pointer (some p),.pointer (some q),.pointer (some r),.pointer (some s)] .returning w fun e u' w'=>
   e=.returned (.tuple #[])∧u'=.returning∧Below w.heap.size w w':=by
 have hta:∀ w:World,(Instr.typeAssert .nilIface 20 65 true).run Tryz.prog w=.ok (.tuple #[.agg #[.int .i64 0,.int .i64 0],.bool false]) w:=fun _=>by kernel_rfl
 refine callsD_of_wpS Tryz.func26 rfl fun c₀ cs hu=>?_
 apply wpS_seq;apply wpS_region
 simp [wpOpsS,go_sem,recoverD,hu,hta,Tryz.ntmps26,Exit.thenS]
 refine wpS_of_wp ?_;go_wp2_with fail;refine ⟨rfl,_,rfl,.tuple #[],by simp [results,Tryz.results26,go_sem],rfl,hu,(Below.refl _ w).alloc (Nat.le_refl _) _⟩
theorem one_cell {w:World}{k:Nat}{T:TypeId}{u:Value}(h:w.heap[k]?=some (.cells #[u] T (0,0)))(o:Obj):(w.alloc o).cell? ⟨k,0,none⟩=some u∧(w.alloc o).frozen? ⟨k,0,none⟩=false:=by
 have h':=(heap_alloc_old w o (Array.getElem?_eq_some_iff.1 h).1).trans h;exact ⟨by have:=cell_of_row _ k 0 _ _ _ h';simpa using this,by simp [World.frozen?,h']⟩
def caught (w:World)(R:Nat)(c ln:Int):World:=
 ((((w.alloc (.cells #[.int .i64 c,.int .i64 ln] 65 (0,0))).setCell ⟨R,0,none⟩ (.slice none 0 0)).setCell ⟨R+1,0,none⟩ (.int .i64 0)).setCell ⟨R+2,0,none⟩ (.int .i64 c)).setCell ⟨R+3,0,none⟩ (.int .i64 ln)
theorem ce_caught (R:Nat)(c ln:Int)(older:List PanicEntry)(w:World)(u0 u1 u2 u3:Value)
  (h0:w.heap[R]?=some (.cells #[u0] 34 (0,0))) (h1:w.heap[R+1]?=some (.cells #[u1] 3 (0,0))) (h2:w.heap[R+2]?=some (.cells #[u2] 27 (0,0))) (h3:w.heap[R+3]?=some (.cells #[u3] 3 (0,0))) :
  CallsD Tryz.prog 26 #[.pointer (some ⟨R,0,none⟩),.pointer (some ⟨R+1,0,none⟩),.pointer (some ⟨R+2,0,none⟩),.pointer (some ⟨R+3,0,none⟩)]
   (.panicking ({ v:=.iface 65 (.agg #[.int .i64 c,.int .i64 ln]),recovered:=false }::older)) w fun e u' w'=>
   e=.returned (.tuple #[])∧u'=.panicking ({ v:=.iface 65 (.agg #[.int .i64 c,.int .i64 ln]),recovered:=true }::older)∧w'=(caught w R c ln).drew:=by
 have hta:∀ w:World,(Instr.typeAssert (.iface 65 (.agg #[.int .i64 c,.int .i64 ln])) 20 65 true).run Tryz.prog w=.ok (.tuple #[.agg #[.int .i64 c,.int .i64 ln],.bool true]) w:=fun _=>by kernel_rfl
 refine callsD_of_wpS Tryz.func26 rfl fun c₀ cs hu=>?_
 have hT : #[Value.pointer (some ⟨R,0,none⟩),.pointer (some ⟨R+1,0,none⟩),.pointer (some ⟨R+2,0,none⟩),.pointer (some ⟨R+3,0,none⟩)]++Array.replicate (Tryz.f26.ntmps-4) undef = #[.pointer (some ⟨R,0,none⟩),.pointer (some ⟨R+1,0,none⟩),.pointer (some ⟨R+2,0,none⟩),.pointer (some ⟨R+3,0,none⟩),undef,undef,undef,undef,undef,undef,undef,undef,undef,undef,undef,undef]:=by rw [Tryz.ntmps26];rfl
 rw [show (#[Value.pointer (some ⟨R,0,none⟩),.pointer (some ⟨R+1,0,none⟩),.pointer (some ⟨R+2,0,none⟩),.pointer (some ⟨R+3,0,none⟩)]:Array Value).size=4 from rfl,hT]
 clear hT;apply wpS_seq;apply wpS_region
 simp [wpOpsS,go_sem,recoverD,hu,hta,Tryz.ntmps26,Exit.thenS]
 refine wpS_of_wp ?_;have hlt:R+3<w.heap.size:=(Array.getElem?_eq_some_iff.1 h3).1;have hR0:R<w.heap.size:=by omega
 have hR1:R+1<w.heap.size:=by omega
 have hR2:R+2<w.heap.size:=by omega
 obtain ⟨x0,y0⟩:=one_cell h0 (.cells #[.int .i64 c,.int .i64 ln] 65 (0,0));obtain ⟨x1,y1⟩:=one_cell h1 (.cells #[.int .i64 c,.int .i64 ln] 65 (0,0));obtain ⟨x2,y2⟩:=one_cell h2 (.cells #[.int .i64 c,.int .i64 ln] 65 (0,0));obtain ⟨x3,y3⟩:=one_cell h3 (.cells #[.int .i64 c,.int .i64 ln] 65 (0,0));clear h0 h1 h2 h3;have z:=heap_alloc_new w (.cells #[.int .i64 c,.int .i64 ln] 65 (0,0));have z0:(w.alloc (.cells #[.int .i64 c,.int .i64 ln] 65 (0,0))).cell? ⟨w.heap.size,0,none⟩=some (.int .i64 c):=by have:=cell_of_row _ _ 0 _ _ _ z;simpa using this
 have z1:(w.alloc (.cells #[.int .i64 c,.int .i64 ln] 65 (0,0))).cell? ⟨w.heap.size,1,none⟩=some (.int .i64 ln):=by have:=cell_of_row _ _ 1 _ _ _ z;simpa using this
 unfold caught;clear z hta hu;generalize w.alloc (.cells #[.int .i64 c,.int .i64 ln] 65 (0,0))=W at *;generalize w.heap.size=B at *;clear hlt;generalize hQ:(fun (e:Exit) (a':Act) (w':World)=>bodyPostS Tryz.prog Tryz.f26 c₀ cs _ e a' _ w')=Q
 have hQ:=Hi hQ;go_upto_region 2 with fail;go_region;rw [← hQ.out];exact ⟨rfl,_,rfl,.tuple #[],by simp [results,Tryz.results26,go_sem],rfl,rfl,rfl⟩
end Go.Proofs.YtjokciofeicdkaaGreatDoor

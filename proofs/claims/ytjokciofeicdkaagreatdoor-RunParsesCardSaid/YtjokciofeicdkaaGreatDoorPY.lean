/- A part of the proof of RunParses: QrA QrB QrC QrD. -/
import Derived.Test.YtjokciofeicdkaaGreatDoorPS
import Derived.Test.YtjokciofeicdkaaGreatDoorPK
import Derived.Test.YtjokciofeicdkaaGreatDoorPF
import Derived.StillTailTactics
import Derived.Test.YtjokciofeicdkaaGreatDoorPX
set_option maxHeartbeats 16000000
set_option maxRecDepth 100000
set_option linter.all false
namespace Go.Proofs.YtjokciofeicdkaaGreatDoor
open Go.RowKit
attribute [local go_sem ↓] Go.wp_at_zero Go.wp_at_succ
def wordsB:List ByteArray:=[⟨#[]⟩,⟨#[114,101,97,99,104]⟩,⟨#[109,105,115,115,101,100]⟩,⟨#[108,111,111,112]⟩,⟨#[108,111,115,116]⟩,⟨#[105,115,111,108,97,116,101]⟩,⟨#[112,97,116,104]⟩,⟨#[97,118,111,105,100]⟩,⟨#[99,111,118,101,114]⟩,⟨#[116,114,97,99,101]⟩]
def wordsA:Array Value:=(wordsB.map Value.string).toArray
def WordsAt (w:World):Prop:=∃ t fr,w.heap[0]?=some (.cells wordsA t fr)
theorem WordsAt.keep {w w':World}(h:WordsAt w)(hb:w'.heap[0]?=w.heap[0]?):WordsAt w':=let ⟨t,fr,hs⟩:=h;⟨t,fr,hb.trans hs⟩
theorem WordsAt.lt {w:World}(h:WordsAt w):0<w.heap.size:=let ⟨_,_,hs⟩:=h;(Array.getElem?_eq_some_iff.1 hs).1
structure QrAt (w:World)(M g cap:Nat)(l:List Tk)(i:Nat):Prop where
 box:w.heap[M]?=some (.cells #[tokV g cap l,.int .i64 i] 69 (0,0))
 gM:g<M
 toks:TokIn w g l
 env:EnvOn M w
 wd:WordsAt w
 wM:0<M
abbrev Kp (M:Nat)(w w':World):Prop:=w.grownBy w' (some M)
section
variable {w w':World} {M g cap:Nat} {l:List Tk} {i:Nat}
theorem QrAt.lt (h:QrAt w M g cap l i):M<w.heap.size:=(Array.getElem?_eq_some_iff.1 h.box).1
theorem QrAt.free (h:QrAt w M g cap l i)(j:Nat):w.frozen? ⟨M,j,none⟩=false:=by simp [World.frozen?,h.box]
theorem QrAt.c0 (h:QrAt w M g cap l i):w.cell? ⟨M,0,none⟩=some (tokV g cap l):=by have:=cell_of_row w M 0 _ _ (0,0) h.box;simpa using this
theorem QrAt.c1 (h:QrAt w M g cap l i):w.cell? ⟨M,1,none⟩=some (.int .i64 i):=by have:=cell_of_row w M 1 _ _ (0,0) h.box;simpa using this
theorem QrAt.up (h:QrAt w M g cap l i)(hb:Below w.heap.size w w'):QrAt w' M g cap l i:=
 ⟨(hb.block M h.lt).trans h.box,h.gM,h.toks.below hb h.toks.1,h.env.next (hb.mono (Nat.le_of_lt h.lt)),h.wd.keep (hb.block _ h.wd.lt),h.wM⟩
theorem QrAt.qt (h:QrAt w M g cap l i)(hq:Qt w w'):QrAt w' M g cap l i:=h.up (hq.below _)
theorem QrAt.setAt (h:QrAt w M g cap l i)(j:Nat):QrAt (w.setCell ⟨M,1,none⟩ (.int .i64 j)) M g cap l j where
 box:=by
  have:=h.box;simp only [World.setCell,Array.getElem?_modify,this,if_pos rfl,Option.map_some];rfl
 gM:=h.gM
 toks:=h.toks.below (Below.setCell (Below.refl M w) (Nat.le_refl M) _) h.gM
 env:=h.env.next ((Below.refl M w).setCell (p:=⟨M,1,none⟩) (Nat.le_refl M) _)
 wd:=h.wd.keep (((Below.refl M w).setCell (p:=⟨M,1,none⟩) (Nat.le_refl M) _).block _ h.wM)
 wM:=h.wM
theorem Kp.qt (h:Qt w w'):Kp M w w':=by obtain ⟨n,rfl⟩:=h;exact gb_drewN (gb_refl _ _) n
theorem Kp.setAt (u:Value):Kp M w (w.setCell ⟨M,1,none⟩ u):=gb_setCell (gb_refl _ _) 1 u
theorem tk_at (hi:i<l.length):∃ t,l[i]?=some t∧textAt l i=t.text∧lnOf l i=t.line∧(∀ k,kindIs l i k=(t.kind == k))∧(∀ k s,isT l i k s=(t.kind == k && decide (t.text=s))):=by
 refine ⟨l[i],List.getElem?_eq_getElem hi,?_,?_,fun k=>?_,fun k s=>?_⟩
 ·unfold textAt;rw [List.getElem?_eq_getElem hi]
 ·unfold lnOf;rw [List.getElem?_eq_getElem hi]
 ·unfold kindIs;rw [List.getElem?_eq_getElem hi]
 ·unfold isT;rw [List.getElem?_eq_getElem hi]
end
abbrev QPanic (c ln:Int):Ending:=.panicked [{ v:=.iface 65 (.agg #[.int .i64 c,.int .i64 ln]),recovered:=false }]
def StPost (w:World)(M g cap:Nat)(l:List Tk)(r:Int×Nat)(v:Value)(e:Ending)(w':World):Prop:=
 Kp M w w'∧QrAt w' M g cap l r.2∧(if r.1=0 then e=.returned v else e=QPanic r.1 (lnOf l r.2))
theorem StPost.ok {w w':World}{M g cap j:Nat}{l:List Tk}{r:Int×Nat}{v:Value}(h:r=(0,j))(hk:Kp M w w')(hq:QrAt w' M g cap l j):StPost w M g cap l r v (.returned v) w':=by
 subst h;exact ⟨hk,hq,if_pos rfl▸rfl⟩
theorem StPost.bad {w w':World}{M g cap j:Nat}{l:List Tk}{r:Int×Nat}{v:Value}{c:Int}(h:r=(c,j))(hc:c≠0)(hk:Kp M w w')(hq:QrAt w' M g cap l j):StPost w M g cap l r v (QPanic c (lnOf l j)) w':=by
 subst h;exact ⟨hk,hq,by rw [if_neg hc]⟩
theorem StPost.of {w w':World}{M g cap j:Nat}{l:List Tk}{r:Int×Nat}{v:Value}{e:Ending}(h:StPost w M g cap l r v e w')(hr:r=(0,j)):e=.returned v∧Kp M w w'∧QrAt w' M g cap l j:=by
 subst hr;exact ⟨by have:=h.2.2;rwa [if_pos rfl] at this,h.1,h.2.1⟩
theorem StPost.off {w w':World}{M g cap j:Nat}{l:List Tk}{r:Int×Nat}{v:Value}{e:Ending}{c:Int}(h:StPost w M g cap l r v e w')(hr:r=(c,j))(hc:c≠0):e=QPanic c (lnOf l j)∧Kp M w w'∧QrAt w' M g cap l j:=by
 subst hr;exact ⟨by have:=h.2.2;rwa [if_neg hc] at this,h.1,h.2.1⟩
def wantR (l:List Tk)(i:Nat)(k:Int)(s:ByteArray):Int×Nat:=if isT l i k s=true then (0,i+1) else (50,i)
def takeR (l:List Tk)(i:Nat)(k:Int):Int×Nat:=if kindIs l i k=true then (0,i+1) else (50,i)
def numbR (l:List Tk)(i:Nat)(lo hi:Int):Int×Nat:=if (numbS l i lo hi).2=0 then (0,i+1) else ((numbS l i lo hi).2,i)
theorem q_is {w:World}{M g cap i:Nat}{l:List Tk}(P:QrAt w M g cap l i)(hi:i<l.length)(k:Int)(s:ByteArray) :
  Calls Tryz.prog 27 #[.pointer (some ⟨M,0,none⟩),.int .i64 k,.string s] w fun e w'=>e=.returned (.bool (isT l i k s))∧Qt w w':=by
 have q0:=P.c0;have q1:=P.c1;obtain ⟨t,ht,-,-,-,hT⟩:=tk_at hi;have e0:w.cell? ⟨g,i*4,none⟩=some (.int .i64 t.kind):=P.toks.2 i t ht 0 _ rfl;have e1:w.cell? ⟨g,i*4+1,none⟩=some (.string t.text):=P.toks.2 i t ht 1 _ rfl;have hs:=hT k s;have b2:(i:Int)<(l.length:Int):=by omega
 have b0:(0:Int)≤(i:Int):=by omega
 clear P ht hi hT
 by_cases hk:t.kind=k
 ·have H:=Hi (hs.trans (show _=decide (t.text=s) by rw [hk];simp))
  have bk:(t.kind == k)=true:=by rw [hk];exact beq_self_eq_true _
  clear hs hk;go_enter Tryz.func27,Tryz.ntmps27;go_wp2_with fail;go_quiet (fail);go_wp2_with fail;go_ret;exact ⟨by rw [H.out,← ba_beq];rfl,Qt.self _ _⟩
 ·have H:=Hi (hs.trans (show _=false by rw [show (t.kind == k)=false by rw [beq_eq_false_iff_ne];exact hk];rfl))
  have bk:(t.kind == k)=false:=by rw [beq_eq_false_iff_ne];exact hk
  clear hs hk;go_enter Tryz.func27,Tryz.ntmps27;go_wp2_with fail;go_quiet (fail);go_wp2_with fail;go_ret;exact ⟨by rw [H.out];rfl,Qt.self _ _⟩
theorem q_fail {w:World}{M g cap i:Nat}{l:List Tk}(P:QrAt w M g cap l i)(hi:i<l.length)(c:Int) :
  Calls Tryz.prog 46 #[.pointer (some ⟨M,0,none⟩),.int .i64 c] w fun e w'=>e=QPanic c (lnOf l i)∧Qt w w':=by
 have q0:=P.c0;have q1:=P.c1;obtain ⟨t,ht,-,hl,-,-⟩:=tk_at hi;have e2:w.cell? ⟨g,i*4+2,none⟩=some (.int .i64 t.line):=P.toks.2 i t ht 2 _ rfl;have hl:=Hi hl;have b2:(i:Int)<(l.length:Int):=by omega
 have b0:(0:Int)≤(i:Int):=by omega
 clear P ht hi;go_enter Tryz.func46,Tryz.ntmps46
 go_still_tail 14,(by kernel_rfl)
 go_wp2_with fail;exact ⟨rfl,rfl,Qt.self _ 1⟩
theorem q_want {w:World}{M g cap i:Nat}{l:List Tk}(P:QrAt w M g cap l i)(hi:i<l.length)(hll:l.length≤900000)(k:Int)(s:ByteArray) :
  Calls Tryz.prog 48 #[.pointer (some ⟨M,0,none⟩),.int .i64 k,.string s] w fun e w'=>StPost w M g cap l (wantR l i k s) (.tuple #[]) e w':=by
 have ci:=Hi (q_is P hi k s);have cf:=Hi (fun W (hq:Qt w W)=>q_fail (P.qt hq) hi 50)
 have hP:=Hi P;have q1:=P.c1;have f1:=P.free 1;have bw:=wS i (by omega)
 clear P
 cases h:isT l i k s with
 | false=>
   have H:=Hi (show wantR l i k s=(50,i) by unfold wantR;rw [if_neg (by rw [h];decide)])
   rw [h] at ci;clear h;go_enter Tryz.func48,Tryz.ntmps48;go_wp2_with (first|(go_at_call 27;refine ci.out.mono ?_;rintro e w1 ⟨rfl,hq⟩;have hq:=Hi hq)|(go_at_call 46;refine (cf.out _ hq.out).mono ?_;rintro e w2 ⟨rfl,hq2⟩;have hq2:=Hi (hq.out.trans hq2)))
   exact ⟨rfl,StPost.bad H.out (by decide) (Kp.qt hq2.out) (hP.out.qt hq2.out)⟩
 | true=>
   have H:=Hi (show wantR l i k s=(0,i+1) by unfold wantR;rw [if_pos h])
   rw [h] at ci;clear h cf;go_enter Tryz.func48,Tryz.ntmps48;go_wp2_with (first|(go_at_call 27;refine ci.out.mono ?_;rintro e w1 ⟨rfl,hq⟩;have z1:=(hP.out.qt hq).c1;have y1:=(hP.out.qt hq).free 1;have hq:=Hi hq))
   go_end0;exact StPost.ok H.out (gb_trans (Kp.qt hq.out) (Kp.setAt _)) ((hP.out.qt hq.out).setAt (i+1))
theorem q_take {w:World}{M g cap i:Nat}{l:List Tk}(P:QrAt w M g cap l i)(hi:i<l.length)(hll:l.length≤900000)(k:Int) :
  Calls Tryz.prog 123 #[.pointer (some ⟨M,0,none⟩),.int .i64 k] w fun e w'=>StPost w M g cap l (takeR l i k) (.string (textAt l i)) e w':=by
 have cf:=Hi (fun W (hq:Qt w W)=>q_fail (P.qt hq) hi 50)
 have hP:=Hi P;have q0:=P.c0;have q1:=P.c1;have f1:=P.free 1;have bw:=wS i (by omega)
 obtain ⟨t,ht,htx,-,hK,-⟩:=tk_at hi;have e0:w.cell? ⟨g,i*4,none⟩=some (.int .i64 t.kind):=P.toks.2 i t ht 0 _ rfl;have e1:w.cell? ⟨g,i*4+1,none⟩=some (.string t.text):=P.toks.2 i t ht 1 _ rfl;have hs:=hK k;have htx:=Hi htx;have b2:(i:Int)<(l.length:Int):=by omega
 have b0:(0:Int)≤(i:Int):=by omega
 have hgM:=P.gM;clear P ht hi hK
 by_cases hk:t.kind=k
 ·have bk:(t.kind == k)=true:=by rw [hk];exact beq_self_eq_true _
  have bk2:(t.kind != k)=false:=by rw [bne,bk];rfl
  have hs:=Hi (show takeR l i k=(0,i+1) by unfold takeR;rw [hs,if_pos bk])
  clear hk cf;go_enter Tryz.func123,Tryz.ntmps123;go_wp2_with fail;go_quiet (fail);go_upto_region 4 with fail;have P2:=(hP.out.qt (Qt.self w nq)).setAt (i+1);have e1':((w.drewN nq).setCell ⟨M,1,none⟩ (.int .i64 ((i:Int)+1))).cell? ⟨g,i*4+1,none⟩=some (.string t.text):=(World.cell?_of_block (a:=⟨g,i*4+1,none⟩) (Below.heap_setCell _ ⟨M,1,none⟩ _ g (by show g≠M;omega))).trans e1
  have z0:((w.drewN nq).setCell ⟨M,1,none⟩ (.int .i64 ((i:Int)+1))).cell? ⟨M,0,none⟩=some (tokV g cap l):=P2.c0;have z1:((w.drewN nq).setCell ⟨M,1,none⟩ (.int .i64 ((i:Int)+1))).cell? ⟨M,1,none⟩=some (.int .i64 ((i:Int)+1)):=P2.c1;have P2:QrAt ((w.drewN nq).setCell ⟨M,1,none⟩ (.int .i64 ((i:Int)+1))) M g cap l (i+1):=P2;have hK2:Kp M w ((w.drewN nq).setCell ⟨M,1,none⟩ (.int .i64 ((i:Int)+1))):=gb_trans (Kp.qt (Qt.self w nq)) (Kp.setAt _);have P2:=Hi P2;have hK2:=Hi hK2;generalize (w.drewN nq).setCell ⟨M,1,none⟩ (.int .i64 ((i:Int)+1))=W at *;have bw2:IntKind.i64.wrap ((i:Int)+1-1)=(i:Int):=(congrArg _ (by omega)).trans (IntWalk.i64_in _ (by omega))
  have bw3:IntKind.i64.wrap (i:Int)=(i:Int):=IntWalk.i64_in _ (by omega)
  clear e0 e1 q0 q1 f1;go_quiet (fail);go_wp2_with fail;go_ret;rw [htx.out];exact StPost.ok hs.out (gb_trans hK2.out (Kp.qt (Qt.self _ _))) (P2.out.qt (Qt.self _ _))
 ·have bk:(t.kind == k)=false:=by rw [beq_eq_false_iff_ne];exact hk
  have bk2:(t.kind != k)=true:=by rw [bne,bk];rfl
  have hs:=Hi (show takeR l i k=(50,i) by unfold takeR;rw [hs,if_neg (by rw [bk];decide)])
  clear hk;go_enter Tryz.func123,Tryz.ntmps123;go_wp2_with fail;go_quiet (fail);go_wp2_with (go_at_call 46;refine (cf.out _ (Qt.self w nq)).mono ?_;rintro e w2 ⟨rfl,hq2⟩;have hq2:=Hi ((Qt.self w nq).trans hq2));exact ⟨rfl,StPost.bad hs.out (by decide) (Kp.qt hq2.out) (hP.out.qt hq2.out)⟩
theorem q_number {w:World}{M g cap i:Nat}{l:List Tk}(P:QrAt w M g cap l i)(hi:i<l.length)(hll:l.length≤900000)(hG:∀ t∈l,TokG t)(lo hi':Int) :
  Calls Tryz.prog 47 #[.pointer (some ⟨M,0,none⟩),.int .i64 lo,.int .i64 hi'] w fun e w'=>StPost w M g cap l (numbR l i lo hi') (.int .i64 (numbS l i lo hi').1) e w':=by
 have cf:=Hi (fun (c:Int) W (hb:Below w.heap.size w W)=>q_fail (P.up hb) hi c)
 have hP:=Hi P;have q0:=P.c0;have q1:=P.c1;have f1:=P.free 1;have bw:=wS i (by omega)
 obtain ⟨t,ht,htx,-,hK,-⟩:=tk_at hi;have e0:w.cell? ⟨g,i*4,none⟩=some (.int .i64 t.kind):=P.toks.2 i t ht 0 _ rfl;have e1:w.cell? ⟨g,i*4+1,none⟩=some (.string t.text):=P.toks.2 i t ht 1 _ rfl;have hs:=hK 4;have hGt:=hG t (List.mem_of_getElem? ht);have b2:(i:Int)<(l.length:Int):=by omega
 have b0:(0:Int)≤(i:Int):=by omega
 have cv:=Hi (fun n=>p_Value t.text (by have:=hGt.2.2.2.2.1;omega) (w.drewN n) ((P.qt (Qt.self w n)).env.env))
 have hN:numbS l i lo hi'=if kindIs l i 4=false then (0,50) else if (valOf t.text (numS t.text)).1<lo∨hi'<(valOf t.text (numS t.text)).1 then (0,1) else ((valOf t.text (numS t.text)).1,0):=by unfold numbS;rw [htx]
 generalize (valOf t.text (numS t.text)).1=v at hN cv;clear P ht hi hK hG hGt htx
 by_cases hk:t.kind=4
 ·have bk:(t.kind == 4)=true:=by rw [hk];rfl
  have bk2:(t.kind != 4)=false:=by rw [bne,bk];rfl
  rw [if_neg (by rw [hs,bk];decide)] at hN
  clear hk hs;have hN:=Hi hN;go_enter Tryz.func47,Tryz.ntmps47;go_wp2_with fail;go_quiet (fail);go_upto_region 4 with fail
  go_cut [7] (fun x wx=>x=.int .i64 v∧Hid (Below w.heap.size w wx))
  case first=>
   go_region_law (go_simp;go_at_call 65;refine (cv.out _).mono ?_;rintro e w1 ⟨rfl,hb⟩;have hb:=Hi hb;go_wp2_with fail)
   all_goals (
    go_wp2_with fail;go_meet;exact ⟨rfl,Hi (((Qt.self w _).below _).trans hb.out)⟩)
  case rest=>
   obtain ⟨rfl,hb⟩:=hcut;have P1:=hP.out.up hb.out;have z1:=P1.c1;have y1:=P1.free 1;have hK1:Kp M w wc:=gb_below (gb_refl _ _) hb.out;have P1:=Hi P1;have hK1:=Hi hK1;clear q0 q1 f1 e0 e1 cv
   by_cases hlo:v<lo
   ·have H:=Hi (show numbR l i lo hi'=(1,i) by unfold numbR;rw [hN.out,if_pos (Or.inl hlo)];rfl)
    have c:=Hi (cf.out 1 _ hb.out);clear hN cf;go_wp2_with (go_at_call 46;refine c.out.mono ?_;rintro e w2 ⟨rfl,hq2⟩;have hq2:=Hi hq2);exact ⟨rfl,StPost.bad H.out (by decide) (gb_trans hK1.out (Kp.qt hq2.out)) (P1.out.qt hq2.out)⟩
   ·by_cases hhi:hi'<v
    ·have H:=Hi (show numbR l i lo hi'=(1,i) by unfold numbR;rw [hN.out,if_pos (Or.inr hhi)];rfl)
     have c:=Hi (cf.out 1 _ hb.out);have hhi:v>hi':=hhi;clear hN cf;go_wp2_with (go_at_call 46;refine c.out.mono ?_;rintro e w2 ⟨rfl,hq2⟩;have hq2:=Hi hq2);exact ⟨rfl,StPost.bad H.out (by decide) (gb_trans hK1.out (Kp.qt hq2.out)) (P1.out.qt hq2.out)⟩
    ·have hV:numbS l i lo hi'=(v,0):=by rw [hN.out,if_neg (fun h=>h.elim hlo hhi)]
     have H:=Hi (show numbR l i lo hi'=(0,i+1) by unfold numbR;rw [hV];rfl)
     have hV:=Hi (show (numbS l i lo hi').1=v by rw [hV])
     have hhi:¬ v>hi':=hhi;clear hN cf;go_wp2_with fail;go_ret;exact StPost.ok H.out (gb_trans hK1.out (Kp.setAt _)) (P1.out.setAt (i+1))
 ·have bk:(t.kind == 4)=false:=by rw [beq_eq_false_iff_ne];exact hk
  have bk2:(t.kind != 4)=true:=by rw [bne,bk];rfl
  have hV:numbS l i lo hi'=(0,50):=by rw [hN,if_pos (by rw [hs,bk])]
  have H:=Hi (show numbR l i lo hi'=(50,i) by unfold numbR;rw [hV];rfl)
  clear hk hs hN hV;go_enter Tryz.func47,Tryz.ntmps47;go_wp2_with fail;go_quiet (fail);go_wp2_with (go_at_call 46;refine (cf.out 50 _ ((Qt.self w nq).below _)).mono ?_;rintro e w2 ⟨rfl,hq2⟩;have hq2:=Hi ((Qt.self w nq).trans hq2));exact ⟨rfl,StPost.bad H.out (by decide) (Kp.qt hq2.out) (hP.out.qt hq2.out)⟩
def setV (s:ByteArray×Int):List Value:=[.string s.1,.int .i64 s.2]
def flatS (q:List (ByteArray×Int)):List Value:=q.flatMap setV
def akBox (a:AskS)(vW vS:Value):Array Value:=#[.int .i64 a.kind,.string a.src,.string a.dst,vW,.string a.along,vS,.int .i64 a.hops]
structure AkAt (w:World)(M K N:Nat)(a:AskS)(vW vS:Value):Prop where
 box:w.heap[K]?=some (.cells (akBox a vW vS) 43 (0,0))
 mN:M<N
 nK:N≤K
 nodes:w.ownsRow N 86 8 vW a.cond.length (flatN a.cond)
 sets:w.ownsRow N 88 2 vS a.sets.length (flatS a.sets)
structure Bk (N M:Nat)(w w':World):Prop where
 os:w'.os=w.os
 tape:w'.tape=w.tape
 output:w'.output=w.output
 size:w.heap.size≤w'.heap.size
 block:∀ k,k<N→k≠M→w'.heap[k]?=w.heap[k]?
section
variable {w w1 w2:World} {M K N:Nat} {a:AskS} {vW vS:Value}
theorem Bk.refl (N M:Nat)(w:World):Bk N M w w:=⟨rfl,rfl,rfl,Nat.le_refl _,fun _ _ _=>rfl⟩
theorem Bk.trans (h:Bk N M w w1)(k:Bk N M w1 w2):Bk N M w w2:=⟨k.os.trans h.os,k.tape.trans h.tape,k.output.trans h.output,Nat.le_trans h.size k.size,fun b hb hn=>(k.block b hb hn).trans (h.block b hb hn)⟩
theorem Bk.of (h:Kp M w w1)(hN:N≤w.heap.size):Bk N M w w1:=⟨h.os,h.tape,h.output,h.size,fun b hb hn=>h.block b (Nat.lt_of_lt_of_le hb hN) fun e=>hn (by injection e)⟩
theorem Bk.below (h:Below w.heap.size w w1)(hN:N≤w.heap.size):Bk N M w w1:=⟨h.os,h.tape,h.output,h.size,fun b hb _=>h.block b (Nat.lt_of_lt_of_le hb hN)⟩
theorem Bk.set (h:Bk N M w w1){p:Addr}(hp:N≤p.block)(u:Value):Bk N M w (w1.setCell p u):=⟨h.os,h.tape,h.output,by simpa [World.setCell] using h.size,fun b hb hn=>(Below.heap_setCell w1 p u b (by omega)).trans (h.block b hb hn)⟩
theorem AkAt.lt (h:AkAt w M K N a vW vS):K<w.heap.size:=(Array.getElem?_eq_some_iff.1 h.box).1
theorem AkAt.nW (h:AkAt w M K N a vW vS):N≤w.heap.size:=by have:=h.lt;have:=h.nK;omega
theorem AkAt.free (h:AkAt w M K N a vW vS)(j:Nat):w.frozen? ⟨K,j,none⟩=false:=by simp [World.frozen?,h.box]
theorem AkAt.c0 (h:AkAt w M K N a vW vS):w.cell? ⟨K,0,none⟩=some (.int .i64 a.kind):=by have:=cell_of_row w K 0 _ _ (0,0) h.box;simpa [akBox] using this
theorem AkAt.c1 (h:AkAt w M K N a vW vS):w.cell? ⟨K,1,none⟩=some (.string a.src):=by have:=cell_of_row w K 1 _ _ (0,0) h.box;simpa [akBox] using this
theorem AkAt.c2 (h:AkAt w M K N a vW vS):w.cell? ⟨K,2,none⟩=some (.string a.dst):=by have:=cell_of_row w K 2 _ _ (0,0) h.box;simpa [akBox] using this
theorem AkAt.c3 (h:AkAt w M K N a vW vS):w.cell? ⟨K,3,none⟩=some vW:=by have:=cell_of_row w K 3 _ _ (0,0) h.box;simpa [akBox] using this
theorem AkAt.c4 (h:AkAt w M K N a vW vS):w.cell? ⟨K,4,none⟩=some (.string a.along):=by have:=cell_of_row w K 4 _ _ (0,0) h.box;simpa [akBox] using this
theorem AkAt.c5 (h:AkAt w M K N a vW vS):w.cell? ⟨K,5,none⟩=some vS:=by have:=cell_of_row w K 5 _ _ (0,0) h.box;simpa [akBox] using this
theorem AkAt.c6 (h:AkAt w M K N a vW vS):w.cell? ⟨K,6,none⟩=some (.int .i64 a.hops):=by have:=cell_of_row w K 6 _ _ (0,0) h.box;simpa [akBox] using this
theorem AkAt.keep (h:AkAt w M K N a vW vS)(hk:Kp M w w1):AkAt w1 M K N a vW vS:=
 ⟨(hk.block K h.lt (fun e=>by have:=h.mN;have:=h.nK;cases e;omega)).trans h.box,h.mN,h.nK,
   own_heap h.nodes fun g hg=>hk.block g (h.nodes.lt g hg).2 (fun e=>by have:=(h.nodes.lt g hg).1;have:=h.mN;cases e;omega),
   own_heap h.sets fun g hg=>hk.block g (h.sets.lt g hg).2 (fun e=>by have:=(h.sets.lt g hg).1;have:=h.mN;cases e;omega)⟩
theorem AkAt.wne (h:AkAt w M K N a vW vS):vW.ownBlock≠some K:=fun e=>by
 obtain ⟨c,fz,h2⟩:=Lib.ownsRow_kind h.nodes K e;rw [h.box] at h2;simp at h2
theorem AkAt.sne (h:AkAt w M K N a vW vS):vS.ownBlock≠some K:=fun e=>by
 obtain ⟨c,fz,h2⟩:=Lib.ownsRow_kind h.sets K e;rw [h.box] at h2;simp at h2
theorem AkAt.set (h:AkAt w M K N a vW vS){j:Nat}{u:Value}{a':AskS}(hb:(akBox a vW vS).setIfInBounds j u=akBox a' vW vS)(hc:a'.cond=a.cond)(hs:a'.sets=a.sets):AkAt (w.setCell ⟨K,j,none⟩ u) M K N a' vW vS where
 box:=by
  have:=h.box;simp only [World.setCell,Array.getElem?_modify,this,if_pos rfl,Option.map_some];rw [← hb];rfl
 mN:=h.mN
 nK:=h.nK
 nodes:=by rw [hc];exact ownsRow_setCell_other h.nodes h.wne _
 sets:=by rw [hs];exact ownsRow_setCell_other h.sets h.sne _
theorem AkAt.setW (h:AkAt w M K N a vW vS){v:Value}{q:List Nd}(ho:w.ownsRow N 86 8 v q.length (flatN q)):AkAt (w.setCell ⟨K,3,none⟩ v) M K N { a with cond:=q } v vS where
 box:=by
  have:=h.box;simp only [World.setCell,Array.getElem?_modify,this,if_pos rfl,Option.map_some];rfl
 mN:=h.mN
 nK:=h.nK
 nodes:=ownsRow_setCell_other ho (fun e=>by
  obtain ⟨c,fz,h2⟩:=Lib.ownsRow_kind ho K e;rw [h.box] at h2;simp at h2) _
 sets:=ownsRow_setCell_other h.sets h.sne _
theorem QrAt.other {g cap i:Nat}{l:List Tk}(h:QrAt w M g cap l i){p:Addr}(hp:M<p.block)(u:Value):QrAt (w.setCell p u) M g cap l i:=
 ⟨(Below.heap_setCell w p u M (by omega)).trans h.box,h.gM,h.toks.below (Below.setCell (Below.refl M w) (Nat.le_of_lt hp) u) h.gM,h.env.next ((Below.refl M w).setCell (Nat.le_of_lt hp) u),h.wd.keep (((Below.refl M w).setCell (Nat.le_of_lt hp) u).block _ h.wM),h.wM⟩
end
def MdPost (w:World)(M g cap:Nat)(l:List Tk)(K N:Nat)(r:Int×Nat×AskS)(e:Ending)(w':World):Prop:=
 QrAt w' M g cap l r.2.1∧Bk N M w w'∧(if r.1=0 then e=.returned (.tuple #[])∧∃ vW vS,AkAt w' M K N r.2.2 vW vS else e=QPanic r.1 (lnOf l r.2.1))
section
variable {w w':World} {M g cap K N j:Nat} {l:List Tk} {r:Int×Nat×AskS} {a:AskS} {e:Ending} {c:Int} {vW vS:Value}
theorem MdPost.ok (h:r=(0,j,a))(hb:Bk N M w w')(hq:QrAt w' M g cap l j)(ha:AkAt w' M K N a vW vS):MdPost w M g cap l K N r (.returned (.tuple #[])) w':=by
 subst h;exact ⟨hq,hb,by rw [if_pos rfl];exact ⟨rfl,_,_,ha⟩⟩
theorem MdPost.bad (h:r=(c,j,a))(hc:c≠0)(hb:Bk N M w w')(hq:QrAt w' M g cap l j):MdPost w M g cap l K N r (QPanic c (lnOf l j)) w':=by
 subst h;exact ⟨hq,hb,by rw [if_neg hc]⟩
theorem MdPost.of (h:MdPost w M g cap l K N r e w')(hr:r=(0,j,a)):e=.returned (.tuple #[])∧Bk N M w w'∧QrAt w' M g cap l j∧∃ vW vS,AkAt w' M K N a vW vS:=by
 subst hr;obtain ⟨h1,h2,h3⟩:=h;rw [if_pos rfl] at h3;exact ⟨h3.1,h2,h1,h3.2⟩
theorem MdPost.off (h:MdPost w M g cap l K N r e w')(hr:r=(c,j,a))(hc:c≠0):e=QPanic c (lnOf l j)∧Bk N M w w'∧QrAt w' M g cap l j:=by
 subst hr;obtain ⟨h1,h2,h3⟩:=h;rw [if_neg hc] at h3;exact ⟨h3,h2,h1⟩
end
theorem q_along {w:World}{M g cap i K N:Nat}{l:List Tk}{a:AskS}{vW vS:Value}(P:QrAt w M g cap l i)(A:AkAt w M K N a vW vS)(hi:i<l.length)(hll:l.length≤900000)(hG:∀ t∈l,TokG t)(first:Bool) :
  Calls Tryz.prog 161 #[.pointer (some ⟨M,0,none⟩),.pointer (some ⟨K,0,none⟩)] w fun e w'=>MdPost w M g cap l K N (pcS l .text i first a) e w':=by
 have cf:=Hi (fun (c:Int) W (P:QrAt W M g cap l i)=>q_fail P hi c)
 have hP:=Hi P;have hA:=Hi A;have q0:=P.c0;have q1:=P.c1;have k4:=A.c4;have kf:=A.free 4;have hMl:=P.lt;have hKl:=A.lt;have hMK:M<K:=Nat.lt_of_lt_of_le A.mN A.nK;have bw:=wS i (by omega)
 obtain ⟨t,ht,htx,-,hK,-⟩:=tk_at hi;have e0:w.cell? ⟨g,i*4,none⟩=some (.int .i64 t.kind):=P.toks.2 i t ht 0 _ rfl;have e1:w.cell? ⟨g,i*4+1,none⟩=some (.string t.text):=P.toks.2 i t ht 1 _ rfl;have hs:=hK 6;have hGt:=hG t (List.mem_of_getElem? ht);have b2:(i:Int)<(l.length:Int):=by omega
 have b0:(0:Int)≤(i:Int):=by omega
 have cu:=Hi (fun n=>p_Unquote t.text (by have:=hGt.2.2.2.2.1;omega) (w.drewN n) ((P.qt (Qt.self w n)).env.env))
 obtain ⟨d,hd⟩:∃ d,saidAt l i=d:=⟨_,rfl⟩
 have hd2:(unqOf t.text (spkQ t.text)).1=d:=by rw [← hd];unfold saidAt;rw [htx]
 rw [hd2] at cu
 have hR:pcS l .text i first a=if kindIs l i 6=false then (50,i,a) else if codeP d≠0 then (140,i,a) else (0,i+1,{ a with along:=d }):=by
  unfold pcS;dsimp only;rw [hd,codeP_M]
  by_cases h1:kindIs l i 6=false
  ·rw [if_pos h1,if_pos h1]
  ·rw [if_neg h1,if_neg h1]
   by_cases h2:256<d.size
   ·rw [if_pos (Or.inl h2),if_pos (by rw [if_pos h2];decide)]
   ·rw [if_neg h2]
    cases h3:patM (bs d) with
    | false=>rw [if_pos (Or.inr rfl),if_pos (by decide)]
    | true=>rw [if_neg (by simp;omega),if_neg (by simp)]
 have hR:=Hi hR;clear P A ht hi hK hG hGt htx hd hd2
 by_cases hk:t.kind=6
 ·have bk:(t.kind == 6)=true:=by rw [hk];rfl
  have bk2:(t.kind != 6)=false:=by rw [bne,bk];rfl
  have hR2:=Hi (hR.out.trans (if_neg (by rw [hs,bk];decide)))
  clear hk hs hR;go_enter Tryz.func161,Tryz.ntmps161;go_wp2_with fail;go_quiet (fail);go_upto_region 2 with fail
  go_cut [35] (fun x wx=>∃ w1,wx=w1.setCell ⟨K,4,none⟩ (.string d)∧Hid (Below w.heap.size w w1))
  case first=>
   go_region_law (go_simp;go_at_call 183;refine (cu.out _).mono ?_;rintro e w1 ⟨rfl,hb⟩;have hb:=Hi (((Qt.self w _).below w.heap.size).trans hb);have k41:=(hb.out.cell (p:=⟨K,4,none⟩) hKl).trans k4;have kf1:=(hb.out.frozen (p:=⟨K,4,none⟩) hKl).trans kf;go_wp2_with fail)
   all_goals (
    go_wp2_with fail;go_meet;exact ⟨_,rfl,hb⟩)
  case rest=>
   obtain ⟨w1,rfl,hb⟩:=hcut;have A1:AkAt (w1.setCell ⟨K,4,none⟩ (.string d)) M K N { a with along:=d } vW vS:=(hA.out.keep (gb_below (gb_refl _ _) hb.out)).set rfl rfl rfl;have P1:QrAt (w1.setCell ⟨K,4,none⟩ (.string d)) M g cap l i:=(hP.out.up hb.out).other (p:=⟨K,4,none⟩) hMK _;have B1:Bk N M w (w1.setCell ⟨K,4,none⟩ (.string d)):=(Bk.below hb.out hA.out.nW).set (p:=⟨K,4,none⟩) hA.out.nK _;have A1:=Hi A1;have P1:=Hi P1;have B1:=Hi B1;have z4:=A1.out.c4;clear hb hP hA cu q0 q1 k4 kf e0 e1 hMl hKl;generalize w1.setCell ⟨K,4,none⟩ (.string d)=W at *;have cc:=Hi (t_Compile d W);have z4:W.cell? ⟨K,4,none⟩=some (.string d):=z4
   by_cases hcp:codeP d=0
   ·have H:=Hi (hR2.out.trans (if_neg (by rw [hcp];decide)))
    rw [hcp] at cc;clear hR2 hcp cf;go_upto_region 4 with (go_at_call 184;refine cc.out.mono ?_;rintro e w2 ⟨hb2,p2,n2,rfl⟩;have P2:=P1.out.up hb2;have q1':=P2.c1;have f1':=P2.free 1;have hb2:=Hi hb2;have P2:=Hi P2);go_wp2_with fail;go_end0;exact MdPost.ok H.out (B1.out.trans ((Bk.below hb2.out A1.out.nW).trans (Bk.of (Kp.setAt _) (Nat.le_trans A1.out.nW hb2.out.size)))) (P2.out.setAt (i+1)) ((A1.out.keep (gb_below (gb_refl _ _) hb2.out)).keep (Kp.setAt _))
   ·have H:=Hi (hR2.out.trans (if_pos hcp));have bc:(codeP d != 0)=true:=by simpa using hcp
    clear hR2 hcp;go_upto_region 4 with (go_at_call 184;refine cc.out.mono ?_;rintro e w2 ⟨hb2,p2,n2,rfl⟩;have P2:=P1.out.up hb2;have hb2:=Hi hb2;have P2:=Hi P2);go_wp2_with (go_at_call 46;refine (cf.out 140 _ P2.out).mono ?_;rintro e w3 ⟨rfl,hq3⟩;have hq3:=Hi hq3);exact ⟨rfl,MdPost.bad H.out (by decide) (B1.out.trans ((Bk.below hb2.out A1.out.nW).trans (Bk.of (Kp.qt hq3.out) (Nat.le_trans A1.out.nW hb2.out.size)))) (P2.out.qt hq3.out)⟩
 ·have bk:(t.kind == 6)=false:=by rw [beq_eq_false_iff_ne];exact hk
  have bk2:(t.kind != 6)=true:=by rw [bne,bk];rfl
  have H:=Hi (hR.out.trans (if_pos (by rw [hs,bk])))
  clear hk hs hR;go_enter Tryz.func161,Tryz.ntmps161;go_wp2_with fail;go_quiet (fail);go_wp2_with (go_at_call 46;refine (cf.out 50 _ (hP.out.qt (Qt.self w nq))).mono ?_;rintro e w2 ⟨rfl,hq2⟩;have hq2:=Hi ((Qt.self w nq).trans hq2));exact ⟨rfl,MdPost.bad H.out (by decide) (Bk.of (Kp.qt hq2.out) hA.out.nW) (hP.out.qt hq2.out)⟩
def rdQ (l:List Tk)(i:Nat):List Nd:=(readD l i).1.getD []
def rdC (l:List Tk)(i:Nat):Int:=match (readD l i).1 with
 | none=>(readD l i).2.2
 | some _=>0
theorem pc_expr {l:List Tk}{i:Nat}{first:Bool}{a:AskS}(h:a.cond=[]):pcS l .expr i first a=(rdC l i,(readD l i).2.1,{ a with cond:=rdQ l i }):=by
 unfold pcS rdC rdQ;dsimp only
 cases (readD l i).1 with
 | none=>dsimp only;obtain ⟨a1,a2,a3,a4,a5,a6,a7⟩:=a;simp only at h;subst h;rfl
 | some q=>rfl
theorem rd_post {w:World}{l:List Tk}{i:Nat}{e:Ending}{w':World}(h:RdPost w (readD l i) e w'):∃ v,e=.returned (.tuple #[v,.int .i64 ((readD l i).2.1:Nat),.int .i64 (rdC l i)])∧w'.ownsRow w.heap.size 86 8 v (rdQ l i).length (flatN (rdQ l i))∧Below w.heap.size w w':=by
 obtain ⟨hb,h⟩:=h;unfold rdC rdQ
 cases hr:(readD l i).1 with
 | none=>
   rw [hr] at h;exact ⟨_,h,⟨by simp [flatN],.inl ⟨rfl,rfl⟩⟩,hb⟩
 | some q=>
   rw [hr] at h;obtain ⟨v,h1,h2⟩:=h;exact ⟨v,h1,h2,hb⟩
def whereP (k:Int):List Pc:=[.word wWhere,.expr]++(if k=6∨k=7 then [.word wAlong,.text] else [])
theorem pc_word {l:List Tk}{i:Nat}{first:Bool}{a:AskS}{s:ByteArray}:pcS l (.word s) i first a=((wantR l i 2 s).1,(wantR l i 2 s).2,a):=by
 unfold pcS wantR;dsimp only
 cases isT l i 2 s<;>rfl
theorem want_cases (l:List Tk)(i:Nat)(k:Int)(s:ByteArray):(wantR l i k s=(0,i+1)∧kindIs l i k=true)∨wantR l i k s=(50,i):=by
 unfold wantR
 cases h:isT l i k s with
 | false=>right;rfl
 | true=>left;exact ⟨rfl,isT_kind h⟩
theorem pcs_ok {l:List Tk}{p:Pc}{r:List Pc}{i j:Nat}{first:Bool}{a b:AskS}(h:pcS l p i first a=(0,j,b)):pcsS l (p::r) i first a=pcsS l r j (first && !isName? p) b:=by
 rw [pcs_cons,h,if_neg (fun h=>h rfl)]
theorem pcs_bad {l:List Tk}{p:Pc}{r:List Pc}{i j:Nat}{first:Bool}{a b:AskS}{c:Int}(h:pcS l p i first a=(c,j,b))(hc:c≠0):pcsS l (p::r) i first a=(c,j,b):=by
 rw [pcs_cons,h,if_pos hc]
theorem pcs_one {l:List Tk}{p:Pc}{i:Nat}{first:Bool}{a:AskS}:pcsS l [p] i first a=pcS l p i first a:=by
 rw [pcs_cons];generalize pcS l p i first a=x
 obtain ⟨c,j,b⟩:=x
 by_cases h:c=0
 ·subst h;rw [if_neg (fun h=>h rfl)];rfl
 ·rw [if_pos h]
theorem own_setM {w:World}{M B k n j:Nat}{T:TypeId}{v:Value}{xs:List Value}(h:w.ownsRow B T k v n xs)(hM:M<B)(u:Value):(w.setCell ⟨M,j,none⟩ u).ownsRow B T k v n xs:=ownsRow_setCell_below h (a:=⟨M,j,none⟩) hM u
theorem q_where {w:World}{M g cap i K N:Nat}{l:List Tk}{a:AskS}{vW vS:Value}(P:QrAt w M g cap l i)(A:AkAt w M K N a vW vS)(hi:i<l.length)(hll:l.length≤900000)(hG:∀ t∈l,TokG t)(hL:Lined l)(ha:a.cond=[])(first:Bool) :
  Calls Tryz.prog 124 #[.pointer (some ⟨M,0,none⟩),.pointer (some ⟨K,0,none⟩)] w fun e w'=>MdPost w M g cap l K N (pcsS l (whereP a.kind) i first a) e w':=by
 have cw:=Hi (q_want P hi hll 2 wWhere);have cf:=Hi (fun (c:Int) (j:Nat) W (P:QrAt W M g cap l j) (hj:j<l.length)=>q_fail P hj c)
 have hP:=Hi P;have hA:=Hi A;have hN:=A.nW;have hMK:M<K:=Nat.lt_of_lt_of_le A.mN A.nK;have hR:pcsS l (whereP a.kind) i first a=pcsS l (.word wWhere::.expr::(if a.kind=6∨a.kind=7 then [.word wAlong,.text] else [])) i first a:=rfl
 rcases want_cases l i 2 wWhere with ⟨hw,hk⟩|hw
 ·have hst:=Stays.step hL hk (by decide)
  have hi1:=hst.2.1;have hR2:=Hi (hR.trans ((pcs_ok (by rw [pc_word,hw])).trans (pcs_cons _ _ _ _ _ _)))
  have hin:=read_in hL hi1;have hjl:=hin.2.1;have hpe:=pc_expr (l:=l) (i:=i+1) (first:=first && !isName? (.word wWhere)) (a:=a) ha
  obtain ⟨at',hat⟩:∃ j,(readD l (i+1)).2.1=j:=⟨_,rfl⟩
  have hpst:=fun e w w' (h:RdPost w (readD l (i+1)) e w')=>rd_post h
  have hxr:=fun W (P:QrAt W M g cap l (i+1))=>x_Read (cap:=cap) P.toks P.env.env hG hL hll hi1
  rw [hat] at hpe hjl;have hpst:=Hi hpst;rw [hpe] at hR2;obtain ⟨c,hc⟩:∃ c,rdC l (i+1)=c:=⟨_,rfl⟩
  obtain ⟨q,hq⟩:∃ q,rdQ l (i+1)=q:=⟨_,rfl⟩
  rw [hc,hq] at hR2
  have hpst:∀ e w w',RdPost w (readD l (i+1)) e w'→∃ v,e=.returned (.tuple #[v,.int .i64 (at':Nat),.int .i64 c])∧w'.ownsRow w.heap.size 86 8 v q.length (flatN q)∧Below w.heap.size w w':=fun e w w' h=>by
   have:=hpst.out e w w' h;rw [hat,hc,hq] at this;exact this
  have cx:=Hi (fun W (P:QrAt W M g cap l (i+1))=>(hxr W P).mono (hpst · W ·))
  have hw:=Hi hw;have cal:=Hi (fun W (P:QrAt W M g cap l at')=>q_want P hjl hll 2 wAlong)
  clear hpst hxr hat hc hq hpe hR P A hk hst hin;go_enter Tryz.func124,Tryz.ntmps124;go_upto_region 1 with (go_at_call 48;refine cw.out.mono ?_;rintro e w1 hx;obtain ⟨rfl,hK1,P1⟩:=hx.of hw.out;have A1:=hA.out.keep hK1;have hK1:=Hi hK1;have P1:=Hi P1;have A1:=Hi A1;clear hx);have q0:=P1.out.c0;have q1:w1.cell? ⟨M,1,none⟩=some (.int .i64 ((i:Int)+1)):=P1.out.c1;have cx1:=Hi (cx.out _ (P1.out.qt (Qt.self w1 1)));clear cw cx
  go_cut [4,5,6] (fun x y z wx=>∃ v,x=v∧y=.int .i64 at'∧z=.int .i64 c∧Hid (wx.ownsRow w1.heap.size 86 8 v q.length (flatN q))∧Hid (Below w1.heap.size w1 wx))
  case first=>
   go_region_law (go_simp;go_at_call 160;refine cx1.out.mono ?_;rintro e w2 ⟨v,rfl,ho,hb⟩;have ho:=Hi ho;have hb:=Hi hb;go_wp2_with fail)
   all_goals (
    go_wp2_with fail;go_meet;exact ⟨v,rfl,rfl,rfl,ho,Hi (((Qt.self w1 1).below _).trans hb.out)⟩)
  case rest=>
   obtain ⟨v,rfl,rfl,rfl,ho,hb⟩:=hcut;obtain ⟨vA,vc,rfl⟩:=own_shape ho.out;have hN1:N≤w1.heap.size:=Nat.le_trans hN hK1.out.size;have P2:=P1.out.up hb.out;have A2:=A1.out.keep (gb_below (gb_refl _ _) hb.out);have B2:Bk N M w wc:=(Bk.of hK1.out hN).trans (Bk.below hb.out hN1);have y1:=P2.free 1;have z1:=P2.c1;have P3:=P2.setAt at';have A3:=A2.keep (Kp.setAt (.int .i64 at'));have B3:=B2.trans (Bk.of (Kp.setAt (M:=M) (.int .i64 at')) A2.nW);have ho3:=own_setM (j:=1) (Go.Joins.ownsRow_le ho.out hN1) hA.out.mN (.int .i64 at');have P3:=Hi P3;have A3:=Hi A3;have B3:=Hi B3;have ho3:=Hi ho3;clear P2 A2 B2 ho hb q0 q1 cx1 P1 A1 hK1;go_upto_region 3 with fail;generalize wc.setCell ⟨M,1,none⟩ (.int .i64 at')=W at *
   by_cases hc0:c=0
   ·subst hc0;have hR3:=Hi (hR2.out.trans (if_neg (fun h=>h rfl)))
    have A4:=A3.out.setW ho3.out;have P4:=P3.out.other (p:=⟨K,3,none⟩) hMK (.slice vA q.length vc);have B4:=B3.out.set (p:=⟨K,3,none⟩) A3.out.nK (.slice vA q.length vc);have k3:=A3.out.c3;have f3:=A3.out.free 3;have A4:=Hi A4;have P4:=Hi P4;have B4:=Hi B4;clear hR2 P3 B3 ho3;go_upto_region 6 with fail;clear A3 k3 f3;generalize W.setCell ⟨K,3,none⟩ (.slice vA q.length vc)=W2 at *;have k0:W2.cell? ⟨K,0,none⟩=some (.int .i64 a.kind):=A4.out.c0
    by_cases h67:a.kind=6∨a.kind=7
    ·rw [if_pos h67] at hR3;have cw2:=Hi (cal.out _ P4.out);clear cal;rcases want_cases l at' 2 wAlong with ⟨hw2,hk2⟩|hw2
     ·have hst2:=Stays.step hL hk2 (by decide)
      obtain ⟨⟨c2,j2,b2⟩,hr2⟩:∃ x,pcS l .text (at'+1) (first && !isName? (.word wWhere) && !isName? .expr && !isName? (.word wAlong)) { a with cond:=q }=x:=⟨_,rfl⟩
      have hR4:=hR3.out.trans ((pcs_ok (by rw [pc_word,hw2])).trans pcs_one)
      rw [hr2] at hR4;have hR4:=Hi hR4;have cal:=Hi (fun W (P:QrAt W M g cap l (at'+1)) (A:AkAt W M K N { a with cond:=q } (.slice vA q.length vc) vS)=>hr2▸q_along P A hst2.2.1 hll hG (first && !isName? (.word wWhere) && !isName? .expr && !isName? (.word wAlong)))
      have hw2:=Hi hw2;clear hR3 hk2 hst2 hr2;rcases h67 with h6|h7
      ·have d6:(a.kind == 6)=true:=by rw [h6];rfl
       clear h6
       by_cases hc2:c2=0
       ·subst hc2;go_wp2_with (first|(go_at_call 161;refine (cal.out _ P5.out A5.out).mono ?_;rintro e w6 hx;obtain ⟨rfl,B6,P6,v6,s6,A6⟩:=hx.of rfl;have B6:=Hi B6;have P6:=Hi P6;have A6:=Hi A6;clear hx)|(go_at_call 48;refine cw2.out.mono ?_;rintro e w5 hx;obtain ⟨rfl,hK5,P5⟩:=hx.of hw2.out;have A5:=A4.out.keep hK5;have hK5:=Hi hK5;have P5:=Hi P5;have A5:=Hi A5;clear hx))
        go_end0;exact MdPost.ok hR4.out (B4.out.trans ((Bk.of hK5.out A4.out.nW).trans B6.out)) P6.out A6.out
       ·have hc2:=Hi hc2;go_wp2_with (first|(go_at_call 161;refine (cal.out _ P5.out A5.out).mono ?_;rintro e w6 hx;obtain ⟨rfl,B6,P6⟩:=hx.off rfl hc2.out;have B6:=Hi B6;have P6:=Hi P6;clear hx)|(go_at_call 48;refine cw2.out.mono ?_;rintro e w5 hx;obtain ⟨rfl,hK5,P5⟩:=hx.of hw2.out;have A5:=A4.out.keep hK5;have hK5:=Hi hK5;have P5:=Hi P5;have A5:=Hi A5;clear hx))
        exact ⟨rfl,MdPost.bad hR4.out hc2.out (B4.out.trans ((Bk.of hK5.out A4.out.nW).trans B6.out)) P6.out⟩
      ·have d6:(a.kind == 6)=false:=by rw [h7];rfl
       have d7:(a.kind == 7)=true:=by rw [h7];rfl
       clear h7
       by_cases hc2:c2=0
       ·subst hc2;go_wp2_with (first|(go_at_call 161;refine (cal.out _ P5.out A5.out).mono ?_;rintro e w6 hx;obtain ⟨rfl,B6,P6,v6,s6,A6⟩:=hx.of rfl;have B6:=Hi B6;have P6:=Hi P6;have A6:=Hi A6;clear hx)|(go_at_call 48;refine cw2.out.mono ?_;rintro e w5 hx;obtain ⟨rfl,hK5,P5⟩:=hx.of hw2.out;have A5:=A4.out.keep hK5;have hK5:=Hi hK5;have P5:=Hi P5;have A5:=Hi A5;clear hx))
        go_end0;exact MdPost.ok hR4.out (B4.out.trans ((Bk.of hK5.out A4.out.nW).trans B6.out)) P6.out A6.out
       ·have hc2:=Hi hc2;go_wp2_with (first|(go_at_call 161;refine (cal.out _ P5.out A5.out).mono ?_;rintro e w6 hx;obtain ⟨rfl,B6,P6⟩:=hx.off rfl hc2.out;have B6:=Hi B6;have P6:=Hi P6;clear hx)|(go_at_call 48;refine cw2.out.mono ?_;rintro e w5 hx;obtain ⟨rfl,hK5,P5⟩:=hx.of hw2.out;have A5:=A4.out.keep hK5;have hK5:=Hi hK5;have P5:=Hi P5;have A5:=Hi A5;clear hx))
        exact ⟨rfl,MdPost.bad hR4.out hc2.out (B4.out.trans ((Bk.of hK5.out A4.out.nW).trans B6.out)) P6.out⟩
     ·have hR4:=Hi (hR3.out.trans (pcs_bad (c:=50) (j:=at') (b:={ a with cond:=q }) (by rw [pc_word,hw2]) (by decide)))
      have hw2:=Hi hw2;clear hR3;rcases h67 with h6|h7
      ·have d6:(a.kind == 6)=true:=by rw [h6];rfl
       clear h6;go_wp2_with (go_at_call 48;refine cw2.out.mono ?_;rintro e w5 hx;obtain ⟨rfl,hK5,P5⟩:=hx.off hw2.out (by decide);have hK5:=Hi hK5;have P5:=Hi P5;clear hx)
       exact ⟨rfl,MdPost.bad hR4.out (by decide) (B4.out.trans (Bk.of hK5.out A4.out.nW)) P5.out⟩
      ·have d6:(a.kind == 6)=false:=by rw [h7];rfl
       have d7:(a.kind == 7)=true:=by rw [h7];rfl
       clear h7;go_wp2_with (go_at_call 48;refine cw2.out.mono ?_;rintro e w5 hx;obtain ⟨rfl,hK5,P5⟩:=hx.off hw2.out (by decide);have hK5:=Hi hK5;have P5:=Hi P5;clear hx)
       exact ⟨rfl,MdPost.bad hR4.out (by decide) (B4.out.trans (Bk.of hK5.out A4.out.nW)) P5.out⟩
    ·rw [if_neg h67] at hR3;have d6:(a.kind == 6)=false:=by rw [beq_eq_false_iff_ne];exact fun h=>h67 (Or.inl h)
     have d7:(a.kind == 7)=false:=by rw [beq_eq_false_iff_ne];exact fun h=>h67 (Or.inr h)
     clear h67 cal;go_wp2_with fail;go_end0;exact MdPost.ok (hR3.out.trans rfl) B4.out P4.out A4.out
   ·have hR3:=Hi (hR2.out.trans (if_pos hc0));have bc:(c != 0)=true:=by simpa using hc0
    have cf3:=Hi (cf.out c at' _ P3.out hjl);have hc0:=Hi hc0;clear hR2 cal cf;go_wp2_with (go_at_call 46;refine cf3.out.mono ?_;rintro e w3 ⟨rfl,hq3⟩;have hq3:=Hi hq3);exact ⟨rfl,MdPost.bad hR3.out hc0.out (B3.out.trans (Bk.of (Kp.qt hq3.out) A3.out.nW)) (P3.out.qt hq3.out)⟩
 ·have H:=Hi (hR.trans (pcs_bad (c:=50) (j:=i) (b:=a) (by rw [pc_word,hw]) (by decide)))
  have hw:=Hi hw;clear hR P A;go_enter Tryz.func124,Tryz.ntmps124;go_wp2_with (go_at_call 48;refine cw.out.mono ?_;rintro e w1 hx;obtain ⟨rfl,hK1,P1⟩:=hx.off hw.out (by decide);have hK1:=Hi hK1;have P1:=Hi P1;clear hx)
  exact ⟨rfl,MdPost.bad H.out (by decide) (Bk.of hK1.out hN) P1.out⟩
theorem take_cases (l:List Tk)(i:Nat)(k:Int):(takeR l i k=(0,i+1)∧kindIs l i k=true)∨(takeR l i k=(50,i)∧kindIs l i k=false):=by
 unfold takeR
 cases h:kindIs l i k with
 | false=>right;exact ⟨rfl,rfl⟩
 | true=>left;exact ⟨rfl,rfl⟩
theorem pc_port_ok {l:List Tk}{i:Nat}{first:Bool}{a:AskS}(h:kindIs l i 3=true):pcS l .port i first a=(0,i+1,a.named (textAt l i) first):=by unfold pcS;dsimp only;rw [if_neg (by rw [h];decide)]
theorem pc_port_bad {l:List Tk}{i:Nat}{first:Bool}{a:AskS}(h:kindIs l i 3=false):pcS l .port i first a=(50,i,a):=by unfold pcS;dsimp only;rw [if_pos h]
theorem pc_name_ok {l:List Tk}{i:Nat}{first:Bool}{a:AskS}(h:kindIs l i 2=true):pcS l .name i first a=(0,i+1,a.named (textAt l i) first):=by unfold pcS;dsimp only;rw [if_neg (by rw [h];decide)]
theorem pc_name_bad {l:List Tk}{i:Nat}{first:Bool}{a:AskS}(h:kindIs l i 2=false):pcS l .name i first a=(50,i,a):=by unfold pcS;dsimp only;rw [if_pos h]
theorem q_nothing {w:World}{M g cap i K N:Nat}{l:List Tk}{a:AskS}{vW vS:Value}(P:QrAt w M g cap l i)(A:AkAt w M K N a vW vS)(first:Bool) :
  Calls Tryz.prog 91 #[.pointer (some ⟨M,0,none⟩),.pointer (some ⟨K,0,none⟩)] w fun e w'=>MdPost w M g cap l K N (pcsS l [] i first a) e w':=by
 have P:=Hi P;have A:=Hi A;go_enter Tryz.func91,Tryz.ntmps91;go_wp2_with fail;go_end0;exact MdPost.ok rfl (Bk.refl _ _ _) P.out A.out
theorem q_from {w:World}{M g cap i K N:Nat}{l:List Tk}{a:AskS}{vW vS:Value}(P:QrAt w M g cap l i)(A:AkAt w M K N a vW vS)(hi:i<l.length)(hll:l.length≤900000)(hG:∀ t∈l,TokG t)(hL:Lined l)(ha:a.cond=[]) :
  Calls Tryz.prog 88 #[.pointer (some ⟨M,0,none⟩),.pointer (some ⟨K,0,none⟩)] w fun e w'=>MdPost w M g cap l K N (pcsS l ([.port]++whereP a.kind) i true a) e w':=by
 have hMK:M<K:=Nat.lt_of_lt_of_le A.mN A.nK;have hR0:=Hi (show pcsS l ([.port]++whereP a.kind) i true a=pcsS l (.port::whereP a.kind) i true a from rfl)
 have hB0:=Bk.refl N M w;have P0:=Hi P;have A0:=Hi A;have B0:=Hi hB0;clear P A hB0;have cc1:=Hi (q_take P0.out hi hll 3);rcases take_cases l (i) 3 with ⟨hw1,hk1⟩|⟨hw1,hk1⟩
 ·have hst1:=Stays.step hL hk1 (by decide)
  have hi1:=hst1.2.1;have hR1:=Hi (hR0.out.trans (pcs_ok (pc_port_ok hk1)));have hw1:=Hi hw1;go_enter Tryz.func88,Tryz.ntmps88;go_upto_region 1 with (go_at_call 123;refine cc1.out.mono ?_;rintro e w1 hx;obtain ⟨rfl,hK1,P1⟩:=hx.of hw1.out;have A1:=A0.out.keep hK1;have y1:=A1.free 1;have x1:=A1.c1;have hK1:=Hi hK1;have P1:=Hi P1;have A1:=Hi A1;clear hx);have P1:=Hi (P1.out.other (p:=⟨K,1,none⟩) hMK (.string (textAt l (i))));have B1:=Hi ((B0.out.trans (Bk.of hK1.out A0.out.nW)).set (p:=⟨K,1,none⟩) A1.out.nK (.string (textAt l (i))));have A1:Hid (AkAt (w1.setCell ⟨K,1,none⟩ (.string (textAt l (i)))) M K N ({ a with src:=textAt l (i) }) vW vS):=Hi (A1.out.set rfl rfl rfl);clear y1 x1 hK1 P0 A0 B0;generalize w1.setCell ⟨K,1,none⟩ (.string (textAt l (i)))=W1 at *;obtain ⟨⟨c2,j2,b2⟩,hr2⟩:∃ x,pcsS l (whereP a.kind) (i+1) (true && !isName? .port) ({ a with src:=textAt l (i) })=x:=⟨_,rfl⟩
  have cc2:=Hi (q_where P1.out A1.out hi1 hll hG hL ha (true && !isName? .port));have hRr:=hR1.out.trans (show _=pcsS l (whereP a.kind) (i+1) (true && !isName? .port) ({ a with src:=textAt l (i) }) from rfl)
  rw [hr2] at hRr;have cc2:=Hi (show Calls Tryz.prog 124 #[.pointer (some ⟨M,0,none⟩),.pointer (some ⟨K,0,none⟩)] _ fun e w'=>MdPost _ M g cap l K N (c2,j2,b2) e w' from hr2▸cc2.out)
  have hRr:=Hi hRr;clear hr2
  by_cases hc2:c2=0
  ·subst hc2;go_wp2_with (go_at_call 124;refine cc2.out.mono ?_;rintro e w2 hx;obtain ⟨rfl,B2,P2,v2,s2,A2⟩:=hx.of rfl;have B2:=Hi B2;have P2:=Hi P2;have A2:=Hi A2;clear hx);go_end0;exact MdPost.ok hRr.out (B1.out.trans B2.out) P2.out A2.out
  ·have hc2:=Hi hc2;go_wp2_with (go_at_call 124;refine cc2.out.mono ?_;rintro e w2 hx;obtain ⟨rfl,B2,P2⟩:=hx.off rfl hc2.out;have B2:=Hi B2;have P2:=Hi P2;clear hx);exact ⟨rfl,MdPost.bad hRr.out hc2.out (B1.out.trans B2.out) P2.out⟩
 ·have hRb:=Hi (hR0.out.trans (pcs_bad (c:=50) (j:=i) (b:=a) (pc_port_bad hk1) (by decide)))
  have hw1:=Hi hw1;go_enter Tryz.func88,Tryz.ntmps88;go_wp2_with (go_at_call 123;refine cc1.out.mono ?_;rintro e w1 hx;obtain ⟨rfl,hK1,P1⟩:=hx.off hw1.out (by decide);have hK1:=Hi hK1;have P1:=Hi P1;clear hx)
  exact ⟨rfl,MdPost.bad hRb.out (by decide) (B0.out.trans (Bk.of hK1.out A0.out.nW)) P1.out⟩
theorem q_slices {w:World}{M g cap i K N:Nat}{l:List Tk}{a:AskS}{vW vS:Value}(P:QrAt w M g cap l i)(A:AkAt w M K N a vW vS)(hi:i<l.length)(hll:l.length≤900000)(hG:∀ t∈l,TokG t)(hL:Lined l)(ha:a.cond=[]) :
  Calls Tryz.prog 89 #[.pointer (some ⟨M,0,none⟩),.pointer (some ⟨K,0,none⟩)] w fun e w'=>MdPost w M g cap l K N (pcsS l ([.name,.word wFrom,.name]) i true a) e w':=by
 have hMK:M<K:=Nat.lt_of_lt_of_le A.mN A.nK;have hR0:=Hi (show pcsS l ([.name,.word wFrom,.name]) i true a=pcsS l ([.name,.word wFrom,.name]) i true a from rfl)
 have hB0:=Bk.refl N M w;have P0:=Hi P;have A0:=Hi A;have B0:=Hi hB0;clear P A hB0;have cc1:=Hi (q_take P0.out hi hll 2);rcases take_cases l (i) 2 with ⟨hw1,hk1⟩|⟨hw1,hk1⟩
 ·have hst1:=Stays.step hL hk1 (by decide)
  have hi1:=hst1.2.1;have hR1:=Hi (hR0.out.trans (pcs_ok (pc_name_ok hk1)));have hw1:=Hi hw1;go_enter Tryz.func89,Tryz.ntmps89;go_upto_region 1 with (go_at_call 123;refine cc1.out.mono ?_;rintro e w1 hx;obtain ⟨rfl,hK1,P1⟩:=hx.of hw1.out;have A1:=A0.out.keep hK1;have y1:=A1.free 1;have x1:=A1.c1;have hK1:=Hi hK1;have P1:=Hi P1;have A1:=Hi A1;clear hx);have P1:=Hi (P1.out.other (p:=⟨K,1,none⟩) hMK (.string (textAt l (i))));have B1:=Hi ((B0.out.trans (Bk.of hK1.out A0.out.nW)).set (p:=⟨K,1,none⟩) A1.out.nK (.string (textAt l (i))));have A1:Hid (AkAt (w1.setCell ⟨K,1,none⟩ (.string (textAt l (i)))) M K N ({ a with src:=textAt l (i) }) vW vS):=Hi (A1.out.set rfl rfl rfl);clear y1 x1 hK1 P0 A0 B0;generalize w1.setCell ⟨K,1,none⟩ (.string (textAt l (i)))=W1 at *;have cc2:=Hi (q_want P1.out hi1 hll 2 wFrom);rcases want_cases l (i+1) 2 wFrom with ⟨hw2,hk2⟩|hw2
  ·have hst2:=Stays.step hL hk2 (by decide)
   have hi2:=hst2.2.1;have hR2:=Hi (hR1.out.trans (pcs_ok (by rw [pc_word,hw2])))
   have hw2:=Hi hw2;go_upto_region 2 with (go_at_call 48;refine cc2.out.mono ?_;rintro e w2 hx;obtain ⟨rfl,hK2,P2⟩:=hx.of hw2.out;have A2:=A1.out.keep hK2;have hK2:=Hi hK2;have P2:=Hi P2;have A2:=Hi A2;clear hx);have B2:=Hi (B1.out.trans (Bk.of hK2.out A1.out.nW));clear hK2 P1 A1 B1;have cc3:=Hi (q_take P2.out hi2 hll 2);rcases take_cases l (i+1+1) 2 with ⟨hw3,hk3⟩|⟨hw3,hk3⟩
   ·have hst3:=Stays.step hL hk3 (by decide)
    have hi3:=hst3.2.1;have hR3:=Hi (hR2.out.trans (pcs_ok (pc_name_ok hk3)));have hw3:=Hi hw3;go_upto_region 3 with (go_at_call 123;refine cc3.out.mono ?_;rintro e w3 hx;obtain ⟨rfl,hK3,P3⟩:=hx.of hw3.out;have A3:=A2.out.keep hK3;have y3:=A3.free 2;have x3:=A3.c2;have hK3:=Hi hK3;have P3:=Hi P3;have A3:=Hi A3;clear hx);have P3:=Hi (P3.out.other (p:=⟨K,2,none⟩) hMK (.string (textAt l (i+1+1))));have B3:=Hi ((B2.out.trans (Bk.of hK3.out A2.out.nW)).set (p:=⟨K,2,none⟩) A3.out.nK (.string (textAt l (i+1+1))));have A3:Hid (AkAt (w3.setCell ⟨K,2,none⟩ (.string (textAt l (i+1+1)))) M K N ({ { a with src:=textAt l (i) } with dst:=textAt l (i+1+1) }) vW vS):=Hi (A3.out.set rfl rfl rfl);clear y3 x3 hK3 P2 A2 B2;generalize w3.setCell ⟨K,2,none⟩ (.string (textAt l (i+1+1)))=W3 at *;go_wp2_with fail;go_end0;exact MdPost.ok (hR3.out.trans rfl) B3.out P3.out A3.out
   ·have hRb:=Hi (hR2.out.trans (pcs_bad (c:=50) (j:=i+1+1) (b:={ a with src:=textAt l (i) }) (pc_name_bad hk3) (by decide)))
    have hw3:=Hi hw3;go_wp2_with (go_at_call 123;refine cc3.out.mono ?_;rintro e w3 hx;obtain ⟨rfl,hK3,P3⟩:=hx.off hw3.out (by decide);have hK3:=Hi hK3;have P3:=Hi P3;clear hx)
    exact ⟨rfl,MdPost.bad hRb.out (by decide) (B2.out.trans (Bk.of hK3.out A2.out.nW)) P3.out⟩
  ·have hRb:=Hi (hR1.out.trans (pcs_bad (c:=50) (j:=i+1) (b:={ a with src:=textAt l (i) }) (by rw [pc_word,hw2];try rfl) (by decide)))
   have hw2:=Hi hw2;go_wp2_with (go_at_call 48;refine cc2.out.mono ?_;rintro e w2 hx;obtain ⟨rfl,hK2,P2⟩:=hx.off hw2.out (by decide);have hK2:=Hi hK2;have P2:=Hi P2;clear hx)
   exact ⟨rfl,MdPost.bad hRb.out (by decide) (B1.out.trans (Bk.of hK2.out A1.out.nW)) P2.out⟩
 ·have hRb:=Hi (hR0.out.trans (pcs_bad (c:=50) (j:=i) (b:=a) (pc_name_bad hk1) (by decide)))
  have hw1:=Hi hw1;go_enter Tryz.func89,Tryz.ntmps89;go_wp2_with (go_at_call 123;refine cc1.out.mono ?_;rintro e w1 hx;obtain ⟨rfl,hK1,P1⟩:=hx.off hw1.out (by decide);have hK1:=Hi hK1;have P1:=Hi P1;clear hx)
  exact ⟨rfl,MdPost.bad hRb.out (by decide) (B0.out.trans (Bk.of hK1.out A0.out.nW)) P1.out⟩
theorem q_between {w:World}{M g cap i K N:Nat}{l:List Tk}{a:AskS}{vW vS:Value}(P:QrAt w M g cap l i)(A:AkAt w M K N a vW vS)(hi:i<l.length)(hll:l.length≤900000)(hG:∀ t∈l,TokG t)(hL:Lined l)(ha:a.cond=[]) :
  Calls Tryz.prog 87 #[.pointer (some ⟨M,0,none⟩),.pointer (some ⟨K,0,none⟩)] w fun e w'=>MdPost w M g cap l K N (pcsS l ([.port,.word wTo,.port]++whereP a.kind) i true a) e w':=by
 have hMK:M<K:=Nat.lt_of_lt_of_le A.mN A.nK;have hR0:=Hi (show pcsS l ([.port,.word wTo,.port]++whereP a.kind) i true a=pcsS l (.port::.word wTo::.port::whereP a.kind) i true a from rfl)
 have hB0:=Bk.refl N M w;have P0:=Hi P;have A0:=Hi A;have B0:=Hi hB0;clear P A hB0;have cc1:=Hi (q_take P0.out hi hll 3);rcases take_cases l (i) 3 with ⟨hw1,hk1⟩|⟨hw1,hk1⟩
 ·have hst1:=Stays.step hL hk1 (by decide)
  have hi1:=hst1.2.1;have hR1:=Hi (hR0.out.trans (pcs_ok (pc_port_ok hk1)));have hw1:=Hi hw1;go_enter Tryz.func87,Tryz.ntmps87;go_upto_region 1 with (go_at_call 123;refine cc1.out.mono ?_;rintro e w1 hx;obtain ⟨rfl,hK1,P1⟩:=hx.of hw1.out;have A1:=A0.out.keep hK1;have y1:=A1.free 1;have x1:=A1.c1;have hK1:=Hi hK1;have P1:=Hi P1;have A1:=Hi A1;clear hx);have P1:=Hi (P1.out.other (p:=⟨K,1,none⟩) hMK (.string (textAt l (i))));have B1:=Hi ((B0.out.trans (Bk.of hK1.out A0.out.nW)).set (p:=⟨K,1,none⟩) A1.out.nK (.string (textAt l (i))));have A1:Hid (AkAt (w1.setCell ⟨K,1,none⟩ (.string (textAt l (i)))) M K N ({ a with src:=textAt l (i) }) vW vS):=Hi (A1.out.set rfl rfl rfl);clear y1 x1 hK1 P0 A0 B0;generalize w1.setCell ⟨K,1,none⟩ (.string (textAt l (i)))=W1 at *;have cc2:=Hi (q_want P1.out hi1 hll 2 wTo);rcases want_cases l (i+1) 2 wTo with ⟨hw2,hk2⟩|hw2
  ·have hst2:=Stays.step hL hk2 (by decide)
   have hi2:=hst2.2.1;have hR2:=Hi (hR1.out.trans (pcs_ok (by rw [pc_word,hw2])))
   have hw2:=Hi hw2;go_upto_region 2 with (go_at_call 48;refine cc2.out.mono ?_;rintro e w2 hx;obtain ⟨rfl,hK2,P2⟩:=hx.of hw2.out;have A2:=A1.out.keep hK2;have hK2:=Hi hK2;have P2:=Hi P2;have A2:=Hi A2;clear hx);have B2:=Hi (B1.out.trans (Bk.of hK2.out A1.out.nW));clear hK2 P1 A1 B1;have cc3:=Hi (q_take P2.out hi2 hll 3);rcases take_cases l (i+1+1) 3 with ⟨hw3,hk3⟩|⟨hw3,hk3⟩
   ·have hst3:=Stays.step hL hk3 (by decide)
    have hi3:=hst3.2.1;have hR3:=Hi (hR2.out.trans (pcs_ok (pc_port_ok hk3)));have hw3:=Hi hw3;go_upto_region 3 with (go_at_call 123;refine cc3.out.mono ?_;rintro e w3 hx;obtain ⟨rfl,hK3,P3⟩:=hx.of hw3.out;have A3:=A2.out.keep hK3;have y3:=A3.free 2;have x3:=A3.c2;have hK3:=Hi hK3;have P3:=Hi P3;have A3:=Hi A3;clear hx);have P3:=Hi (P3.out.other (p:=⟨K,2,none⟩) hMK (.string (textAt l (i+1+1))));have B3:=Hi ((B2.out.trans (Bk.of hK3.out A2.out.nW)).set (p:=⟨K,2,none⟩) A3.out.nK (.string (textAt l (i+1+1))));have A3:Hid (AkAt (w3.setCell ⟨K,2,none⟩ (.string (textAt l (i+1+1)))) M K N ({ { a with src:=textAt l (i) } with dst:=textAt l (i+1+1) }) vW vS):=Hi (A3.out.set rfl rfl rfl);clear y3 x3 hK3 P2 A2 B2;generalize w3.setCell ⟨K,2,none⟩ (.string (textAt l (i+1+1)))=W3 at *;obtain ⟨⟨c4,j4,b4⟩,hr4⟩:∃ x,pcsS l (whereP a.kind) (i+1+1+1) (true && !isName? .port && !isName? (.word wTo) && !isName? .port) ({ { a with src:=textAt l (i) } with dst:=textAt l (i+1+1) })=x:=⟨_,rfl⟩
    have cc4:=Hi (q_where P3.out A3.out hi3 hll hG hL ha (true && !isName? .port && !isName? (.word wTo) && !isName? .port));have hRr:=hR3.out.trans (show _=pcsS l (whereP a.kind) (i+1+1+1) (true && !isName? .port && !isName? (.word wTo) && !isName? .port) ({ { a with src:=textAt l (i) } with dst:=textAt l (i+1+1) }) from rfl)
    rw [hr4] at hRr;have cc4:=Hi (show Calls Tryz.prog 124 #[.pointer (some ⟨M,0,none⟩),.pointer (some ⟨K,0,none⟩)] _ fun e w'=>MdPost _ M g cap l K N (c4,j4,b4) e w' from hr4▸cc4.out)
    have hRr:=Hi hRr;clear hr4
    by_cases hc4:c4=0
    ·subst hc4;go_wp2_with (go_at_call 124;refine cc4.out.mono ?_;rintro e w4 hx;obtain ⟨rfl,B4,P4,v4,s4,A4⟩:=hx.of rfl;have B4:=Hi B4;have P4:=Hi P4;have A4:=Hi A4;clear hx);go_end0;exact MdPost.ok hRr.out (B3.out.trans B4.out) P4.out A4.out
    ·have hc4:=Hi hc4;go_wp2_with (go_at_call 124;refine cc4.out.mono ?_;rintro e w4 hx;obtain ⟨rfl,B4,P4⟩:=hx.off rfl hc4.out;have B4:=Hi B4;have P4:=Hi P4;clear hx);exact ⟨rfl,MdPost.bad hRr.out hc4.out (B3.out.trans B4.out) P4.out⟩
   ·have hRb:=Hi (hR2.out.trans (pcs_bad (c:=50) (j:=i+1+1) (b:={ a with src:=textAt l (i) }) (pc_port_bad hk3) (by decide)))
    have hw3:=Hi hw3;go_wp2_with (go_at_call 123;refine cc3.out.mono ?_;rintro e w3 hx;obtain ⟨rfl,hK3,P3⟩:=hx.off hw3.out (by decide);have hK3:=Hi hK3;have P3:=Hi P3;clear hx)
    exact ⟨rfl,MdPost.bad hRb.out (by decide) (B2.out.trans (Bk.of hK3.out A2.out.nW)) P3.out⟩
  ·have hRb:=Hi (hR1.out.trans (pcs_bad (c:=50) (j:=i+1) (b:={ a with src:=textAt l (i) }) (by rw [pc_word,hw2];try rfl) (by decide)))
   have hw2:=Hi hw2;go_wp2_with (go_at_call 48;refine cc2.out.mono ?_;rintro e w2 hx;obtain ⟨rfl,hK2,P2⟩:=hx.off hw2.out (by decide);have hK2:=Hi hK2;have P2:=Hi P2;clear hx)
   exact ⟨rfl,MdPost.bad hRb.out (by decide) (B1.out.trans (Bk.of hK2.out A1.out.nW)) P2.out⟩
 ·have hRb:=Hi (hR0.out.trans (pcs_bad (c:=50) (j:=i) (b:=a) (pc_port_bad hk1) (by decide)))
  have hw1:=Hi hw1;go_enter Tryz.func87,Tryz.ntmps87;go_wp2_with (go_at_call 123;refine cc1.out.mono ?_;rintro e w1 hx;obtain ⟨rfl,hK1,P1⟩:=hx.off hw1.out (by decide);have hK1:=Hi hK1;have P1:=Hi P1;clear hx)
  exact ⟨rfl,MdPost.bad hRb.out (by decide) (B0.out.trans (Bk.of hK1.out A0.out.nW)) P1.out⟩
end Go.Proofs.YtjokciofeicdkaaGreatDoor

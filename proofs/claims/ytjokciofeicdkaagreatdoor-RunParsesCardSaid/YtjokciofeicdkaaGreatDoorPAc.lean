/- A part of the proof of RunParses: RqA RqB RqC RqD. -/
import Derived.Test.YtjokciofeicdkaaGreatDoorPZ
import Derived.Test.YtjokciofeicdkaaGreatDoorPH
set_option maxHeartbeats 16000000
set_option maxRecDepth 100000
set_option linter.all false
namespace Go.Proofs.YtjokciofeicdkaaGreatDoor
open Go.RowKit
attribute [local go_sem ↓] Go.wp_at_zero Go.wp_at_succ
abbrev tkV (t:Tk):Value:=.agg #[.int .i64 t.kind,.string t.text,.int .i64 t.line,.int .i64 t.col]
theorem h_is (t:Tk)(k:Int)(s:ByteArray)(w:World) :
  Calls Tryz.prog 31 #[tkV t,.int .i64 k,.string s] w fun e w'=>e=.returned (.bool (t.kind == k && decide (t.text=s)))∧Below w.heap.size w w':=by
 by_cases hk:t.kind=k
 ·have bk:(t.kind == k)=true:=by rw [hk];exact beq_self_eq_true _
  have H:=Hi (show (t.kind == k && decide (t.text=s))=decide (t.text=s) by rw [bk];rfl)
  clear hk;go_enter Tryz.func31,Tryz.ntmps31;go_wp2_with fail;go_ret;exact ⟨by rw [H.out,← ba_beq];rfl,(Below.refl _ w).alloc (Nat.le_refl _) _⟩
 ·have bk:(t.kind == k)=false:=by rw [beq_eq_false_iff_ne];exact hk
  have H:=Hi (show (t.kind == k && decide (t.text=s))=false by rw [bk];rfl)
  clear hk;go_enter Tryz.func31,Tryz.ntmps31;go_wp2_with fail;go_ret;exact ⟨by rw [H.out];rfl,(Below.refl _ w).alloc (Nat.le_refl _) _⟩
def numbT (t:Tk)(lo hi:Int):Int×Int:=
 if t.kind≠4 then (0,50) else if (valOf t.text (numS t.text)).1<lo∨hi<(valOf t.text (numS t.text)).1 then (0,1) else ((valOf t.text (numS t.text)).1,0)
theorem numb_at {l:List Tk}{i:Nat}{t:Tk}(h:l[i]?=some t)(lo hi:Int):numbS l i lo hi=numbT t lo hi:=by
 unfold numbS numbT kindIs textAt;rw [h];dsimp only
 by_cases hk:t.kind=4
 ·rw [if_neg (show ¬ ((t.kind == 4)=false) by rw [hk];decide),if_neg (show ¬ t.kind≠4 from fun h=>h hk)]
 ·rw [if_pos (show (t.kind == 4)=false by rw [beq_eq_false_iff_ne];exact hk),if_pos hk]
theorem h_numbered (t:Tk)(ht:t.text.size≤16384)(lo hi:Int)(w:World) :
  Calls Tryz.prog 32 #[tkV t,.int .i64 lo,.int .i64 hi] w fun e w'=>e=.returned (.tuple #[.int .i64 (numbT t lo hi).1,.int .i64 (numbT t lo hi).2])∧Below w.heap.size w w':=by
 have cv:=Hi (fun W=>val_same t.text▸r_Value t.text (by omega) W)
 have hN:numbT t lo hi=if t.kind≠4 then (0,50) else if (valOf t.text (numS t.text)).1<lo∨hi<(valOf t.text (numS t.text)).1 then (0,1) else ((valOf t.text (numS t.text)).1,0):=rfl
 generalize numbT t lo hi=R at hN ⊢;generalize (valOf t.text (numS t.text)).1=v at hN cv
 by_cases hk:t.kind=4
 ·have bk:(t.kind != 4)=false:=by rw [bne,hk];rfl
  rw [if_neg (fun h=>h hk)] at hN
  by_cases hlo:v<lo
  ·rw [if_pos (Or.inl hlo)] at hN;have hN:=Hi hN;clear hk;go_enter Tryz.func32,Tryz.ntmps32;go_wp2_with (go_at_call 51;refine (cv.out _).mono ?_;rintro e w1 ⟨rfl,hq⟩;have hq:=Hi hq);go_ret2;rw [hN.out];exact ⟨rfl,((Below.refl _ w).alloc (Nat.le_refl _) _).trans (hq.out.below _)⟩
  ·by_cases hhi:hi<v
   ·rw [if_pos (Or.inr hhi)] at hN;have hN:=Hi hN;have hhi:v>hi:=hhi;clear hk;go_enter Tryz.func32,Tryz.ntmps32;go_wp2_with (go_at_call 51;refine (cv.out _).mono ?_;rintro e w1 ⟨rfl,hq⟩;have hq:=Hi hq);go_ret2;rw [hN.out];exact ⟨rfl,((Below.refl _ w).alloc (Nat.le_refl _) _).trans (hq.out.below _)⟩
   ·rw [if_neg (fun h=>h.elim hlo hhi)] at hN
    have hN:=Hi hN;have hhi:¬ v>hi:=hhi;clear hk;go_enter Tryz.func32,Tryz.ntmps32;go_wp2_with (go_at_call 51;refine (cv.out _).mono ?_;rintro e w1 ⟨rfl,hq⟩;have hq:=Hi hq);go_ret2;rw [hN.out];exact ⟨rfl,((Below.refl _ w).alloc (Nat.le_refl _) _).trans (hq.out.below _)⟩
 ·have bk:(t.kind != 4)=true:=by rw [bne,beq_eq_false_iff_ne.2 hk];rfl
  rw [if_pos hk] at hN;have hN:=Hi hN;clear hk;go_enter Tryz.func32,Tryz.ntmps32;go_wp2_with fail;go_ret2;rw [hN.out];exact ⟨rfl,(Below.refl _ w).alloc (Nat.le_refl _) _⟩
theorem decS_most {l:Bytes}{top v:Nat}(h:decS l top=some v):v≤top:=by
 unfold decS at h
 repeat' split at h
 all_goals first|(cases h;omega)|cases h
theorem quadR_lt:∀ (n v:Nat)(l:Bytes)(r:Nat),quadR n v l=some r→r<(v+1)*256 ^ n
 | 0,v,l,r,h=>by unfold quadR at h;cases h;simp
 | 1,v,l,r,h=>by
   unfold quadR at h
   cases hd:decS l 255 with
   | none=>rw [hd] at h;cases h
   | some x=>rw [hd] at h;cases h;have:=decS_most hd;omega
 | n+2,v,l,r,h=>by
   unfold quadR at h
   cases hl:dotL l with
   | none=>rw [hl] at h;cases h
   | some d=>
     rw [hl] at h;dsimp only at h
     cases hd:decS (l.take d) 255 with
     | none=>rw [hd] at h;cases h
     | some x=>
       rw [hd] at h;have h1:=quadR_lt (n+1) _ _ r h;have h2:=decS_most hd;refine Nat.lt_of_lt_of_le h1 ?_;rw [Nat.pow_succ 256 (n+1),Nat.mul_comm (256 ^ (n+1)) 256,← Nat.mul_assoc];exact Nat.mul_le_mul_right _ (by omega)
theorem based_le {b most:Nat}(hb:0<b)(hm:b ^ most≤4294967296){l:Bytes}{v:Nat}(h:basedS b most l=some v):v≤4294967295:=by
 unfold basedS at h
 split at h
 ·cases h
 ·rename_i hl
  split at h
  ·cases h
  ·have:=based_bd (l:=l) (k:=l.length) hb hm (by rw [List.take_length];exact h) (by omega)
   omega
theorem numS_le {s:ByteArray}{v:Nat}(h:numS s=some v):v≤4294967295:=by
 by_cases hd:(dotL (bs s)).isSome=true
 ·rw [← numR_same] at h;unfold numR at h;rw [if_pos hd] at h;have:=quadR_lt 4 0 _ _ h;omega
 ·unfold numS at h;rw [if_neg (fun h=>hd (dot_some.2 h))] at h
  split at h
  ·exact based_le (by decide) (by decide) h
  ·split at h
   ·exact based_le (by decide) (by decide) h
   ·exact decS_most h
theorem numbT_top (t:Tk):numbT t 0 4611686018427387904=numbT t 0 4294967295:=by
 unfold numbT
 by_cases hk:t.kind≠4
 ·rw [if_pos hk,if_pos hk]
 ·rw [if_neg hk,if_neg hk]
  have hv:(valOf t.text (numS t.text)).1≤4294967295:=by
   unfold valOf
   split
   ·show (0:Int)≤_;decide
   ·cases hn:numS t.text with
    | none=>show (0:Int)≤_;decide
    | some v=>have:=numS_le hn;show ((v:Nat):Int)≤_;omega
  generalize (valOf t.text (numS t.text)).1=v at hv
  by_cases h0:v<0
  ·rw [if_pos (Or.inl h0),if_pos (Or.inl h0)]
  ·rw [if_neg (by omega),if_neg (by omega)]
theorem h_named {w:World}{M K N:Nat}{a:AskS}{vW vS:Value}(A:AkAt w M K N a vW vS)(s:ByteArray)(first:Bool) :
  Calls Tryz.prog 71 #[.pointer (some ⟨K,0,none⟩),.string s,.bool first] w fun e w'=>e=.returned (.tuple #[])∧AkAt w' M K N (a.named s first) vW vS∧(∀ b,b≠K→w'.heap[b]?=w.heap[b]?)∧Below K w w':=by
 have hA:=Hi A;have c1:=A.c1;have c2:=A.c2;have f1:=A.free 1;have f2:=A.free 2;clear A
 cases first
 ·go_enter Tryz.func71,Tryz.ntmps71;go_wp2_with fail;go_end0;exact ⟨rfl,hA.out.set (j:=2) (u:=.string s) rfl rfl rfl,fun b hb=>Below.heap_setCell _ _ _ _ hb,(Below.refl K w).setCell (p:=⟨K,2,none⟩) (Nat.le_refl K) _⟩
 ·go_enter Tryz.func71,Tryz.ntmps71;go_wp2_with fail;go_end0;exact ⟨rfl,hA.out.set (j:=1) (u:=.string s) rfl rfl rfl,fun b hb=>Below.heap_setCell _ _ _ _ hb,(Below.refl K w).setCell (p:=⟨K,1,none⟩) (Nat.le_refl K) _⟩
def pcW:Pc→ByteArray
 | .port=>⟨#[80,79,82,84]⟩
 | .name=>⟨#[78,65,77,69]⟩
 | .expr=>⟨#[69,88,80,82]⟩
 | .text=>⟨#[84,69,88,84]⟩
 | .hops=>⟨#[72,79,80,83]⟩
 | .sets=>⟨#[83,69,84,83]⟩
 | .word s=>s
def shapeW (k:Nat):List ByteArray:=wordOf k::(shapeS k++[Pc.word wHops,Pc.hops]).map pcW
def ShPost (w:World)(k:Nat)(e:Ending)(w':World):Prop:=Below w.heap.size w w'∧∃ (g c:Nat) (cs:Array Value) (fz:Nat×Nat),e=.returned (.slice (some ⟨g,0,none⟩) (shapeW k).length c)∧w'.heap[g]?=some (.cells cs 9 fz)∧∀ (j:Nat) x,(shapeW k)[j]?=some x→cs[j]?=some (.string x)
theorem sh_of {w:World}{k n:Nat}{cs:Array Value}(h:cs.toList=(shapeW k).map Value.string)(hn:n=(shapeW k).length):ShPost w k (.returned (.slice (some ⟨w.heap.size,0,none⟩) n n)) (w.alloc (.cells cs 9)):=by
 subst hn;refine ⟨(Below.refl _ w).alloc (Nat.le_refl _) _,_,_,cs,(0,0),rfl,heap_alloc_new w _,fun j x hj=>?_⟩
 rw [← Array.getElem?_toList,h,List.getElem?_map,hj];rfl
theorem str_cell {w:World}{g j:Nat}{cs:Array Value}{fz:Nat×Nat}{x:ByteArray}(h:w.heap[g]?=some (.cells cs 9 fz))(hj:cs[j]?=some (.string x)):w.cell? ⟨g,j,none⟩=some (.string x):=by
 rw [cell_of_row w g j _ _ _ h];exact hj
theorem h_shapes (k:Nat)(h1:1≤k)(h9:k≤9)(w:World):Calls Tryz.prog 52 #[.int .i64 k] w fun e w'=>ShPost w k e w':=by
 have h:k=1∨k=2∨k=3∨k=4∨k=5∨k=6∨k=7∨k=8∨k=9:=by omega
 rcases h with rfl|rfl|rfl|rfl|rfl|rfl|rfl|rfl|rfl
 all_goals (
  clear h1 h9;go_enter Tryz.func52,Tryz.ntmps52;go_wp2_with fail;go_ret;exact sh_of (by rfl) (by rfl))
def KeepS (w w':World):Prop:=∀ (b:Nat) (c:Array Value) (fz:Nat×Nat),w.heap[b]?=some (.cells c 9 fz)→w'.heap[b]?=some (.cells c 9 fz)
theorem KeepS.trans {w w1 w2:World}(h:KeepS w w1)(k:KeepS w1 w2):KeepS w w2:=fun b c fz e=>k b c fz (h b c fz e)
theorem KeepS.of {w w1:World}(h:Below w.heap.size w w1):KeepS w w1:=fun b _ _ e=>(h.block b (Array.getElem?_eq_some_iff.1 e).1).trans e
theorem KeepS.set {w:World}{K j:Nat}{c:Array Value}{T:TypeId}{fr:Nat×Nat}(h:w.heap[K]?=some (.cells c T fr))(hT:T≠9)(u:Value):KeepS w (w.setCell ⟨K,j,none⟩ u):=fun b c2 fz e=>
 (Below.heap_setCell w ⟨K,j,none⟩ u b (fun hb=>by
  have hb:b=K:=hb;subst hb;rw [h] at e;simp only [Option.some.injEq,Obj.cells.injEq] at e;exact hT e.2.1)).trans e
structure HsRel (w wr:World)(M K N:Nat)(l:List Tk)(a:AskS)(vW vS:Value)(R:Int×Nat×List (ByteArray×Int))(f j:Nat)(q:List (ByteArray×Int)):Prop where
 A:AkAt wr M K N { a with sets:=q } vW vS
 B:Below N w wr
 S:KeepS w wr
 R:R=setsS l f j q
 fq:q.length+f=12
 f1:1≤f
 k:kindIs l j 2=true∨kindIs l j 7=true
def HdPost (w:World)(M K N:Nat)(r:Int×Nat×AskS)(e:Ending)(w':World):Prop:=e=.returned (.tuple #[.int .i64 (r.2.1:Nat),.int .i64 r.1])∧Below N w w'∧KeepS w w'∧∃ a vW vS,AkAt w' M K N a vW vS∧(r.1=0→a=r.2.2)
theorem AkAt.keepN {w w':World}{M K N:Nat}{a:AskS}{vW vS:Value}(h:AkAt w M K N a vW vS)(hb:Below w.heap.size w w'):AkAt w' M K N a vW vS:=h.keep (gb_below (gb_refl _ _) hb)
theorem isT_at {l:List Tk}{i:Nat}{t:Tk}(h:l[i]?=some t)(k:Int)(s:ByteArray):isT l i k s=(t.kind == k && decide (t.text=s)):=by unfold isT;rw [h]
theorem kind_at {l:List Tk}{i:Nat}{t:Tk}(h:l[i]?=some t)(k:Int):kindIs l i k=(t.kind == k):=by unfold kindIs;rw [h]
theorem text_at {l:List Tk}{i:Nat}{t:Tk}(h:l[i]?=some t):textAt l i=t.text:=by unfold textAt;rw [h]
theorem tok_cells {w:World}{g i:Nat}{l:List Tk}{t:Tk}(T:TokIn w g l)(h:l[i]?=some t):w.cell? ⟨g,i*4,none⟩=some (.int .i64 t.kind)∧w.cell? ⟨g,i*4+1,none⟩=some (.string t.text)∧w.cell? ⟨g,i*4+2,none⟩=some (.int .i64 t.line)∧w.cell? ⟨g,i*4+3,none⟩=some (.int .i64 t.col):=
 ⟨T.2 i t h 0 _ rfl,T.2 i t h 1 _ rfl,T.2 i t h 2 _ rfl,T.2 i t h 3 _ rfl⟩
theorem HdPost.mk' {w w':World}{M K N j:Nat}{c:Int}{r:Int×Nat×AskS}{a b:AskS}{vW vS:Value}(h:r=(c,j,b))(hb:Below N w w')(hs:KeepS w w')(A:AkAt w' M K N a vW vS)(ha:c=0→a=b):HdPost w M K N r (.returned (.tuple #[.int .i64 (j:Nat),.int .i64 c])) w':=by
 subst h;exact ⟨rfl,hb,hs,a,vW,vS,A,ha⟩
theorem AkAt.growS {w w4:World}{M K N g' cap':Nat}{a:AskS}{vW vS:Value}{xs:List Value}{x:ByteArray×Int}(A:AkAt w M K N a vW vS)(hX:xs=[.string x.1,.int .i64 x.2])(hg:(w.alloc (.cells xs.toArray 88)).grownBy w4 vS.ownBlock)
  (hat:vS.ownBlock=some g'∨g'=w.heap.size+1)
  (ho:w4.ownsRow N 88 2 (.slice (some ⟨g',0,none⟩) (a.sets.length+1) cap') (a.sets.length+1) (flatS a.sets++[.string x.1,.int .i64 x.2])) :
  AkAt (w4.setCell ⟨K,5,none⟩ (.slice (some ⟨g',0,none⟩) (a.sets.length+1) cap')) M K N { a with sets:=a.sets++[x] } vW (.slice (some ⟨g',0,none⟩) (a.sets.length+1) cap') ∧
  Below N w (w4.setCell ⟨K,5,none⟩ (.slice (some ⟨g',0,none⟩) (a.sets.length+1) cap'))∧KeepS w (w4.setCell ⟨K,5,none⟩ (.slice (some ⟨g',0,none⟩) (a.sets.length+1) cap')):=by
 subst hX;obtain ⟨h1,-,-⟩:=A.putS hg hat ho
 have hold:∀ b,b<w.heap.size→vS.ownBlock≠some b→w4.heap[b]?=w.heap[b]?:=fun b hb hn=>
  (hg.block b (by simp;omega) (fun e=>hn e.symm)).trans (heap_alloc_old w _ hb)
 have h2:KeepS w w4:=fun b c fz e=>(hold b (Array.getElem?_eq_some_iff.1 e).1 (fun h=>by
  obtain ⟨c2,fz2,h3⟩:=Lib.ownsRow_kind A.sets b h;rw [e] at h3;simp at h3)).trans e
 exact ⟨h1,(((Below.refl N w).alloc A.nW _).grown hg (by have:=A.nW;simp;omega) (fun k hk=>(A.sets.lt k hk).1)).setCell (p:=⟨K,5,none⟩) A.nK _,
  h2.trans (KeepS.set ((hold K A.lt A.sne).trans A.box) (by decide) _)⟩
theorem sets_succ1 (l:List Tk)(f i:Nat)(q:List (ByteArray×Int)):setsS l (f+1) i q =
  if kindIs l (i+1) 2=false then (50,i+1,q)
  else if isT l (i+1+1) 7 sIs=false then (50,i+1+1,q)
  else if (numbS l (i+1+1+1) 0 4294967295).2≠0 then ((numbS l (i+1+1+1) 0 4294967295).2,i+1+1+1,q)
  else if isT l (i+1+1+1+1) 7 sComma=false then (0,i+1+1+1+1,q++[(textAt l (i+1),(numbS l (i+1+1+1) 0 4294967295).1)])
  else if (q++[(textAt l (i+1),(numbS l (i+1+1+1) 0 4294967295).1)]).length=12 then (183,i+1+1+1+1,q++[(textAt l (i+1),(numbS l (i+1+1+1) 0 4294967295).1)])
  else setsS l f (i+1+1+1+1) (q++[(textAt l (i+1),(numbS l (i+1+1+1) 0 4294967295).1)]):=sets_succ l f i q
theorem h_sets {w:World}{M K N g cap i:Nat}{l:List Tk}{a:AskS}{vW vS:Value}(T:TokIn w g l)(hgN:g<N)(A:AkAt w M K N a vW vS)(hi:i<l.length)(hll:l.length≤900000)(hG:∀ t∈l,TokG t)(hL:Lined l)(ha:a.sets=[])(first:Bool) :
  Calls Tryz.prog 75 #[tokV g cap l,.int .i64 i,.pointer (some ⟨K,0,none⟩)] w fun e w'=>HdPost w M K N (pcS l .sets i first a) e w':=by
 have hN:=A.nW;have hA:=Hi A;have hT:=Hi T;obtain ⟨t,ht⟩:∃ t,l[i]?=some t:=⟨_,List.getElem?_eq_getElem hi⟩
 obtain ⟨e0,e1,e2,e3⟩:=tok_cells T ht;have hb2:(i:Int)<(l.length:Int):=by omega
 have hb0:(0:Int)≤(i:Int):=by omega
 have ci:=Hi (h_is t 2 wSet w);have hS0:=isT_at ht 2 wSet;clear T A ht
 cases hS:(t.kind == 2 && decide (t.text=wSet)) with
 | false=>
   rw [hS] at ci;have hR:=Hi (show pcS l .sets i first a=(0,i,a) by unfold pcS;dsimp only;rw [if_pos (hS0.trans hS)])
   clear hS hS0;go_enter Tryz.func75,Tryz.ntmps75;go_wp2_with (go_at_call 31;refine ci.out.mono ?_;rintro e w1 ⟨rfl,hb⟩;have hb:=Hi hb);go_ret2;exact HdPost.mk' hR.out (hb.out.mono hN) (KeepS.of hb.out) (hA.out.keepN hb.out) (fun _=>rfl)
 | true=>
   rw [hS] at ci;have hS1:=hS0.trans hS;have hkS:=isT_kind hS1;obtain ⟨R,hRR⟩:∃ R,setsS l 12 i []=R:=⟨_,rfl⟩
   have hR2:=Hi (show pcS l .sets i first a=(R.1,R.2.1,{ a with sets:=R.2.2 }) by unfold pcS;dsimp only;rw [if_neg (by rw [hS1];decide),hRR])
   have hR0:=Hi hRR.symm;clear hS hS0 hS1 hRR;go_enter Tryz.func75,Tryz.ntmps75;go_upto_region 3 with (go_at_call 31;refine ci.out.mono ?_;rintro e w1 ⟨rfl,hb⟩;have hb:=Hi hb);have A1:AkAt w1 M K N { a with sets:=[] } vW vS:=by rw [← ha];exact hA.out.keepN hb.out
   have R0:=Hi (show HsRel w w1 M K N l a vW vS R 12 i [] from ⟨A1,hb.out.mono hN,KeepS.of hb.out,hR0.out,rfl,by decide,.inl hkS⟩)
   clear A1 hb hA ci e0 e1 e2 e3 hR0 hkS hb2 hb0 ha
   go_loopw [1] (fun x wr=>∃ (f j:Nat) (q:List (ByteArray×Int)) (v:Value),x=.int .i64 j∧Hid (HsRel w wr M K N l a vW v R f j q)) (fun x _=>l.length-(intOf x).toNat)
   case atStart=>exact ⟨12,i,[],vS,rfl,R0⟩
   case round=>
    obtain ⟨f,j,q,vq,rfl,hr⟩:=hrel;obtain ⟨wq,rfl⟩:∃ wq,wq=wr:=⟨_,rfl⟩
    have rf1:=hr.out.f1;have rf:=hr.out.fq;obtain ⟨f,rfl⟩:∃ f',f=f'+1:=⟨f-1,by omega⟩
    have hRs:=Hi (hr.out.R.trans (sets_succ1 l f j q));have hst0:Stays l j (j+1):=hr.out.k.elim (fun h=>Stays.step hL h (by decide)) (fun h=>Stays.step hL h (by decide))
    have hj1:=hst0.2.1;have bwj:=wS j (by omega)
    have A1:=Hi hr.out.A;have B1:=Hi hr.out.B;have S1:=Hi hr.out.S;have T1:=Hi (hT.out.below B1.out hgN);obtain ⟨t1,ht1⟩:∃ t,l[j+1]?=some t:=⟨_,List.getElem?_eq_getElem hj1⟩
    obtain ⟨x0,x1,-,-⟩:=tok_cells T1.out ht1;have kk:=kind_at ht1 2;have tt:=Hi (text_at ht1);have hjj:j<j+1:=Nat.lt_succ_self j;clear hr R0 hst0 ht1;go_upto_region 4 with fail;clear bwj;rw [show ((j:Int)+1)=((j+1:Nat):Int) from rfl]
    generalize j+1=j1 at *;have b2:(j1:Int)<(l.length:Int):=by omega
    have b0:(0:Int)≤(j1:Int):=by omega
    by_cases hk1:t1.kind=2
    ·have bk:(t1.kind != 2)=false:=by rw [hk1];rfl
     have hk1':kindIs l j1 2=true:=by rw [kk,hk1];rfl
     have hRs2:=Hi (hRs.out.trans (if_neg (by rw [hk1'];decide)))
     have hj2:=(Stays.step hL hk1' (by decide)).2.1
     have bwj:=wS j1 (by omega)
     rw [tt.out] at hRs2;generalize t1.text=tx at *;clear hRs hk1 hk1' kk tt;go_upto_region 8 with fail;clear x0 x1 bk bwj b2 b0;rw [show ((j1:Int)+1)=((j1+1:Nat):Int) from rfl]
     have hjj2:j<j1+1:=by omega
     generalize j1+1=j2 at *;obtain ⟨t2,ht2⟩:∃ t,l[j2]?=some t:=⟨_,List.getElem?_eq_getElem hj2⟩
     obtain ⟨x0,x1,x2,x3⟩:=tok_cells T1.out ht2;have b2:(j2:Int)<(l.length:Int):=by omega
     have b0:(0:Int)≤(j2:Int):=by omega
     have bwj:=wS j2 (by omega)
     have ci:=Hi (h_is t2 7 sIs wq);have hI:=isT_at ht2 7 sIs;clear ht2
     cases hS:(t2.kind == 7 && decide (t2.text=sIs)) with
     | false=>
       rw [hS] at ci;have hRs3:=Hi (hRs2.out.trans (if_pos (hI.trans hS)));clear hRs2 hI hS;go_wp2_with (go_at_call 31;refine ci.out.mono ?_;rintro e w3 ⟨rfl,hb⟩;have hb:=Hi hb);go_ret2;exact HdPost.mk' (hR2.out.trans (by rw [hRs3.out])) (B1.out.trans (hb.out.mono A1.out.nW)) (S1.out.trans (KeepS.of hb.out)) (A1.out.keepN hb.out) (fun h=>by cases h)
     | true=>
       rw [hS] at ci;have hRs3:=Hi (hRs2.out.trans (if_neg (by rw [hI.trans hS];decide)))
       have hj3:=(Stays.step hL (isT_kind (hI.trans hS)) (by decide)).2.1
       clear hRs2 hI hS;go_upto_region 11 with (go_at_call 31;refine ci.out.mono ?_;rintro e w3 ⟨rfl,hb⟩;have hb:=Hi hb);have A3:=Hi (A1.out.keepN hb.out);have B3:=Hi (B1.out.trans (hb.out.mono A1.out.nW));have S3:=Hi (S1.out.trans (KeepS.of hb.out));clear x0 x1 x2 x3 b2 b0 bwj A1 B1 S1 T1 hb ci;rw [show ((j2:Int)+1)=((j2+1:Nat):Int) from rfl]
       have hjj3:j<j2+1:=by omega
       generalize j2+1=j3 at *;have T3:=Hi (hT.out.below B3.out hgN);obtain ⟨t3,ht3⟩:∃ t,l[j3]?=some t:=⟨_,List.getElem?_eq_getElem hj3⟩
       obtain ⟨x0,x1,x2,x3⟩:=tok_cells T3.out ht3;have b2:(j3:Int)<(l.length:Int):=by omega
       have b0:(0:Int)≤(j3:Int):=by omega
       have bwj:=wS j3 (by omega)
       have cn:=Hi (h_numbered t3 (hG t3 (List.mem_of_getElem? ht3)).2.2.2.2.1 0 4611686018427387904 w3);have hn:=numb_at ht3 0 4294967295;rw [numbT_top,← hn] at cn;clear ht3 hn;obtain ⟨⟨v,x⟩,hn⟩:∃ x,numbS l j3 0 4294967295=x:=⟨_,rfl⟩
       have hin:=fun h:(numbS l j3 0 4294967295).2=0=>(numb_in hL h).2.1
       rw [hn] at cn hRs3 hin
       by_cases hx:x=0
       ·subst hx;have hj4:=hin rfl;have hRs4:=Hi (hRs3.out.trans (if_neg (fun h=>h rfl)))
        obtain ⟨i0,hi0,hz0,hz1,hz2⟩:=info_parts set_info;have hi0:=Hi hi0;have hz0:=Hi hz0;have hz1:=Hi hz1;have hz2:=Hi hz2;clear hRs3 hn hin;go_upto_region 14 with (go_at_call 32;refine cn.out.mono ?_;rintro e w4 ⟨rfl,hb⟩;have hb:=Hi hb);have A4:=A3.out.keepN hb.out;have B4:=Hi (B3.out.trans (hb.out.mono A3.out.nW));have S4:=Hi (S3.out.trans (KeepS.of hb.out));have k5:=A4.c5;have kf5:=A4.free 5;have hKl:=A4.lt;have hKs:=Hi A4.sne;have hNl:=A4.nW;have hO:w4.ownsRow N 88 2 vq q.length (flatS q):=A4.sets;have hO:=Hi hO;have A4:=Hi A4;clear x0 x1 x2 x3 b2 b0 A3 B3 S3 T3 hb cn;go_upto_region 15 with (at_builtin;refine wpList_append_lies _ rfl (.tmp 59) (.tmp 63) _ rfl N 88 i0 _ 2 24 Tryz.underlying41 hi0.out hz0.out hz1.out hz2.out rfl (by decide) vq q.length (flatS q) rfl (hO.out.alloc _) ⟨w4.heap.size,0,none⟩ 1 1 [.string tx,.int .i64 v] rfl rfl (World.news_of_block (heap_alloc_new w4 _)) (oc _ rfl) (by decide) (by unfold maxLen;omega) (by omega) (by simp;omega) (w4.heap.size+1) (by simp) ?_;intro g' cap' w8 hown4 hg4 hat4 hlt4;have k58:=hg4.cell (((Below.refl _ w4).alloc (Nat.le_refl _) (.cells #[.string tx,.int .i64 v] 88)).cell (p:=⟨K,5,none⟩) hKl |>.trans k5) (fun e=>hKs.out e.symm);have f58:=(hg4.frozen_far (a:=⟨K,5,none⟩) (by simp;omega) (fun e=>hKs.out e.symm)).trans ((((Below.refl _ w4).alloc (Nat.le_refl _) (.cells #[.string tx,.int .i64 v] 88)).frozen (p:=⟨K,5,none⟩) hKl).trans kf5);have hown5:=Hi hown4;have hg5:=Hi hg4;have hat5:=Hi hat4;clear hown4 hg4 hat4)
        obtain ⟨A8,B8,S8⟩:=A4.out.growS (x:=(tx,v)) rfl hg5.out hat5.out hown5.out;have A8:AkAt (w8.setCell ⟨K,5,none⟩ (.slice (some ⟨g',0,none⟩) (q.length+1) cap')) M K N { a with sets:=q++[(tx,v)] } vW (.slice (some ⟨g',0,none⟩) (q.length+1) cap'):=A8;have A8:=Hi A8;have B8:=Hi (B4.out.trans B8);have S8:=Hi (S4.out.trans S8);have z5:(w8.setCell ⟨K,5,none⟩ (.slice (some ⟨g',0,none⟩) (q.length+1) cap')).cell? ⟨K,5,none⟩=some (.slice (some ⟨g',0,none⟩) (q.length+1) cap'):=A8.out.c5;clear k58 f58 hown5 hg5 hat5 hlt4 A4 B4 S4 k5 kf5 hKs hO hi0 hz0 hz1 hz2;generalize w8.setCell ⟨K,5,none⟩ (.slice (some ⟨g',0,none⟩) (q.length+1) cap')=W8 at *;go_upto_region 16 with fail;clear bwj;rw [show ((j3:Int)+1)=((j3+1:Nat):Int) from rfl]
        have hjj4:j<j3+1:=by omega
        generalize j3+1=j4 at *;have T8:=Hi (hT.out.below B8.out hgN);obtain ⟨t4,ht4⟩:∃ t,l[j4]?=some t:=⟨_,List.getElem?_eq_getElem hj4⟩
        obtain ⟨x0,x1,x2,x3⟩:=tok_cells T8.out ht4;have b2:(j4:Int)<(l.length:Int):=by omega
        have b0:(0:Int)≤(j4:Int):=by omega
        have ci:=Hi (h_is t4 7 sComma W8);have hI:=isT_at ht4 7 sComma;clear ht4
        cases hS:(t4.kind == 7 && decide (t4.text=sComma)) with
        | false=>
          rw [hS] at ci;have hRs5:=Hi (hRs4.out.trans (if_pos (hI.trans hS)));clear hRs4 hI hS;go_wp2_with (go_at_call 31;refine ci.out.mono ?_;rintro e w9 ⟨rfl,hb⟩;have hb:=Hi hb);go_ret2;exact HdPost.mk' (hR2.out.trans (by rw [hRs5.out])) (B8.out.trans (hb.out.mono A8.out.nW)) (S8.out.trans (KeepS.of hb.out)) (A8.out.keepN hb.out) (fun _=>rfl)
        | true=>
          rw [hS] at ci;have hk8:=isT_kind (hI.trans hS);have hRs5:=Hi (hRs4.out.trans (if_neg (by rw [hI.trans hS];decide)))
          clear hRs4 hI hS;have hql:(q++[(tx,v)]).length=q.length+1:=by simp
          have hKl8:=A8.out.lt
          by_cases h12:q.length+1=12
          ·have hRs6:=Hi (hRs5.out.trans (if_pos (by rw [hql];exact h12)))
           have b12:(((q.length:Int)+1) == 12)=true:=by rw [beq_iff_eq];omega
           clear hRs5 h12 hql;go_wp2_with (go_at_call 31;refine ci.out.mono ?_;rintro e w9 ⟨rfl,hb⟩;have k59:=(hb.cell (p:=⟨K,5,none⟩) hKl8).trans z5;have hb:=Hi hb);go_ret2;exact HdPost.mk' (hR2.out.trans (by rw [hRs6.out])) (B8.out.trans (hb.out.mono A8.out.nW)) (S8.out.trans (KeepS.of hb.out)) (A8.out.keepN hb.out) (fun h=>by cases h)
          ·have hRs6:=Hi (hRs5.out.trans (if_neg (by rw [hql];exact h12)))
           have b12:(((q.length:Int)+1) == 12)=false:=by rw [beq_eq_false_iff_ne];omega
           have h12:=Hi h12;have hql:=Hi hql;clear hRs5;go_wp2_with (go_at_call 31;refine ci.out.mono ?_;rintro e w9 ⟨rfl,hb⟩;have k59:=(hb.cell (p:=⟨K,5,none⟩) hKl8).trans z5;have hb:=Hi hb);refine ⟨⟨f,j4,q++[(tx,v)],_,rfl,Hi ⟨A8.out.keepN hb.out,B8.out.trans (hb.out.mono A8.out.nW),S8.out.trans (KeepS.of hb.out),hRs6.out,by rw [hql.out];omega,by have:=h12.out;omega,.inr hk8⟩⟩,?_⟩
           simp only [intOf,Int.toNat_natCast];omega
       ·have hRs4:=Hi (hRs3.out.trans (if_pos hx));have bx:(x != 0)=true:=by rw [bne,beq_eq_false_iff_ne.2 hx];rfl
        have hx:=Hi hx;clear hRs3 hn hin;go_wp2_with (go_at_call 32;refine cn.out.mono ?_;rintro e w4 ⟨rfl,hb⟩;have hb:=Hi hb);go_ret2;exact HdPost.mk' (hR2.out.trans (by rw [hRs4.out])) (B3.out.trans (hb.out.mono A3.out.nW)) (S3.out.trans (KeepS.of hb.out)) (A3.out.keepN hb.out) (fun h=>absurd h hx.out)
    ·have bk:(t1.kind != 2)=true:=by rw [bne,beq_eq_false_iff_ne.2 hk1];rfl
     have hRs2:=Hi (hRs.out.trans (if_pos (by rw [kk,beq_eq_false_iff_ne.2 hk1])))
     clear hRs hk1 kk tt;go_wp2_with fail;go_ret2;exact HdPost.mk' (hR2.out.trans (by rw [hRs2.out])) B1.out S1.out A1.out (fun h=>by cases h)
theorem HdPost.after {w w1 w':World}{M K N:Nat}{r r':Int×Nat×AskS}{e:Ending}(h:HdPost w1 M K N r e w')(hb:Below N w w1)(hs:KeepS w w1)(hr:r'=r):HdPost w M K N r' e w':=by
 subst hr;exact ⟨h.1,hb.trans h.2.1,hs.trans h.2.2.1,h.2.2.2⟩
theorem KeepS.other {w w1:World}{K:Nat}{c:Array Value}{T:TypeId}{fr:Nat×Nat}(h:w.heap[K]?=some (.cells c T fr))(hT:T≠9)(hh:∀ b,b≠K→w1.heap[b]?=w.heap[b]?):KeepS w w1:=fun b c2 fz e=>
 (hh b (fun hb=>by subst hb;rw [h] at e;simp only [Option.some.injEq,Obj.cells.injEq] at e;exact hT e.2.1)).trans e
theorem unq_size (s:ByteArray)(q:ByteArray×Nat×Int):(unqOf s q).1.size≤256:=by
 unfold unqOf
 repeat' split
 all_goals first|(show (0:Nat)≤256;decide)|(dsimp only;omega)
abbrev tkC (t:Tk):Array Value:=#[.int .i64 t.kind,.string t.text,.int .i64 t.line,.int .i64 t.col]
theorem h_port {w:World}{M K N g cap i:Nat}{l:List Tk}{a:AskS}{vW vS:Value}(T:TokIn w g l)(hgN:g<N)(A:AkAt w M K N a vW vS)(hi:i<l.length)(hll:l.length≤900000)(hG:∀ t∈l,TokG t)(hL:Lined l)(first:Bool) :
  Calls Tryz.prog 53 #[tokV g cap l,.int .i64 i,.string ⟨#[80,79,82,84]⟩,.bool first,.pointer (some ⟨K,0,none⟩)] w fun e w'=>HdPost w M K N (pcS l .port i first a) e w':=by
 have hN:=A.nW;have hNK:=A.nK;have hA:=Hi A;obtain ⟨t,ht⟩:∃ t,l[i]?=some t:=⟨_,List.getElem?_eq_getElem hi⟩
 obtain ⟨e0,e1,e2,e3⟩:=tok_cells T ht;have b2:(i:Int)<(l.length:Int):=by omega
 have b0:(0:Int)≤(i:Int):=by omega
 have bw:=wS i (by omega)
 have hX:Below w.heap.size w (w.alloc (.cells (tkC t) 76 (0,0))):=(Below.refl w.heap.size w).alloc (Nat.le_refl _) _;have TX:=Hi (T.below hX T.1);have AX:=Hi (A.keepN hX);have hX:=Hi hX;have kk:=kind_at ht 3;have tt:=text_at ht;have cn:=Hi (h_named AX.out t.text first)
 clear A T ht TX
 by_cases hk:t.kind=3
 ·have bk:(t.kind != 3)=false:=by rw [hk];rfl
  have hR:=Hi (pc_port_ok (l:=l) (i:=i) (first:=first) (a:=a) (by rw [kk,hk];rfl))
  rw [tt] at hR;clear hk kk tt;go_enter Tryz.func53,Tryz.ntmps53;go_wp2_with (go_at_call 71;refine cn.out.mono ?_;rintro e w1 ⟨rfl,A1,hh1,hb1⟩;have hs1:=Hi (KeepS.other AX.out.box (by decide) hh1);clear hh1;have A1:=Hi A1;have hb1:=Hi hb1)
  go_ret2;exact HdPost.mk' (j:=i+1) hR.out ((hX.out.mono hN).trans (hb1.out.mono hNK)) ((KeepS.of hX.out).trans hs1.out) A1.out (fun _=>rfl)
 ·have bk:(t.kind != 3)=true:=by rw [bne,beq_eq_false_iff_ne.2 hk];rfl
  have hR:=Hi (pc_port_bad (l:=l) (i:=i) (first:=first) (a:=a) (by rw [kk,beq_eq_false_iff_ne.2 hk]))
  clear hk kk tt;go_enter Tryz.func53,Tryz.ntmps53;go_wp2_with fail;go_ret2;exact HdPost.mk' hR.out (hX.out.mono hN) (KeepS.of hX.out) AX.out (fun _=>rfl)
theorem h_name {w:World}{M K N g cap i:Nat}{l:List Tk}{a:AskS}{vW vS:Value}(T:TokIn w g l)(hgN:g<N)(A:AkAt w M K N a vW vS)(hi:i<l.length)(hll:l.length≤900000)(hG:∀ t∈l,TokG t)(hL:Lined l)(first:Bool) :
  Calls Tryz.prog 53 #[tokV g cap l,.int .i64 i,.string ⟨#[78,65,77,69]⟩,.bool first,.pointer (some ⟨K,0,none⟩)] w fun e w'=>HdPost w M K N (pcS l .name i first a) e w':=by
 have hN:=A.nW;have hNK:=A.nK;have hA:=Hi A;obtain ⟨t,ht⟩:∃ t,l[i]?=some t:=⟨_,List.getElem?_eq_getElem hi⟩
 obtain ⟨e0,e1,e2,e3⟩:=tok_cells T ht;have b2:(i:Int)<(l.length:Int):=by omega
 have b0:(0:Int)≤(i:Int):=by omega
 have bw:=wS i (by omega)
 have hX:Below w.heap.size w (w.alloc (.cells (tkC t) 76 (0,0))):=(Below.refl w.heap.size w).alloc (Nat.le_refl _) _;have TX:=Hi (T.below hX T.1);have AX:=Hi (A.keepN hX);have hX:=Hi hX;have kk:=kind_at ht 2;have tt:=text_at ht;have cn:=Hi (h_named AX.out t.text first)
 clear A T ht TX
 by_cases hk:t.kind=2
 ·have bk:(t.kind != 2)=false:=by rw [hk];rfl
  have hR:=Hi (pc_name_ok (l:=l) (i:=i) (first:=first) (a:=a) (by rw [kk,hk];rfl))
  rw [tt] at hR;clear hk kk tt;go_enter Tryz.func53,Tryz.ntmps53;go_wp2_with (go_at_call 71;refine cn.out.mono ?_;rintro e w1 ⟨rfl,A1,hh1,hb1⟩;have hs1:=Hi (KeepS.other AX.out.box (by decide) hh1);clear hh1;have A1:=Hi A1;have hb1:=Hi hb1)
  go_ret2;exact HdPost.mk' (j:=i+1) hR.out ((hX.out.mono hN).trans (hb1.out.mono hNK)) ((KeepS.of hX.out).trans hs1.out) A1.out (fun _=>rfl)
 ·have bk:(t.kind != 2)=true:=by rw [bne,beq_eq_false_iff_ne.2 hk];rfl
  have hR:=Hi (pc_name_bad (l:=l) (i:=i) (first:=first) (a:=a) (by rw [kk,beq_eq_false_iff_ne.2 hk]))
  clear hk kk tt;go_enter Tryz.func53,Tryz.ntmps53;go_wp2_with fail;go_ret2;exact HdPost.mk' hR.out (hX.out.mono hN) (KeepS.of hX.out) AX.out (fun _=>rfl)
theorem h_hops {w:World}{M K N g cap i:Nat}{l:List Tk}{a:AskS}{vW vS:Value}(T:TokIn w g l)(hgN:g<N)(A:AkAt w M K N a vW vS)(hi:i<l.length)(hll:l.length≤900000)(hG:∀ t∈l,TokG t)(hL:Lined l)(first:Bool) :
  Calls Tryz.prog 53 #[tokV g cap l,.int .i64 i,.string ⟨#[72,79,80,83]⟩,.bool first,.pointer (some ⟨K,0,none⟩)] w fun e w'=>HdPost w M K N (pcS l .hops i first a) e w':=by
 have hN:=A.nW;have hNK:=A.nK;have hA:=Hi A;obtain ⟨t,ht⟩:∃ t,l[i]?=some t:=⟨_,List.getElem?_eq_getElem hi⟩
 obtain ⟨e0,e1,e2,e3⟩:=tok_cells T ht;have b2:(i:Int)<(l.length:Int):=by omega
 have b0:(0:Int)≤(i:Int):=by omega
 have bw:=wS i (by omega)
 have hX:Below w.heap.size w (w.alloc (.cells (tkC t) 76 (0,0))):=(Below.refl w.heap.size w).alloc (Nat.le_refl _) _;have TX:=Hi (T.below hX T.1);have AX:=Hi (A.keepN hX);have hX:=Hi hX;have cn:=Hi (h_numbered t (hG t (List.mem_of_getElem? ht)).2.2.2.2.1 0 64 (w.alloc (.cells (tkC t) 76 (0,0))));rw [← numb_at ht 0 64] at cn;clear A T ht TX;obtain ⟨⟨v,x⟩,hn⟩:∃ x,numbS l i 0 64=x:=⟨_,rfl⟩
 rw [hn] at cn
 by_cases hx:x=0
 ·have hR:=Hi (pc_hops_ok (l:=l) (i:=i) (first:=first) (a:=a) (by rw [hn];exact hx))
  rw [hn] at hR;subst hx;clear hn;go_enter Tryz.func53,Tryz.ntmps53;go_wp2_with (go_at_call 32;refine cn.out.mono ?_;rintro e w1 ⟨rfl,hb1⟩;have A1:=AX.out.keepN hb1;have z6:=A1.c6;have y6:=A1.free 6;have A1:=Hi A1;have hb1:=Hi hb1);go_ret2;exact HdPost.mk' (j:=i+1) hR.out (((hX.out.mono hN).trans (hb1.out.mono AX.out.nW)).setCell (p:=⟨K,6,none⟩) hNK _) (((KeepS.of hX.out).trans (KeepS.of hb1.out)).trans (KeepS.set A1.out.box (by decide) _)) (A1.out.set (j:=6) (u:=.int .i64 v) (a':={ a with hops:=v }) rfl rfl rfl) (fun _=>rfl)
 ·have hR:=Hi (pc_hops_bad (l:=l) (i:=i) (first:=first) (a:=a) (by rw [hn];exact hx))
  rw [hn] at hR;have bx:(x != 0)=true:=by rw [bne,beq_eq_false_iff_ne.2 hx];rfl
  have hx:=Hi hx;clear hn;go_enter Tryz.func53,Tryz.ntmps53;go_wp2_with (go_at_call 32;refine cn.out.mono ?_;rintro e w1 ⟨rfl,hb1⟩;have A1:=AX.out.keepN hb1;have z6:=A1.c6;have y6:=A1.free 6;have A1:=Hi A1;have hb1:=Hi hb1);go_ret2;exact HdPost.mk' hR.out (((hX.out.mono hN).trans (hb1.out.mono AX.out.nW)).setCell (p:=⟨K,6,none⟩) hNK _) (((KeepS.of hX.out).trans (KeepS.of hb1.out)).trans (KeepS.set A1.out.box (by decide) _)) (A1.out.set (j:=6) (u:=.int .i64 v) (a':={ a with hops:=v }) rfl rfl rfl) (fun h=>absurd h hx.out)
theorem h_expr {w:World}{M K N g cap i:Nat}{l:List Tk}{a:AskS}{vW vS:Value}(T:TokIn w g l)(hgN:g<N)(A:AkAt w M K N a vW vS)(hi:i<l.length)(hll:l.length≤900000)(hG:∀ t∈l,TokG t)(hL:Lined l)(ha:a.cond=[])(first:Bool) :
  Calls Tryz.prog 53 #[tokV g cap l,.int .i64 i,.string ⟨#[69,88,80,82]⟩,.bool first,.pointer (some ⟨K,0,none⟩)] w fun e w'=>HdPost w M K N (pcS l .expr i first a) e w':=by
 have hN:=A.nW;have hNK:=A.nK;have hA:=Hi A;obtain ⟨t,ht⟩:∃ t,l[i]?=some t:=⟨_,List.getElem?_eq_getElem hi⟩
 obtain ⟨e0,e1,e2,e3⟩:=tok_cells T ht;have b2:(i:Int)<(l.length:Int):=by omega
 have b0:(0:Int)≤(i:Int):=by omega
 have bw:=wS i (by omega)
 have hX:Below w.heap.size w (w.alloc (.cells (tkC t) 76 (0,0))):=(Below.refl w.heap.size w).alloc (Nat.le_refl _) _;have TX:=Hi (T.below hX T.1);have AX:=Hi (A.keepN hX);have hX:=Hi hX;have hpe:=pc_expr (l:=l) (i:=i) (first:=first) (a:=a) ha
 have cx:=Hi ((r_Read (cap:=cap) TX.out (fun k t h=>(hG t (List.mem_of_getElem? h)).2.2.2.2.1) hll (Nat.le_of_lt hi)).mono fun e w' h=>rd_post (read_same l i (Nat.le_of_lt hi)▸h))
 clear A T ht TX;obtain ⟨at',hat⟩:∃ j,(readD l i).2.1=j:=⟨_,rfl⟩
 obtain ⟨c,hc⟩:∃ c,rdC l i=c:=⟨_,rfl⟩
 obtain ⟨q,hq⟩:∃ q,rdQ l i=q:=⟨_,rfl⟩
 rw [hat,hc,hq] at cx hpe;have hR:=Hi hpe;clear hpe hat hc hq;go_enter Tryz.func53,Tryz.ntmps53;go_upto_region 15 with (go_at_call 72;refine cx.out.mono ?_;rintro e w1 ⟨v,rfl,ho,hb1⟩;have A1:=AX.out.keepN hb1;have z3:=A1.c3;have y3:=A1.free 3;have A1:=Hi A1;have ho:=Hi ho;have hb1:=Hi hb1);obtain ⟨vA,vc,rfl⟩:=own_shape ho.out;go_wp2_with fail;go_ret2;exact HdPost.mk' hR.out (((hX.out.mono hN).trans (hb1.out.mono AX.out.nW)).setCell (p:=⟨K,3,none⟩) hNK _) (((KeepS.of hX.out).trans (KeepS.of hb1.out)).trans (KeepS.set A1.out.box (by decide) _)) (A1.out.setW (Go.Joins.ownsRow_le ho.out AX.out.nW)) (fun _=>rfl)
theorem h_text {w:World}{M K N g cap i:Nat}{l:List Tk}{a:AskS}{vW vS:Value}(T:TokIn w g l)(hgN:g<N)(A:AkAt w M K N a vW vS)(hi:i<l.length)(hll:l.length≤900000)(hG:∀ t∈l,TokG t)(hL:Lined l)(first:Bool) :
  Calls Tryz.prog 53 #[tokV g cap l,.int .i64 i,.string ⟨#[84,69,88,84]⟩,.bool first,.pointer (some ⟨K,0,none⟩)] w fun e w'=>HdPost w M K N (pcS l .text i first a) e w':=by
 have hN:=A.nW;have hNK:=A.nK;have hA:=Hi A;obtain ⟨t,ht⟩:∃ t,l[i]?=some t:=⟨_,List.getElem?_eq_getElem hi⟩
 obtain ⟨e0,e1,e2,e3⟩:=tok_cells T ht;have b2:(i:Int)<(l.length:Int):=by omega
 have b0:(0:Int)≤(i:Int):=by omega
 have bw:=wS i (by omega)
 have hX:Below w.heap.size w (w.alloc (.cells (tkC t) 76 (0,0))):=(Below.refl w.heap.size w).alloc (Nat.le_refl _) _;have TX:=Hi (T.below hX T.1);have AX:=Hi (A.keepN hX);have hX:=Hi hX;have kk:=kind_at ht 6;have tt:=text_at ht;have hsz:=(hG t (List.mem_of_getElem? ht)).2.2.2.2.1;have cu:=Hi (fun W=>r_Unquote t.text (by omega) W)
 obtain ⟨d,hd⟩:∃ d,saidAt l i=d:=⟨_,rfl⟩
 have hd2:(unqOf t.text (spkQ t.text)).1=d:=by rw [← hd];unfold saidAt;rw [tt]
 rw [unq_same,hd2] at cu
 have hds:d.size≤9223372036854775807:=by
  rw [← hd2];have:=unq_size t.text (spkQ t.text);omega
 have cc:=Hi (fun W=>d_Compile d W hds)
 have hR0:pcS l .text i first a=if kindIs l i 6=false then (50,i,a) else if codeP d≠0 then (140,i,a) else (0,i+1,{ a with along:=d }):=by
  unfold pcS;dsimp only;rw [hd,codeP_M]
  by_cases h1:kindIs l i 6=false
  ·rw [if_pos h1,if_pos h1]
  ·rw [if_neg h1,if_neg h1]
   by_cases h2:256<d.size
   ·rw [if_pos (Or.inl h2),if_pos (by rw [if_pos h2];decide)]
   ·rw [if_neg h2]
    cases h3:patM (bs d) with
    | false=>rw [if_pos (Or.inr rfl),if_pos (by decide)]
    | true=>rw [if_neg (by simp;omega),if_neg (by simp)]
 clear A T ht TX hd hd2 hds hsz
 by_cases hk:t.kind=6
 ·have bk:(t.kind != 6)=false:=by rw [hk];rfl
  rw [if_neg (by rw [kk,hk];decide)] at hR0
  clear hk kk tt;obtain ⟨c,hc⟩:∃ c,codeP d=c:=⟨_,rfl⟩
  rw [hc] at hR0 cc;clear hc
  by_cases hx:c=0
  ·rw [if_neg (fun h=>h hx)] at hR0
   have hR:=Hi hR0;subst hx;clear hR0;go_enter Tryz.func53,Tryz.ntmps53;go_upto_region 22 with (go_at_call 73;refine (cu.out _).mono ?_;rintro e w1 ⟨rfl,hb1⟩;have A1:=AX.out.keepN hb1;have z4:=A1.c4;have y4:=A1.free 4;have A1:=Hi A1;have hb1:=Hi hb1);have A2:AkAt (w1.setCell ⟨K,4,none⟩ (.string d)) M K N { a with along:=d } vW vS:=A1.out.set rfl rfl rfl;have B2:=((hX.out.mono hN).trans (hb1.out.mono AX.out.nW)).setCell (p:=⟨K,4,none⟩) hNK (.string d);have S2:=((KeepS.of hX.out).trans (KeepS.of hb1.out)).trans (KeepS.set (j:=4) A1.out.box (by decide) (.string d))
   have A2:=Hi A2;have B2:=Hi B2;have S2:=Hi S2;clear z4 y4 A1 hb1 cu AX hX e0 e1 e2 e3;generalize w1.setCell ⟨K,4,none⟩ (.string d)=W2 at *;go_wp2_with (go_at_call 74;refine (cc.out _).mono ?_;rintro e w3 ⟨hb3,p3,m3,c3,k3,n3,rfl⟩;have hb3:=Hi hb3);go_ret2;exact HdPost.mk' (j:=i+1) hR.out ((B2.out.trans (hb3.out.mono A2.out.nW)).trans ((Below.refl _ w3).alloc (Nat.le_trans A2.out.nW hb3.out.size) _)) ((S2.out.trans (KeepS.of hb3.out)).trans (KeepS.of ((Below.refl _ w3).alloc (Nat.le_refl _) _))) ((A2.out.keepN hb3.out).keepN ((Below.refl _ w3).alloc (Nat.le_refl _) _)) (fun _=>rfl)
  ·rw [if_pos hx] at hR0;have hR:=Hi hR0;have bx:(c != 0)=true:=by rw [bne,beq_eq_false_iff_ne.2 hx];rfl
   have hx:=Hi hx;clear hR0;go_enter Tryz.func53,Tryz.ntmps53;go_upto_region 22 with (go_at_call 73;refine (cu.out _).mono ?_;rintro e w1 ⟨rfl,hb1⟩;have A1:=AX.out.keepN hb1;have z4:=A1.c4;have y4:=A1.free 4;have A1:=Hi A1;have hb1:=Hi hb1);have A2:AkAt (w1.setCell ⟨K,4,none⟩ (.string d)) M K N { a with along:=d } vW vS:=A1.out.set rfl rfl rfl;have B2:=((hX.out.mono hN).trans (hb1.out.mono AX.out.nW)).setCell (p:=⟨K,4,none⟩) hNK (.string d);have S2:=((KeepS.of hX.out).trans (KeepS.of hb1.out)).trans (KeepS.set (j:=4) A1.out.box (by decide) (.string d))
   have A2:=Hi A2;have B2:=Hi B2;have S2:=Hi S2;clear z4 y4 A1 hb1 cu AX hX e0 e1 e2 e3;generalize w1.setCell ⟨K,4,none⟩ (.string d)=W2 at *;go_wp2_with (go_at_call 74;refine (cc.out _).mono ?_;rintro e w3 ⟨hb3,p3,m3,c3,k3,n3,rfl⟩;have hb3:=Hi hb3);go_ret2;exact HdPost.mk' hR.out ((B2.out.trans (hb3.out.mono A2.out.nW)).trans ((Below.refl _ w3).alloc (Nat.le_trans A2.out.nW hb3.out.size) _)) ((S2.out.trans (KeepS.of hb3.out)).trans (KeepS.of ((Below.refl _ w3).alloc (Nat.le_refl _) _))) ((A2.out.keepN hb3.out).keepN ((Below.refl _ w3).alloc (Nat.le_refl _) _)) (fun h=>by cases h)
 ·have bk:(t.kind != 6)=true:=by rw [bne,beq_eq_false_iff_ne.2 hk];rfl
  rw [if_pos (by rw [kk,beq_eq_false_iff_ne.2 hk])] at hR0
  have hR:=Hi hR0;clear hk kk tt hR0;go_enter Tryz.func53,Tryz.ntmps53;go_wp2_with fail;go_ret2;exact HdPost.mk' hR.out (hX.out.mono hN) (KeepS.of hX.out) AX.out (fun _=>rfl)
theorem h_setsP {w:World}{M K N g cap i:Nat}{l:List Tk}{a:AskS}{vW vS:Value}(T:TokIn w g l)(hgN:g<N)(A:AkAt w M K N a vW vS)(hi:i<l.length)(hll:l.length≤900000)(hG:∀ t∈l,TokG t)(hL:Lined l)(ha:a.sets=[])(first:Bool) :
  Calls Tryz.prog 53 #[tokV g cap l,.int .i64 i,.string ⟨#[83,69,84,83]⟩,.bool first,.pointer (some ⟨K,0,none⟩)] w fun e w'=>HdPost w M K N (pcS l .sets i first a) e w':=by
 have hN:=A.nW;have hNK:=A.nK;have hA:=Hi A;obtain ⟨t,ht⟩:∃ t,l[i]?=some t:=⟨_,List.getElem?_eq_getElem hi⟩
 obtain ⟨e0,e1,e2,e3⟩:=tok_cells T ht;have b2:(i:Int)<(l.length:Int):=by omega
 have b0:(0:Int)≤(i:Int):=by omega
 have bw:=wS i (by omega)
 have hX:Below w.heap.size w (w.alloc (.cells (tkC t) 76 (0,0))):=(Below.refl w.heap.size w).alloc (Nat.le_refl _) _;have TX:=Hi (T.below hX T.1);have AX:=Hi (A.keepN hX);have hX:=Hi hX;have cs:=Hi (h_sets (cap:=cap) TX.out hgN AX.out hi hll hG hL ha first)
 clear A T ht TX;generalize pcS l .sets i first a=R at *
 go_enter Tryz.func53,Tryz.ntmps53;go_wp2_with (go_at_call 75;refine cs.out.mono ?_;rintro e w1 ⟨rfl,hp1⟩;have hp1:=Hi hp1);go_ret2;exact HdPost.after ⟨rfl,hp1.out⟩ (hX.out.mono hN) (KeepS.of hX.out) rfl
theorem pc_word_ok {l:List Tk}{i:Nat}{first:Bool}{a:AskS}{s:ByteArray}(h:isT l i 2 s=true):pcS l (.word s) i first a=(0,i+1,a):=by unfold pcS;dsimp only;rw [if_neg (by rw [h];decide)]
theorem pc_word_bad {l:List Tk}{i:Nat}{first:Bool}{a:AskS}{s:ByteArray}(h:isT l i 2 s=false):pcS l (.word s) i first a=(50,i,a):=by unfold pcS;dsimp only;rw [if_pos h]
def Wd (s:ByteArray):Prop:=s=wTo∨s=wWhere∨s=wAlong∨s=wFrom∨s=wHops∨s=wordOf 1∨s=wordOf 2∨s=wordOf 3∨s=wordOf 4∨s=wordOf 5∨s=wordOf 6∨s=wordOf 7∨s=wordOf 8∨s=wordOf 9
theorem toList_ne {s c:ByteArray}{q:List UInt8}(hq:c.data.toList=q)(h:s≠c):(s.toList == q)=false:=by
 rw [← hq,← ByteArray.toList_eq,ba_beq];exact decide_eq_false h
theorem wd_not {s:ByteArray}(h:Wd s):(s.toList == [80,79,82,84])=false∧(s.toList == [78,65,77,69])=false∧(s.toList == [69,88,80,82])=false∧(s.toList == [84,69,88,84])=false∧(s.toList == [72,79,80,83])=false∧(s.toList == [83,69,84,83])=false:=by
 refine ⟨toList_ne (c:=pcW .port) rfl ?_,toList_ne (c:=pcW .name) rfl ?_,toList_ne (c:=pcW .expr) rfl ?_,toList_ne (c:=pcW .text) rfl ?_,toList_ne (c:=pcW .hops) rfl ?_,toList_ne (c:=pcW .sets) rfl ?_⟩ <;>
 (rcases h with rfl|rfl|rfl|rfl|rfl|rfl|rfl|rfl|rfl|rfl|rfl|rfl|rfl|rfl<;>decide)
theorem h_word {w:World}{M K N g cap i:Nat}{l:List Tk}{a:AskS}{vW vS:Value}(T:TokIn w g l)(hgN:g<N)(A:AkAt w M K N a vW vS)(hi:i<l.length)(hll:l.length≤900000)(hG:∀ t∈l,TokG t)(hL:Lined l){s:ByteArray}(hs:Wd s)(first:Bool) :
  Calls Tryz.prog 53 #[tokV g cap l,.int .i64 i,.string s,.bool first,.pointer (some ⟨K,0,none⟩)] w fun e w'=>HdPost w M K N (pcS l (.word s) i first a) e w':=by
 have hN:=A.nW;have hNK:=A.nK;have hA:=Hi A;obtain ⟨t,ht⟩:∃ t,l[i]?=some t:=⟨_,List.getElem?_eq_getElem hi⟩
 obtain ⟨e0,e1,e2,e3⟩:=tok_cells T ht;have b2:(i:Int)<(l.length:Int):=by omega
 have b0:(0:Int)≤(i:Int):=by omega
 have bw:=wS i (by omega)
 have hX:Below w.heap.size w (w.alloc (.cells (tkC t) 76 (0,0))):=(Below.refl w.heap.size w).alloc (Nat.le_refl _) _;have TX:=Hi (T.below hX T.1);have AX:=Hi (A.keepN hX);have hX:=Hi hX;have ci:=Hi (h_is t 2 s (w.alloc (.cells (tkC t) 76 (0,0))));have hI:=isT_at ht 2 s;obtain ⟨s1,s2,s3,s4,s5,s6⟩:=wd_not hs;clear A T ht TX hs
 cases hS:(t.kind == 2 && decide (t.text=s)) with
 | false=>
   rw [hS] at ci;have hR:=Hi (pc_word_bad (l:=l) (i:=i) (first:=first) (a:=a) (hI.trans hS))
   clear hI hS;go_enter Tryz.func53,Tryz.ntmps53;go_wp2_with (go_at_call 31;refine ci.out.mono ?_;rintro e w1 ⟨rfl,hb1⟩;have hb1:=Hi hb1);go_ret2;exact HdPost.mk' hR.out ((hX.out.mono hN).trans (hb1.out.mono AX.out.nW)) ((KeepS.of hX.out).trans (KeepS.of hb1.out)) (AX.out.keepN hb1.out) (fun _=>rfl)
 | true=>
   rw [hS] at ci;have hR:=Hi (pc_word_ok (l:=l) (i:=i) (first:=first) (a:=a) (hI.trans hS))
   clear hI hS;go_enter Tryz.func53,Tryz.ntmps53;go_wp2_with (go_at_call 31;refine ci.out.mono ?_;rintro e w1 ⟨rfl,hb1⟩;have hb1:=Hi hb1);go_ret2;exact HdPost.mk' (j:=i+1) hR.out ((hX.out.mono hN).trans (hb1.out.mono AX.out.nW)) ((KeepS.of hX.out).trans (KeepS.of hb1.out)) (AX.out.keepN hb1.out) (fun _=>rfl)
def kindT (t:Tk):Nat:=if t.kind=2 then kindOfW t.text else 0
theorem kind_t {l:List Tk}{i:Nat}{t:Tk}(h:l[i]?=some t):kindAt l i=kindT t:=by
 unfold kindAt kindT;rw [kind_at h,text_at h]
 by_cases hk:t.kind=2
 ·rw [if_pos (by rw [hk];rfl),if_pos hk]
 ·rw [if_neg (by rw [beq_eq_false_iff_ne.2 hk];decide),if_neg hk]
theorem kindOfW_first {s:ByteArray}{k:Nat}(h1:1≤k)(h9:k≤9)(h:s=wordOf k):kindOfW s=k:=by
 subst h;rcases nine h1 h9 with rfl|rfl|rfl|rfl|rfl|rfl|rfl|rfl|rfl<;>decide
theorem kindOfW_none {s:ByteArray}(h:∀ m,1≤m→m<10→s≠wordOf m):kindOfW s=0:=by
 unfold kindOfW;rw [if_neg (h 1 (by decide) (by decide)),if_neg (h 2 (by decide) (by decide)),if_neg (h 3 (by decide) (by decide)),if_neg (h 4 (by decide) (by decide)),if_neg (h 5 (by decide) (by decide)),if_neg (h 6 (by decide) (by decide)),if_neg (h 7 (by decide) (by decide)),if_neg (h 8 (by decide) (by decide)),if_neg (h 9 (by decide) (by decide))]
structure KoRel (w wr:World)(t:Tk)(n:Nat):Prop where
 n1:1≤n
 n9:n≤10
 B:Below (w.heap.size+1) (w.alloc (.cells (tkC t) 76 (0,0))) wr
 no:t.kind=2→∀ m,1≤m→m<n→t.text≠wordOf m
theorem h_kindOf (t:Tk)(w:World):Calls Tryz.prog 33 #[tkV t] w fun e w'=>e=.returned (.int .i64 (kindT t))∧Below w.heap.size w w':=by
 have hX:Below w.heap.size w (w.alloc (.cells (tkC t) 76 (0,0))):=(Below.refl w.heap.size w).alloc (Nat.le_refl _) _;have hX:=Hi hX;have R0:=Hi (show KoRel w (w.alloc (.cells (tkC t) 76 (0,0))) t 1 from ⟨by decide,by decide,Below.refl _ _,fun _ m h h2=>by omega⟩)
 go_enter Tryz.func33,Tryz.ntmps33;go_upto_region 2 with fail
 go_loopw [3] (fun x wr=>∃ n:Nat,x=.int .i64 n∧Hid (KoRel w wr t n)) (fun x _=>10-(intOf x).toNat)
 case atStart=>exact ⟨1,rfl,R0⟩
 case round=>
  obtain ⟨n,rfl,hr⟩:=hrel;obtain ⟨wq,rfl⟩:∃ wq,wq=wr:=⟨_,rfl⟩
  have hn1:=hr.out.n1;have hn10:=hr.out.n9;clear R0
  by_cases hn:n=10
  ·subst hn
   have H:=Hi (show kindT t=0 by
    unfold kindT
    by_cases hk:t.kind=2
    ·rw [if_pos hk];exact kindOfW_none fun m h1 h2=>hr.out.no hk m h1 h2
    ·rw [if_neg hk])
   go_wp2_with fail;go_ret;rw [H.out];exact ⟨rfl,hX.out.trans (hr.out.B.mono (Nat.le_succ _))⟩
  ·have hn9:n≤9:=by omega
   have b1:(n:Int)<10:=by omega
   have bw:=wS n (by omega)
   have hz:wq.heap[w.heap.size]?=some (.cells (tkC t) 76 (0,0)):=(hr.out.B.block _ (Nat.lt_succ_self _)).trans (heap_alloc_new w _)
   have hzc:∀ W:World,W.heap[w.heap.size]?=some (.cells (tkC t) 76 (0,0))→W.cell? ⟨w.heap.size,0,none⟩=some (.int .i64 t.kind)∧W.cell? ⟨w.heap.size,1,none⟩=some (.string t.text)∧W.cell? ⟨w.heap.size,2,none⟩=some (.int .i64 t.line)∧W.cell? ⟨w.heap.size,3,none⟩=some (.int .i64 t.col):=fun W h=>by
    have z0:=cell_of_row W w.heap.size 0 _ _ _ h;have z1:=cell_of_row W w.heap.size 1 _ _ _ h;have z2:=cell_of_row W w.heap.size 2 _ _ _ h;have z3:=cell_of_row W w.heap.size 3 _ _ _ h;exact ⟨z0,z1,z2,z3⟩
   obtain ⟨e0,e1,e2,e3⟩:=hzc wq hz;have hlt:w.heap.size<wq.heap.size:=(Array.getElem?_eq_some_iff.1 hz).1;have hzc:=Hi (fun W (hb:Below wq.heap.size wq W)=>hzc W ((hb.block _ hlt).trans hz))
   have csh:=Hi (fun W=>h_shapes n hn1 hn9 W)
   have cis:=Hi (fun W=>h_is t 2 (wordOf n) W)
   obtain ⟨b,hb0⟩:∃ b,(t.kind == 2 && decide (t.text=wordOf n))=b:=⟨_,rfl⟩
   rw [hb0] at cis;have hb0:=Hi hb0;have hlen:=Hi (show (shapeW n).length=(shapeS n).length+3 by unfold shapeW;simp)
   clear hz;go_upto_region 4 with fail
   go_cut [13] (fun x wx=>x=.bool b∧Hid (Below wq.heap.size wq wx))
   case first=>
    go_region_law (go_simp;first|(go_at_call 52;refine (csh.out _).mono ?_;rintro e w2 ⟨hb2,gS,cS,csS,fzS,rfl,hS,hcS⟩;have b0l:0<(shapeW n).length:=(by have:=hlen.out;omega);have s0:=str_cell (j:=0) hS (hcS 0 (wordOf n) rfl);obtain ⟨u0,u1,u2,u3⟩:=hzc.out w2 (((Qt.self wq _).below _).trans hb2);have hb2:=Hi hb2;clear hS hcS;go_wp2_with fail)|(go_at_call 31;refine (cis.out _).mono ?_;rintro e w3 ⟨rfl,hb3⟩;have hb3:=Hi hb3;go_wp2_with fail))
    all_goals (
     go_wp2_with fail;go_meet;exact ⟨rfl,Hi ((((Qt.self wq _).below _).trans hb2.out).trans (hb3.out.mono (Nat.le_trans (((Qt.self wq _).below _).trans hb2.out).size (Nat.le_refl _))))⟩)
   case rest=>
    obtain ⟨rfl,hbx⟩:=hcut;clear csh cis e0 e1 e2 e3;have hB:=Hi (hr.out.B.trans (hbx.out.mono (Nat.succ_le_of_lt hlt)))
    cases hb:b with
    | true=>
      rw [hb] at hb0
      have H:=Hi (show kindT t=n by
       have:=hb0.out;simp only [Bool.and_eq_true,beq_iff_eq,decide_eq_true_eq] at this;unfold kindT;rw [if_pos this.1];exact kindOfW_first hn1 hn9 this.2)
      subst hb;clear hb0;go_wp2_with fail;go_ret;rw [H.out];exact ⟨rfl,hX.out.trans (hB.out.mono (Nat.le_succ _))⟩
    | false=>
      rw [hb] at hb0
      have H:=Hi (show KoRel w wc t (n+1) from ⟨by omega,by omega,hB.out,fun hk m h1 h2=>by
       by_cases hm:m=n
       ·subst hm;intro he;have:=hb0.out;rw [hk,he] at this;simp at this
       ·exact hr.out.no hk m h1 (by omega)⟩)
      subst hb;clear hb0 hr;go_wp2_with fail;refine ⟨⟨n+1,rfl,H⟩,?_⟩;simp only [intOf,Int.toNat_natCast];omega
end Go.Proofs.YtjokciofeicdkaaGreatDoor

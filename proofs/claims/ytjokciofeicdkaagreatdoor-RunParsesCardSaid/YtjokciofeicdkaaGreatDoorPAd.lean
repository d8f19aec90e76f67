/- A part of the proof of RunParses: RqE RqF. -/
import Derived.Test.YtjokciofeicdkaaGreatDoorPAc
import Derived.Test.YtjokciofeicdkaaGreatDoorPAa
import Derived.Test.YtjokciofeicdkaaGreatDoorPAb
import Derived.Test.YtjokciofeicdkaaGreatDoorPF
set_option maxHeartbeats 16000000
set_option maxRecDepth 100000
set_option linter.all false
namespace Go.Proofs.YtjokciofeicdkaaGreatDoor
open Go.RowKit
attribute [local go_sem ↓] Go.wp_at_zero Go.wp_at_succ
def fullP (k:Nat):List Pc:=.word (wordOf k)::(shapeS k++[.word wHops,.hops])
def isE:Pc→Bool|.expr=>true|_=>false
def isS:Pc→Bool|.sets=>true|_=>false
theorem shapeW_full (k:Nat):shapeW k=(fullP k).map pcW:=rfl
theorem full_len {k:Nat}(h1:1≤k)(h9:k≤9):(fullP k).length≤10:=by
 rcases nine h1 h9 with rfl|rfl|rfl|rfl|rfl|rfl|rfl|rfl|rfl<;>decide
def onceB (l:List Pc):Bool:=(List.range 10).all fun n=>match l[n]? with
 | none=>true
 | some p=>(!isE p || !(l.drop (n+1)).any isE) && (!isS p || !(l.drop (n+1)).any isS)
theorem full_once {k:Nat}(h1:1≤k)(h9:k≤9):onceB (fullP k)=true:=by
 rcases nine h1 h9 with rfl|rfl|rfl|rfl|rfl|rfl|rfl|rfl|rfl<;>decide
theorem once_at {l:List Pc}(hl:l.length≤10)(h:onceB l=true){n:Nat}{p:Pc}(hp:l[n]?=some p):(isE p=true→(l.drop (n+1)).any isE=false)∧(isS p=true→(l.drop (n+1)).any isS=false):=by
 have hn:n<10:=by have:=(List.getElem?_eq_some_iff.1 hp).1;omega
 have h2:=List.all_eq_true.1 h n (List.mem_range.2 hn);rw [hp] at h2;simp only [Bool.and_eq_true,Bool.or_eq_true,Bool.not_eq_true'] at h2;exact ⟨fun e=>h2.1.resolve_left (by rw [e];decide),fun e=>h2.2.resolve_left (by rw [e];decide)⟩
def PcOK:Pc→Prop|.word s=>Wd s|_=>True
theorem full_ok {k:Nat}(h1:1≤k)(h9:k≤9):∀ p∈fullP k,PcOK p:=by
 rcases nine h1 h9 with rfl|rfl|rfl|rfl|rfl|rfl|rfl|rfl|rfl <;>
 (intro p hp
  repeat' (first|exact (List.not_mem_nil hp).elim|(rcases List.mem_cons.1 hp with rfl|hp))
  all_goals first|trivial|(unfold PcOK Wd;simp))
theorem pc_cond {l:List Tk}{p:Pc}{i j:Nat}{f:Bool}{a b:AskS}(h:pcS l p i f a=(0,j,b)):(isE p=false→b.cond=a.cond)∧(isS p=false→b.sets=a.sets):=by
 cases p<;>(unfold pcS at h;dsimp only at h)<;>(repeat' split at h)<;>(simp only [Prod.mk.injEq] at h;obtain ⟨-,-,rfl⟩:=h;exact ⟨fun e=>(by first|rfl|(unfold AskS.named;split<;>rfl)|cases e),fun e=>(by first|rfl|(unfold AskS.named;split<;>rfl)|cases e)⟩)
def HlPost (w:World)(r:Int×Nat×AskS)(e:Ending)(w':World):Prop:=Below w.heap.size w w' ∧
 (if r.1=0 then ∃ vW vS,e=.returned (.tuple #[.agg (akBox r.2.2 vW vS),.int .i64 (r.2.1:Nat),.int .i64 0])∧w'.ownsRow w.heap.size 86 8 vW r.2.2.cond.length (flatN r.2.2.cond)∧w'.ownsRow w.heap.size 88 2 vS r.2.2.sets.length (flatS r.2.2.sets)
  else e=.returned (.tuple #[.agg qy0,.int .i64 (r.2.1:Nat),.int .i64 r.1]))
theorem kind_word {s:ByteArray}{k:Nat}(h:kindOfW s=k)(hk:k≠0):s=wordOf k:=by
 subst h;unfold kindOfW at hk ⊢
 repeat' split
 all_goals first|assumption|(exfalso;revert hk;simp_all)
theorem kind_is {l:List Tk}{i k:Nat}(h:kindAt l i=k)(hk:k≠0):isT l i 2 (wordOf k)=true:=by
 unfold kindAt at h
 split at h
 ·rename_i h2;have hw:=kind_word h hk;unfold kindIs at h2;unfold textAt at hw;unfold isT
  cases ht:l[i]? with
  | none=>rw [ht] at h2;cases h2
  | some t=>
    rw [ht] at h2 hw;dsimp only at h2 hw ⊢;rw [h2,hw];simp
 ·exact absurd h.symm hk
theorem line_full {l:List Tk}{i k:Nat}(h:isT l i 2 (wordOf k)=true):pcsS l (fullP k) i true (AskS.of k)=restS l k (i+1):=pcs_ok (pc_word_ok h)
section
variable {w:World} {M K N g cap i:Nat} {l:List Tk} {a:AskS} {vW vS:Value}
theorem h_piece (p:Pc)(hp:PcOK p)(T:TokIn w g l)(hgN:g<N)(A:AkAt w M K N a vW vS)(hi:i<l.length)(hll:l.length≤900000)(hG:∀ t∈l,TokG t)(hL:Lined l)(hE:isE p=true→a.cond=[])(hS:isS p=true→a.sets=[])(first:Bool) :
  Calls Tryz.prog 53 #[tokV g cap l,.int .i64 i,.string (pcW p),.bool first,.pointer (some ⟨K,0,none⟩)] w fun e w'=>HdPost w M K N (pcS l p i first a) e w':=by
 cases p with
 | port=>exact h_port T hgN A hi hll hG hL first
 | name=>exact h_name T hgN A hi hll hG hL first
 | expr=>exact h_expr T hgN A hi hll hG hL (hE rfl) first
 | text=>exact h_text T hgN A hi hll hG hL first
 | hops=>exact h_hops T hgN A hi hll hG hL first
 | sets=>exact h_setsP T hgN A hi hll hG hL (hS rfl) first
 | word s=>exact h_word T hgN A hi hll hG hL hp first
theorem pc_names (p:Pc)(hp:PcOK p):(isName? p=true∧((pcW p).toList == [80,79,82,84])=true)∨(isName? p=true∧((pcW p).toList == [80,79,82,84])=false∧((pcW p).toList == [78,65,77,69])=true)∨(isName? p=false∧((pcW p).toList == [80,79,82,84])=false∧((pcW p).toList == [78,65,77,69])=false):=by
 have e:∀ s c:ByteArray,∀ q:List UInt8,c.data.toList=q→(s.toList == q)=decide (s=c):=fun s c q hq=>by rw [← hq,← ByteArray.toList_eq,ba_beq]
 rw [e (pcW p) (pcW .port) [80,79,82,84] rfl,e (pcW p) (pcW .name) [78,65,77,69] rfl]
 cases p with
 | word s=>
   obtain ⟨h1,h2,-⟩:=wd_not hp;rw [e s (pcW .port) [80,79,82,84] rfl] at h1;rw [e s (pcW .name) [78,65,77,69] rfl] at h2;exact .inr (.inr ⟨rfl,h1,h2⟩)
 | port=>exact .inl ⟨rfl,by decide⟩
 | name=>exact .inr (.inl ⟨rfl,by decide,by decide⟩)
 | expr=>exact .inr (.inr ⟨rfl,by decide,by decide⟩)
 | text=>exact .inr (.inr ⟨rfl,by decide,by decide⟩)
 | hops=>exact .inr (.inr ⟨rfl,by decide,by decide⟩)
 | sets=>exact .inr (.inr ⟨rfl,by decide,by decide⟩)
end
theorem HdPost.out0 {w w':World}{M K N j:Nat}{a:AskS}{e:Ending}(h:HdPost w M K N (0,j,a) e w'):e=.returned (.tuple #[.int .i64 j,.int .i64 0])∧Below N w w'∧KeepS w w'∧∃ vW vS,AkAt w' M K N a vW vS:=by
 obtain ⟨h1,h2,h3,b,vW,vS,h4,h5⟩:=h;obtain rfl:=h5 rfl;exact ⟨h1,h2,h3,vW,vS,h4⟩
theorem HdPost.out1 {w w':World}{M K N j:Nat}{a:AskS}{e:Ending}{c:Int}(h:HdPost w M K N (c,j,a) e w'):e=.returned (.tuple #[.int .i64 j,.int .i64 c])∧Below N w w':=⟨h.1,h.2.1⟩
structure HlRel (w wr:World)(g R N gS:Nat)(cs:Array Value)(fz:Nat×Nat)(l:List Tk)(k i j n:Nat)(f:Bool)(a:AskS)(vW vS:Value):Prop where
 A:AkAt wr g N N a vW vS
 B:Below R w wr
 T:TokIn wr g l
 box:wr.heap[R]?=some (.cells qy0 43 (0,0))
 S:wr.heap[gS]?=some (.cells cs 9 fz)
 R:pcsS l (fullP k) i true (AskS.of k)=pcsS l ((fullP k).drop n) j f a
 le:n≤(fullP k).length
 lt:j<l.length
 cE:((fullP k).drop n).any isE=true→a.cond=[]
 cS:((fullP k).drop n).any isS=true→a.sets=[]
theorem h_line {w:World}{g cap i k:Nat}{l:List Tk}(T:TokIn w g l)(hi:i<l.length)(hll:l.length≤900000)(hG:∀ t∈l,TokG t)(hL:Lined l)(h1:1≤k)(h9:k≤9)(hk:kindAt l i=k) :
  Calls Tryz.prog 34 #[tokV g cap l,.int .i64 i,.int .i64 k] w fun e w'=>HlPost w (lineS l k i) e w':=by
 have hF:=Hi (line_full (kind_is hk (by omega)))
 have hgl:=T.1;have hbA:Below w.heap.size w (w.alloc (.cells qy0 43 (0,0))):=(Below.refl _ w).alloc (Nat.le_refl _) _;have hbB:Below w.heap.size w ((w.alloc (.cells qy0 43 (0,0))).alloc (.cells #[.int .i64 k,.string ⟨#[]⟩,.string ⟨#[]⟩,.slice none 0 0,.string ⟨#[]⟩,.slice none 0 0,.int .i64 0] 43 (0,0))):=hbA.alloc (by simp) _
 have hzR:((w.alloc (.cells qy0 43 (0,0))).alloc (.cells #[.int .i64 k,.string ⟨#[]⟩,.string ⟨#[]⟩,.slice none 0 0,.string ⟨#[]⟩,.slice none 0 0,.int .i64 0] 43 (0,0))).heap[w.heap.size]?=some (.cells qy0 43 (0,0)):=(heap_alloc_old _ _ (by simp)).trans (heap_alloc_new w _)
 have hzK:((w.alloc (.cells qy0 43 (0,0))).alloc (.cells #[.int .i64 k,.string ⟨#[]⟩,.string ⟨#[]⟩,.slice none 0 0,.string ⟨#[]⟩,.slice none 0 0,.int .i64 0] 43 (0,0))).heap[w.heap.size+1]?=some (.cells (akBox (AskS.of k) (.slice none 0 0) (.slice none 0 0)) 43 (0,0)):=by
  have:=heap_alloc_new (w.alloc (.cells qy0 43 (0,0))) (.cells #[.int .i64 k,.string ⟨#[]⟩,.string ⟨#[]⟩,.slice none 0 0,.string ⟨#[]⟩,.slice none 0 0,.int .i64 0] 43 (0,0));rw [show (w.alloc (.cells qy0 43 (0,0))).heap.size=w.heap.size+1 by simp] at this
  exact this
 have hbB:=Hi hbB;have hzR:=Hi hzR;have hzK:=Hi hzK;clear hbA;go_enter Tryz.func34,Tryz.ntmps34;go_upto_region 2 with fail;generalize (w.alloc (.cells #[.int .i64 0,.string ⟨#[]⟩,.string ⟨#[]⟩,.slice none 0 0,.string ⟨#[]⟩,.slice none 0 0,.int .i64 0] 43 (0,0))).alloc (.cells #[.int .i64 k,.string ⟨#[]⟩,.string ⟨#[]⟩,.slice none 0 0,.string ⟨#[]⟩,.slice none 0 0,.int .i64 0] 43 (0,0))=W2 at *;have hKl:=(Array.getElem?_eq_some_iff.1 hzK.out).1;have csh:=Hi (h_shapes k h1 h9 W2);go_upto_region 5 with (go_at_call 52;refine csh.out.mono ?_;rintro e w3 ⟨hb3,gS,cS,cs,fz,rfl,hS,hcs⟩;have hb3:=Hi hb3;have hS:=Hi hS;have hcs:=Hi hcs);have A0:AkAt w3 g (w.heap.size+1) (w.heap.size+1) (AskS.of k) (.slice none 0 0) (.slice none 0 0):=⟨(hb3.out.block _ hKl).trans hzK.out,by omega,Nat.le_refl _,World.ownsRow_nil _ _ _ _,World.ownsRow_nil _ _ _ _⟩
 have hlen:(shapeW k).length=(fullP k).length:=by rw [shapeW_full,List.length_map]
 have hcs:=Hi (fun n p (h:(fullP k)[n]?=some p)=>hcs.out n (pcW p) (by rw [shapeW_full,List.getElem?_map,h];rfl))
 have hfl:=full_len h1 h9;have hon:=Hi (full_once h1 h9);have hok:=Hi (full_ok h1 h9);rw [hlen];have hcE:((fullP k).drop 0).any isE=true→(AskS.of k).cond=[]:=fun _=>rfl
 have hcS:((fullP k).drop 0).any isS=true→(AskS.of k).sets=[]:=fun _=>rfl
 have R0:=Hi (show HlRel w w3 g w.heap.size (w.heap.size+1) gS cs fz l k i i 0 true (AskS.of k) (.slice none 0 0) (.slice none 0 0) from
  ⟨A0,(hbB.out.trans (hb3.out.mono hbB.out.size)),T.below (hbB.out.trans (hb3.out.mono hbB.out.size)) hgl,(hb3.out.block _ (Array.getElem?_eq_some_iff.1 hzR.out).1).trans hzR.out,hS.out,rfl,Nat.zero_le _,hi,hcE,hcS⟩)
 clear A0 hcE hcS hlen hS hb3 csh hzR hzK hbB T;generalize hRe:w.heap.size=R at *;have hRh:=Hi hRe;clear hRe
 go_loopw [1,11,12] (fun x y z wr=>∃ (j n:Nat) (f:Bool) (a:AskS) (vW vS:Value),x=.int .i64 j∧y=.bool f∧z=.int .i64 n∧Hid (HlRel w wr g R (R+1) gS cs fz l k i j n f a vW vS)) (fun _ _ z _=>(fullP k).length-(intOf z).toNat)
 case atStart=>exact ⟨i,0,true,AskS.of k,_,_,rfl,rfl,rfl,R0⟩
 case round=>
  obtain ⟨j,n,f,a,vW,vS,rfl,rfl,rfl,hr⟩:=hrel;obtain ⟨wq,rfl⟩:∃ wq,wq=wr:=⟨_,rfl⟩
  clear R0;have hnl:=hr.out.le;have hjl:=hr.out.lt;have hA:=Hi hr.out.A;have hT:=Hi hr.out.T;have hX:=Hi hr.out.box;have hRR:=hr.out.R
  by_cases hn:n=(fullP k).length
  ·rw [hn,List.drop_length,show pcsS l [] j f a=(0,j,a) from rfl,hF.out] at hRR
   have b1:¬ (n:Int)<((fullP k).length:Int):=by omega
   obtain ⟨t,ht⟩:∃ t,l[j]?=some t:=⟨_,List.getElem?_eq_getElem hjl⟩
   obtain ⟨e0,-,-,-⟩:=tok_cells hT.out ht;have kk:=kind_at ht 1;have tb2:(j:Int)<(l.length:Int):=by omega
   have tb0:(0:Int)≤(j:Int):=by omega
   have bw:=wS j (by omega)
   obtain ⟨x0,x1,x2,x3,x4,x5,x6⟩:=ask_cells hX.out;have y0:=ask_free hX.out 0;have y1:=ask_free hX.out 1;have y2:=ask_free hX.out 2;have y3:=ask_free hX.out 3;have y4:=ask_free hX.out 4;have y5:=ask_free hX.out 5;have y6:=ask_free hX.out 6;clear ht
   by_cases hk1:t.kind=1
   ·have bk:(t.kind != 1)=false:=by rw [hk1];rfl
    have H:=Hi (line_ok (k:=k) (i:=i) hRR (by rw [kk,hk1];rfl))
    obtain ⟨vA,vC,hvA⟩:=own_shape hA.out.nodes;obtain ⟨sA,sC,hsA⟩:=own_shape hA.out.sets;subst hvA hsA;have k0:=hA.out.c0;have k1:=hA.out.c1;have k2:=hA.out.c2;have k3:=hA.out.c3;have k4:=hA.out.c4;have k5:=hA.out.c5;have k6:=hA.out.c6;have hz:=Hi (ask_set (a0:=.int .i64 a.kind) (a1:=.string a.src) (a2:=.string a.dst) (a3:=.slice vA a.cond.length vC) (a4:=.string a.along) (a5:=.slice sA a.sets.length sC) (a6:=.int .i64 a.hops) hX.out);have hold:=Hi (show ∀ x,x≠R→(((((((wq.setCell ⟨R,0,none⟩ (.int .i64 a.kind)).setCell ⟨R,1,none⟩ (.string a.src)).setCell ⟨R,2,none⟩ (.string a.dst)).setCell ⟨R,3,none⟩ (.slice vA a.cond.length vC)).setCell ⟨R,4,none⟩ (.string a.along)).setCell ⟨R,5,none⟩ (.slice sA a.sets.length sC)).setCell ⟨R,6,none⟩ (.int .i64 a.hops)).heap[x]?=wq.heap[x]? from fun x hx=>ask_old hx)
    have hb9:=Hi (hr.out.B.trans ((((((((Below.refl R wq).setCell (p:=⟨R,0,none⟩) (Nat.le_refl R) (.int .i64 a.kind)).setCell (p:=⟨R,1,none⟩) (Nat.le_refl R) (.string a.src)).setCell (p:=⟨R,2,none⟩) (Nat.le_refl R) (.string a.dst)).setCell (p:=⟨R,3,none⟩) (Nat.le_refl R) (.slice vA a.cond.length vC)).setCell (p:=⟨R,4,none⟩) (Nat.le_refl R) (.string a.along)).setCell (p:=⟨R,5,none⟩) (Nat.le_refl R) (.slice sA a.sets.length sC)).setCell (p:=⟨R,6,none⟩) (Nat.le_refl R) (.int .i64 a.hops)));clear hRR hk1 kk;go_wp2_with fail;clear k0 k1 k2 k3 k4 k5 k6 x0 x1 x2 x3 x4 x5 x6 y0 y1 y2 y3 y4 y5 y6;generalize (((((((wq.setCell ⟨R,0,none⟩ (.int .i64 a.kind)).setCell ⟨R,1,none⟩ (.string a.src)).setCell ⟨R,2,none⟩ (.string a.dst)).setCell ⟨R,3,none⟩ (.slice vA a.cond.length vC)).setCell ⟨R,4,none⟩ (.string a.along)).setCell ⟨R,5,none⟩ (.slice sA a.sets.length sC)).setCell ⟨R,6,none⟩ (.int .i64 a.hops))=W9 at *;obtain ⟨z0,z1,z2,z3,z4,z5,z6⟩:=ask_cells hz.out;refine bodyPost_ret (v:=.tuple #[.agg #[.int .i64 a.kind,.string a.src,.string a.dst,.slice vA a.cond.length vC,.string a.along,.slice sA a.sets.length sC,.int .i64 a.hops],.int .i64 ((j:Int)+1),.int .i64 0]) (by simp [results,Tryz.results34,go_sem,z0,z1,z2,z3,z4,z5,z6]) rfl ?_
    refine ⟨by rw [hRh.out];exact hb9.out,?_⟩
    rw [if_pos (by rw [H.out]),H.out,hRh.out]
    exact ⟨.slice vA a.cond.length vC,.slice sA a.sets.length sC,rfl,
     Go.Joins.ownsRow_le (own_heap hA.out.nodes fun x hx=>hold.out x (by have:=(hA.out.nodes.lt x hx).1;omega)) (Nat.le_succ R),
     Go.Joins.ownsRow_le (own_heap hA.out.sets fun x hx=>hold.out x (by have:=(hA.out.sets.lt x hx).1;omega)) (Nat.le_succ R)⟩
   ·have bk:(t.kind != 1)=true:=by rw [bne,beq_eq_false_iff_ne.2 hk1];rfl
    have H:=Hi (line_end (k:=k) (i:=i) hRR (by rw [kk,beq_eq_false_iff_ne.2 hk1]))
    have hz:=Hi (ask_set (a0:=.int .i64 0) (a1:=.string ⟨#[]⟩) (a2:=.string ⟨#[]⟩) (a3:=.slice none 0 0) (a4:=.string ⟨#[]⟩) (a5:=.slice none 0 0) (a6:=.int .i64 0) hX.out);have hb9:=Hi (hr.out.B.trans ((((((((Below.refl R wq).setCell (p:=⟨R,0,none⟩) (Nat.le_refl R) (.int .i64 0)).setCell (p:=⟨R,1,none⟩) (Nat.le_refl R) (.string ⟨#[]⟩)).setCell (p:=⟨R,2,none⟩) (Nat.le_refl R) (.string ⟨#[]⟩)).setCell (p:=⟨R,3,none⟩) (Nat.le_refl R) (.slice none 0 0)).setCell (p:=⟨R,4,none⟩) (Nat.le_refl R) (.string ⟨#[]⟩)).setCell (p:=⟨R,5,none⟩) (Nat.le_refl R) (.slice none 0 0)).setCell (p:=⟨R,6,none⟩) (Nat.le_refl R) (.int .i64 0)));clear hRR hk1 kk;go_wp2_with fail;clear x0 x1 x2 x3 x4 x5 x6 y0 y1 y2 y3 y4 y5 y6;generalize (((((((wq.setCell ⟨R,0,none⟩ (.int .i64 0)).setCell ⟨R,1,none⟩ (.string ⟨#[]⟩)).setCell ⟨R,2,none⟩ (.string ⟨#[]⟩)).setCell ⟨R,3,none⟩ (.slice none 0 0)).setCell ⟨R,4,none⟩ (.string ⟨#[]⟩)).setCell ⟨R,5,none⟩ (.slice none 0 0)).setCell ⟨R,6,none⟩ (.int .i64 0))=W9 at *;obtain ⟨z0,z1,z2,z3,z4,z5,z6⟩:=ask_cells hz.out;refine bodyPost_ret (v:=.tuple #[.agg #[.int .i64 0,.string ⟨#[]⟩,.string ⟨#[]⟩,.slice none 0 0,.string ⟨#[]⟩,.slice none 0 0,.int .i64 0],.int .i64 (j:Int),.int .i64 50]) (by simp [results,Tryz.results34,go_sem,z0,z1,z2,z3,z4,z5,z6]) rfl ?_
    refine ⟨by rw [hRh.out];exact hb9.out,?_⟩
    rw [if_neg (by rw [H.out];exact (by decide:¬ (50:Int)=0)),H.out]
  ·have hn2:n<(fullP k).length:=by omega
   obtain ⟨p,hp⟩:∃ p,(fullP k)[n]?=some p:=⟨_,List.getElem?_eq_getElem hn2⟩
   have hdrop:(fullP k).drop n=p::(fullP k).drop (n+1):=by
    rw [List.drop_eq_getElem_cons hn2]
    congr 1
    have:=List.getElem?_eq_getElem hn2;rw [hp] at this;injection this with this;exact this.symm
   have hcE:=hr.out.cE;have hcS:=hr.out.cS;rw [hdrop] at hRR hcE hcS;have hpo:=hok.out p (List.mem_of_getElem? hp);obtain ⟨ho1,ho2⟩:=once_at hfl hon.out hp;have sN:=str_cell hr.out.S (hcs.out n p hp);have b1:(n:Int)<((fullP k).length:Int):=by omega
   have b0:(0:Int)≤(n:Int):=by omega
   have bw:=wS n (by omega)
   have cp:=h_piece (cap:=cap) p hpo hT.out (Nat.lt_succ_of_lt hgl) hA.out hjl hll hG hL (fun h=>hcE (by rw [List.any_cons,h];rfl)) (fun h=>hcS (by rw [List.any_cons,h];rfl)) f
   obtain ⟨⟨c,j2,a2⟩,hpc⟩:∃ x,pcS l p j f a=x:=⟨_,rfl⟩
   rw [hpc] at cp;have hj2:j2<l.length:=by have:=(pc_in hL p j f a hjl).2.1;rw [hpc] at this;exact this
   have cp:=Hi cp
   by_cases hc:c=0
   ·subst hc;obtain ⟨hq1,hq2⟩:=pc_cond hpc
    have hE2:((fullP k).drop (n+1)).any isE=true→a2.cond=[]:=fun h=>by
     have hp0:isE p=false:=by cases he:isE p with
      | false=>rfl
      | true=>rw [ho1 he] at h;cases h
     rw [hq1 hp0];exact hcE (by rw [List.any_cons,h];simp)
    have hS2:((fullP k).drop (n+1)).any isS=true→a2.sets=[]:=fun h=>by
     have hp0:isS p=false:=by cases he:isS p with
      | false=>rfl
      | true=>rw [ho2 he] at h;cases h
     rw [hq2 hp0];exact hcS (by rw [List.any_cons,h];simp)
    have hR2:=hRR.trans (pcs_ok hpc);have hnm:=pc_names p hpo;have hE2:=Hi hE2;have hS2:=Hi hS2;have hstr:=Hi (hcs.out n p hp);have hS0:=Hi hr.out.S;have hB0:=Hi hr.out.B;clear hq1 hq2 ho1 ho2 hcE hcS hRR hdrop hpc hp hr hpo;generalize pcW p=s at *;go_upto_region 10 with (go_at_call 53;refine cp.out.mono ?_;rintro e w4 hx;obtain ⟨rfl,hB4,hS4,vW4,vS4,A4⟩:=hx.out0;have hB4:=Hi hB4;have hS4:=Hi hS4;have A4:=Hi A4;clear hx);have sN4:=str_cell (hS4.out _ _ _ hS0.out) hstr.out;clear sN hstr cp;rcases hnm with ⟨n1,n2⟩|⟨n1,n2,n3⟩|⟨n1,n2,n3⟩
    ·have hR3:=Hi (show pcsS l (fullP k) i true (AskS.of k)=pcsS l ((fullP k).drop (n+1)) j2 false a2 by rw [hR2,n1];simp)
     clear n1 hR2;go_wp2_with fail;refine ⟨⟨j2,n+1,false,a2,vW4,vS4,rfl,rfl,rfl,Hi ⟨A4.out,hB0.out.trans (hB4.out.mono (Nat.le_succ R)),hT.out.below hB4.out (Nat.lt_succ_of_lt hgl),(hB4.out.block R (Nat.lt_succ_self R)).trans hX.out,hS4.out _ _ _ hS0.out,hR3.out,hn2,hj2,hE2.out,hS2.out⟩⟩,?_⟩;simp only [intOf,Int.toNat_natCast,← Int.natCast_add];omega
    ·have hR3:=Hi (show pcsS l (fullP k) i true (AskS.of k)=pcsS l ((fullP k).drop (n+1)) j2 false a2 by rw [hR2,n1];simp)
     clear n1 hR2;go_wp2_with fail;refine ⟨⟨j2,n+1,false,a2,vW4,vS4,rfl,rfl,rfl,Hi ⟨A4.out,hB0.out.trans (hB4.out.mono (Nat.le_succ R)),hT.out.below hB4.out (Nat.lt_succ_of_lt hgl),(hB4.out.block R (Nat.lt_succ_self R)).trans hX.out,hS4.out _ _ _ hS0.out,hR3.out,hn2,hj2,hE2.out,hS2.out⟩⟩,?_⟩;simp only [intOf,Int.toNat_natCast,← Int.natCast_add];omega
    ·have hR3:=Hi (show pcsS l (fullP k) i true (AskS.of k)=pcsS l ((fullP k).drop (n+1)) j2 f a2 by rw [hR2,n1];simp)
     clear n1 hR2;go_wp2_with fail;refine ⟨⟨j2,n+1,f,a2,vW4,vS4,rfl,rfl,rfl,Hi ⟨A4.out,hB0.out.trans (hB4.out.mono (Nat.le_succ R)),hT.out.below hB4.out (Nat.lt_succ_of_lt hgl),(hB4.out.block R (Nat.lt_succ_self R)).trans hX.out,hS4.out _ _ _ hS0.out,hR3.out,hn2,hj2,hE2.out,hS2.out⟩⟩,?_⟩;simp only [intOf,Int.toNat_natCast,← Int.natCast_add];omega
   ·have H:=Hi (line_bad (k:=k) (i:=i) (hF.out.symm.trans (hRR.trans (pcs_bad hpc hc))) hc);have bx:(c != 0)=true:=by rw [bne,beq_eq_false_iff_ne.2 hc];rfl
    have hc:=Hi hc;clear hdrop hpc hp hRR hcE hcS ho1 ho2 hpo;generalize pcW p=s at *;go_wp2_with (go_at_call 53;refine cp.out.mono ?_;rintro e w4 hx;obtain ⟨rfl,hB4⟩:=hx.out1;have hX4:=(hB4.block R (Nat.lt_succ_self R)).trans hX.out;obtain ⟨x0,x1,x2,x3,x4,x5,x6⟩:=ask_cells hX4;have y0:=ask_free hX4 0;have y1:=ask_free hX4 1;have y2:=ask_free hX4 2;have y3:=ask_free hX4 3;have y4:=ask_free hX4 4;have y5:=ask_free hX4 5;have y6:=ask_free hX4 6;have hX4:=Hi hX4;have hB4:=Hi hB4;clear hx);have hz:=Hi (ask_set (a0:=.int .i64 0) (a1:=.string ⟨#[]⟩) (a2:=.string ⟨#[]⟩) (a3:=.slice none 0 0) (a4:=.string ⟨#[]⟩) (a5:=.slice none 0 0) (a6:=.int .i64 0) hX4.out);have hb9:=Hi ((hr.out.B.trans (hB4.out.mono (Nat.le_succ R))).trans ((((((((Below.refl R w4).setCell (p:=⟨R,0,none⟩) (Nat.le_refl R) (.int .i64 0)).setCell (p:=⟨R,1,none⟩) (Nat.le_refl R) (.string ⟨#[]⟩)).setCell (p:=⟨R,2,none⟩) (Nat.le_refl R) (.string ⟨#[]⟩)).setCell (p:=⟨R,3,none⟩) (Nat.le_refl R) (.slice none 0 0)).setCell (p:=⟨R,4,none⟩) (Nat.le_refl R) (.string ⟨#[]⟩)).setCell (p:=⟨R,5,none⟩) (Nat.le_refl R) (.slice none 0 0)).setCell (p:=⟨R,6,none⟩) (Nat.le_refl R) (.int .i64 0)));clear x0 x1 x2 x3 x4 x5 x6 y0 y1 y2 y3 y4 y5 y6;generalize (((((((w4.setCell ⟨R,0,none⟩ (.int .i64 0)).setCell ⟨R,1,none⟩ (.string ⟨#[]⟩)).setCell ⟨R,2,none⟩ (.string ⟨#[]⟩)).setCell ⟨R,3,none⟩ (.slice none 0 0)).setCell ⟨R,4,none⟩ (.string ⟨#[]⟩)).setCell ⟨R,5,none⟩ (.slice none 0 0)).setCell ⟨R,6,none⟩ (.int .i64 0))=W9 at *;obtain ⟨z0,z1,z2,z3,z4,z5,z6⟩:=ask_cells hz.out;refine bodyPost_ret (v:=.tuple #[.agg #[.int .i64 0,.string ⟨#[]⟩,.string ⟨#[]⟩,.slice none 0 0,.string ⟨#[]⟩,.slice none 0 0,.int .i64 0],.int .i64 (j2:Int),.int .i64 c]) (by simp [results,Tryz.results34,go_sem,z0,z1,z2,z3,z4,z5,z6]) rfl ?_
    refine ⟨by rw [hRh.out];exact hb9.out,?_⟩
    rw [if_neg (by rw [H.out];exact hc.out),H.out]
structure HpRel (w wr:World)(A:Option Addr)(cap:Nat)(l:List Tk)(f i:Nat)(b:Int)(q:List AskS)(z:List AskX)(v:Value)(r:QueR):Prop where
 T:wr.ownsRow w.heap.size 76 4 (.slice A l.length cap) l.length (flatT l)
 Z:AsksAt wr w.heap.size v z
 zq:z.map Prod.fst=q
 B:Below w.heap.size w wr
 R:r=queL l f i b q
 fi:l.length<f+i
 il:i≤l.length
 q8:q.length≤8
theorem own_up {w w':World}{B n k:Nat}{T:TypeId}{v:Value}{xs:List Value}(h:w.ownsRow B T k v n xs)(hb:Below w.heap.size w w'):w'.ownsRow B T k v n xs:=own_heap h fun g hg=>hb.block g (h.lt g hg).2
theorem AsksAt.up {w w':World}{N:Nat}{v:Value}{z:List AskX}(h:AsksAt w N v z)(hb:Below w.heap.size w w'):AsksAt w' N v z:=h.heap fun b _ hl=>hb.block b hl
theorem h_Parse (s:ByteArray)(w:World)(hS:SignsR w)(hs:s.size≤9223372036854775807) :
  Calls Tryz.prog 10 #[.string s] w fun e w'=>QuePost w (queS s) e w':=by
 by_cases h16:16384<s.size
 ·have H:=Hi (show queS s=.inr (2,0) by unfold queS;rw [if_pos h16])
  have b16:(s.size:Int)>16384:=by omega
  clear h16;go_enter Tryz.func10,Tryz.ntmps10;go_wp2_with fail
  ((try simp only [Exit.inBlock,Exit.then]);refine bodyPost_ret (results4 rfl _ _ _) rfl ?_)
  exact QuePost.bad H.out (Below.refl _ _)
 have b16:¬ (s.size:Int)>16384:=by omega
 have cs:=r_Scan s w hS hs;have hqR:∀ x,scanR s=.inr x→queS s=.inr (x.1,x.2.1):=fun x h=>by unfold queS;rw [if_neg h16,h]
 have hqL:∀ l,scanR s=.inl l→queS s=queL l (l.length+1) 0 1024 []:=fun x h=>by unfold queS;rw [if_neg h16,h]
 have hsg:=scanR_good s;have hsm:=(scan_same s).2
 cases hsc:scanR s with
 | inr x=>
   rw [hsc] at cs;have hq0:=hqR x hsc;have hx:=(hsm x hsc).1;have bx:(x.1 != 0)=true:=by rw [bne,beq_eq_false_iff_ne.2 hx];rfl
   have cs:=Hi cs;have hq0:=Hi hq0;clear hsg hsm hsc hx h16 hqR hqL;go_enter Tryz.func10,Tryz.ntmps10;go_wp2_with (go_at_call 30;refine cs.out.mono ?_;rintro e w1 ⟨hb1,rfl⟩;have hb1:=Hi hb1)
   ((try simp only [Exit.inBlock,Exit.then]);refine bodyPost_ret (results4 rfl _ _ _) rfl ?_)
   exact QuePost.bad hq0.out hb1.out
 | inl l=>
   rw [hsc] at cs;have hq0:=hqL l hsc;obtain ⟨hG,hL⟩:=hsg l hsc;have cs:=Hi cs;have hq1:=Hi hq0;clear hsg hsm hsc h16 hqR hqL hq0;go_enter Tryz.func10,Tryz.ntmps10;go_upto_region 9 with (go_at_call 30;refine cs.out.mono ?_;rintro e w1 ⟨hb1,v1,rfl,ho1,hll⟩;have hb1:=Hi hb1;have ho1:=Hi ho1);obtain ⟨A,cap,rfl⟩:=own_shape ho1.out;have hll:l.length≤900000:=by omega
   have R0:=Hi (show HpRel w w1 A cap l (l.length+1) 0 1024 [] [] (.slice none 0 0) (queS s) from ⟨ho1.out,AsksAt.nil _ _,rfl,hb1.out,hq1.out,by omega,Nat.zero_le _,by decide⟩)
   clear hb1 ho1 cs hq1
   go_loopw [10,11,12] (fun x y t wr=>∃ (f i:Nat) (b:Int) (q:List AskS) (z:List AskX) (v:Value),x=.int .i64 b∧y=v∧t=.int .i64 i∧Hid (HpRel w wr A cap l f i b q z v (queS s))) (fun _ _ t _=>l.length-(intOf t).toNat)
   case atStart=>exact ⟨l.length+1,0,1024,[],[],_,rfl,rfl,rfl,R0⟩
   case round=>
    obtain ⟨f,i,b,q,z,v,rfl,rfl,rfl,hr⟩:=hrel;obtain ⟨wq,rfl⟩:∃ wq,wq=wr:=⟨_,rfl⟩
    clear R0;have hil:=hr.out.il;have hfi:=hr.out.fi;have hRR:=hr.out.R;obtain ⟨f,rfl⟩:∃ f',f=f'+1:=⟨f-1,by omega⟩
    have hZ:=Hi hr.out.Z;have hB:=Hi hr.out.B;have hzq:=hr.out.zq;have hq8:=hr.out.q8;have hzl:z.length=q.length:=by rw [← hzq,List.length_map]
    obtain ⟨vA,vC,hv⟩:=own_shape hZ.out.row;rw [hzl] at hv
    by_cases hi:i<l.length
    ·have b1:(i:Int)<(l.length:Int):=by omega
     have b0:(0:Int)≤(i:Int):=by omega
     have hni:¬ l.length≤i:=by omega
     obtain ⟨g,c2,hA⟩:=Go.Joins.ownsRow_form hr.out.T (by omega)
     injection hA with hA1 _ hA3
     subst hA1 hA3;have T1:=Hi (tokIn_own hr.out.T rfl);obtain ⟨t,ht⟩:∃ t,l[i]?=some t:=⟨_,List.getElem?_eq_getElem hi⟩
     obtain ⟨e0,e1,e2,e3⟩:=tok_cells T1.out ht;have hln:=Hi (show lnOf l i=t.line by unfold lnOf;rw [ht])
     have ci:=Hi (h_is t 2 wBudget wq);have hI:=isT_at ht 2 wBudget;have hkt:=kind_t ht;have hT0:=Hi hr.out.T;subst hv;clear hr ht
     cases hbu:(t.kind == 2 && decide (t.text=wBudget)) with
     | true=>
       rw [hbu] at ci;have hbud:=hI.trans hbu;have hi1:=(Stays.step hL (isT_kind hbud) (by decide)).2.1
       clear hI hbu hkt
       by_cases h0:i=0
       ·have d0:¬ (i:Int)>0:=by omega
        have hh0:=Hi h0;clear h0;go_upto_region 14 with (go_at_call 31;refine ci.out.mono ?_;rintro e w2 ⟨rfl,hb2⟩;have hb2:=Hi hb2);have T2:=Hi (own_up hT0.out hb2.out);have Z2:=Hi (hZ.out.up hb2.out);have B2:=Hi (hB.out.trans (hb2.out.mono hB.out.size));clear e0 e1 e2 e3 ci T1 hT0 hZ hB hb2;have T3:=tokIn_own T2.out rfl;obtain ⟨t1,ht1⟩:∃ t,l[1]?=some t:=⟨_,List.getElem?_eq_getElem (by have:=hh0.out;omega)⟩
        obtain ⟨e0,e1,e2,e3⟩:=tok_cells T3 ht1;have e0:w2.cell? ⟨g,4,none⟩=some (.int .i64 t1.kind):=e0;have e1:w2.cell? ⟨g,5,none⟩=some (.string t1.text):=e1;have e2:w2.cell? ⟨g,6,none⟩=some (.int .i64 t1.line):=e2;have e3:w2.cell? ⟨g,7,none⟩=some (.int .i64 t1.col):=e3;have c1:(1:Int)<(l.length:Int):=by have:=hh0.out;omega
        have cn:=Hi (h_numbered t1 (hG t1 (List.mem_of_getElem? ht1)).2.2.2.2.1 1 1024 w2);rw [← numb_at ht1 1 1024] at cn;obtain ⟨⟨n,x⟩,hn⟩:∃ x,numbS l 1 1 1024=x:=⟨_,rfl⟩
        rw [hn] at cn;clear ht1 T3;have h0:=hh0.out;have hbud0:isT l 0 2 wBudget=true:=h0▸hbud;have hni0:¬ l.length≤0:=h0▸hni;have hR0:queS s=queL l (f+1) 0 b q:=h0▸hRR;have hl0:lnOf l 0=t.line:=h0▸hln.out;have hl1:1<l.length:=by omega
        have hmu:3≤l.length→l.length-3<l.length-i:=by omega
        have hfi:l.length<f+3:=by omega
        clear h0
        by_cases hx:x=0
        ·have hn3:(numbS l 1 1 1024).2=0:=by rw [hn];exact hx
         have hl2:=(numb_in hL hn3).2.1;subst hx;have c2:(2:Int)<(l.length:Int):=by omega
         obtain ⟨t2,ht2⟩:∃ t,l[2]?=some t:=⟨_,List.getElem?_eq_getElem hl2⟩
         have kk:=kind_at ht2 1;have hk2:=Hi (fun W (T:TokIn W g l)=>(tok_cells T ht2).1)
         go_upto_region 17 with (go_at_call 32;refine cn.out.mono ?_;rintro e w4 ⟨rfl,hb4⟩;have hb4:=Hi hb4);have T4:=Hi (own_up T2.out hb4.out);have Z4:=Hi (Z2.out.up hb4.out);have B4:=Hi (B2.out.trans (hb4.out.mono B2.out.size));have f0:w4.cell? ⟨g,8,none⟩=some (.int .i64 t2.kind):=hk2.out w4 (tokIn_own T4.out rfl);clear e0 e1 e2 e3 cn T2 Z2 B2 hb4 ht2 hk2
         by_cases hk1:t2.kind=1
         ·have bk:(t2.kind != 1)=false:=by rw [hk1];rfl
          have hbo:=bud_ok hn3 (by rw [kk,hk1];rfl)
          have hR1:=Hi (hR0.trans (que_bud hni0 hbud0 (by rw [hbo];exact hn3)))
          rw [hbo,hn] at hR1;have hzq:=Hi hzq;clear hRR hR0 hbo kk hk1 hn hn3 hbud hbud0 hzl;go_wp2_with fail;refine ⟨⟨f,3,n,q,z,_,rfl,rfl,rfl,Hi ⟨T4.out,Z4.out,hzq.out,B4.out,hR1.out,hfi,by omega,hq8⟩⟩,?_⟩
          have:=hmu (by omega)
          simpa [intOf] using this
         ·have bk:(t2.kind != 1)=true:=by rw [bne,beq_eq_false_iff_ne.2 hk1];rfl
          have hbo:=bud_end hn3 (by rw [kk,beq_eq_false_iff_ne.2 hk1])
          have hR1:=hR0.trans (que_bad hni0 hbud0 (by rw [hbo];exact (by decide:¬ (50:Int)=0)))
          rw [hbo,hl0] at hR1;replace hR1:=Hi hR1;clear hRR hR0 hbo kk hk1 hn hn3 hbud hbud0 hzl hzq;go_wp2_with fail
          ((try simp only [Exit.inBlock,Exit.then]);refine bodyPost_ret (results4 rfl _ _ _) rfl ?_)
          exact QuePost.bad hR1.out B4.out
        ·have hn3:(numbS l 1 1 1024).2≠0:=by rw [hn];exact hx
         have bx:(x != 0)=true:=by rw [bne,beq_eq_false_iff_ne.2 hx];rfl
         have hbo:=bud_of hn3;have hR1:=hR0.trans (que_bad hni0 hbud0 (by rw [hbo];exact hn3))
         rw [hbo,hn,hl0] at hR1;replace hR1:=Hi hR1;clear hRR hR0 hbo hn hn3 hbud hbud0 hzl hzq hx;go_wp2_with (go_at_call 32;refine cn.out.mono ?_;rintro e w4 ⟨rfl,hb4⟩;have hb4:=Hi hb4)
         ((try simp only [Exit.inBlock,Exit.then]);refine bodyPost_ret (results4 rfl _ _ _) rfl ?_)
         exact QuePost.bad hR1.out (B2.out.trans (hb4.out.mono B2.out.size))
       ·have d0:(i:Int)>0:=by omega
        have hR1:=hRR.trans (que_late hni hbud h0);rw [hln.out] at hR1;replace hR1:=Hi hR1;clear hRR hbud hzl hzq;go_wp2_with (go_at_call 31;refine ci.out.mono ?_;rintro e w2 ⟨rfl,hb2⟩;have hb2:=Hi hb2)
        ((try simp only [Exit.inBlock,Exit.then]);refine bodyPost_ret (results4 rfl _ _ _) rfl ?_)
        exact QuePost.bad hR1.out (hB.out.trans (hb2.out.mono hB.out.size))
     | false=>
       rw [hbu] at ci;have hbud:=hI.trans hbu;have ck:=Hi (fun W=>h_kindOf t W)
       rw [← hkt] at ck;obtain ⟨k,hk⟩:∃ k,kindAt l i=k:=⟨_,rfl⟩
       rw [hk] at ck
       have hk9:k≤9:=by
        rw [← hk,hkt];unfold kindT;split
        ·exact kindOfW_le _
        ·decide
       clear hI hbu hkt;go_upto_region 21 with (go_at_call 31;refine ci.out.mono ?_;rintro e w2 ⟨rfl,hb2⟩;have hb2:=Hi hb2);have T2:=Hi (own_up hT0.out hb2.out);have Z2:=Hi (hZ.out.up hb2.out);have B2:=Hi (hB.out.trans (hb2.out.mono hB.out.size));have e0:=hb2.out.cell (p:=⟨g,i*4,none⟩) T1.out.1 |>.trans e0;have e1:=hb2.out.cell (p:=⟨g,i*4+1,none⟩) T1.out.1 |>.trans e1;have e2:=hb2.out.cell (p:=⟨g,i*4+2,none⟩) T1.out.1 |>.trans e2;have e3:=hb2.out.cell (p:=⟨g,i*4+3,none⟩) T1.out.1 |>.trans e3;clear ci T1 hT0 hZ hB hb2;go_upto_region 22 with (go_at_call 33;refine (ck.out _).mono ?_;rintro e w3 ⟨rfl,hb3⟩;have hb3:=Hi hb3);have T3:=Hi (own_up T2.out hb3.out);have Z3:=Hi (Z2.out.up hb3.out);have B3:=Hi (B2.out.trans (hb3.out.mono B2.out.size));clear e0 e1 e2 e3 ck T2 Z2 B2 hb3
       by_cases hk0:k=0
       ·have hR1:=hRR.trans (que_kind hni hbud (hk.trans hk0));rw [hln.out] at hR1;replace hR1:=Hi hR1;have bk0:((k:Int) == 0)=true:=by rw [hk0];rfl
        clear hRR hbud hzl hzq hk hk0;go_wp2_with fail
        ((try simp only [Exit.inBlock,Exit.then]);refine bodyPost_ret (results4 rfl _ _ _) rfl ?_)
        exact QuePost.bad hR1.out B3.out
       ·have bk0:((k:Int) == 0)=false:=by rw [beq_eq_false_iff_ne];omega
        by_cases h8:q.length=8
        ·have hR1:=hRR.trans (que_full hni hbud (fun h=>hk0 (hk.symm.trans h)) h8)
         rw [hln.out] at hR1;replace hR1:=Hi hR1;have b8:((q.length:Int) == 8)=true:=by rw [h8];rfl
         clear hRR hbud hzl hzq hk h8;go_wp2_with fail
         ((try simp only [Exit.inBlock,Exit.then]);refine bodyPost_ret (results4 rfl _ _ _) rfl ?_)
         exact QuePost.bad hR1.out B3.out
        ·have b8:((q.length:Int) == 8)=false:=by rw [beq_eq_false_iff_ne];omega
         obtain ⟨⟨c,j,a⟩,hln2⟩:∃ x,lineS l k i=x:=⟨_,rfl⟩
         have cl:=h_line (cap:=cap) (tokIn_own T3.out rfl) hi hll hG hL (by omega) hk9 hk
         rw [hln2] at cl;have cl:=Hi cl
         by_cases hc:c=0
         ·subst hc;have hi1:i+1<l.length:=(Stays.step hL (isT_kind (kind_is hk hk0)) (by decide)).2.1
          obtain ⟨hj1,hj2⟩:=line_good hL hi1 hln2;have hR1:=Hi (hRR.trans (que_next hni hbud (fun h=>hk0 (hk.symm.trans h)) h8 (by rw [hk];exact hln2)))
          have hzq:=Hi hzq;have hzl:=Hi hzl;obtain ⟨i0,hi0,hz0,hz1,hz2⟩:=info_parts ask_info;have hi0:=Hi hi0;have hz0:=Hi hz0;have hz1:=Hi hz1;have hz2:=Hi hz2;clear hRR hbud hk hln2;go_upto_region 27 with (go_at_call 34;refine cl.out.mono ?_;rintro e w5 ⟨hb5,hp5⟩;obtain ⟨vW,vS,he,hoW,hoS⟩:=(if_pos rfl).mp hp5;obtain ⟨WA,WC,rfl⟩:=own_shape hoW;obtain ⟨SA,SC,rfl⟩:=own_shape hoS;have he:e=.returned (.tuple #[.agg #[.int .i64 a.kind,.string a.src,.string a.dst,.slice WA a.cond.length WC,.string a.along,.slice SA a.sets.length SC,.int .i64 a.hops],.int .i64 j,.int .i64 0]):=he;subst he;have hoW:=Hi hoW;have hoS:=Hi hoS;have hb5:=Hi hb5;clear hp5);have hX:Below w5.heap.size w5 (w5.alloc (.cells #[.int .i64 a.kind,.string a.src,.string a.dst,.slice WA a.cond.length WC,.string a.along,.slice SA a.sets.length SC,.int .i64 a.hops] 43 (0,0))):=(Below.refl _ w5).alloc (Nat.le_refl _) _;obtain ⟨u0,u1,u2,u3,u4,u5,u6⟩:=ask_cells (heap_alloc_new w5 (.cells #[.int .i64 a.kind,.string a.src,.string a.dst,.slice WA a.cond.length WC,.string a.along,.slice SA a.sets.length SC,.int .i64 a.hops] 43 (0,0)));have T5:=Hi ((own_up T3.out hb5.out));have Z5:=Hi (((Z3.out.up hb5.out).up hX));have hoW5:=Hi (Go.Joins.ownsRow_le (own_up hoW.out hX) B3.out.size);have hoS5:=Hi (Go.Joins.ownsRow_le (own_up hoS.out hX) B3.out.size);have T5:=Hi (own_up T5.out hX);have B5:=Hi ((B3.out.trans (hb5.out.mono B3.out.size)).trans (hX.mono (Nat.le_trans B3.out.size hb5.out.size)));have hsz:w.heap.size≤w5.heap.size:=Nat.le_trans B3.out.size hb5.out.size;have hw5:(w5.alloc (.cells #[.int .i64 a.kind,.string a.src,.string a.dst,.slice WA a.cond.length WC,.string a.along,.slice SA a.sets.length SC,.int .i64 a.hops] 43 (0,0))).heap.size=w5.heap.size+1:=by simp
          clear hX T3 Z3 B3 cl hoW hoS hb5;have Z6:=Hi (Z5.out.up ((Below.refl _ (w5.alloc (.cells #[.int .i64 a.kind,.string a.src,.string a.dst,.slice WA a.cond.length WC,.string a.along,.slice SA a.sets.length SC,.int .i64 a.hops] 43 (0,0)))).alloc (Nat.le_refl _) (.cells #[.int .i64 a.kind,.string a.src,.string a.dst,.slice WA a.cond.length WC,.string a.along,.slice SA a.sets.length SC,.int .i64 a.hops] 43 (0,0))));have ho6:=Hi (show ((w5.alloc (.cells #[.int .i64 a.kind,.string a.src,.string a.dst,.slice WA a.cond.length WC,.string a.along,.slice SA a.sets.length SC,.int .i64 a.hops] 43 (0,0))).alloc (.cells #[.int .i64 a.kind,.string a.src,.string a.dst,.slice WA a.cond.length WC,.string a.along,.slice SA a.sets.length SC,.int .i64 a.hops] 43 (0,0))).ownsRow w.heap.size 43 7 (.slice vA q.length vC) q.length (flatA z) by have:=Z6.out.row;rwa [hzl.out] at this)
          have hn6:=Hi (show ((w5.alloc (.cells #[.int .i64 a.kind,.string a.src,.string a.dst,.slice WA a.cond.length WC,.string a.along,.slice SA a.sets.length SC,.int .i64 a.hops] 43 (0,0))).alloc (.cells #[.int .i64 a.kind,.string a.src,.string a.dst,.slice WA a.cond.length WC,.string a.along,.slice SA a.sets.length SC,.int .i64 a.hops] 43 (0,0))).heap[w5.heap.size+1]?=some (.cells #[.int .i64 a.kind,.string a.src,.string a.dst,.slice WA a.cond.length WC,.string a.along,.slice SA a.sets.length SC,.int .i64 a.hops] 43 (0,0)) by have:=heap_alloc_new (w5.alloc (.cells #[.int .i64 a.kind,.string a.src,.string a.dst,.slice WA a.cond.length WC,.string a.along,.slice SA a.sets.length SC,.int .i64 a.hops] 43 (0,0))) (.cells #[.int .i64 a.kind,.string a.src,.string a.dst,.slice WA a.cond.length WC,.string a.along,.slice SA a.sets.length SC,.int .i64 a.hops] 43 (0,0));rwa [hw5] at this)
          have hY:=Hi (show Below (w5.alloc (.cells #[.int .i64 a.kind,.string a.src,.string a.dst,.slice WA a.cond.length WC,.string a.along,.slice SA a.sets.length SC,.int .i64 a.hops] 43 (0,0))).heap.size (w5.alloc (.cells #[.int .i64 a.kind,.string a.src,.string a.dst,.slice WA a.cond.length WC,.string a.along,.slice SA a.sets.length SC,.int .i64 a.hops] 43 (0,0))) ((w5.alloc (.cells #[.int .i64 a.kind,.string a.src,.string a.dst,.slice WA a.cond.length WC,.string a.along,.slice SA a.sets.length SC,.int .i64 a.hops] 43 (0,0))).alloc (.cells #[.int .i64 a.kind,.string a.src,.string a.dst,.slice WA a.cond.length WC,.string a.along,.slice SA a.sets.length SC,.int .i64 a.hops] 43 (0,0))) from (Below.refl _ _).alloc (Nat.le_refl _) _)
          go_upto_region 30 with (at_builtin;refine wpList_append_lies _ rfl (.tmp 92) (.tmp 94) _ rfl w.heap.size 43 i0 _ 7 112 Tryz.underlying34 hi0.out hz0.out hz1.out hz2.out rfl (by decide) (.slice vA q.length vC) q.length (flatA z) rfl ho6.out ⟨w5.heap.size+1,0,none⟩ 1 1 [.int .i64 a.kind,.string a.src,.string a.dst,.slice WA a.cond.length WC,.string a.along,.slice SA a.sets.length SC,.int .i64 a.hops] rfl rfl (World.news_of_block hn6.out) (oc _ rfl) (by decide) (by unfold maxLen;omega) (by omega) (by simp;omega) (w5.heap.size+2) (by simp) ?_;intro g' cap' w8 hown4 hg4 hat4 hlt4;have hown5:=Hi hown4;have hg5:=Hi hg4;clear hown4 hg4 hat4)
          have Z8:=Hi (Z6.out.push (x:=(a,.slice WA a.cond.length WC,.slice SA a.sets.length SC)) (own_up hoW5.out hY.out) (own_up hoS5.out hY.out) hg5.out (by rw [hzl.out];exact hown5.out))
          have T8:=Hi ((own_up T5.out hY.out).kept hg5.out (own_apart (own_up T5.out hY.out) Z6.out.row (by decide)))
          have B8:=Hi ((B5.out.trans (hY.out.mono B5.out.size)).grown hg5.out (Nat.le_trans B5.out.size hY.out.size) (fun k hk=>(Z6.out.row.lt k hk).1))
          clear Z6 T5 B5 hoW5 hoS5 hown5 hg5 hn6 ho6 hY u0 u1 u2 u3 u4 u5 u6;go_wp2_with fail;refine ⟨⟨f,j,b,q++[a],z++[(a,.slice WA a.cond.length WC,.slice SA a.sets.length SC)],_,rfl,rfl,rfl,Hi ⟨T8.out,Z8.out,by rw [List.map_append,hzq.out];rfl,B8.out,hR1.out,by omega,hj2,by rw [List.length_append];show q.length+1≤8;omega⟩⟩,?_⟩
          simp only [intOf,Int.toNat_natCast];omega
         ·have hR1:=hRR.trans (que_line hni hbud (fun h=>hk0 (hk.symm.trans h)) h8 (by rw [hk];exact hln2) hc)
          rw [hln.out] at hR1;replace hR1:=Hi hR1;have bx:(c != 0)=true:=by rw [bne,beq_eq_false_iff_ne.2 hc];rfl
          have hc:=Hi hc;clear hRR hbud hzl hzq hk hln2;go_wp2_with (go_at_call 34;refine cl.out.mono ?_;rintro e w5 ⟨hb5,hp5⟩;obtain rfl:=(if_neg hc.out).mp hp5;have hb5:=Hi hb5;clear hp5)
          ((try simp only [Exit.inBlock,Exit.then]);refine bodyPost_ret (results4 rfl _ _ _) rfl ?_)
          exact QuePost.bad hR1.out (B3.out.trans ((hb5.out.trans ((Below.refl _ w5).alloc (Nat.le_trans hb5.out.size (Nat.le_refl _)) _)).mono B3.out.size))
    ·have b1:¬ (i:Int)<(l.length:Int):=by omega
     by_cases hq:q.length=0
     ·have H:=Hi (hRR.trans (que_none (by omega) (List.length_eq_zero_iff.1 hq)))
      subst hv;clear hRR;have bz:((q.length:Int) == 0)=true:=by rw [hq];rfl
      go_wp2_with fail
      ((try simp only [Exit.inBlock,Exit.then]);refine bodyPost_ret (results4 rfl _ _ _) rfl ?_)
      exact QuePost.bad H.out hB.out
     ·have H:=Hi (hRR.trans (que_done (by omega) (fun h=>hq (by rw [h];rfl))))
      subst hv;clear hRR;have bz:((q.length:Int) == 0)=false:=by rw [beq_eq_false_iff_ne];omega
      go_wp2_with fail
      ((try simp only [Exit.inBlock,Exit.then]);refine bodyPost_ret (results4 rfl _ _ _) rfl ?_)
      exact QuePost.ok H.out hB.out hZ.out hzq
end Go.Proofs.YtjokciofeicdkaaGreatDoor

/- A part of the proof of RunParses: QrG. -/
import Derived.Test.YtjokciofeicdkaaGreatDoorPZ
set_option maxHeartbeats 16000000
set_option maxRecDepth 100000
set_option linter.all false
namespace Go.Proofs.YtjokciofeicdkaaGreatDoor
open Go.RowKit
attribute [local go_sem ↓] Go.wp_at_zero Go.wp_at_succ
theorem q_restAll {w:World}{M g cap i K N:Nat}{l:List Tk}{vW vS:Value}(k:Nat)(h1:1≤k)(h9:k≤9)(P:QrAt w M g cap l i)(A:AkAt w M K N (AskS.of k) vW vS)(hi:i<l.length)(hll:l.length≤900000)(hG:∀ t∈l,TokG t)(hL:Lined l) :
  Calls Tryz.prog (restF k) #[.pointer (some ⟨M,0,none⟩),.pointer (some ⟨K,0,none⟩)] w fun e w'=>MdPost w M g cap l K N (pcsS l (shapeS k) i true (AskS.of k)) e w':=by
 rcases nine h1 h9 with rfl|rfl|rfl|rfl|rfl|rfl|rfl|rfl|rfl
 ·have:=q_between P A hi hll hG hL rfl;exact this
 ·have:=q_between P A hi hll hG hL rfl;exact this
 ·have:=q_from P A hi hll hG hL rfl;exact this
 ·have:=q_from P A hi hll hG hL rfl;exact this
 ·have:=q_slices P A hi hll hG hL rfl;exact this
 ·have:=q_from P A hi hll hG hL rfl;exact this
 ·have:=q_between P A hi hll hG hL rfl;exact this
 ·have:=q_nothing P A true;exact this
 ·have:=q_packet P A hi hll hG hL rfl;exact this
def qryR (l:List Tk)(i n:Nat):Int×Nat×AskS:=if kindAt l i=0 then (60,i,AskS.of 0) else if n=8 then (71,i,AskS.of 0) else lineS l (kindAt l i) i
def QyPost (w:World)(M g cap:Nat)(l:List Tk)(i:Nat)(r:Int×Nat×AskS)(e:Ending)(w':World):Prop:=
 QrAt w' M g cap l r.2.1∧Kp M w w'∧(if r.1=0 then ∃ vW vS,e=.returned (.agg (akBox r.2.2 vW vS))∧w'.ownsRow w.heap.size 86 8 vW r.2.2.cond.length (flatN r.2.2.cond)∧w'.ownsRow w.heap.size 88 2 vS r.2.2.sets.length (flatS r.2.2.sets) else e=QPanic r.1 (lnOf l i))
theorem QyPost.bad {w w':World}{M g cap i j:Nat}{l:List Tk}{r:Int×Nat×AskS}{c:Int}{a:AskS}(h:r=(c,j,a))(hc:c≠0)(hq:QrAt w' M g cap l j)(hb:Kp M w w'):QyPost w M g cap l i r (QPanic c (lnOf l i)) w':=by
 subst h;exact ⟨hq,hb,by rw [if_neg hc]⟩
theorem Kp.bk {w w1 w2:World}{M N:Nat}(h:Kp M w w1)(hb:Bk N M w1 w2)(hN:w.heap.size≤N):Kp M w w2:=⟨hb.os.trans h.os,hb.tape.trans h.tape,hb.output.trans h.output,Nat.le_trans h.size hb.size,fun k hk hn=>(hb.block k (Nat.lt_of_lt_of_le hk hN) (fun e=>hn (by rw [e]))).trans (h.block k hk hn)⟩
theorem isT_nl {l:List Tk}(hG:∀ t∈l,TokG t)(i:Nat):isT l i 1 nlB=kindIs l i 1:=by
 unfold isT kindIs
 cases h:l[i]? with
 | none=>rfl
 | some t=>
   have hm:=(hG t (List.mem_of_getElem? h)).1
   by_cases h1:t.kind=1
   ·simp [h1,hm h1]
   ·simp [h1]
theorem QyPost.bad2 {w w':World}{M g cap i j:Nat}{l:List Tk}{r:Int×Nat×AskS}{c:Int}{a:AskS}(h:r=(c,j,a))(hc:c≠0)(hq:QrAt w' M g cap l j)(hb:Kp M w w')(hl:lnOf l j=lnOf l i):QyPost w M g cap l i r (QPanic c (lnOf l j)) w':=by
 rw [hl];exact QyPost.bad h hc hq hb
theorem restF_cases (k:Nat)(h1:1≤k)(h9:k≤9):restF k=87∨restF k=88∨restF k=89∨restF k=90∨restF k=91:=by
 rcases nine h1 h9 with rfl|rfl|rfl|rfl|rfl|rfl|rfl|rfl|rfl<;>decide
theorem kindOfW_le (s:ByteArray):kindOfW s≤9:=by
 unfold kindOfW
 repeat' split
 all_goals omega
section
variable {l:List Tk} {k i j c:Nat} {a:AskS}
theorem line_bad {x:Int}{p:Nat}{b:AskS}(h:restS l k (i+1)=(x,p,b))(hx:x≠0):lineS l k i=(x,p,b):=by unfold lineS;rw [h,if_pos hx]
theorem line_end {p:Nat}{b:AskS}(h:restS l k (i+1)=(0,p,b))(hk:kindIs l p 1=false):lineS l k i=(50,p,b):=by unfold lineS;rw [h,if_neg (fun h=>h rfl),if_pos hk]
theorem line_ok {p:Nat}{b:AskS}(h:restS l k (i+1)=(0,p,b))(hk:kindIs l p 1=true):lineS l k i=(0,p+1,b):=by unfold lineS;rw [h,if_neg (fun h=>h rfl),if_neg (by rw [hk];decide)]
theorem rest_bad {x:Int}{p:Nat}{b:AskS}(h:pcsS l (shapeS k) i true (AskS.of k)=(x,p,b))(hx:x≠0):restS l k i=(x,p,b):=by unfold restS;rw [pcs_app,h,if_pos hx]
theorem rest_ok {p:Nat}{b:AskS}(h:pcsS l (shapeS k) i true (AskS.of k)=(0,p,b)):∃ f,restS l k i=pcsS l [.word wHops,.hops] p f b:=⟨_,by unfold restS;rw [pcs_app,h,if_neg (fun h=>h rfl)]⟩
end
theorem form_set {W:World}{F:Nat}{a b c x y z:Value}{T:TypeId}{fr:Nat×Nat}(h:W.heap[F]?=some (.cells #[a,b,c] T fr)):(((W.setCell ⟨F,0,none⟩ x).setCell ⟨F,1,none⟩ y).setCell ⟨F,2,none⟩ z).heap[F]?=some (.cells #[x,y,z] T fr):=by
 simp [World.setCell,Array.getElem?_modify,h]
theorem form_cells {W:World}{F:Nat}{a b c:Value}{T:TypeId}(h:W.heap[F]?=some (.cells #[a,b,c] T (0,0))):W.cell? ⟨F,0,none⟩=some a∧W.cell? ⟨F,1,none⟩=some b∧W.cell? ⟨F,2,none⟩=some c∧W.frozen? ⟨F,0,none⟩=false∧W.frozen? ⟨F,1,none⟩=false∧W.frozen? ⟨F,2,none⟩=false:=by
 have z0:=cell_of_row W F 0 _ _ _ h;have z1:=cell_of_row W F 1 _ _ _ h;have z2:=cell_of_row W F 2 _ _ _ h;simp only [List.getElem?_toArray,List.getElem?_cons_zero,List.getElem?_cons_succ] at z0 z1 z2;exact ⟨z0,z1,z2,by simp [World.frozen?,h],by simp [World.frozen?,h],by simp [World.frozen?,h]⟩
theorem form_old {W:World}{F R:Nat}{x y z:Value}(h:R≠F):(((W.setCell ⟨F,0,none⟩ x).setCell ⟨F,1,none⟩ y).setCell ⟨F,2,none⟩ z).heap[R]?=W.heap[R]?:=
 (Below.heap_setCell _ _ _ _ h).trans ((Below.heap_setCell _ _ _ _ h).trans (Below.heap_setCell _ _ _ _ h))
theorem q_query {w:World}{M g cap i n:Nat}{l:List Tk}(P:QrAt w M g cap l i)(hi:i<l.length)(hll:l.length≤900000)(hG:∀ t∈l,TokG t)(hL:Lined l)(hn:n≤8) :
  Calls Tryz.prog 29 #[.pointer (some ⟨M,0,none⟩),.int .i64 n] w fun e w'=>QyPost w M g cap l i (qryR l i n) e w':=by
 obtain ⟨t,ht,htx,-,hK,-⟩:=tk_at hi;have hs:=hK 2;have hkA:kindAt l i=if t.kind=2 then kindOfW t.text else 0:=by unfold kindAt;rw [hs,htx];by_cases h:t.kind=2<;>simp [h]
 have hst:t.kind=2→Stays l i (i+1):=fun h=>Stays.step hL (by rw [hs];simp [h]) (by decide)
 have hMl:=P.lt;have hbA:Below w.heap.size w (w.alloc (.cells qy0 43 (0,0))):=(Below.refl _ w).alloc (Nat.le_refl _) _;have hbF:Below w.heap.size w ((w.alloc (.cells qy0 43 (0,0))).alloc (.cells #[.string ⟨#[]⟩,.int .i64 0,.nilFunc] 106 (0,0))):=hbA.alloc (by simp) _
 have hzR:((w.alloc (.cells qy0 43 (0,0))).alloc (.cells #[.string ⟨#[]⟩,.int .i64 0,.nilFunc] 106 (0,0))).heap[w.heap.size]?=some (.cells qy0 43 (0,0)):=(heap_alloc_old _ _ (by simp)).trans (heap_alloc_new w _)
 have hzF:((w.alloc (.cells qy0 43 (0,0))).alloc (.cells #[.string ⟨#[]⟩,.int .i64 0,.nilFunc] 106 (0,0))).heap[w.heap.size+1]?=some (.cells #[.string ⟨#[]⟩,.int .i64 0,.nilFunc] 106 (0,0)):=by
  have:=heap_alloc_new (w.alloc (.cells qy0 43 (0,0))) (.cells #[.string ⟨#[]⟩,.int .i64 0,.nilFunc] 106 (0,0))
  simpa using this
 have P2:=P.up hbF;have hT2:=P2.toks;have e0:_=some (Value.int .i64 t.kind):=hT2.2 i t ht 0 _ rfl;have e1:_=some (Value.string t.text):=hT2.2 i t ht 1 _ rfl;have q0:=P2.c0;have q1:=P2.c1;have hB2:=Hi hbF;have P2:=Hi P2;have hzR:=Hi hzR;have hzF:=Hi hzF;have b2:(i:Int)<(l.length:Int):=by omega
 have b0:(0:Int)≤(i:Int):=by omega
 have cf:=Hi (fun (c:Int) (j:Nat) W (P:QrAt W M g cap l j) (hj:j<l.length)=>q_fail P hj c)
 clear hbA hbF hT2 hs hK;go_enter Tryz.func29,Tryz.ntmps29;go_upto_region 3 with fail;generalize (w.alloc (.cells #[.int .i64 0,.string ⟨#[]⟩,.string ⟨#[]⟩,.slice none 0 0,.string ⟨#[]⟩,.slice none 0 0,.int .i64 0] 43 (0,0))).alloc (.cells #[.string ⟨#[]⟩,.int .i64 0,.nilFunc] 106 (0,0))=W0 at *;have e0:W0.cell? ⟨g,i*4,none⟩=some (.int .i64 t.kind):=e0
 by_cases h2:t.kind=2
 ·have d2:(t.kind == 2)=true:=by rw [h2];rfl
  rw [if_pos h2] at hkA;obtain ⟨k,hk⟩:∃ k,kindOfW t.text=k:=⟨_,rfl⟩
  have hk9:k≤9:=hk▸kindOfW_le _;rw [hk] at hkA;have hR0:=(Array.getElem?_eq_some_iff.1 hzR.out).1;have hF0:=(Array.getElem?_eq_some_iff.1 hzF.out).1
  have cfo:Hid (∀ W,Qt W0 W→Calls Tryz.prog 49 #[.string t.text] W fun e w1=>Below w.heap.size w w1∧w1.heap[w.heap.size]?=some (.cells qy0 43 (0,0))∧w1.heap[w.heap.size+1]?=some (.cells #[.string ⟨#[]⟩,.int .i64 0,.nilFunc] 106 (0,0))∧(k=0→e=.returned (.tuple #[.agg #[.string ⟨#[]⟩,.int .i64 0,.nilFunc],.bool false]))∧(k≠0→e=.returned (.tuple #[.agg #[.string t.text,.int .i64 k,.func (.func (restF k)) #[] #[]],.bool true]))):=Hi (fun W hq=>(q_formOf t.text W (P2.out.qt hq).wd).mono fun e w1 h=>by
   obtain ⟨hb1,h3,h4⟩:=h;rw [hk] at h3 h4
   have hb2:Below W0.heap.size W0 w1:=by
    obtain ⟨nn,rfl⟩:=hq;exact ((Qt.self W0 nn).below _).trans hb1
   exact ⟨hB2.out.trans (hb2.mono hB2.out.size),(hb2.block _ hR0).trans hzR.out,(hb2.block _ hF0).trans hzF.out,h3,h4⟩)
  have hP:=Hi P;have hst:=Hi (hst h2);clear h2 hk hzR hzF hB2 P P2;go_region;go_upto_region 4 with fail
  go_cut [6] (fun x wx=>Hid (Below w.heap.size w wx)∧Hid (wx.heap[w.heap.size]?=some (.cells qy0 43 (0,0)))∧((k=0∧x=.bool false)∨(k≠0∧x=.bool true∧Hid (wx.heap[w.heap.size+1]?=some (.cells #[.string t.text,.int .i64 k,.func (.func (restF k)) #[] #[]] 106 (0,0))))))
  case first=>
   by_cases hk0:k=0
   ·go_region_law (go_simp;go_at_call 49;refine (cfo.out _ (Qt.self W0 2)).mono ?_;rintro e w1 ⟨hb1,r1,g1,hp1,-⟩;obtain rfl:=hp1 hk0;obtain ⟨z0,z1,z2,y0,y1,y2⟩:=form_cells g1;have g1:=Hi g1;have r1:=Hi r1;have hb1:=Hi hb1;clear hp1;go_wp2_with fail)
    all_goals (
     go_wp2_with fail;go_meet;exact ⟨Hi (((hb1.out.setCell (by simp) _).setCell (by simp) _).setCell (by simp) _),Hi ((form_old (by omega)).trans r1.out),Or.inl ⟨hk0,rfl⟩⟩)
   ·go_region_law (go_simp;go_at_call 49;refine (cfo.out _ (Qt.self W0 2)).mono ?_;rintro e w1 ⟨hb1,r1,g1,-,hp1⟩;obtain rfl:=hp1 hk0;obtain ⟨z0,z1,z2,y0,y1,y2⟩:=form_cells g1;have g1:=Hi g1;have r1:=Hi r1;have hb1:=Hi hb1;clear hp1;go_wp2_with fail)
    all_goals (
     go_wp2_with fail;go_meet;exact ⟨Hi (((hb1.out.setCell (by simp) _).setCell (by simp) _).setCell (by simp) _),Hi ((form_old (by omega)).trans r1.out),Or.inr ⟨hk0,rfl,Hi (form_set g1.out)⟩⟩)
  case rest=>
   obtain ⟨hbx,hrx,hor⟩:=hcut;clear cfo e0 e1 q0 q1;rcases hor with ⟨hk0,rfl⟩|⟨hk0,rfl,hfx⟩
   ·have P2:=hP.out.up hbx.out;have cf2:=Hi (cf.out 60 i _ P2 hi);have H:=Hi (show qryR l i n=(60,i,AskS.of 0) by unfold qryR;rw [hkA,if_pos hk0])
    have P2:=Hi P2;clear cf;go_wp2_with (go_at_call 46;refine cf2.out.mono ?_;rintro e w3 ⟨rfl,hq3⟩;have hq3:=Hi hq3);exact ⟨rfl,QyPost.bad H.out (by decide) (P2.out.qt hq3.out) (gb_below (gb_refl _ _) (hbx.out.trans (hq3.out.below _)))⟩
   ·have P2:=hP.out.up hbx.out
    by_cases h8:n=8
    ·have cf2:=Hi (cf.out 71 i _ P2 hi);have H:=Hi (show qryR l i n=(71,i,AskS.of 0) by unfold qryR;rw [hkA,if_neg hk0,if_pos h8])
     have P2:=Hi P2;subst h8;clear cf;go_wp2_with (go_at_call 46;refine cf2.out.mono ?_;rintro e w3 ⟨rfl,hq3⟩;have hq3:=Hi hq3);exact ⟨rfl,QyPost.bad H.out (by decide) (P2.out.qt hq3.out) (gb_below (gb_refl _ _) (hbx.out.trans (hq3.out.below _)))⟩
    ·have H:=Hi (show qryR l i n=lineS l k i by unfold qryR;rw [hkA,if_neg hk0,if_neg h8])
     have d8:((n:Int) == 8)=false:=by rw [beq_eq_false_iff_ne];omega
     have bw:=wS i (by omega)
     have y1:=P2.free 1;have z1:=P2.c1;have P3:QrAt (wc.setCell ⟨M,1,none⟩ (.int .i64 ((i:Int)+1))) M g cap l (i+1):=P2.setAt (i+1);have hR3:=(Below.heap_setCell wc ⟨M,1,none⟩ (.int .i64 ((i:Int)+1)) w.heap.size (by simp;omega)).trans hrx.out
     have hF3:=(Below.heap_setCell wc ⟨M,1,none⟩ (.int .i64 ((i:Int)+1)) (w.heap.size+1) (by simp;omega)).trans hfx.out
     have K3:Kp M w (wc.setCell ⟨M,1,none⟩ (.int .i64 ((i:Int)+1))):=gb_setCell (gb_below (gb_refl _ _) hbx.out) 1 _;have P3:=Hi P3;have hR3:=Hi hR3;have hF3:=Hi hF3;have K3:=Hi K3;clear hkA hbx hrx hfx cf P2;go_upto_region 10 with fail;clear y1 z1;generalize wc.setCell ⟨M,1,none⟩ (.int .i64 ((i:Int)+1))=W1 at *;obtain ⟨z0,z1,z2,-,-,-⟩:=form_cells hF3.out;go_upto_region 11 with fail;have hb4:Below W1.heap.size W1 (W1.alloc (.cells #[.int .i64 k,.string ⟨#[]⟩,.string ⟨#[]⟩,.slice none 0 0,.string ⟨#[]⟩,.slice none 0 0,.int .i64 0] 43 (0,0))):=(Below.refl _ W1).alloc (Nat.le_refl _) _;have hK4:(W1.alloc (.cells #[.int .i64 k,.string ⟨#[]⟩,.string ⟨#[]⟩,.slice none 0 0,.string ⟨#[]⟩,.slice none 0 0,.int .i64 0] 43 (0,0))).heap[W1.heap.size]?=some (.cells (akBox (AskS.of k) (.slice none 0 0) (.slice none 0 0)) 43 (0,0)):=heap_alloc_new W1 _;generalize W1.alloc (.cells #[.int .i64 k,.string ⟨#[]⟩,.string ⟨#[]⟩,.slice none 0 0,.string ⟨#[]⟩,.slice none 0 0,.int .i64 0] 43 (0,0))=W2 at *;have hMN:M<W1.heap.size:=P3.out.lt;have P4:=P3.out.up hb4;have A4:AkAt W2 M W1.heap.size W1.heap.size (AskS.of k) (.slice none 0 0) (.slice none 0 0):=⟨hK4,hMN,Nat.le_refl _,World.ownsRow_nil _ _ _ _,World.ownsRow_nil _ _ _ _⟩;have K4:Kp M w W2:=gb_below K3.out hb4;have hRN:=(Array.getElem?_eq_some_iff.1 hR3.out).1;have hR4:=(hb4.block _ hRN).trans hR3.out;have hFN:w.heap.size+1<W1.heap.size:=(Array.getElem?_eq_some_iff.1 hF3.out).1;have z2:=(hb4.cell (p:=⟨w.heap.size+1,2,none⟩) hFN).trans z2;have hi1:=hst.out.2.1;obtain ⟨⟨c,j,b⟩,hr⟩:∃ x,pcsS l (shapeS k) (i+1) true (AskS.of k)=x:=⟨_,rfl⟩
     have cm:=q_restAll k (by omega) hk9 P4 A4 hi1 hll hG hL
     rw [hr] at cm;have sj:=hst.out.trans (hr▸pcs_in hL (shapeS k) (i+1) true (AskS.of k) hi1);have cm:=Hi cm;have K4:=Hi K4;have hR4:=Hi hR4;have sj:=Hi sj;generalize W1.heap.size=N at *;clear hst hi1 P3 P4 A4 K3 hb4 hK4 hR3 z0 z1 hF3 hP;have hF:=restF_cases k (by omega) hk9
     by_cases hc:c=0
     ·subst hc;have hlj:=sj.out.2.1;obtain ⟨f,hro⟩:=rest_ok hr
      go_cut [6] (fun x wx=>x=.bool true∧Hid (Bk N M W2 wx)∧Hid (QrAt wx M g cap l j)∧∃ vW vS,Hid (AkAt wx M N N b vW vS))
      case first=>
       clear hro H;rcases hF with hF|hF|hF|hF|hF<;>rw [hF] at z2 cm<;>go_wp2_with ((first|go_at_call 87|go_at_call 88|go_at_call 89|go_at_call 90|go_at_call 91);refine cm.out.mono ?_;rintro e w3 hx;obtain ⟨rfl,B3,P3,v3,s3,A3⟩:=hx.of rfl;have B3:=Hi B3;have P3:=Hi P3;have A3:=Hi A3;clear hx)
       all_goals (
        go_meet;exact ⟨rfl,B3,P3,v3,s3,A3⟩)
      case rest=>
       obtain ⟨rfl,B3,P3,v3,s3,A3⟩:=hcut;clear cm hF z2 hr;have R3:=Hi ((B3.out.block _ hRN (show w.heap.size≠M by omega)).trans hR4.out)
       have K3:=Hi (K4.out.bk B3.out (Nat.le_of_lt hRN));clear K4 hR4 B3;have cc1:=Hi (q_want P3.out hlj hll 2 wHops);rcases want_cases l j 2 wHops with ⟨hw1,hk1⟩|hw1
       ·have st1:=sj.out.trans (Stays.step hL hk1 (by decide))
        have hj1:=st1.2.1;have st1:=Hi st1;have hro:=Hi (hro.trans (pcs_ok (by rw [pc_word,hw1])))
        have hw1:=Hi hw1;clear hk1 sj;go_upto_region 13 with (go_at_call 48;refine cc1.out.mono ?_;rintro e w3 hx;obtain ⟨rfl,hK1,P4⟩:=hx.of hw1.out;have A4:=A3.out.keep hK1;have R4:=(hK1.block _ (Array.getElem?_eq_some_iff.1 R3.out).1 (fun e=>by injection e;omega)).trans R3.out;have K4:=gb_trans K3.out hK1;have P4:=Hi P4;have A4:=Hi A4;have R4:=Hi R4;have K4:=Hi K4;clear hx hK1)
        clear P3 A3 R3 K3 cc1 hw1;have cc2:=Hi (q_number P4.out hj1 hll hG 0 64);obtain ⟨⟨v,x⟩,hn2⟩:∃ x,numbS l (j+1) 0 64=x:=⟨_,rfl⟩
        by_cases hx:x=0
        ·subst hx;have hn3:(numbS l (j+1) 0 64).2=0:=by rw [hn2]
         have st2:=st1.out.trans (numb_in hL hn3);have hj2:=st2.2.1;have st2:=Hi st2;have hro2:=hro.out.trans (pcs_one.trans (pc_hops_ok hn3));have hr2:=Hi (show numbR l (j+1) 0 64=(0,j+1+1) by unfold numbR;rw [if_pos hn3])
         rw [hn2] at hro2 cc2;have hro2:=Hi hro2;clear hn2 hn3 hro st1;go_upto_region 14 with (go_at_call 47;refine cc2.out.mono ?_;rintro e w4 hx;obtain ⟨rfl,hK2,P5⟩:=hx.of hr2.out;have A5:=A4.out.keep hK2;have R5:=(hK2.block _ (Array.getElem?_eq_some_iff.1 R4.out).1 (fun e=>by injection e;omega)).trans R4.out;have K5:=gb_trans K4.out hK2;have x6:=A5.c6;have y6:=A5.free 6;have P5:=Hi P5;have A5:=Hi A5;have R5:=Hi R5;have K5:=Hi K5;clear hx hK2)
         have P6:=Hi (P5.out.other (p:=⟨N,6,none⟩) hMN (.int .i64 v));have A6:Hid (AkAt (w4.setCell ⟨N,6,none⟩ (.int .i64 v)) M N N { b with hops:=v } v3 s3):=Hi (A5.out.set rfl rfl rfl);have R6:=Hi ((Below.heap_setCell w4 ⟨N,6,none⟩ (.int .i64 v) w.heap.size (by show w.heap.size≠N;omega)).trans R5.out)
         have K6:=Hi (Kp.bk K5.out ((Bk.refl N M w4).set (p:=⟨N,6,none⟩) (Nat.le_refl N) (.int .i64 v)) (Nat.le_of_lt hRN));clear P5 A5 R5 K5 x6 y6 cc2 hr2 P4 A4 R4 K4;generalize w4.setCell ⟨N,6,none⟩ (.int .i64 v)=W6 at *;have cc3:=Hi (q_want P6.out hj2 hll 1 nlB)
         cases hk3:kindIs l (j+1+1) 1 with
         | false=>
           have hw3:=Hi (show wantR l (j+1+1) 1 nlB=(50,j+1+1) by unfold wantR;rw [isT_nl hG,hk3];rfl)
           have H2:=Hi (H.out.trans (line_end hro2.out hk3));clear hk3 H;go_wp2_with (go_at_call 48;refine cc3.out.mono ?_;rintro e w5 hx;obtain ⟨rfl,hK3,P7⟩:=hx.off hw3.out (by decide);have P7:=Hi P7;have K7:=Hi (gb_trans K6.out hK3);clear hx)
           exact ⟨rfl,QyPost.bad2 H2.out (by decide) P7.out K7.out st2.out.2.2⟩
         | true=>
           have hw3:=Hi (show wantR l (j+1+1) 1 nlB=(0,j+1+1+1) by unfold wantR;rw [isT_nl hG,hk3];rfl)
           have H2:=Hi (H.out.trans (line_ok hro2.out hk3));clear hk3 H;go_upto_region 15 with (go_at_call 48;refine cc3.out.mono ?_;rintro e w5 hx;obtain ⟨rfl,hK3,P7⟩:=hx.of hw3.out;have A7:=A6.out.keep hK3;have R7:=(hK3.block _ (Array.getElem?_eq_some_iff.1 R6.out).1 (fun e=>by injection e;omega)).trans R6.out;have K7:=gb_trans K6.out hK3;have P7:=Hi P7;have A7:=Hi A7;have R7:=Hi R7;have K7:=Hi K7;clear hx hK3)
           obtain ⟨vA,vC,hvA⟩:=own_shape A7.out.nodes;obtain ⟨sA,sC,hsA⟩:=own_shape A7.out.sets;subst hvA hsA;have k0:=A7.out.c0;have k1:=A7.out.c1;have k2:=A7.out.c2;have k3:=A7.out.c3;have k4:=A7.out.c4;have k5:=A7.out.c5;have k6:w5.cell? ⟨N,6,none⟩=some (.int .i64 v):=A7.out.c6;obtain ⟨x0,x1,x2,x3,x4,x5,x6⟩:=ask_cells R7.out;have y0:=ask_free R7.out 0;have y1:=ask_free R7.out 1;have y2:=ask_free R7.out 2;have y3:=ask_free R7.out 3;have y4:=ask_free R7.out 4;have y5:=ask_free R7.out 5;have y6:=ask_free R7.out 6;go_wp2_with fail;clear k0 k1 k2 k3 k4 k5 k6 x0 x1 x2 x3 x4 x5 x6 y0 y1 y2 y3 y4 y5 y6;have hz:=ask_set (a0:=.int .i64 b.kind) (a1:=.string b.src) (a2:=.string b.dst) (a3:=.slice vA b.cond.length vC) (a4:=.string b.along) (a5:=.slice sA b.sets.length sC) (a6:=.int .i64 v) R7.out;have hold:∀ x,x≠w.heap.size→(((((((w5.setCell ⟨w.heap.size,0,none⟩ (.int .i64 b.kind)).setCell ⟨w.heap.size,1,none⟩ (.string b.src)).setCell ⟨w.heap.size,2,none⟩ (.string b.dst)).setCell ⟨w.heap.size,3,none⟩ (.slice vA b.cond.length vC)).setCell ⟨w.heap.size,4,none⟩ (.string b.along)).setCell ⟨w.heap.size,5,none⟩ (.slice sA b.sets.length sC)).setCell ⟨w.heap.size,6,none⟩ (.int .i64 v)).heap[x]?=w5.heap[x]?:=fun x hx=>ask_old hx
           have hq9:=P7.out.keepB ((((((((Below.refl (M+1) w5).setCell (p:=⟨w.heap.size,0,none⟩) (Nat.succ_le_of_lt hMl) (.int .i64 b.kind)).setCell (p:=⟨w.heap.size,1,none⟩) (Nat.succ_le_of_lt hMl) (.string b.src)).setCell (p:=⟨w.heap.size,2,none⟩) (Nat.succ_le_of_lt hMl) (.string b.dst)).setCell (p:=⟨w.heap.size,3,none⟩) (Nat.succ_le_of_lt hMl) (.slice vA b.cond.length vC)).setCell (p:=⟨w.heap.size,4,none⟩) (Nat.succ_le_of_lt hMl) (.string b.along)).setCell (p:=⟨w.heap.size,5,none⟩) (Nat.succ_le_of_lt hMl) (.slice sA b.sets.length sC)).setCell (p:=⟨w.heap.size,6,none⟩) (Nat.succ_le_of_lt hMl) (.int .i64 v));have hk9:=Kp.bk K7.out ((((((((Bk.refl w.heap.size M w5).set (p:=⟨w.heap.size,0,none⟩) (Nat.le_refl _) (.int .i64 b.kind)).set (p:=⟨w.heap.size,1,none⟩) (Nat.le_refl _) (.string b.src)).set (p:=⟨w.heap.size,2,none⟩) (Nat.le_refl _) (.string b.dst)).set (p:=⟨w.heap.size,3,none⟩) (Nat.le_refl _) (.slice vA b.cond.length vC)).set (p:=⟨w.heap.size,4,none⟩) (Nat.le_refl _) (.string b.along)).set (p:=⟨w.heap.size,5,none⟩) (Nat.le_refl _) (.slice sA b.sets.length sC)).set (p:=⟨w.heap.size,6,none⟩) (Nat.le_refl _) (.int .i64 v)) (Nat.le_refl _);generalize (((((((w5.setCell ⟨w.heap.size,0,none⟩ (.int .i64 b.kind)).setCell ⟨w.heap.size,1,none⟩ (.string b.src)).setCell ⟨w.heap.size,2,none⟩ (.string b.dst)).setCell ⟨w.heap.size,3,none⟩ (.slice vA b.cond.length vC)).setCell ⟨w.heap.size,4,none⟩ (.string b.along)).setCell ⟨w.heap.size,5,none⟩ (.slice sA b.sets.length sC)).setCell ⟨w.heap.size,6,none⟩ (.int .i64 v))=W9 at *;obtain ⟨z0,z1,z2,z3,z4,z5,z6⟩:=ask_cells hz;refine bodyPost_ret (v:=.agg #[.int .i64 b.kind,.string b.src,.string b.dst,.slice vA b.cond.length vC,.string b.along,.slice sA b.sets.length sC,.int .i64 v]) (by simp [results,Tryz.results29,go_sem,z0,z1,z2,z3,z4,z5,z6]) rfl ?_
           refine ⟨by rw [H2.out];exact hq9,hk9,?_⟩
           rw [if_pos (by rw [H2.out])]
           refine ⟨.slice vA b.cond.length vC,.slice sA b.sets.length sC,by rw [H2.out];rfl,?_,?_⟩
           ·rw [H2.out];exact Go.Joins.ownsRow_le (own_heap A7.out.nodes fun x hx=>hold x (by have:=(A7.out.nodes.lt x hx).1;omega)) (Nat.le_of_lt hRN)
           ·rw [H2.out];exact Go.Joins.ownsRow_le (own_heap A7.out.sets fun x hx=>hold x (by have:=(A7.out.sets.lt x hx).1;omega)) (Nat.le_of_lt hRN)
        ·have hn3:(numbS l (j+1) 0 64).2=x:=by rw [hn2]
         have H2:=Hi (H.out.trans (line_bad (hro.out.trans (pcs_one.trans ((pc_hops_bad (fun h=>hx (hn3.symm.trans h))).trans (by rw [hn3])))) hx))
         have hr2:=Hi (show numbR l (j+1) 0 64=(x,j+1) by unfold numbR;rw [if_neg (fun h=>hx (hn3.symm.trans h)),hn3])
         have hx:=Hi hx;clear hn2 hn3 hro H;go_wp2_with (go_at_call 47;refine cc2.out.mono ?_;rintro e w4 hq;obtain ⟨rfl,hK2,P5⟩:=hq.off hr2.out hx.out;have P5:=Hi P5;have K5:=Hi (gb_trans K4.out hK2);clear hq);exact ⟨rfl,QyPost.bad2 H2.out hx.out P5.out K5.out st1.out.2.2⟩
       ·have H2:=Hi (H.out.trans (line_bad (hro.trans (pcs_bad (c:=50) (j:=j) (b:=b) (by rw [pc_word,hw1]) (by decide))) (by decide)))
        have hw1:=Hi hw1;clear hro H;go_wp2_with (go_at_call 48;refine cc1.out.mono ?_;rintro e w3 hx;obtain ⟨rfl,hK1,P4⟩:=hx.off hw1.out (by decide);have P4:=Hi P4;have K4:=Hi (gb_trans K3.out hK1);clear hx)
        exact ⟨rfl,QyPost.bad2 H2.out (by decide) P4.out K4.out sj.out.2.2⟩
     ·have H2:=Hi (H.out.trans (line_bad (rest_bad hr hc) hc));have hc:=Hi hc;clear H;rcases hF with hF|hF|hF|hF|hF<;>rw [hF] at z2 cm<;>go_wp2_with ((first|go_at_call 87|go_at_call 88|go_at_call 89|go_at_call 90|go_at_call 91);refine cm.out.mono ?_;rintro e w3 hx;obtain ⟨rfl,B3,P3⟩:=hx.off rfl hc.out;have B3:=Hi B3;have P3:=Hi P3;clear hx)
      all_goals exact ⟨rfl,QyPost.bad2 H2.out hc.out P3.out (K4.out.bk B3.out (by omega)) sj.out.2.2⟩
 ·have d2:(t.kind == 2)=false:=by rw [beq_eq_false_iff_ne];exact h2
  have H:=Hi (show qryR l i n=(60,i,AskS.of 0) by unfold qryR;rw [hkA,if_neg h2,if_pos rfl])
  have hP:=Hi P;clear h2 hkA P hst;go_region;go_upto_region 6 with fail;have cf2:=Hi (fun W (hq:Qt W0 W)=>cf.out 60 i W (P2.out.qt hq) hi)
  clear cf;go_wp2_with (go_at_call 46;refine (cf2.out _ ⟨1,rfl⟩).mono ?_;rintro e w3 ⟨rfl,hq3⟩;have hq3:=Hi hq3);exact ⟨rfl,QyPost.bad H.out (by decide) ((P2.out.qt (Qt.self W0 1)).qt hq3.out) (gb_below (gb_refl _ _) (hB2.out.trans (((Qt.self W0 1).below _).trans (hq3.out.below _))))⟩
end Go.Proofs.YtjokciofeicdkaaGreatDoor

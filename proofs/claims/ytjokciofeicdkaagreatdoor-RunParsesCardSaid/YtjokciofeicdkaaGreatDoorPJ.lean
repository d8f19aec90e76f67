/- A part of the proof of RunParses: ParA ParB ParC ParD ParE ParF ParG ParH ParI ParJ ParK ParM2 ParN ParO. -/
import Derived.Test.YtjokciofeicdkaaGreatDoorPI
import Derived.Deep.AppendLies
import Derived.Deep.RegionLaw
import Derived.Test.YtjokciofeicdkaaGreatDoorPH
import Derived.Test.YtjokciofeicdkaaGreatDoorPB
set_option maxHeartbeats 16000000
set_option maxRecDepth 100000
set_option linter.all false
namespace Go.Proofs.YtjokciofeicdkaaGreatDoor
open Go.RowKit
def TokIn (w:World)(g:Nat)(l:List Tk):Prop:=g<w.heap.size∧∀ (k:Nat) (t:Tk),l[k]?=some t→∀ (j:Nat) (u:Value),t.cells[j]?=some u→w.cell? ⟨g,k*4+j,none⟩=some u
theorem TokIn.below {w w':World}{L g:Nat}{l:List Tk}(h:TokIn w g l)(hb:Below L w w')(hg:g<L):TokIn w' g l:=
 ⟨Nat.lt_of_lt_of_le h.1 hb.size,fun k t hk j u hj=>by rw [hb.cell (p:=⟨g,k*4+j,none⟩) hg];exact h.2 k t hk j u hj⟩
theorem TokIn.qt {w w':World}{g:Nat}{l:List Tk}(h:TokIn w g l)(hq:Qt w w'):TokIn w' g l:=h.below (hq.below _) h.1
theorem tokIn_own {w:World}{base g n cap:Nat}{l:List Tk}(h:w.ownsRow base 76 4 (.slice (some ⟨g,0,none⟩) n cap) n (flatT l))(hn:n=l.length):TokIn w g l:=
 ⟨(h.lt g rfl).2,fun k t hk j u hj=>own_tok h hn k t hk j u hj⟩
abbrev tokV (g cap:Nat)(l:List Tk):Value:=.slice (some ⟨g,0,none⟩) l.length cap
attribute [local go_sem ↓] Go.wp_at_zero Go.wp_at_succ
theorem p_sign {w:World}{M g cap:Nat}{l:List Tk}(q0:w.cell? ⟨M,0,none⟩=some (tokV g cap l))(T:TokIn w g l)(i:Nat)(s:ByteArray) :
  Calls Tryz.prog 128 #[.pointer (some ⟨M,0,none⟩),.int .i64 i,.string s] w fun e w'=>e=.returned (.bool (sgn l i s))∧w=w':=by
 by_cases hi:i<l.length
 ·have ht:l[i]?=some l[i]:=List.getElem?_eq_getElem hi;generalize l[i]=t at ht;have e0:w.cell? ⟨g,i*4,none⟩=some (.int .i64 t.kind):=T.2 i t ht 0 _ rfl;have e1:w.cell? ⟨g,i*4+1,none⟩=some (.string t.text):=T.2 i t ht 1 _ rfl;have hs:sgn l i s=(t.kind == 7 && decide (t.text=s)):=by unfold sgn;rw [ht]
  have b1:(i:Int)<(l.length:Int):=by omega
  have b0:(0:Int)≤(i:Int):=by omega
  clear T ht
  by_cases hk:t.kind=7
  ·have H:=Hi (hs.trans (show _=decide (t.text=s) by rw [hk];rfl))
   have bk:(t.kind == 7)=true:=by rw [hk];rfl
   clear hs hk;go_enter Tryz.func128,Tryz.ntmps128;go_wp2_with fail;go_ret;exact ⟨by rw [H.out,← ba_beq];rfl,rfl⟩
  ·have H:=Hi (hs.trans (show _=false by rw [show (t.kind == 7)=false by rw [beq_eq_false_iff_ne];exact hk];rfl))
   have bk:(t.kind == 7)=false:=by rw [beq_eq_false_iff_ne];exact hk
   clear hs hk;go_enter Tryz.func128,Tryz.ntmps128;go_wp2_with fail;go_ret;exact ⟨by rw [H.out];rfl,rfl⟩
 ·have H:=Hi (show sgn l i s=false by unfold sgn;rw [List.getElem?_eq_none (by omega)])
  have b1:¬ (i:Int)<(l.length:Int):=by omega
  clear T;go_enter Tryz.func128,Tryz.ntmps128;go_wp2_with fail;go_ret;exact ⟨by rw [H.out];rfl,rfl⟩
def u8n (S:List Nat):List Value:=S.reverse.map (fun (n:Nat)=>Value.int .u8 n)
def PlBox (g cap:Nat)(l:List Tk)(p:Pl)(vo vn:Value):Array Value:=#[tokV g cap l,.int .i64 p.at_,vo,vn,.int .i64 p.made,.int .i64 p.e]
structure PlAt (w:World)(M g cap:Nat)(l:List Tk)(p:Pl)(vo vn:Value):Prop where
 box:w.heap[M]?=some (.cells (PlBox g cap l p vo vn) 166 (0,0))
 gM:g<M
 toks:TokIn w g l
 oo:w.ownsRow (M+1) 5 1 vo p.opn.length (u8n p.opn)
 on:w.ownsRow (M+1) 86 8 vn p.out.length (flatN p.out)
 ne:vn.ownBlock=none∨vn.ownBlock≠vo.ownBlock
section
variable {w:World} {M g cap:Nat} {l:List Tk} {p:Pl} {vo vn:Value}
theorem PlAt.lt (h:PlAt w M g cap l p vo vn):M<w.heap.size:=(Array.getElem?_eq_some_iff.1 h.box).1
theorem PlAt.free (h:PlAt w M g cap l p vo vn)(i:Nat):w.frozen? ⟨M,i,none⟩=false:=by simp [World.frozen?,h.box]
theorem PlAt.c0 (h:PlAt w M g cap l p vo vn):w.cell? ⟨M,0,none⟩=some (tokV g cap l):=by have:=cell_of_row w M 0 _ _ (0,0) h.box;simpa [PlBox] using this
theorem PlAt.c1 (h:PlAt w M g cap l p vo vn):w.cell? ⟨M,1,none⟩=some (.int .i64 p.at_):=by have:=cell_of_row w M 1 _ _ (0,0) h.box;simpa [PlBox] using this
theorem PlAt.c2 (h:PlAt w M g cap l p vo vn):w.cell? ⟨M,2,none⟩=some vo:=by have:=cell_of_row w M 2 _ _ (0,0) h.box;simpa [PlBox] using this
theorem PlAt.c3 (h:PlAt w M g cap l p vo vn):w.cell? ⟨M,3,none⟩=some vn:=by have:=cell_of_row w M 3 _ _ (0,0) h.box;simpa [PlBox] using this
theorem PlAt.c4 (h:PlAt w M g cap l p vo vn):w.cell? ⟨M,4,none⟩=some (.int .i64 p.made):=by have:=cell_of_row w M 4 _ _ (0,0) h.box;simpa [PlBox] using this
theorem PlAt.c5 (h:PlAt w M g cap l p vo vn):w.cell? ⟨M,5,none⟩=some (.int .i64 p.e):=by have:=cell_of_row w M 5 _ _ (0,0) h.box;simpa [PlBox] using this
theorem PlAt.setAt (h:PlAt w M g cap l p vo vn)(i:Nat):PlAt (w.setCell ⟨M,1,none⟩ (.int .i64 i)) M g cap l { p with at_:=i } vo vn where
 box:=by have:=h.box;simp [World.setCell,Array.getElem?_modify,this,PlBox]
 gM:=h.gM
 toks:=h.toks.below (Below.setCell (Below.refl M w) (Nat.le_refl M) _) h.gM
 oo:=ownsRow_setCell_below h.oo (Nat.lt_succ_self M) _
 on:=ownsRow_setCell_below h.on (Nat.lt_succ_self M) _
 ne:=h.ne
theorem PlAt.setMade (h:PlAt w M g cap l p vo vn)(i:Nat):PlAt (w.setCell ⟨M,4,none⟩ (.int .i64 i)) M g cap l { p with made:=i } vo vn where
 box:=by have:=h.box;simp [World.setCell,Array.getElem?_modify,this,PlBox]
 gM:=h.gM
 toks:=h.toks.below (Below.setCell (Below.refl M w) (Nat.le_refl M) _) h.gM
 oo:=ownsRow_setCell_below h.oo (Nat.lt_succ_self M) _
 on:=ownsRow_setCell_below h.on (Nat.lt_succ_self M) _
 ne:=h.ne
theorem PlAt.setE (h:PlAt w M g cap l p vo vn)(i:Int):PlAt (w.setCell ⟨M,5,none⟩ (.int .i64 i)) M g cap l { p with e:=i } vo vn where
 box:=by have:=h.box;simp [World.setCell,Array.getElem?_modify,this,PlBox]
 gM:=h.gM
 toks:=h.toks.below (Below.setCell (Below.refl M w) (Nat.le_refl M) _) h.gM
 oo:=ownsRow_setCell_below h.oo (Nat.lt_succ_self M) _
 on:=ownsRow_setCell_below h.on (Nat.lt_succ_self M) _
 ne:=h.ne
theorem PlAt.qt (h:PlAt w M g cap l p vo vn){w':World}(hq:Qt w w'):PlAt w' M g cap l p vo vn where
 box:=((hq.below w.heap.size).block M h.lt).trans h.box
 gM:=h.gM
 toks:=h.toks.qt hq
 oo:=own_below h.oo (hq.below _)
 on:=own_below h.on (hq.below _)
 ne:=h.ne
theorem PlAt.up (h:PlAt w M g cap l p vo vn){w':World}(hb:Below w.heap.size w w'):PlAt w' M g cap l p vo vn where
 box:=(hb.block M h.lt).trans h.box
 gM:=h.gM
 toks:=h.toks.below hb h.toks.1
 oo:=own_below h.oo hb
 on:=own_below h.on hb
 ne:=h.ne
end
def PlPost (w:World)(M g cap:Nat)(l:List Tk)(p:Pl)(e:Ending)(w':World):Prop:=e=.returned (.tuple #[])∧Below M w w'∧∃ vo vn,PlAt w' M g cap l p vo vn
theorem p_fail {w:World}{M g cap:Nat}{l:List Tk}{p:Pl}{vo vn:Value}(P:PlAt w M g cap l p vo vn)(c:Int)(i:Nat) :
  Calls Tryz.prog 133 #[.pointer (some ⟨M,0,none⟩),.int .i64 c,.int .i64 i] w fun e w'=>PlPost w M g cap l (p.fail c i) e w':=by
 have q5:=P.c5;have q1:=P.c1;have f5:=P.free 5;have f1:=P.free 1
 by_cases he:p.e=0
 ·have H:=Hi (show p.fail c i={ p with e:=c,at_:=i } by unfold Pl.fail;rw [if_pos he])
  rw [he] at q5;have hP:=Hi P;clear P he;go_enter Tryz.func133,Tryz.ntmps133;go_wp2_with fail;go_end0;rw [H.out];exact ⟨rfl,((Below.refl M w).setCell (Nat.le_refl M) _).setCell (Nat.le_refl M) _,vo,vn,(hP.out.setE c).setAt i⟩
 ·have H:=Hi (show p.fail c i=p by unfold Pl.fail;rw [if_neg he])
  have be:(p.e == 0)=false:=by rw [beq_eq_false_iff_ne];exact he
  have hP:=Hi P;clear P he;go_enter Tryz.func133,Tryz.ntmps133;go_wp2_with fail;go_end0;rw [H.out];exact ⟨rfl,Below.refl M w,vo,vn,hP.out⟩
theorem node_info:(Tryz.prog.info? 86).map (fun i=>(i.zero,i.size,i.bytes))=some (some (.agg #[.int .i64 0,.string ByteArray.empty,.int .i64 0,.int .i64 0,.int .i64 0,.int .i64 0,.int .i64 0,.string ByteArray.empty]),8,80):=by kernel_rfl
theorem byte_info:(Tryz.prog.info? 5).map (fun i=>(i.zero,i.size,i.bytes))=some (some (.int .u8 0),1,1):=by kernel_rfl
theorem flatN_snoc (l:List Nd)(x:Nd):flatN (l++[x])=flatN l++x.cells:=by simp [flatN]
theorem u8n_len (S:List Nat):(u8n S).length=S.length:=by simp [u8n]
theorem u8n_cons (c:Nat)(S:List Nat):u8n (c::S)=u8n S++[.int .u8 c]:=by simp [u8n]
theorem u8n_top (c:Nat)(S:List Nat):(u8n (c::S))[S.length]?=some (.int .u8 c):=by
 rw [u8n_cons,List.getElem?_append_right (by rw [u8n_len];omega),u8n_len];simp
attribute [local go_sem ↓] Go.wp_at_zero Go.wp_at_succ
theorem p_make1 {w:World}{M g cap:Nat}{l:List Tk}{p:Pl}{vo vn:Value}(P:PlAt w M g cap l p vo vn)(hm:p.made≤1000000) :
  Calls Tryz.prog 130 #[.pointer (some ⟨M,0,none⟩)] w fun e w'=>PlPost w M g cap l p.make1 e w':=by
 have q4:=P.c4;have q1:=P.c1;have f4:=P.free 4;have bw:IntKind.i64.wrap ((p.made:Int)+1)=(p.made:Int)+1:=IntWalk.i64_in _ (by omega)
 by_cases h64:64≤p.made
 ·have H:=Hi (show p.make1={ p.fail 51 p.at_ with made:=p.made+1 } by unfold Pl.make1;rw [if_pos h64])
  have b64:(p.made:Int)≥64:=by omega
  have c:=Hi (p_fail P 51 p.at_);have hf:(p.fail 51 p.at_).made=p.made:=by unfold Pl.fail;split<;>rfl
  clear P h64;go_enter Tryz.func130,Tryz.ntmps130;go_wp2_with fail;refine c.out.mono ?_;rintro e w1 ⟨rfl,hb,vo1,vn1,P1⟩;have r4:=P1.c4;have g4:=P1.free 4;rw [hf] at r4;have hP:=Hi P1;clear P1 q4 q1 f4;go_wp2_with fail;go_end0;rw [H.out];exact ⟨rfl,hb.setCell (Nat.le_refl M) _,vo1,vn1,by have:=hP.out.setMade (p.made+1);exact this⟩
 ·have H:=Hi (show p.make1={ p with made:=p.made+1 } by unfold Pl.make1;rw [if_neg h64])
  have b64:¬ (p.made:Int)≥64:=by omega
  have hP:=Hi P;clear P h64;go_enter Tryz.func130,Tryz.ntmps130;go_wp2_with fail;go_end0;rw [H.out];exact ⟨rfl,(Below.refl M w).setCell (Nat.le_refl M) _,vo,vn,by have:=hP.out.setMade (p.made+1);exact this⟩
def topN (p:Pl):Nat:=p.opn.headD 0
theorem p_top {w:World}{M g cap:Nat}{l:List Tk}{p:Pl}{vo vn:Value}(P:PlAt w M g cap l p vo vn) :
  Calls Tryz.prog 134 #[.pointer (some ⟨M,0,none⟩)] w fun e w'=>e=.returned (.int .u8 (topN p:Nat))∧Qt w w':=by
 have q2:=P.c2;have hoo:=P.oo;have H:topN p=p.opn.headD 0:=rfl;generalize hS:p.opn=S at *;clear P hS
 cases S with
 | nil=>
   have H:=Hi H;rcases Go.Joins.ownsRow_forms hoo with ⟨rfl,_⟩|⟨go,co,rfl⟩
   all_goals (
    go_enter Tryz.func134,Tryz.ntmps134;go_wp2_with fail;go_ret;exact ⟨by rw [H.out];rfl,Qt.refl _⟩)
 | cons c S=>
   have H:=Hi (show topN p=c from H)
   obtain ⟨go,co,rfl⟩:=Go.Joins.ownsRow_form hoo (by simp)
   have e0:w.cell? ⟨go,S.length,none⟩=some (.int .u8 c):=by rw [hoo.cellAt _ (by simp)];exact u8n_top c S
   have hlen:(c::S).length=S.length+1:=rfl;rw [hlen] at q2;have b0:((S.length:Int)+1)-1=(S.length:Int):=by omega
   have bl:S.length≤maxLen:=by obtain ⟨_,h⟩:=hoo;rcases h with ⟨h,_⟩|⟨_,_,_,h,_,_,h2,h3,_⟩;cases h;rw [List.length_cons] at h2;omega
   have bw:IntKind.i64.wrap (S.length:Int)=(S.length:Int):=IntWalk.i64_in _ (by unfold maxLen at bl;omega)
   have b1:(S.length:Int)<((S.length:Int)+1):=by omega
   have b2:(0:Int)≤(S.length:Int):=by omega
   have b3:(((S.length:Int)+1) == 0)=false:=by rw [beq_eq_false_iff_ne];omega
   have bt:(S.length:Int).toNat=S.length:=rfl;clear hoo b0 bl;go_enter Tryz.func134,Tryz.ntmps134;go_wp2_with fail;go_quiet (fail);go_wp2_with fail;go_ret;exact ⟨by rw [H.out];rfl,Qt.self _ _⟩
theorem PlAt.ne_box {w:World}{M g cap:Nat}{l:List Tk}{p:Pl}{vo vn:Value}(P:PlAt w M g cap l p vo vn):vn.ownBlock≠some M∧vo.ownBlock≠some M:=
 ⟨fun h=>by have:=(P.on.lt M h).1;omega,fun h=>by have:=(P.oo.lt M h).1;omega⟩
theorem PlAt.setOut {w w1:World}{M g cap:Nat}{l:List Tk}{p:Pl}{vo vn v':Value}{xs:List Nd}(P:PlAt w M g cap l p vo vn){H H':Nat}(hg:w.grownBy w1 vn.ownBlock)(hH:w.heap.size≤H)
  (hat:vn.ownBlock=some H'∨H'=H) (hv:v'.ownBlock=some H') (ho:w1.ownsRow (M+1) 86 8 v' xs.length (flatN xs)):PlAt (w1.setCell ⟨M,3,none⟩ v') M g cap l { p with out:=xs } vo v' where
 box:=by
  have h1:w1.heap[M]?=w.heap[M]?:=hg.block M P.lt (fun e=>P.ne_box.1 e.symm)
  have:=h1.trans P.box
  simp [World.setCell,Array.getElem?_modify,this,PlBox]
 gM:=P.gM
 toks:=by
  refine TokIn.below (L:=M) ⟨Nat.lt_of_lt_of_le P.toks.1 hg.size,fun k t hk j u hj=>?_⟩ (Below.setCell (Below.refl M w1) (Nat.le_refl M) _) P.gM
  exact hg.cell (P.toks.2 k t hk j u hj) (fun e=>by have:=(P.on.lt g e.symm).1;have:=P.gM;omega)
 oo:=ownsRow_setCell_below (P.oo.kept hg (by
  rcases P.ne with h|h
  ·rw [h]
   cases vo.ownBlock with
   | none=>exact .inl rfl
   | some x=>exact .inr (by simp)
  ·exact .inr (fun e=>h e.symm))) (Nat.lt_succ_self M) _
 on:=ownsRow_setCell_below ho (Nat.lt_succ_self M) _
 ne:=by
  refine .inr fun e=>?_
  rw [hv] at e;rcases hat with h3|h3
  ·rcases P.ne with h|h
   ·rw [h] at h3;cases h3
   ·exact h (h3.trans e)
  ·have:=(P.oo.lt H' e.symm).2;omega
theorem p_put {w:World}{M g cap:Nat}{l:List Tk}{p:Pl}{vo vn:Value}(P:PlAt w M g cap l p vo vn)(k:Int)(hn:p.out.length≤1000000) :
  Calls Tryz.prog 164 #[.pointer (some ⟨M,0,none⟩),.int .i64 k] w fun e w'=>PlPost w M g cap l (p.put (Nd.of k)) e w':=by
 have q3:=P.c3;have f3:=P.free 3;obtain ⟨i0,hi,hz0,hz1,hz2⟩:=info_parts node_info;have hi:=Hi hi;have hz0:=Hi hz0;have hz1:=Hi hz1;have hz2:=Hi hz2;have hO:=Hi P.on;have hP:=Hi P;clear P;go_enter Tryz.func164,Tryz.ntmps164;go_wp2_with (at_builtin;refine wpList_append_lies _ rfl (.tmp 8) (.tmp 11) _ rfl (M+1) 86 i0 _ 8 80 Tryz.underlying40 hi.out hz0.out hz1.out hz2.out rfl (by decide) vn p.out.length (flatN p.out) rfl (hO.out.alloc _) ⟨w.heap.size,0,none⟩ 1 1 (Nd.of k).cells rfl rfl (World.news_of_block (heap_alloc_new w _)) (oc _ rfl) (by decide) (by unfold maxLen;omega) (by omega) (by have:=hP.out.lt;simp;omega) (w.heap.size+1) (by simp) ?_;intro g' cap' w4 hown4 hg4 hat4 hlt4;have P1:=hP.out.up ((Below.refl _ w).alloc (Nat.le_refl _) (.cells #[.int .i64 k,.string ⟨#[]⟩,.int .i64 0,.int .i64 0,.int .i64 0,.int .i64 0,.int .i64 0,.string ⟨#[]⟩] 86 (0,0)));have q34:=hg4.cell P1.c3 (fun e=>P1.ne_box.1 e.symm);have f34:=(hg4.frozen_far (a:=⟨M,3,none⟩) P1.lt (fun e=>P1.ne_box.1 e.symm)).trans (P1.free 3);have hown5:=Hi hown4;have hg5:=Hi hg4;clear P1 hown4 hg4)
 go_end0;have hb:Below M w (w.alloc (.cells #[.int .i64 k,.string ⟨#[]⟩,.int .i64 0,.int .i64 0,.int .i64 0,.int .i64 0,.int .i64 0,.string ⟨#[]⟩] 86 (0,0))):=(Below.refl M w).alloc (Nat.le_of_lt hP.out.lt) _;have P1:=hP.out.up ((Below.refl _ w).alloc (Nat.le_refl _) (.cells #[.int .i64 k,.string ⟨#[]⟩,.int .i64 0,.int .i64 0,.int .i64 0,.int .i64 0,.int .i64 0,.string ⟨#[]⟩] 86 (0,0)));refine ⟨rfl,(hb.grown hg5.out (Nat.le_of_lt P1.lt) (fun i hi=>by have:=(hO.out.lt i hi).1;omega)).setCell (Nat.le_refl M) _,vo,.slice (some ⟨g',0,none⟩) (p.out.length+1) cap',?_⟩
 exact P1.setOut (xs:=p.out++[Nd.of k]) hg5.out (Nat.le_refl _) (hat4.imp_right (fun h=>h.trans (by simp))) rfl (by rw [flatN_snoc,List.length_append];exact hown5.out)
theorem own_tail {w:World}{b e g n cap:Nat}{xs:List Value}{x:Value}(h:w.ownsRow b e 1 (.slice (some ⟨g,0,none⟩) (n+1) cap) (n+1) (xs++[x])):w.ownsRow b e 1 (.slice (some ⟨g,0,none⟩) n cap) n xs:=by
 obtain ⟨h1,h2⟩:=h;have hl:xs.length=n:=by simpa using h1
 rcases h2 with ⟨h,_⟩|⟨g',cap',cur,hv,hb,hh,hc,hm,hs,ht⟩
 ·cases h
 ·injection hv with e1 e2 e3
  injection e1 with e1
  injection e1 with e1
  subst e1 e3;refine ⟨by simpa using hl,.inr ⟨g,cap,cur,rfl,hb,hh,by omega,hm,hs,?_⟩⟩
  have:=congrArg (List.take n) ht;rw [List.take_take,Nat.mul_one] at this;rw [Nat.mul_one,← Nat.min_eq_left (Nat.le_succ n),this,← hl]
  simp
theorem PlAt.setOpn {w:World}{M g cap:Nat}{l:List Tk}{p:Pl}{vo vn v':Value}{S:List Nat}(P:PlAt w M g cap l p vo vn)
  (ho:w.ownsRow (M+1) 5 1 v' S.length (u8n S)) (hv:v'.ownBlock=vo.ownBlock):PlAt (w.setCell ⟨M,2,none⟩ v') M g cap l { p with opn:=S } v' vn where
 box:=by have:=P.box;simp [World.setCell,Array.getElem?_modify,this,PlBox]
 gM:=P.gM
 toks:=P.toks.below (Below.setCell (Below.refl M w) (Nat.le_refl M) _) P.gM
 oo:=ownsRow_setCell_below ho (Nat.lt_succ_self M) _
 on:=ownsRow_setCell_below P.on (Nat.lt_succ_self M) _
 ne:=by rw [hv];exact P.ne
attribute [local go_sem ↓] Go.wp_at_zero Go.wp_at_succ
def Pl.pop (p:Pl):Pl:={ p with opn:=p.opn.tail,out:=p.out++ndOf (topN p) }
theorem qt_drew (w:World):Qt w w.drew:=⟨1,rfl⟩
theorem pop_cut {w w1:World}{M g cap go co c:Nat}{l:List Tk}{p:Pl}{S:List Nat}{vn:Value}(hb:Below M w w1)(P:PlAt w1 M g cap l p (.slice (some ⟨go,0,none⟩) (S.length+1) co) vn)(hS:p.opn=c::S) :
  PlPost w M g cap l { p with opn:=S } (.returned (.tuple #[])) ((w1.setCell ⟨M,2,none⟩ (.slice (some ⟨go,0,none⟩) S.length co)).drew):=by
 refine ⟨rfl,(hb.setCell (Nat.le_refl M) _).trans ((qt_drew _).below M),.slice (some ⟨go,0,none⟩) S.length co,vn,?_⟩;have ho:=P.oo;rw [show p.opn.length=S.length+1 by rw [hS];rfl,hS,u8n_cons] at ho
 exact (P.setOpn (own_tail ho) rfl).qt (qt_drew _)
theorem plen {w:World}{M g cap go co c:Nat}{l:List Tk}{p:Pl}{S:List Nat}{vn:Value}(P:PlAt w M g cap l p (.slice (some ⟨go,0,none⟩) p.opn.length co) vn)(hS:p.opn=c::S):PlAt w M g cap l p (.slice (some ⟨go,0,none⟩) (S.length+1) co) vn:=by
 have hlen:p.opn.length=S.length+1:=by rw [hS];rfl
 rw [hlen] at P;exact P
theorem pcap {w:World}{M g cap go co c:Nat}{l:List Tk}{p:Pl}{S:List Nat}{vn:Value}(P:PlAt w M g cap l p (.slice (some ⟨go,0,none⟩) (S.length+1) co) vn)(hS:p.opn=c::S):S.length+1≤co∧co≤maxLen:=by
 have:=P.oo;rw [show p.opn.length=S.length+1 by rw [hS];rfl] at this
 obtain ⟨_,h⟩:=this;rcases h with ⟨h,_⟩|⟨_,_,_,h,_,_,h2,h3,_⟩
 ·cases h
 ·injection h with _ _ h;subst h;exact ⟨h2,h3⟩
theorem p_pop {w:World}{M g cap:Nat}{l:List Tk}{p:Pl}{vo vn:Value}(P:PlAt w M g cap l p vo vn)(h0:p.opn≠[])(hn:p.out.length≤1000000) :
  Calls Tryz.prog 135 #[.pointer (some ⟨M,0,none⟩)] w fun e w'=>PlPost w M g cap l p.pop e w':=by
 have ct:=Hi (p_top P)
 obtain ⟨c,S,hS⟩:∃ c S,p.opn=c::S:=by
  cases h:p.opn with
  | nil=>exact absurd h h0
  | cons c S=>exact ⟨c,S,rfl⟩
 have ht:topN p=c:=by unfold topN;rw [hS];rfl
 have hpop:p.pop={ p with opn:=S,out:=p.out++ndOf c }:=by unfold Pl.pop;rw [ht,hS];rfl
 rw [ht] at ct;have hP:=Hi P;have hSh:=Hi hS;rw [hpop];clear P h0 ht hpop hS
 by_cases h33:c=33
 ·obtain ⟨c0,hc0⟩:∃ c0,c0=c:=⟨c,rfl⟩
  rw [← hc0] at hSh;rw [show ndOf c=[Nd.of 4] by rw [h33];rfl]
  subst h33;clear hc0;go_enter Tryz.func135,Tryz.ntmps135;go_wp2_with fail;refine ct.out.mono ?_;rintro e w1 ⟨rfl,hq⟩;have c2:=Hi (p_put (hP.out.qt hq) 4 hn);have hb1:=Hi (hq.below M);clear ct hq;go_wp2_with fail;refine c2.out.mono ?_;rintro e w2 ⟨rfl,hb2,vo2,vn2,P2⟩;clear c2;have hS2:=Hi (show (p.put (Nd.of 4)).opn=c0::S from hSh.out)
  obtain ⟨go,co,rfl⟩:=Go.Joins.ownsRow_form P2.oo (by rw [hS2.out];simp)
  have P3:=plen P2 hS2.out;clear P2;obtain ⟨bc,bl⟩:=pcap P3 hS2.out;have q2:=P3.c2;have f2:=P3.free 2;have hP3:=Hi P3;have hb3:=Hi (hb1.out.trans hb2);have bw:IntKind.i64.wrap (S.length:Int)=(S.length:Int):=IntWalk.i64_in _ (by unfold maxLen at bl;omega)
  have b2:(0:Int)≤(S.length:Int):=by omega
  have b3:(S.length:Int)≤(co:Int):=by omega
  clear P3 bl;go_wp2_with fail
  go_region_law (fail)
  all_goals (
   go_end0;exact pop_cut hb3.out hP3.out hS2.out)
 by_cases h38:c=38
 ·obtain ⟨c0,hc0⟩:∃ c0,c0=c:=⟨c,rfl⟩
  rw [← hc0] at hSh;rw [show ndOf c=[Nd.of 5] by rw [h38];rfl]
  subst h38;clear hc0;go_enter Tryz.func135,Tryz.ntmps135;go_wp2_with fail;refine ct.out.mono ?_;rintro e w1 ⟨rfl,hq⟩;have c2:=Hi (p_put (hP.out.qt hq) 5 hn);have hb1:=Hi (hq.below M);clear ct hq;go_wp2_with fail;refine c2.out.mono ?_;rintro e w2 ⟨rfl,hb2,vo2,vn2,P2⟩;clear c2;have hS2:=Hi (show (p.put (Nd.of 5)).opn=c0::S from hSh.out)
  obtain ⟨go,co,rfl⟩:=Go.Joins.ownsRow_form P2.oo (by rw [hS2.out];simp)
  have P3:=plen P2 hS2.out;clear P2;obtain ⟨bc,bl⟩:=pcap P3 hS2.out;have q2:=P3.c2;have f2:=P3.free 2;have hP3:=Hi P3;have hb3:=Hi (hb1.out.trans hb2);have bw:IntKind.i64.wrap (S.length:Int)=(S.length:Int):=IntWalk.i64_in _ (by unfold maxLen at bl;omega)
  have b2:(0:Int)≤(S.length:Int):=by omega
  have b3:(S.length:Int)≤(co:Int):=by omega
  clear P3 bl;go_wp2_with fail
  go_region_law (fail)
  all_goals (
   go_end0;exact pop_cut hb3.out hP3.out hS2.out)
 by_cases h124:c=124
 ·obtain ⟨c0,hc0⟩:∃ c0,c0=c:=⟨c,rfl⟩
  rw [← hc0] at hSh;rw [show ndOf c=[Nd.of 6] by rw [h124];rfl]
  subst h124;clear hc0;go_enter Tryz.func135,Tryz.ntmps135;go_wp2_with fail;refine ct.out.mono ?_;rintro e w1 ⟨rfl,hq⟩;have c2:=Hi (p_put (hP.out.qt hq) 6 hn);have hb1:=Hi (hq.below M);clear ct hq;go_wp2_with fail;refine c2.out.mono ?_;rintro e w2 ⟨rfl,hb2,vo2,vn2,P2⟩;clear c2;have hS2:=Hi (show (p.put (Nd.of 6)).opn=c0::S from hSh.out)
  obtain ⟨go,co,rfl⟩:=Go.Joins.ownsRow_form P2.oo (by rw [hS2.out];simp)
  have P3:=plen P2 hS2.out;clear P2;obtain ⟨bc,bl⟩:=pcap P3 hS2.out;have q2:=P3.c2;have f2:=P3.free 2;have hP3:=Hi P3;have hb3:=Hi (hb1.out.trans hb2);have bw:IntKind.i64.wrap (S.length:Int)=(S.length:Int):=IntWalk.i64_in _ (by unfold maxLen at bl;omega)
  have b2:(0:Int)≤(S.length:Int):=by omega
  have b3:(S.length:Int)≤(co:Int):=by omega
  clear P3 bl;go_wp2_with fail
  go_region_law (fail)
  all_goals (
   go_end0;exact pop_cut hb3.out hP3.out hS2.out)
 ·rw [show p.out++ndOf c=p.out by unfold ndOf;rw [if_neg h33,if_neg h38,if_neg h124];simp]
  have d33:((c:Int) == 33)=false:=by rw [beq_eq_false_iff_ne];omega
  have d38:((c:Int) == 38)=false:=by rw [beq_eq_false_iff_ne];omega
  have d124:((c:Int) == 124)=false:=by rw [beq_eq_false_iff_ne];omega
  obtain ⟨c0,hc0⟩:∃ c0,c0=c:=⟨c,rfl⟩
  rw [← hc0] at hSh;clear hc0 h33 h38 h124;go_enter Tryz.func135,Tryz.ntmps135;go_wp2_with fail;refine ct.out.mono ?_;rintro e w2 ⟨rfl,hq⟩;have P2:=hP.out.qt hq;have hb2:=Below.refl M w2;have hb1:=Hi (hq.below M);clear ct hq;have hS2:=Hi (show (p).opn=c0::S from hSh.out)
  obtain ⟨go,co,rfl⟩:=Go.Joins.ownsRow_form P2.oo (by rw [hS2.out];simp)
  have P3:=plen P2 hS2.out;clear P2;obtain ⟨bc,bl⟩:=pcap P3 hS2.out;have q2:=P3.c2;have f2:=P3.free 2;have hP3:=Hi P3;have hb3:=Hi (hb1.out.trans hb2);have bw:IntKind.i64.wrap (S.length:Int)=(S.length:Int):=IntWalk.i64_in _ (by unfold maxLen at bl;omega)
  have b2:(0:Int)≤(S.length:Int):=by omega
  have b3:(S.length:Int)≤(co:Int):=by omega
  clear P3 bl;go_wp2_with fail
  go_region_law (fail)
  all_goals (
   go_end0;exact pop_cut hb3.out hP3.out hS2.out)
def lenOf:Value→Nat
 | .slice _ n _=>n
 | _=>0
def muO (M:Nat)(w:World):Nat:=lenOf ((w.cell? ⟨M,2,none⟩).getD undef)
theorem own_lenOf {w:World}{b e z n:Nat}{v:Value}{xs:List Value}(h:w.ownsRow b e z v n xs):lenOf v=n:=by
 obtain ⟨_,h⟩:=h;rcases h with ⟨rfl,h⟩|⟨g,c,cur,rfl,_⟩
 ·exact h.symm
 ·rfl
theorem PlAt.mu {w:World}{M g cap:Nat}{l:List Tk}{p:Pl}{vo vn:Value}(P:PlAt w M g cap l p vo vn):muO M w=p.opn.length:=by
 unfold muO;rw [P.c2];exact own_lenOf P.oo
theorem pops_pop {p:Pl}{f:Nat→Bool}{c:Nat}{S:List Nat}(hS:p.opn=c::S)(hc:f c=true):p.pop.pops f=p.pops f:=by
 have ht:topN p=c:=by unfold topN;rw [hS];rfl
 unfold Pl.pops Pl.pop;dsimp only;rw [ht,hS];dsimp only [List.tail];rw [popW,if_pos hc]
theorem pops_stop {p:Pl}{f:Nat→Bool}(h:∀ c,p.opn.head?=some c→f c=false):p.pops f=p:=by
 obtain ⟨a,S,o,m,e⟩:=p;have:=popW_app f [] S o (fun c hc=>absurd hc (by simp)) h
 rw [List.nil_append] at this
 simp [Pl.pops,this,ndsOf]
theorem pop_lens (p:Pl)(h:p.opn≠[]):p.pop.opn.length+1=p.opn.length∧p.pop.out.length≤p.out.length+1:=by
 unfold Pl.pop;refine ⟨?_,?_⟩
 ·cases hS:p.opn with
  | nil=>exact absurd hS h
  | cons c S=>rfl
 ·rw [List.length_append];have:(ndOf (topN p)).length≤1:=by unfold ndOf;(repeat' split)<;>simp
  omega
attribute [local go_sem ↓] Go.wp_at_zero Go.wp_at_succ
theorem p_done {w:World}{M g cap:Nat}{l:List Tk}{p:Pl}{vo vn:Value}(P:PlAt w M g cap l p vo vn)(hn:p.out.length+p.opn.length≤1000000) :
  Calls Tryz.prog 105 #[.pointer (some ⟨M,0,none⟩)] w fun e w'=>PlPost w M g cap l p.done e w':=by
 have hP:=Hi P;clear P;go_enter Tryz.func105,Tryz.ntmps105;go_wp2_with fail
 go_loopw [] (fun wr=>∃ (q:Pl) (uo un:Value),Hid (PlAt wr M g cap l q uo un)∧Hid (q.done=p.done)∧q.out.length+q.opn.length≤1000000∧Hid (Below M w wr)) (fun wr=>muO M wr)
 case atStart=>exact ⟨p,vo,vn,hP,Hi rfl,hn,Hi (Below.refl _ _)⟩
 case round=>
  obtain ⟨q,uo,un,hQ,hR,hqn,hb⟩:=hrel;obtain ⟨wq,rfl⟩:∃ wq,wq=wr:=⟨_,rfl⟩
  have ct:=Hi (p_top hQ.out);have hmu:=Hi hQ.out.mu
  by_cases h33:topN q=33
  ·have hne:q.opn≠[]:=by intro h;unfold topN at h33;rw [h] at h33;cases h33
   obtain ⟨c,S,hS⟩:∃ c S,q.opn=c::S:=by
    cases h:q.opn with
    | nil=>exact absurd h hne
    | cons c S=>exact ⟨c,S,rfl⟩
   have hc:c=33:=by unfold topN at h33;rw [hS] at h33;exact h33
   have hRp:=Hi ((pops_pop hS (f:=fun c=>c == 33) (by rw [hc];rfl)).trans hR.out)
   obtain ⟨l1,l2⟩:=pop_lens q hne;rw [h33] at ct;clear hS hc h33 hR hP;go_wp2_with fail;refine ct.out.mono ?_;rintro e w1 ⟨rfl,hq⟩;have cp:=Hi (p_pop (hQ.out.qt hq) hne (by omega))
   have hb1:=Hi (hb.out.trans (hq.below M));clear ct hq hQ hne;go_wp2_with fail;refine cp.out.mono ?_;rintro e w2 ⟨rfl,hb2,vo2,vn2,P2⟩;have hm2:=Hi P2.mu;have hP2:=Hi P2;have hb2:=Hi (hb1.out.trans hb2);clear P2;go_wp2_with fail;exact ⟨⟨q.pop,vo2,vn2,hP2,hRp,by omega,hb2⟩,by rw [hm2.out,hmu.out];omega⟩
  ·have hd:=Hi ((pops_stop (p:=q) (f:=fun c=>c == 33) (fun c hc=>by
    rw [beq_eq_false_iff_ne];rintro rfl;apply h33;unfold topN;rw [List.headD_eq_head?_getD,hc];rfl)).symm.trans hR.out)
   have d33:((topN q:Int) == 33)=false:=by rw [beq_eq_false_iff_ne];omega
   clear h33 hR hP;go_wp2_with fail;refine ct.out.mono ?_;rintro e w1 ⟨rfl,hq⟩;have hP1:=Hi (hQ.out.qt hq);have hb1:=Hi (hb.out.trans (hq.below M));clear ct hq;go_wp2_with fail;go_end0;rw [← hd.out];exact ⟨rfl,hb1.out,_,_,hP1.out⟩
theorem cnt_take_succ (S:List Nat)(i:Nat)(x:Nat)(h:S[i]?=some x):cntO (S.take (i+1))=cntO (S.take i)+if isOpen x=true then 1 else 0:=by
 unfold cntO;rw [List.take_add_one,h,List.countP_append]
 simp [List.countP_cons]
theorem cnt_rev (S:List Nat):cntO S.reverse=cntO S:=by unfold cntO;exact List.countP_reverse
theorem p_deep {w:World}{M g cap:Nat}{l:List Tk}{p:Pl}{vo vn:Value}(P:PlAt w M g cap l p vo vn)(hn:p.opn.length≤1000000)(hby:∀ c∈p.opn,c<256) :
  Calls Tryz.prog 129 #[.pointer (some ⟨M,0,none⟩)] w fun e w'=>PlPost w M g cap l p.deep e w':=by
 have q2:=P.c2;have q1:=P.c1;have hoo:=P.oo;have hP:=Hi P;have hf:=Hi (p_fail P 53 p.at_);clear P;rcases Go.Joins.ownsRow_forms hoo with ⟨rfl,h0⟩|⟨go,co,rfl⟩
 ·have h0:p.opn=[]:=List.length_eq_zero_iff.1 (by
   have:=own_lenOf hoo;exact this.symm)
  have H:=Hi (show p.deep=p by unfold Pl.deep;rw [if_neg (by rw [h0];decide)])
  clear hoo h0 hf;go_enter Tryz.func129,Tryz.ntmps129;go_wp2_with fail
  go_loopw [2,3] (fun a b wr=>a=.int .i64 0∧b=.int .i64 0∧wr=w) (fun _ _ _=>0)
  case atStart=>exact ⟨rfl,rfl,rfl⟩
  case round=>
   obtain ⟨rfl,rfl,rfl⟩:=hrel;go_wp2_with fail;go_end0;rw [H.out];exact ⟨rfl,Below.refl _ _,_,_,hP.out⟩
 ·have hO:=Hi hoo;clear hoo;go_enter Tryz.func129,Tryz.ntmps129;go_wp2_with fail
  go_loopw [2,3] (fun a b wr=>∃ n i:Nat,a=.int .i64 n∧b=.int .i64 i∧i≤p.opn.length∧n≤i∧Hid (n=cntO (p.opn.reverse.take i))∧wr=w) (fun _ b _=>p.opn.length-(intOf b).toNat)
  case atStart=>exact ⟨0,0,rfl,rfl,by omega,by omega,Hi rfl,rfl⟩
  case round=>
   obtain ⟨n,i,rfl,rfl,hi,hni,hcn,rfl⟩:=hrel
   by_cases hlt:i<p.opn.length
   ·have b1:(i:Int)<(p.opn.length:Int):=by omega
    have b0:(0:Int)≤(i:Int):=by omega
    have hx:p.opn.reverse[i]?=some (p.opn.reverse[i]'(by simpa using hlt)):=List.getElem?_eq_getElem _
    have hxm:p.opn.reverse[i]'(by simpa using hlt)<256:=hby _ (by rw [← List.mem_reverse];exact List.getElem_mem _)
    generalize p.opn.reverse[i]'(by simpa using hlt)=x at hx hxm
    have e0:wr.cell? ⟨go,i,none⟩=some (.int .u8 x):=by rw [hO.out.cellAt _ (by omega)];unfold u8n;rw [List.getElem?_map,hx];rfl
    have hcs:=Hi ((cnt_take_succ p.opn.reverse i x hx).trans (by rw [← hcn.out]))
    have bw1:=wS i (by omega)
    have bw2:=wS n (by omega)
    clear hx hby
    by_cases h40:x=40
    ·have d40:((x:Int) == 40)=true:=by rw [h40];rfl
     have hc2:=Hi (hcs.out.trans (show _=n+1 by rw [h40];rfl))
     clear h40 hcs hcn;go_wp2_with fail
     go_roundw
     case rel=>exact ⟨n+1,i+1,by first|rfl|go_num,by first|rfl|go_num,hlt,by omega,Hi hc2.out.symm,trivial⟩
     case measure=>simp [intOf];omega
    ·have d40:((x:Int) == 40)=false:=by rw [beq_eq_false_iff_ne];omega
     by_cases h33:x=33
     ·have d33:((x:Int) == 33)=true:=by rw [h33];rfl
      have hc2:=Hi (hcs.out.trans (show _=n+1 by rw [h33];rfl))
      clear h40 h33 hcs hcn;go_wp2_with fail
      go_roundw
      case rel=>exact ⟨n+1,i+1,by first|rfl|go_num,by first|rfl|go_num,hlt,by omega,Hi hc2.out.symm,trivial⟩
      case measure=>simp [intOf];omega
     ·have d33:((x:Int) == 33)=false:=by rw [beq_eq_false_iff_ne];omega
      have hc2:=Hi (hcs.out.trans (show _=n by unfold isOpen;rw [if_neg (by simp [h40,h33])];rfl))
      clear h40 h33 hcs hcn;go_wp2_with fail
      go_roundw
      case rel=>exact ⟨n,i+1,by first|rfl|go_num,by first|rfl|go_num,hlt,by omega,Hi hc2.out.symm,trivial⟩
      case measure=>simp [intOf];omega
   ·have b1:¬ (i:Int)<(p.opn.length:Int):=by omega
    have hcf:n=cntO p.opn:=by rw [hcn.out,List.take_of_length_le (by simp;omega),cnt_rev]
    by_cases h32:32≤n
    ·have b32:(n:Int)≥32:=by omega
     have H:=Hi (show p.deep=p.fail 53 p.at_ by unfold Pl.deep;rw [if_pos (by omega)])
     clear hcn hcf h32 hO;go_wp2_with fail;refine hf.out.mono ?_;rintro e w1 ⟨rfl,hb,vo1,vn1,P1⟩;have hP1:=Hi P1;clear P1 hf hP;go_wp2_with fail;go_end0;rw [H.out];exact ⟨rfl,hb,_,_,hP1.out⟩
    ·have b32:¬ (n:Int)≥32:=by omega
     have H:=Hi (show p.deep=p by unfold Pl.deep;rw [if_neg (by omega)])
     clear hcn hcf h32 hO;go_wp2_with fail;go_end0;rw [H.out];exact ⟨rfl,Below.refl _ _,_,_,hP.out⟩
end Go.Proofs.YtjokciofeicdkaaGreatDoor
namespace Go.Proofs.YtjokciofeicdkaaGreatDoor
open Go.RowKit
attribute [local go_sem ↓] Go.wp_at_zero Go.wp_at_succ
theorem p_op {w:World}{M g cap:Nat}{l:List Tk}{p:Pl}{vo vn:Value}(P:PlAt w M g cap l p vo vn) :
  Calls Tryz.prog 165 #[.pointer (some ⟨M,0,none⟩)] w fun e w'=>e=.returned (.int .i64 (opS l p.at_))∧w=w':=by
 have q1:=P.c1;have cs:=Hi (fun (s:ByteArray)=>p_sign P.c0 P.toks p.at_ s)
 clear P
 cases b0:sgn l p.at_ ⟨#[61]⟩
 rotate_left
 ·have H2:=Hi (show opS l p.at_=1 by unfold opS;rw [if_pos b0])
  go_enter Tryz.func165,Tryz.ntmps165;go_wp2_with (go_at_call 128;refine (cs.out _).mono ?_;rintro e w' ⟨rfl,rfl⟩);go_ret;exact ⟨by rw [H2.out];rfl,rfl⟩
 cases b1:sgn l p.at_ ⟨#[33,61]⟩
 rotate_left
 ·have H2:=Hi (show opS l p.at_=2 by unfold opS;rw [if_neg (show ¬ sgn l p.at_ ⟨#[61]⟩=true by rw [b0];decide),if_pos b1])
  go_enter Tryz.func165,Tryz.ntmps165;go_wp2_with (go_at_call 128;refine (cs.out _).mono ?_;rintro e w' ⟨rfl,rfl⟩);go_ret;exact ⟨by rw [H2.out];rfl,rfl⟩
 cases b2:sgn l p.at_ ⟨#[60]⟩
 rotate_left
 ·have H2:=Hi (show opS l p.at_=3 by unfold opS;rw [if_neg (show ¬ sgn l p.at_ ⟨#[61]⟩=true by rw [b0];decide),if_neg (show ¬ sgn l p.at_ ⟨#[33,61]⟩=true by rw [b1];decide),if_pos b2])
  go_enter Tryz.func165,Tryz.ntmps165;go_wp2_with (go_at_call 128;refine (cs.out _).mono ?_;rintro e w' ⟨rfl,rfl⟩);go_ret;exact ⟨by rw [H2.out];rfl,rfl⟩
 cases b3:sgn l p.at_ ⟨#[60,61]⟩
 rotate_left
 ·have H2:=Hi (show opS l p.at_=4 by unfold opS;rw [if_neg (show ¬ sgn l p.at_ ⟨#[61]⟩=true by rw [b0];decide),if_neg (show ¬ sgn l p.at_ ⟨#[33,61]⟩=true by rw [b1];decide),if_neg (show ¬ sgn l p.at_ ⟨#[60]⟩=true by rw [b2];decide),if_pos b3])
  go_enter Tryz.func165,Tryz.ntmps165;go_wp2_with (go_at_call 128;refine (cs.out _).mono ?_;rintro e w' ⟨rfl,rfl⟩);go_ret;exact ⟨by rw [H2.out];rfl,rfl⟩
 cases b4:sgn l p.at_ ⟨#[62]⟩
 rotate_left
 ·have H2:=Hi (show opS l p.at_=5 by unfold opS;rw [if_neg (show ¬ sgn l p.at_ ⟨#[61]⟩=true by rw [b0];decide),if_neg (show ¬ sgn l p.at_ ⟨#[33,61]⟩=true by rw [b1];decide),if_neg (show ¬ sgn l p.at_ ⟨#[60]⟩=true by rw [b2];decide),if_neg (show ¬ sgn l p.at_ ⟨#[60,61]⟩=true by rw [b3];decide),if_pos b4])
  go_enter Tryz.func165,Tryz.ntmps165;go_wp2_with (go_at_call 128;refine (cs.out _).mono ?_;rintro e w' ⟨rfl,rfl⟩);go_ret;exact ⟨by rw [H2.out];rfl,rfl⟩
 cases b5:sgn l p.at_ ⟨#[62,61]⟩
 rotate_left
 ·have H2:=Hi (show opS l p.at_=6 by unfold opS;rw [if_neg (show ¬ sgn l p.at_ ⟨#[61]⟩=true by rw [b0];decide),if_neg (show ¬ sgn l p.at_ ⟨#[33,61]⟩=true by rw [b1];decide),if_neg (show ¬ sgn l p.at_ ⟨#[60]⟩=true by rw [b2];decide),if_neg (show ¬ sgn l p.at_ ⟨#[60,61]⟩=true by rw [b3];decide),if_neg (show ¬ sgn l p.at_ ⟨#[62]⟩=true by rw [b4];decide),if_pos b5])
  go_enter Tryz.func165,Tryz.ntmps165;go_wp2_with (go_at_call 128;refine (cs.out _).mono ?_;rintro e w' ⟨rfl,rfl⟩);go_ret;exact ⟨by rw [H2.out];rfl,rfl⟩
 ·have H2:=Hi (show opS l p.at_=0 by unfold opS;rw [if_neg (show ¬ sgn l p.at_ ⟨#[61]⟩=true by rw [b0];decide),if_neg (show ¬ sgn l p.at_ ⟨#[33,61]⟩=true by rw [b1];decide),if_neg (show ¬ sgn l p.at_ ⟨#[60]⟩=true by rw [b2];decide),if_neg (show ¬ sgn l p.at_ ⟨#[60,61]⟩=true by rw [b3];decide),if_neg (show ¬ sgn l p.at_ ⟨#[62]⟩=true by rw [b4];decide),if_neg (show ¬ sgn l p.at_ ⟨#[62,61]⟩=true by rw [b5];decide)])
  go_enter Tryz.func165,Tryz.ntmps165;go_wp2_with (go_at_call 128;refine (cs.out _).mono ?_;rintro e w' ⟨rfl,rfl⟩);go_ret;exact ⟨by rw [H2.out];rfl,rfl⟩
def TokSz (l:List Tk):Prop:=∀ (k:Nat) (t:Tk),l[k]?=some t→t.text.size≤16384
theorem make_at {p:Pl}:p.make1.at_=p.at_:=by
 unfold Pl.make1 Pl.fail;(repeat' split)<;>rfl
theorem make_out {p:Pl}:p.make1.out=p.out∧p.make1.opn=p.opn∧p.make1.made=p.made+1:=by
 unfold Pl.make1 Pl.fail;(repeat' split)<;>exact ⟨rfl,rfl,rfl⟩
theorem fail_out {p:Pl}{c:Int}{i:Nat}:(p.fail c i).out=p.out∧(p.fail c i).opn=p.opn∧(p.fail c i).made=p.made:=by
 unfold Pl.fail;split<;>exact ⟨rfl,rfl,rfl⟩
theorem p_plain {w:World}{M g cap:Nat}{l:List Tk}{p:Pl}{vo vn:Value}(P:PlAt w M g cap l p vo vn)(k:Int)(hm:p.made≤1000000)(hn:p.out.length≤1000000)(ha:p.at_≤1000000) :
  Calls Tryz.prog 131 #[.pointer (some ⟨M,0,none⟩),.int .i64 k] w fun e w'=>PlPost w M g cap l (p.plain k) e w':=by
 have c1:=Hi (p_make1 P hm);have hma:=make_at (p:=p);have hmo:=(make_out (p:=p)).1
 by_cases he:p.make1.e=0
 ·have H:=Hi (show p.plain k=Pl.step (p.make1.put (Nd.of k)) by unfold Pl.plain;rw [if_pos he])
  have H2:=Hi (show Pl.step (p.make1.put (Nd.of k))={ p.make1.put (Nd.of k) with at_:=p.make1.at_+1 } from step_ok he)
  generalize p.make1=m at *;have hma2:m.at_≤1000000:=by omega
  clear P hma;go_enter Tryz.func131,Tryz.ntmps131;go_wp2_with fail;refine c1.out.mono ?_;rintro e w1 ⟨rfl,hb1,vo1,vn1,P1⟩;have r5:=P1.c5;rw [he] at r5;have c2:=Hi (p_put P1 k (by rw [hmo];exact hn))
  clear P1 c1 he;go_wp2_with fail;refine c2.out.mono ?_;rintro e w2 ⟨rfl,hb2,vo2,vn2,P2⟩;have s1:w2.cell? ⟨M,1,none⟩=some (.int .i64 m.at_):=P2.c1;have f1:=P2.free 1;have bw:IntKind.i64.wrap ((m.at_:Int)+1)=(m.at_:Int)+1:=IntWalk.i64_in _ (by omega)
  have hP:=Hi P2;have hb:=Hi (hb1.trans hb2);clear P2 c2 r5;go_wp2_with fail;go_end0;rw [H.out,H2.out];exact ⟨rfl,hb.out.setCell (Nat.le_refl M) _,vo2,vn2,hP.out.setAt (m.at_+1)⟩
 ·have H:=Hi (show p.plain k=p.make1 by unfold Pl.plain;rw [if_neg he])
  have be:(p.make1.e == 0)=false:=by rw [beq_eq_false_iff_ne];exact he
  generalize p.make1=m at *;clear P;go_enter Tryz.func131,Tryz.ntmps131;go_wp2_with fail;refine c1.out.mono ?_;rintro e w1 ⟨rfl,hb1,vo1,vn1,P1⟩;have r5:=P1.c5;have hP:=Hi P1;clear P1 c1 he;go_wp2_with fail;go_end0;rw [H.out];exact ⟨rfl,hb1,vo1,vn1,hP.out⟩
theorem trit_of (c:UInt8):trit c=(c.toNat == 48 || c.toNat == 49 || c.toNat == 120):=u8_all (p:=trit) (q:=fun c=>c.toNat == 48 || c.toNat == 49 || c.toNat == 120) (by decide +kernel) c
theorem p_digitsFit (s:ByteArray)(w:World):Calls Tryz.prog 166 #[.string s] w fun e w'=>e=.returned (.bool (patS (bs s)))∧w=w':=by
 by_cases h1:s.size<1
 ·have H:=Hi (show patS (bs s)=false by unfold patS;rw [bs_length,decide_eq_false (by omega)];simp)
  have b1:(s.size:Int)<1:=by omega
  clear h1;go_enter Tryz.func166,Tryz.ntmps166;go_wp2_with fail;go_ret;exact ⟨by rw [H.out];rfl,rfl⟩
 have b1:¬ (s.size:Int)<1:=by omega
 by_cases h2:32<s.size
 ·have H:=Hi (show patS (bs s)=false by unfold patS;rw [bs_length,decide_eq_false (show ¬ s.size≤32 by omega)];simp)
  have b2:(s.size:Int)>32:=by omega
  clear h1 h2;go_enter Tryz.func166,Tryz.ntmps166;go_wp2_with fail;go_ret;exact ⟨by rw [H.out];rfl,rfl⟩
 have b2:¬ (s.size:Int)>32:=by omega
 have H:=Hi (show patS (bs s)=(bs s).all trit by unfold patS;rw [bs_length,decide_eq_true (show s.size≤32 by omega),decide_eq_true (show 0<s.size by omega)];simp)
 clear h1;go_enter Tryz.func166,Tryz.ntmps166;go_wp2_with fail
 go_loop [3] (fun a=>∃ m:Nat,m≤s.size∧a=.int .i64 m∧Hid (patS (bs s)=((bs s).drop m).all trit)) (fun a=>s.size-(intOf a).toNat)
 case atStart=>exact ⟨0,Nat.zero_le _,rfl,Hi (H.out.trans rfl)⟩
 case round=>
  obtain ⟨m,hm,rfl,hR⟩:=hrel
  by_cases hlt:m<s.size
  ·have hd:=bs_drop s m hlt;have ht:=trit_of s[m];have hR1:=Hi (hR.out.trans (show _=(trit s[m] && ((bs s).drop (m+1)).all trit) by rw [hd];rfl))
   rw [ht] at hR1
   by_cases e48:s[m].toNat=48
   ·have hR2:=Hi (hR1.out.trans (show _=((bs s).drop (m+1)).all trit by rw [e48];rfl))
    have d48:((s[m].toNat:Int) != 48)=false:=by rw [e48];rfl
    clear hR hR1 hd ht e48;go_wp2_with fail
    go_round
    case rel=>exact ⟨m+1,by omega,by go_num,hR2⟩
    case measure=>simp [intOf];omega
   have d48:((s[m].toNat:Int) != 48)=true:=by simp;omega
   by_cases e49:s[m].toNat=49
   ·have hR2:=Hi (hR1.out.trans (show _=((bs s).drop (m+1)).all trit by rw [e49];rfl))
    have d49:((s[m].toNat:Int) != 49)=false:=by rw [e49];rfl
    clear hR hR1 hd ht e49 e48;go_wp2_with fail
    go_round
    case rel=>exact ⟨m+1,by omega,by go_num,hR2⟩
    case measure=>simp [intOf];omega
   have d49:((s[m].toNat:Int) != 49)=true:=by simp;omega
   by_cases e120:s[m].toNat=120
   ·have hR2:=Hi (hR1.out.trans (show _=((bs s).drop (m+1)).all trit by rw [e120];rfl))
    have d120:((s[m].toNat:Int) != 120)=false:=by rw [e120];rfl
    clear hR hR1 hd ht e49 e48 e120;go_wp2_with fail
    go_round
    case rel=>exact ⟨m+1,by omega,by go_num,hR2⟩
    case measure=>simp [intOf];omega
   have d120:((s[m].toNat:Int) != 120)=true:=by simp;omega
   have hR2:=Hi (hR1.out.trans (show _=false by simp [e48,e49,e120]))
   clear hR hR1 hd ht e49 e48 e120;go_wp2_with fail;go_ret;exact ⟨by rw [hR2.out];rfl,rfl⟩
  ·have hR2:=Hi (hR.out.trans (show _=true by rw [bs_drop_end s m hlt];rfl))
   go_wp2_with fail;go_ret;exact ⟨by rw [hR2.out];rfl,rfl⟩
theorem PlAt.pushOpn {w w1:World}{M g cap:Nat}{l:List Tk}{p:Pl}{vo vn v':Value}{S:List Nat}(P:PlAt w M g cap l p vo vn){H H':Nat}(hg:w.grownBy w1 vo.ownBlock)(hH:w.heap.size≤H)
  (hat:vo.ownBlock=some H'∨H'=H) (hv:v'.ownBlock=some H') (ho:w1.ownsRow (M+1) 5 1 v' S.length (u8n S)):PlAt (w1.setCell ⟨M,2,none⟩ v') M g cap l { p with opn:=S } v' vn where
 box:=by
  have h1:w1.heap[M]?=w.heap[M]?:=hg.block M P.lt (fun e=>P.ne_box.2 e.symm)
  have:=h1.trans P.box
  simp [World.setCell,Array.getElem?_modify,this,PlBox]
 gM:=P.gM
 toks:=by
  refine TokIn.below (L:=M) ⟨Nat.lt_of_lt_of_le P.toks.1 hg.size,fun k t hk j u hj=>?_⟩ (Below.setCell (Below.refl M w1) (Nat.le_refl M) _) P.gM
  exact hg.cell (P.toks.2 k t hk j u hj) (fun e=>by have:=(P.oo.lt g e.symm).1;have:=P.gM;omega)
 oo:=ownsRow_setCell_below ho (Nat.lt_succ_self M) _
 on:=ownsRow_setCell_below (P.on.kept hg P.ne) (Nat.lt_succ_self M) _
 ne:=by
  rcases P.ne with h|h
  ·exact .inl h
  ·refine .inr fun e=>?_
   rw [hv] at e;rcases hat with h3|h3
   ·exact h (e.trans h3.symm)
   ·have:=(P.on.lt H' e).2;omega
def PbPost (w:World)(M g cap:Nat)(l:List Tk)(q:Bool×Pl)(e:Ending)(w':World):Prop:=e=.returned (.bool q.1)∧Below M w w'∧∃ vo vn,PlAt w' M g cap l q.2 vo vn
theorem p_operand_no {w:World}{M g cap:Nat}{l:List Tk}{p:Pl}{vo vn:Value}(P:PlAt w M g cap l p vo vn)(hz:TokSz l)(he:p.e=0)
  (h1:sgn l p.at_ sNot=false) (h2:sgn l p.at_ sOpen=false) (h3:wordAt l p.at_=false) :
  Calls Tryz.prog 104 #[.pointer (some ⟨M,0,none⟩)] w fun e w'=>PbPost w M g cap l (p.operand l) e w':=by
 have q0:=P.c0;have q1:=P.c1;have hP:=Hi P
 have H:=Hi (show p.operand l=(false,p.fail 50 p.at_) by
  unfold Pl.operand;rw [if_neg (by rw [h1];decide),if_neg (by rw [h2];decide),if_neg (by rw [h3];decide),step_bad (by unfold Pl.fail;rw [if_pos he];show (50:Int)≠0;decide)])
 have hfe:(p.fail 50 p.at_).e=50:=by unfold Pl.fail;rw [if_pos he]
 have cs:=Hi (fun (w':World) (hq:Qt w w') (s:ByteArray)=>p_sign (P.qt hq).c0 (P.toks.qt hq) p.at_ s)
 have hf:=Hi (fun (w':World) (hq:Qt w w')=>p_fail (P.qt hq) 50 p.at_)
 by_cases hi:p.at_<l.length
 ·have ht:l[p.at_]?=some l[p.at_]:=List.getElem?_eq_getElem hi;generalize l[p.at_]=t at ht;have e0:w.cell? ⟨g,p.at_*4,none⟩=some (.int .i64 t.kind):=P.toks.2 p.at_ t ht 0 _ rfl;have e1:w.cell? ⟨g,p.at_*4+1,none⟩=some (.string t.text):=P.toks.2 p.at_ t ht 1 _ rfl;have hw:wordAt l p.at_=(t.kind == 2 && isName (bs t.text)):=by unfold wordAt kindIs textAt;rw [ht]
  have hts:=hz _ _ ht;have b1:decide (p.at_<l.length)=true:=decide_eq_true hi;have b2:(p.at_:Int)<(l.length:Int):=by omega
  have b3:(0:Int)≤(p.at_:Int):=by omega
  by_cases hk:t.kind=2
  ·have bk:(t.kind == 2)=true:=by rw [hk];rfl
   have hnm:isName (bs t.text)=false:=by rw [h3,bk] at hw;simpa using hw.symm
   have cn:=Hi (show ∀ w',Calls Tryz.prog 57 #[.string t.text] w' fun e w''=>e=.returned (.bool false)∧w''=w' from fun w'=>by
    have:=name_any t.text w' (by omega);rw [hnm] at this;exact this.mono (fun _ _ h=>⟨h.1,h.2.symm⟩))
   clear P hz h3 hw hk ht hts hi hnm he;go_enter Tryz.func104,Tryz.ntmps104;go_wp2_with fail;go_quiet (exact Calls.quiet_of_same (cn.out _));go_wp2_with (go_at_call 128;refine (cs.out _ (Qt.self w _) _).mono ?_;rintro e w' ⟨rfl,rfl⟩);go_quiet (fail);go_wp2_with fail;go_quiet (fail);go_wp2_with fail;refine (hf.out _ (Qt.self w _)).mono ?_;rintro e w1 ⟨rfl,hb,vo1,vn1,P1⟩;have r5:=P1.c5;rw [hfe] at r5;have hP1:=Hi P1;have hb1:=Hi (((Qt.self w _).below M).trans hb);clear P1 hf cs hb;go_wp2_with fail;go_ret;rw [H.out];exact ⟨rfl,hb1.out,_,_,hP1.out⟩
  ·have bk:(t.kind == 2)=false:=by rw [beq_eq_false_iff_ne];exact hk
   clear P hz h3 hw hk ht hts hi he;go_enter Tryz.func104,Tryz.ntmps104;go_wp2_with fail;go_quiet (fail);go_wp2_with (go_at_call 128;refine (cs.out _ (Qt.self w _) _).mono ?_;rintro e w' ⟨rfl,rfl⟩);go_quiet (fail);go_wp2_with fail;go_quiet (fail);go_wp2_with fail;refine (hf.out _ (Qt.self w _)).mono ?_;rintro e w1 ⟨rfl,hb,vo1,vn1,P1⟩;have r5:=P1.c5;rw [hfe] at r5;have hP1:=Hi P1;have hb1:=Hi (((Qt.self w _).below M).trans hb);clear P1 hf cs hb;go_wp2_with fail;go_ret;rw [H.out];exact ⟨rfl,hb1.out,_,_,hP1.out⟩
 ·have b1:decide (p.at_<l.length)=false:=decide_eq_false hi;clear P hz h3 hi he;go_enter Tryz.func104,Tryz.ntmps104;go_wp2_with fail;go_quiet (fail);go_wp2_with (go_at_call 128;refine (cs.out _ (Qt.self w _) _).mono ?_;rintro e w' ⟨rfl,rfl⟩);go_quiet (fail);go_wp2_with fail;go_quiet (fail);go_wp2_with fail;refine (hf.out _ (Qt.self w _)).mono ?_;rintro e w1 ⟨rfl,hb,vo1,vn1,P1⟩;have r5:=P1.c5;rw [hfe] at r5;have hP1:=Hi P1;have hb1:=Hi (((Qt.self w _).below M).trans hb);clear P1 hf cs hb;go_wp2_with fail;go_ret;rw [H.out];exact ⟨rfl,hb1.out,_,_,hP1.out⟩
theorem deep_lens {p:Pl}:p.deep.out=p.out∧p.deep.opn=p.opn∧p.deep.made=p.made∧p.deep.at_=p.at_:=by
 unfold Pl.deep Pl.fail;(repeat' split)<;>exact ⟨rfl,rfl,rfl,rfl⟩
theorem push_done {w2 w4:World}{M g cap g' cap' c:Nat}{l:List Tk}{q:Pl}{vo vn:Value}(P:PlAt w2 M g cap l q vo vn)(hg:(w2.alloc (.cells #[.int .u8 c] 5 (0,0))).grownBy w4 vo.ownBlock)
  (hat:vo.ownBlock=some g'∨g'=w2.heap.size+1) (ho:w4.ownsRow (M+1) 5 1 (.slice (some ⟨g',0,none⟩) (q.opn.length+1) cap') (q.opn.length+1) (u8n q.opn++[.int .u8 c])) :
  PlAt (w4.setCell ⟨M,2,none⟩ (.slice (some ⟨g',0,none⟩) (q.opn.length+1) cap')) M g cap l (q.push c) (.slice (some ⟨g',0,none⟩) (q.opn.length+1) cap') vn ∧
  Below M w2 (w4.setCell ⟨M,2,none⟩ (.slice (some ⟨g',0,none⟩) (q.opn.length+1) cap')):=by
 have P1:=P.up ((Below.refl _ w2).alloc (Nat.le_refl _) (.cells #[.int .u8 c] 5 (0,0)));refine ⟨P1.pushOpn (S:=c::q.opn) hg (Nat.le_refl _) (hat.imp_right (fun h=>h.trans (by simp))) rfl (by rw [u8n_cons];exact ho),?_⟩
 exact (((Below.refl M w2).alloc (Nat.le_of_lt P.lt) _).grown hg (Nat.le_of_lt P1.lt) (fun i hi=>by have:=(P.oo.lt i hi).1;omega)).setCell (Nat.le_refl M) _
theorem p_operand_not {w:World}{M g cap:Nat}{l:List Tk}{p:Pl}{vo vn:Value}(P:PlAt w M g cap l p vo vn)(hl:p.at_≤1000000)(hm:p.made≤1000000)(hn:p.opn.length≤1000000)(hby:∀ c∈p.opn,c<256)
  (h1:sgn l p.at_ sNot=true) :
  Calls Tryz.prog 104 #[.pointer (some ⟨M,0,none⟩)] w fun e w'=>PbPost w M g cap l (p.operand l) e w':=by
 have q0:=P.c0;have q1:=P.c1;have hP:=Hi P;have H:=Hi (show p.operand l=(false,(p.deep.make1.push 33).step) by unfold Pl.operand;rw [if_pos h1])
 have cs:=Hi (fun (w':World) (hq:Qt w w') (s:ByteArray)=>p_sign (P.qt hq).c0 (P.toks.qt hq) p.at_ s)
 have cd:=Hi (fun (w':World) (hq:Qt w w')=>p_deep (P.qt hq) hn hby)
 obtain ⟨i0,hi0,hz0,hz1,hz2⟩:=info_parts byte_info;have hi0:=Hi hi0;have hz0:=Hi hz0;have hz1:=Hi hz1;have hz2:=Hi hz2;have hi:=sgn_lt h1;have ht:l[p.at_]?=some l[p.at_]:=List.getElem?_eq_getElem hi;generalize l[p.at_]=t at ht;have e0:w.cell? ⟨g,p.at_*4,none⟩=some (.int .i64 t.kind):=P.toks.2 p.at_ t ht 0 _ rfl;have hk:t.kind=7:=by unfold sgn at h1;rw [ht] at h1;simp only [Bool.and_eq_true,beq_iff_eq] at h1;exact h1.1
 have bk:(t.kind == 2)=false:=by rw [hk];rfl
 have b1:decide (p.at_<l.length)=true:=decide_eq_true hi;have b2:(p.at_:Int)<(l.length:Int):=by omega
 have b3:(0:Int)≤(p.at_:Int):=by omega
 obtain ⟨d1,d2,d3,d4⟩:=deep_lens (p:=p);clear P ht hk hi;go_enter Tryz.func104,Tryz.ntmps104;go_wp2_with fail;go_quiet (fail);go_wp2_with (go_at_call 128;refine (cs.out _ (Qt.self w _) _).mono ?_;rintro e w' ⟨rfl,rfl⟩);refine (cd.out _ (Qt.self w _)).mono ?_;rintro e w1 ⟨rfl,hb,vo1,vn1,P1⟩;have hb1:=Hi (((Qt.self w _).below M).trans hb);have cm:=Hi (p_make1 P1 (by rw [d3];exact hm))
 obtain ⟨m1,m2,m3⟩:=make_out (p:=p.deep);have m4:=make_at (p:=p.deep);rw [d1] at m1;rw [d2] at m2;rw [d4] at m4;generalize p.deep.make1=q at *;clear P1 cd cs hb q0 q1 e0 d1 d2 d3 d4 m3 hm;go_wp2_with fail;refine cm.out.mono ?_;rintro e w2 ⟨rfl,hb2,vo2,vn2,P2⟩;have hb2:=Hi (hb1.out.trans hb2);have q2:=P2.c2;have f2:=P2.free 2;have hO:=Hi P2.oo;have hP2:=Hi P2;have hql:q.opn.length≤1000000:=by rw [m2];exact hn
 clear P2 cm m2 hby;go_upto_region 21 with (at_builtin;refine wpList_append_lies _ rfl (.tmp 63) (.tmp 64) _ rfl (M+1) 5 i0 _ 1 1 Tryz.underlying144 hi0.out hz0.out hz1.out hz2.out rfl (by decide) vo2 q.opn.length (u8n q.opn) rfl (hO.out.alloc _) ⟨w2.heap.size,0,none⟩ 1 1 [.int .u8 33] rfl rfl (World.news_of_block (heap_alloc_new w2 _)) (by intro u hu;simp only [List.mem_cons,List.not_mem_nil,or_false] at hu;rcases hu with rfl;rfl) (by decide) (by unfold maxLen;omega) (by omega) (by have:=hP2.out.lt;simp;omega) (w2.heap.size+1) (by simp) ?_;intro g' cap' w4 hown4 hg4 hat4 hlt4;have P1:=hP2.out.up ((Below.refl _ w2).alloc (Nat.le_refl _) (.cells #[.int .u8 33] 5 (0,0)));have q24:=hg4.cell P1.c2 (fun e=>P1.ne_box.2 e.symm);have f24:=(hg4.frozen_far (a:=⟨M,2,none⟩) P1.lt (fun e=>P1.ne_box.2 e.symm)).trans (P1.free 2);have hown5:=Hi hown4;have hg5:=Hi hg4;clear P1 hown4 hg4)
 obtain ⟨P3,hb3⟩:=push_done hP2.out hg5.out hat4 hown5.out;have hb3:=Hi (hb2.out.trans hb3);generalize w4.setCell ⟨M,2,none⟩ (.slice (some ⟨g',0,none⟩) (q.opn.length+1) cap')=W at *;have r5:W.cell? ⟨M,5,none⟩=some (.int .i64 q.e):=P3.c5;have r1:W.cell? ⟨M,1,none⟩=some (.int .i64 q.at_):=P3.c1;have g1:=P3.free 1;have hql:q.at_≤1000000:=by omega
 have hP3:=Hi P3;clear P3 q24 f24 q2 f2 hg5 hown5 hat4 hO hP2 hP m1 m4
 by_cases he:q.e=0
 ·have H2:=Hi (H.out.trans (show _=(false,{ q.push 33 with at_:=q.at_+1 }) by rw [step_ok (p:=q.push 33) he];rfl))
  have bw:IntKind.i64.wrap ((q.at_:Int)+1)=(q.at_:Int)+1:=IntWalk.i64_in _ (by omega)
  rw [he] at r5;clear H he;go_wp2_with fail
  (try simp only [Exit.inBlock,Exit.then])
  go_ret;rw [H2.out];exact ⟨rfl,hb3.out.setCell (Nat.le_refl M) _,_,_,hP3.out.setAt (q.at_+1)⟩
 ·have H2:=Hi (H.out.trans (show _=(false,q.push 33) by rw [step_bad (p:=q.push 33) he]))
  have be:(q.e == 0)=false:=by rw [beq_eq_false_iff_ne];exact he
  clear H he;go_wp2_with fail
  (try simp only [Exit.inBlock,Exit.then])
  go_ret;rw [H2.out];exact ⟨rfl,hb3.out,_,_,hP3.out⟩
theorem p_operand_open {w:World}{M g cap:Nat}{l:List Tk}{p:Pl}{vo vn:Value}(P:PlAt w M g cap l p vo vn)(hl:p.at_≤1000000)(hn:p.opn.length≤1000000)(hby:∀ c∈p.opn,c<256)
  (h0:sgn l p.at_ sNot=false) (h1:sgn l p.at_ sOpen=true) :
  Calls Tryz.prog 104 #[.pointer (some ⟨M,0,none⟩)] w fun e w'=>PbPost w M g cap l (p.operand l) e w':=by
 have q0:=P.c0;have q1:=P.c1;have hP:=Hi P;have H:=Hi (show p.operand l=(false,(p.deep.push 40).step) by unfold Pl.operand;rw [if_neg (by rw [h0];decide),if_pos h1])
 have cs:=Hi (fun (w':World) (hq:Qt w w') (s:ByteArray)=>p_sign (P.qt hq).c0 (P.toks.qt hq) p.at_ s)
 have cd:=Hi (fun (w':World) (hq:Qt w w')=>p_deep (P.qt hq) hn hby)
 obtain ⟨i0,hi0,hz0,hz1,hz2⟩:=info_parts byte_info;have hi0:=Hi hi0;have hz0:=Hi hz0;have hz1:=Hi hz1;have hz2:=Hi hz2;have hi:=sgn_lt h1;have ht:l[p.at_]?=some l[p.at_]:=List.getElem?_eq_getElem hi;generalize l[p.at_]=t at ht;have e0:w.cell? ⟨g,p.at_*4,none⟩=some (.int .i64 t.kind):=P.toks.2 p.at_ t ht 0 _ rfl;have hk:t.kind=7:=by unfold sgn at h1;rw [ht] at h1;simp only [Bool.and_eq_true,beq_iff_eq] at h1;exact h1.1
 have bk:(t.kind == 2)=false:=by rw [hk];rfl
 have b1:decide (p.at_<l.length)=true:=decide_eq_true hi;have b2:(p.at_:Int)<(l.length:Int):=by omega
 have b3:(0:Int)≤(p.at_:Int):=by omega
 obtain ⟨d1,d2,d3,d4⟩:=deep_lens (p:=p);clear P ht hk hi;go_enter Tryz.func104,Tryz.ntmps104;go_wp2_with fail;go_quiet (fail);go_wp2_with (go_at_call 128;refine (cs.out _ (Qt.self w _) _).mono ?_;rintro e w' ⟨rfl,rfl⟩);refine (cd.out _ (Qt.self w _)).mono ?_;rintro e w1 ⟨rfl,hb,vo1,vn1,P1⟩;have hb1:=Hi (((Qt.self w _).below M).trans hb);generalize p.deep=q at *;have P2:=P1;have hb2:=hb1;clear P1 cd cs hb q0 q1 e0 d1 d3;have q2:=P2.c2;have f2:=P2.free 2;have hO:=Hi P2.oo;have hP2:=Hi P2;have hql:q.opn.length≤1000000:=by rw [d2];exact hn
 clear P2 d2 hby;go_upto_region 21 with (at_builtin;refine wpList_append_lies _ rfl (.tmp 81) (.tmp 82) _ rfl (M+1) 5 i0 _ 1 1 Tryz.underlying144 hi0.out hz0.out hz1.out hz2.out rfl (by decide) vo1 q.opn.length (u8n q.opn) rfl (hO.out.alloc _) ⟨w1.heap.size,0,none⟩ 1 1 [.int .u8 40] rfl rfl (World.news_of_block (heap_alloc_new w1 _)) (by intro u hu;simp only [List.mem_cons,List.not_mem_nil,or_false] at hu;rcases hu with rfl;rfl) (by decide) (by unfold maxLen;omega) (by omega) (by have:=hP2.out.lt;simp;omega) (w1.heap.size+1) (by simp) ?_;intro g' cap' w4 hown4 hg4 hat4 hlt4;have P1:=hP2.out.up ((Below.refl _ w1).alloc (Nat.le_refl _) (.cells #[.int .u8 40] 5 (0,0)));have q24:=hg4.cell P1.c2 (fun e=>P1.ne_box.2 e.symm);have f24:=(hg4.frozen_far (a:=⟨M,2,none⟩) P1.lt (fun e=>P1.ne_box.2 e.symm)).trans (P1.free 2);have hown5:=Hi hown4;have hg5:=Hi hg4;clear P1 hown4 hg4)
 obtain ⟨P3,hb3⟩:=push_done hP2.out hg5.out hat4 hown5.out;have hb3:=Hi (hb2.out.trans hb3);generalize w4.setCell ⟨M,2,none⟩ (.slice (some ⟨g',0,none⟩) (q.opn.length+1) cap')=W at *;have r5:W.cell? ⟨M,5,none⟩=some (.int .i64 q.e):=P3.c5;have r1:W.cell? ⟨M,1,none⟩=some (.int .i64 q.at_):=P3.c1;have g1:=P3.free 1;have hql:q.at_≤1000000:=by omega
 have hP3:=Hi P3;clear P3 q24 f24 q2 f2 hg5 hown5 hat4 hO hP2 hP d4
 by_cases he:q.e=0
 ·have H2:=Hi (H.out.trans (show _=(false,{ q.push 40 with at_:=q.at_+1 }) by rw [step_ok (p:=q.push 40) he];rfl))
  have bw:IntKind.i64.wrap ((q.at_:Int)+1)=(q.at_:Int)+1:=IntWalk.i64_in _ (by omega)
  rw [he] at r5;clear H he;go_wp2_with fail
  (try simp only [Exit.inBlock,Exit.then])
  go_ret;rw [H2.out];exact ⟨rfl,hb3.out.setCell (Nat.le_refl M) _,_,_,hP3.out.setAt (q.at_+1)⟩
 ·have H2:=Hi (H.out.trans (show _=(false,q.push 40) by rw [step_bad (p:=q.push 40) he]))
  have be:(q.e == 0)=false:=by rw [beq_eq_false_iff_ne];exact he
  clear H he;go_wp2_with fail
  (try simp only [Exit.inBlock,Exit.then])
  go_ret;rw [H2.out];exact ⟨rfl,hb3.out,_,_,hP3.out⟩
theorem any_eq (s:ByteArray):(s.toList == [97,110,121])=decide (s=tAny):=by
 rw [← ba_beq,ByteArray.toList_eq tAny]
theorem none_eq (s:ByteArray):(s.toList == [110,111,110,101])=decide (s=tNone):=by
 rw [← ba_beq,ByteArray.toList_eq tNone]
theorem word_at {l:List Tk}{i:Nat}(h:wordAt l i=true):∃ t,l[i]?=some t∧t.kind=2∧isName (bs t.text)=true∧textAt l i=t.text∧i<l.length:=by
 unfold wordAt kindIs textAt at h;unfold textAt
 cases ht:l[i]? with
 | none=>rw [ht] at h;cases h
 | some t=>
   rw [ht] at h;simp only [Bool.and_eq_true,beq_iff_eq] at h;exact ⟨t,rfl,h.1,h.2,rfl,(List.getElem?_eq_some_iff.1 ht).1⟩
theorem p_operand_any {w:World}{M g cap:Nat}{l:List Tk}{p:Pl}{vo vn:Value}(P:PlAt w M g cap l p vo vn)(hz:TokSz l)(hl:p.at_≤1000000)(hm:p.made≤1000000)(hn:p.out.length≤1000000)
  (h1:sgn l p.at_ sNot=false) (h2:sgn l p.at_ sOpen=false) (h3:wordAt l p.at_=true) (h4:textAt l p.at_=tAny) :
  Calls Tryz.prog 104 #[.pointer (some ⟨M,0,none⟩)] w fun e w'=>PbPost w M g cap l (p.operand l) e w':=by
 have q0:=P.c0;have q1:=P.c1
 have H:=Hi (show p.operand l=(true,p.plain 1) by
  unfold Pl.operand;rw [if_neg (by rw [h1];decide),if_neg (by rw [h2];decide),if_pos h3,if_pos h4])
 have cs:=Hi (fun (w':World) (hq:Qt w w') (s:ByteArray)=>p_sign (P.qt hq).c0 (P.toks.qt hq) p.at_ s)
 have cp:=Hi (fun (w':World) (hq:Qt w w')=>p_plain (P.qt hq) 1 hm hn hl)
 obtain ⟨t,ht,hk,hnm,htx,hi⟩:=word_at h3;have e0:w.cell? ⟨g,p.at_*4,none⟩=some (.int .i64 t.kind):=P.toks.2 p.at_ t ht 0 _ rfl;have e1:w.cell? ⟨g,p.at_*4+1,none⟩=some (.string t.text):=P.toks.2 p.at_ t ht 1 _ rfl;have b1:decide (p.at_<l.length)=true:=decide_eq_true hi;have b2:(p.at_:Int)<(l.length:Int):=by omega
 have b3:(0:Int)≤(p.at_:Int):=by omega
 have bk:(t.kind == 2)=true:=by rw [hk];rfl
 have hts:=hz _ _ ht
 have cn:=Hi (show ∀ w',Calls Tryz.prog 57 #[.string t.text] w' fun e w''=>e=.returned (.bool true)∧w''=w' from fun w'=>by
  have:=name_any t.text w' (by omega);rw [hnm] at this;exact this.mono (fun _ _ h=>⟨h.1,h.2.symm⟩))
 rw [htx] at h4;have bA:(t.text.toList == [97,110,121])=true:=by rw [any_eq,h4];rfl
 clear P hz h3 h4 hk ht hts hi hnm htx;go_enter Tryz.func104,Tryz.ntmps104;go_wp2_with fail;go_quiet (exact Calls.quiet_of_same (cn.out _));go_wp2_with (go_at_call 128;refine (cs.out _ (Qt.self w _) _).mono ?_;rintro e w' ⟨rfl,rfl⟩);go_quiet (fail);go_wp2_with fail;refine (cp.out _ (Qt.self w _)).mono ?_;rintro e w1 ⟨rfl,hb,vo1,vn1,P1⟩;have hP1:=Hi P1;have hb1:=Hi (((Qt.self w _).below M).trans hb);clear P1 cp cs hb;go_wp2_with fail;go_ret;rw [H.out];exact ⟨rfl,hb1.out,_,_,hP1.out⟩
theorem p_operand_none {w:World}{M g cap:Nat}{l:List Tk}{p:Pl}{vo vn:Value}(P:PlAt w M g cap l p vo vn)(hz:TokSz l)(hl:p.at_≤1000000)(hm:p.made≤1000000)(hn:p.out.length≤1000000)
  (h1:sgn l p.at_ sNot=false) (h2:sgn l p.at_ sOpen=false) (h3:wordAt l p.at_=true) (h0:textAt l p.at_≠tAny) (h4:textAt l p.at_=tNone) :
  Calls Tryz.prog 104 #[.pointer (some ⟨M,0,none⟩)] w fun e w'=>PbPost w M g cap l (p.operand l) e w':=by
 have q0:=P.c0;have q1:=P.c1
 have H:=Hi (show p.operand l=(true,p.plain 2) by
  unfold Pl.operand;rw [if_neg (by rw [h1];decide),if_neg (by rw [h2];decide),if_pos h3,if_neg h0,if_pos h4])
 have cs:=Hi (fun (w':World) (hq:Qt w w') (s:ByteArray)=>p_sign (P.qt hq).c0 (P.toks.qt hq) p.at_ s)
 have cp:=Hi (fun (w':World) (hq:Qt w w')=>p_plain (P.qt hq) 2 hm hn hl)
 obtain ⟨t,ht,hk,hnm,htx,hi⟩:=word_at h3;have e0:w.cell? ⟨g,p.at_*4,none⟩=some (.int .i64 t.kind):=P.toks.2 p.at_ t ht 0 _ rfl;have e1:w.cell? ⟨g,p.at_*4+1,none⟩=some (.string t.text):=P.toks.2 p.at_ t ht 1 _ rfl;have b1:decide (p.at_<l.length)=true:=decide_eq_true hi;have b2:(p.at_:Int)<(l.length:Int):=by omega
 have b3:(0:Int)≤(p.at_:Int):=by omega
 have bk:(t.kind == 2)=true:=by rw [hk];rfl
 have hts:=hz _ _ ht
 have cn:=Hi (show ∀ w',Calls Tryz.prog 57 #[.string t.text] w' fun e w''=>e=.returned (.bool true)∧w''=w' from fun w'=>by
  have:=name_any t.text w' (by omega);rw [hnm] at this;exact this.mono (fun _ _ h=>⟨h.1,h.2.symm⟩))
 rw [htx] at h4;have bA:(t.text.toList == [97,110,121])=false:=by rw [any_eq,h4];rfl
 have bN:(t.text.toList == [110,111,110,101])=true:=by rw [none_eq,h4];rfl
 clear P hz h3 h0 h4 hk ht hts hi hnm htx;go_enter Tryz.func104,Tryz.ntmps104;go_wp2_with fail;go_quiet (exact Calls.quiet_of_same (cn.out _));go_wp2_with (go_at_call 128;refine (cs.out _ (Qt.self w _) _).mono ?_;rintro e w' ⟨rfl,rfl⟩);go_quiet (fail);go_wp2_with fail;go_quiet (fail);go_wp2_with fail;refine (cp.out _ (Qt.self w _)).mono ?_;rintro e w1 ⟨rfl,hb,vo1,vn1,P1⟩;have hP1:=Hi P1;have hb1:=Hi (((Qt.self w _).below M).trans hb);clear P1 cp cs hb;go_wp2_with fail;go_ret;rw [H.out];exact ⟨rfl,hb1.out,_,_,hP1.out⟩
theorem any_take_succ (S:List Nat)(i x:Nat)(h:S[i]?=some x):(S.take (i+1)).any (· == 40)=((S.take i).any (· == 40) || x == 40):=by
 rw [List.take_add_one,h,List.any_append];simp
theorem any_has (S:List Nat):S.reverse.any (· == 40)=S.contains 40:=by
 rw [List.any_reverse,Bool.eq_iff_iff];simp
theorem cut_at {w1:World}{M g cap go co c:Nat}{l:List Tk}{p:Pl}{S:List Nat}{vn:Value}(P:PlAt w1 M g cap l p (.slice (some ⟨go,0,none⟩) (S.length+1) co) vn)(hS:p.opn=c::S) :
  PlAt ((w1.setCell ⟨M,2,none⟩ (.slice (some ⟨go,0,none⟩) S.length co)).drew) M g cap l { p with opn:=S } (.slice (some ⟨go,0,none⟩) S.length co) vn:=by
 have ho:=P.oo;rw [show p.opn.length=S.length+1 by rw [hS];rfl,hS,u8n_cons] at ho
 exact (P.setOpn (own_tail ho) rfl).qt (qt_drew _)
theorem p_closing {w:World}{M g cap:Nat}{l:List Tk}{p:Pl}{vo vn:Value}(P:PlAt w M g cap l p vo vn)(hl:p.at_≤1000000)(hn:p.out.length+p.opn.length≤1000000) :
  Calls Tryz.prog 136 #[.pointer (some ⟨M,0,none⟩)] w fun e w'=>PbPost w M g cap l (p.closing l) e w':=by
 have q1:=P.c1;have q2:=P.c2;have hoo:=P.oo;have hP:=Hi P;have cs:=Hi (fun (s:ByteArray)=>p_sign P.c0 P.toks p.at_ s)
 have hf:=Hi (p_fail P 50 p.at_);clear P;rcases Go.Joins.ownsRow_forms hoo with ⟨rfl,_⟩|⟨go,co,rfl⟩
 ·have h0:p.opn=[]:=List.length_eq_zero_iff.1 (by
   have:=own_lenOf hoo;exact this.symm)
  have H:=Hi (show p.closing l=(false,p) by unfold Pl.closing;rw [if_pos (by rw [h0];rfl)])
  clear hoo h0 hf cs;go_enter Tryz.func136,Tryz.ntmps136;go_wp2_with fail
  go_loopw [3,4] (fun a b wr=>a=.bool false∧b=.int .i64 0∧wr=w) (fun _ _ _=>0)
  case atStart=>exact ⟨rfl,rfl,rfl⟩
  case round=>
   obtain ⟨rfl,rfl,rfl⟩:=hrel;go_wp2_with fail;go_ret;rw [H.out];exact ⟨rfl,Below.refl _ _,_,_,hP.out⟩
 ·have hO:=Hi hoo;clear hoo;go_enter Tryz.func136,Tryz.ntmps136;go_wp2_with fail
  go_loopw [3,4] (fun a b wr=>∃ (v:Bool) (i:Nat),a=.bool v∧b=.int .i64 i∧i≤p.opn.length∧Hid (v=(p.opn.reverse.take i).any (· == 40))∧wr=w) (fun _ b _=>p.opn.length-(intOf b).toNat)
  case atStart=>exact ⟨false,0,rfl,rfl,by omega,Hi rfl,rfl⟩
  case round=>
   obtain ⟨v,i,rfl,rfl,hi,hv,rfl⟩:=hrel
   by_cases hlt:i<p.opn.length
   ·have b1:(i:Int)<(p.opn.length:Int):=by omega
    have b0:(0:Int)≤(i:Int):=by omega
    have hx:p.opn.reverse[i]?=some (p.opn.reverse[i]'(by simpa using hlt)):=List.getElem?_eq_getElem _
    generalize p.opn.reverse[i]'(by simpa using hlt)=x at hx
    have e0:wr.cell? ⟨go,i,none⟩=some (.int .u8 x):=by rw [hO.out.cellAt _ (by omega)];unfold u8n;rw [List.getElem?_map,hx];rfl
    have hcs:=Hi ((any_take_succ p.opn.reverse i x hx).trans (by rw [← hv.out]))
    have bw1:=wS i (by omega)
    clear hx
    cases v with
    | true=>
      have hc2:=Hi (hcs.out.trans (show _=true from rfl))
      clear hcs hv;go_wp2_with fail
      go_roundw
      case rel=>exact ⟨true,i+1,by first|rfl|go_num,by first|rfl|go_num,hlt,Hi hc2.out.symm,trivial⟩
      case measure=>simp [intOf];omega
    | false=>
      by_cases h40:x=40
      ·have d40:((x:Int) == 40)=true:=by rw [h40];rfl
       have hc2:=Hi (hcs.out.trans (show _=true by rw [h40];rfl))
       clear h40 hcs hv;go_wp2_with fail
       go_roundw
       case rel=>exact ⟨true,i+1,by first|rfl|go_num,by first|rfl|go_num,hlt,Hi hc2.out.symm,trivial⟩
       case measure=>simp [intOf];omega
      ·have d40:((x:Int) == 40)=false:=by rw [beq_eq_false_iff_ne];omega
       have hc2:=Hi (hcs.out.trans (show _=false by simp [h40]))
       clear h40 hcs hv;go_wp2_with fail
       go_roundw
       case rel=>exact ⟨false,i+1,by first|rfl|go_num,by first|rfl|go_num,hlt,Hi hc2.out.symm,trivial⟩
       case measure=>simp [intOf];omega
   ·have b1:¬ (i:Int)<(p.opn.length:Int):=by omega
    have hcf:v=p.opn.contains 40:=by rw [hv.out,List.take_of_length_le (by simp;omega),any_has]
    cases v with
    | false=>
      have H:=Hi (show p.closing l=(false,p) by unfold Pl.closing;rw [if_pos hcf.symm])
      clear hv hcf hO hf cs;go_wp2_with fail;go_ret;rw [H.out];exact ⟨rfl,Below.refl _ _,_,_,hP.out⟩
    | true=>
      cases hsg:sgn l p.at_ sClose
      ·have H:=Hi (show p.closing l=(true,p.fail 50 p.at_) by unfold Pl.closing;rw [if_neg (by rw [← hcf];decide),if_pos hsg])
       clear hv hcf hO;go_wp2_with (go_at_call 128;refine (cs.out _).mono ?_;rintro e w' ⟨rfl,rfl⟩);refine hf.out.mono ?_;rintro e w1 ⟨rfl,hb,vo1,vn1,P1⟩;have hP1:=Hi P1;clear P1 hf hP;go_wp2_with fail;go_ret;rw [H.out];exact ⟨rfl,hb,_,_,hP1.out⟩
      ·have H:=Hi (show p.closing l=(true,Pl.done { p.pops (fun c=>c != 40) with opn:=(p.pops (fun c=>c != 40)).opn.tail,at_:=p.at_+1 }) by unfold Pl.closing;rw [if_neg (by rw [← hcf];decide),if_neg (by rw [hsg];decide)])
       have hcf2:=Hi hcf.symm;clear hv hO hf hcf;go_wp2_with (go_at_call 128;refine (cs.out _).mono ?_;rintro e w' ⟨rfl,rfl⟩)
       go_loopw [] (fun wx=>∃ (q:Pl) (uo un:Value),Hid (PlAt wx M g cap l q uo un)∧Hid (q.pops (fun c=>c != 40)=p.pops (fun c=>c != 40))∧Hid (q.opn.contains 40=true)∧q.at_=p.at_∧q.out.length+q.opn.length≤1000000∧Hid (Below M wr wx)) (fun wx=>muO M wx)
       case atStart=>exact ⟨p,_,vn,hP,Hi rfl,hcf2,rfl,hn,Hi (Below.refl _ _)⟩
       case round=>
        rename_i wx;obtain ⟨q,uo,un,hQ,hR,hc40,hqa,hqn,hb⟩:=hrel;have ct:=Hi (p_top hQ.out);have hmu:=Hi hQ.out.mu
        obtain ⟨c,S,hS⟩:∃ c S,q.opn=c::S:=by
         cases h:q.opn with
         | nil=>have:=hc40.out;rw [h] at this;cases this
         | cons c S=>exact ⟨c,S,rfl⟩
        have htop:topN q=c:=by unfold topN;rw [hS];rfl
        rw [htop] at ct
        by_cases h40:c=40
        ·have hqq:q.pops (fun c=>c != 40)=q:=pops_stop (fun x hx=>by
          rw [hS] at hx;have:x=40:=by simpa [h40] using hx.symm
          rw [this];rfl)
         have H2:=Hi (H.out.trans (show _=(true,Pl.done { q with opn:=S,at_:=q.at_+1 }) by rw [← hR.out,hqq,hS,← hqa];rfl))
         have hSh:=Hi hS;have hSl:q.opn.length=S.length+1:=by rw [hS];rfl
         have hqa2:q.at_≤1000000:=by omega
         have hqn2:q.out.length+S.length≤1000000:=by omega
         have d40:((c:Int) != 40)=false:=by rw [h40];rfl
         clear hS hqq hR hP htop cs H hcf2 h40 hSl hqa q1 q2;go_wp2_with fail;refine ct.out.mono ?_;rintro e w1 ⟨rfl,hq⟩;have P1:=hQ.out.qt hq;have hb1:=Hi (hb.out.trans (hq.below M));obtain ⟨go2,co2,rfl⟩:=Go.Joins.ownsRow_form P1.oo (by rw [hSh.out];simp)
         have P3:=plen P1 hSh.out;obtain ⟨bc,bl⟩:=pcap P3 hSh.out;have q2:=P3.c2;have f2:=P3.free 2;have hP3:=Hi P3;have bw:IntKind.i64.wrap (S.length:Int)=(S.length:Int):=IntWalk.i64_in _ (by unfold maxLen at bl;omega)
         have b2:(0:Int)≤(S.length:Int):=by omega
         have b3:(S.length:Int)≤(co2:Int):=by omega
         clear P1 P3 bl ct hq hQ hmu;go_wp2_with fail
         go_region_law (fail)
         all_goals (
          have P4:=cut_at hP3.out hSh.out;have hb4:=Hi ((hb1.out.setCell (p:=⟨M,2,none⟩) (Nat.le_refl M) (.slice (some ⟨go2,0,none⟩) S.length co2)).trans ((qt_drew _).below M));generalize (w1.setCell ⟨M,2,none⟩ (.slice (some ⟨go2,0,none⟩) S.length co2)).drew=W at *;have r1:W.cell? ⟨M,1,none⟩=some (.int .i64 q.at_):=P4.c1;have g1:=P4.free 1;have bw2:IntKind.i64.wrap ((q.at_:Int)+1)=(q.at_:Int)+1:=IntWalk.i64_in _ (by omega)
          have cd:=Hi (p_done (P4.setAt (q.at_+1)) hqn2);have hb5:=Hi (hb4.out.setCell (p:=⟨M,1,none⟩) (Nat.le_refl M) (.int .i64 ((q.at_+1:Nat):Int)));clear P4 q2 f2 hP3;go_wp2_with fail;refine cd.out.mono ?_;rintro e w9 ⟨rfl,hb9,vo9,vn9,P9⟩;have hP9:=Hi P9;clear P9 cd;go_wp2_with fail;go_ret;rw [H2.out];exact ⟨rfl,hb5.out.trans hb9,_,_,hP9.out⟩)
        ·have hne:q.opn≠[]:=by rw [hS];simp
         have hRp:=Hi ((pops_pop hS (f:=fun c=>c != 40) (by simpa using h40)).trans hR.out)
         obtain ⟨l1,l2⟩:=pop_lens q hne
         have hc2:Hid (q.pop.opn.contains 40=true):=Hi (by
          have:=hc40.out;rw [hS] at this
          show q.opn.tail.contains 40=true
          rw [hS];simp only [List.contains_cons,Bool.or_eq_true,beq_iff_eq] at this;rcases this with h|h
          ·exact absurd h.symm h40
          ·exact h)
         have d40:((c:Int) != 40)=true:=by simp;omega
         clear hS h40 hR hP htop cs;go_wp2_with fail;refine ct.out.mono ?_;rintro e w1 ⟨rfl,hq⟩;have cp:=Hi (p_pop (hQ.out.qt hq) hne (by omega))
         have hb1:=Hi (hb.out.trans (hq.below M));clear ct hq hQ hne;go_wp2_with fail;refine cp.out.mono ?_;rintro e w2 ⟨rfl,hb2,vo2,vn2,P2⟩;have hm2:=Hi P2.mu;have hP2:=Hi P2;have hb2:=Hi (hb1.out.trans hb2);clear P2;go_wp2_with fail;exact ⟨⟨q.pop,vo2,vn2,hP2,hRp,hc2,hqa,by omega,hb2⟩,by rw [hm2.out,hmu.out];omega⟩
def PiPost (w:World)(M g cap:Nat)(l:List Tk)(q:Int×Pl)(e:Ending)(w':World):Prop:=e=.returned (.int .i64 q.1)∧Below M w w'∧∃ vo vn,PlAt w' M g cap l q.2 vo vn
theorem p_chain_and {w:World}{M g cap:Nat}{l:List Tk}{p:Pl}{vo vn:Value}(P:PlAt w M g cap l p vo vn)(hl:p.at_≤1000000)(hm:p.made≤1000000)(hn:p.out.length+p.opn.length≤1000000)
  (h1:sgn l p.at_ sAnd=true) :
  Calls Tryz.prog 106 #[.pointer (some ⟨M,0,none⟩)] w fun e w'=>PiPost w M g cap l (p.chain l) e w':=by
 have q1:=P.c1;have H:=Hi (show p.chain l=(1,((p.make1.pops (fun c=>c == 38)).push 38).step) by unfold Pl.chain;rw [if_pos h1])
 have cs:=Hi (fun (s:ByteArray)=>p_sign P.c0 P.toks p.at_ s)
 have cm:=Hi (p_make1 P hm);obtain ⟨m1,m2,m3⟩:=make_out (p:=p);have m4:=make_at (p:=p);obtain ⟨i0,hi0,hz0,hz1,hz2⟩:=info_parts byte_info;have hi0:=Hi hi0;have hz0:=Hi hz0;have hz1:=Hi hz1;have hz2:=Hi hz2;clear P m3 hm;have hmn:p.make1.out.length+p.make1.opn.length≤1000000:=by rw [m1,m2];exact hn
 have hma:p.make1.at_≤1000000:=by omega
 generalize p.make1=m at *;clear m1 m2 m4;go_enter Tryz.func106,Tryz.ntmps106;go_wp2_with (go_at_call 128;refine (cs.out _).mono ?_;rintro e w' ⟨rfl,rfl⟩);refine cm.out.mono ?_;rintro e w1 ⟨rfl,hb1,vo1,vn1,P1⟩;have hP1:=Hi P1;have hb1:=Hi hb1;clear P1 cm cs q1;go_wp2_with fail
 go_loopw [] (fun wx=>∃ (q:Pl) (uo un:Value),Hid (PlAt wx M g cap l q uo un)∧Hid (q.pops (fun c=>c == 38)=m.pops (fun c=>c == 38))∧q.at_≤1000000∧q.out.length+q.opn.length≤1000000∧Hid (Below M w wx)) (fun wx=>muO M wx)
 case atStart=>exact ⟨m,vo1,vn1,hP1,Hi rfl,hma,hmn,hb1⟩
 case round=>
  obtain ⟨q,uo,un,hQ,hR,hqa,hqn,hb⟩:=hrel;obtain ⟨wq,rfl⟩:∃ wq,wq=wr:=⟨_,rfl⟩
  have ct:=Hi (p_top hQ.out);have hmu:=Hi hQ.out.mu
  by_cases h38:topN q=38
  ·have hne:q.opn≠[]:=by intro h;unfold topN at h38;rw [h] at h38;cases h38
   obtain ⟨c,S,hS⟩:∃ c S,q.opn=c::S:=by
    cases h:q.opn with
    | nil=>exact absurd h hne
    | cons c S=>exact ⟨c,S,rfl⟩
   have hc:c=38:=by unfold topN at h38;rw [hS] at h38;exact h38
   have hRp:=Hi ((pops_pop hS (f:=fun c=>c == 38) (by rw [hc];rfl)).trans hR.out)
   obtain ⟨l1,l2⟩:=pop_lens q hne;have hqa2:q.pop.at_≤1000000:=hqa;rw [h38] at ct;clear hS hc h38 hR hP1;go_wp2_with fail;refine ct.out.mono ?_;rintro e w1 ⟨rfl,hq⟩;have cp:=Hi (p_pop (hQ.out.qt hq) hne (by omega))
   have hb1:=Hi (hb.out.trans (hq.below M));clear ct hq hQ hne;go_wp2_with fail;refine cp.out.mono ?_;rintro e w2 ⟨rfl,hb2,vo2,vn2,P2⟩;have hm2:=Hi P2.mu;have hP2:=Hi P2;have hb2:=Hi (hb1.out.trans hb2);clear P2;go_wp2_with fail;exact ⟨⟨q.pop,vo2,vn2,hP2,hRp,hqa2,by omega,hb2⟩,by rw [hm2.out,hmu.out];omega⟩
  ·have hd:q.pops (fun c=>c == 38)=q:=pops_stop (p:=q) (f:=fun c=>c == 38) (fun c hc=>by
    rw [beq_eq_false_iff_ne];rintro rfl;apply h38;unfold topN;rw [List.headD_eq_head?_getD,hc];rfl)
   have H:=Hi (H.out.trans (show _=(1,(q.push 38).step) by rw [← hR.out,hd]))
   have d38:((topN q:Int) == 38)=false:=by rw [beq_eq_false_iff_ne];omega
   clear h38 hR hP1 hd;go_wp2_with fail;refine ct.out.mono ?_;rintro e w2 ⟨rfl,hq⟩;have P2:=hQ.out.qt hq;have hb2:=Hi (hb.out.trans (hq.below M));have q2:=P2.c2;have f2:=P2.free 2;obtain ⟨vo2,hvo⟩:∃ vo2,vo2=uo:=⟨_,rfl⟩
   rw [← hvo] at P2 q2;have hO:=Hi P2.oo;have hP2:=Hi P2;have hql:q.opn.length≤1000000:=by omega
   clear P2 ct hq hQ hmu hvo;go_upto_region 16 with (at_builtin;refine wpList_append_lies _ rfl (.tmp 31) (.tmp 32) _ rfl (M+1) 5 i0 _ 1 1 Tryz.underlying144 hi0.out hz0.out hz1.out hz2.out rfl (by decide) vo2 q.opn.length (u8n q.opn) rfl (hO.out.alloc _) ⟨w2.heap.size,0,none⟩ 1 1 [.int .u8 38] rfl rfl (World.news_of_block (heap_alloc_new w2 _)) (by intro u hu;simp only [List.mem_cons,List.not_mem_nil,or_false] at hu;rcases hu with rfl;rfl) (by decide) (by unfold maxLen;omega) (by omega) (by have:=hP2.out.lt;simp;omega) (w2.heap.size+1) (by simp) ?_;intro g' cap' w4 hown4 hg4 hat4 hlt4;have P1:=hP2.out.up ((Below.refl _ w2).alloc (Nat.le_refl _) (.cells #[.int .u8 38] 5 (0,0)));have q24:=hg4.cell P1.c2 (fun e=>P1.ne_box.2 e.symm);have f24:=(hg4.frozen_far (a:=⟨M,2,none⟩) P1.lt (fun e=>P1.ne_box.2 e.symm)).trans (P1.free 2);have hown5:=Hi hown4;have hg5:=Hi hg4;clear P1 hown4 hg4)
   obtain ⟨P3,hb3⟩:=push_done hP2.out hg5.out hat4 hown5.out;have hb3:=Hi (hb2.out.trans hb3);generalize w4.setCell ⟨M,2,none⟩ (.slice (some ⟨g',0,none⟩) (q.opn.length+1) cap')=W at *;have r5:W.cell? ⟨M,5,none⟩=some (.int .i64 q.e):=P3.c5;have r1:W.cell? ⟨M,1,none⟩=some (.int .i64 q.at_):=P3.c1;have g1:=P3.free 1;have hP3:=Hi P3;clear P3 q24 f24 q2 f2 hg5 hown5 hat4 hO hP2
   by_cases he:q.e=0
   ·have H2:=Hi (H.out.trans (show _=(1,{ q.push 38 with at_:=q.at_+1 }) by rw [step_ok (p:=q.push 38) he];rfl))
    have bw:IntKind.i64.wrap ((q.at_:Int)+1)=(q.at_:Int)+1:=IntWalk.i64_in _ (by omega)
    rw [he] at r5;clear H he;go_wp2_with fail
    (try simp only [Exit.inBlock,Exit.then])
    go_ret;rw [H2.out];exact ⟨rfl,hb3.out.setCell (Nat.le_refl M) _,_,_,hP3.out.setAt (q.at_+1)⟩
   ·have H2:=Hi (H.out.trans (show _=(1,q.push 38) by rw [step_bad (p:=q.push 38) he]))
    have be:(q.e == 0)=false:=by rw [beq_eq_false_iff_ne];exact he
    clear H he;go_wp2_with fail
    (try simp only [Exit.inBlock,Exit.then])
    go_ret;rw [H2.out];exact ⟨rfl,hb3.out,_,_,hP3.out⟩
theorem p_chain_or {w:World}{M g cap:Nat}{l:List Tk}{p:Pl}{vo vn:Value}(P:PlAt w M g cap l p vo vn)(hl:p.at_≤1000000)(hm:p.made≤1000000)(hn:p.out.length+p.opn.length≤1000000)
  (h0:sgn l p.at_ sAnd=false) (h1:sgn l p.at_ sOr=true) :
  Calls Tryz.prog 106 #[.pointer (some ⟨M,0,none⟩)] w fun e w'=>PiPost w M g cap l (p.chain l) e w':=by
 have q1:=P.c1;have H:=Hi (show p.chain l=(1,((p.make1.pops (fun c=>c == 38 || c == 124)).push 124).step) by unfold Pl.chain;rw [if_neg (by rw [h0];decide),if_pos h1])
 have cs:=Hi (fun (s:ByteArray)=>p_sign P.c0 P.toks p.at_ s)
 have cm:=Hi (p_make1 P hm);obtain ⟨m1,m2,m3⟩:=make_out (p:=p);have m4:=make_at (p:=p);obtain ⟨i0,hi0,hz0,hz1,hz2⟩:=info_parts byte_info;have hi0:=Hi hi0;have hz0:=Hi hz0;have hz1:=Hi hz1;have hz2:=Hi hz2;clear P m3 hm;have hmn:p.make1.out.length+p.make1.opn.length≤1000000:=by rw [m1,m2];exact hn
 have hma:p.make1.at_≤1000000:=by omega
 generalize p.make1=m at *;clear m1 m2 m4;go_enter Tryz.func106,Tryz.ntmps106;go_wp2_with (go_at_call 128;refine (cs.out _).mono ?_;rintro e w' ⟨rfl,rfl⟩);refine cm.out.mono ?_;rintro e w1 ⟨rfl,hb1,vo1,vn1,P1⟩;have hP1:=Hi P1;have hb1:=Hi hb1;clear P1 cm cs q1;go_wp2_with fail
 go_loopw [] (fun wx=>∃ (q:Pl) (uo un:Value),Hid (PlAt wx M g cap l q uo un)∧Hid (q.pops (fun c=>c == 38 || c == 124)=m.pops (fun c=>c == 38 || c == 124))∧q.at_≤1000000∧q.out.length+q.opn.length≤1000000∧Hid (Below M w wx)) (fun wx=>muO M wx)
 case atStart=>exact ⟨m,vo1,vn1,hP1,Hi rfl,hma,hmn,hb1⟩
 case round=>
  obtain ⟨q,uo,un,hQ,hR,hqa,hqn,hb⟩:=hrel;obtain ⟨wq,rfl⟩:∃ wq,wq=wr:=⟨_,rfl⟩
  have ct:=Hi (fun (w':World) (hq:Qt wq w')=>p_top (hQ.out.qt hq))
  have hmu:=Hi hQ.out.mu
  by_cases h38:topN q=38
  ·have hne:q.opn≠[]:=by intro h;unfold topN at h38;rw [h] at h38;cases h38
   obtain ⟨c,S,hS⟩:∃ c S,q.opn=c::S:=by
    cases h:q.opn with
    | nil=>exact absurd h hne
    | cons c S=>exact ⟨c,S,rfl⟩
   have hc:c=38:=by unfold topN at h38;rw [hS] at h38;exact h38
   have hRp:=Hi ((pops_pop hS (f:=fun c=>c == 38 || c == 124) (by rw [hc];rfl)).trans hR.out)
   obtain ⟨l1,l2⟩:=pop_lens q hne;have hqa2:q.pop.at_≤1000000:=hqa;simp only [h38] at ct;clear hS hc h38 hR hP1;go_wp2_with fail;refine (ct.out _ (Qt.refl _)).mono ?_;rintro e w1 ⟨rfl,hq⟩;have cp:=Hi (p_pop (hQ.out.qt hq) hne (by omega))
   have hb1:=Hi (hb.out.trans (hq.below M));clear ct hq hQ hne;go_wp2_with fail;refine cp.out.mono ?_;rintro e w2 ⟨rfl,hb2,vo2,vn2,P2⟩;have hm2:=Hi P2.mu;have hP2:=Hi P2;have hb2:=Hi (hb1.out.trans hb2);clear P2;go_wp2_with fail;exact ⟨⟨q.pop,vo2,vn2,hP2,hRp,hqa2,by omega,hb2⟩,by rw [hm2.out,hmu.out];omega⟩
  by_cases h124:topN q=124
  ·have hne:q.opn≠[]:=by intro h;unfold topN at h124;rw [h] at h124;cases h124
   obtain ⟨c,S,hS⟩:∃ c S,q.opn=c::S:=by
    cases h:q.opn with
    | nil=>exact absurd h hne
    | cons c S=>exact ⟨c,S,rfl⟩
   have hc:c=124:=by unfold topN at h124;rw [hS] at h124;exact h124
   have hRp:=Hi ((pops_pop hS (f:=fun c=>c == 38 || c == 124) (by rw [hc];rfl)).trans hR.out)
   obtain ⟨l1,l2⟩:=pop_lens q hne;have hqa2:q.pop.at_≤1000000:=hqa;simp only [h124] at ct;clear hS hc h124 hR hP1;go_wp2_with fail;refine (ct.out _ (Qt.refl _)).mono ?_;rintro e w0 ⟨rfl,hq0⟩;have hq0:=Hi hq0;go_wp2_with fail;refine (ct.out _ hq0.out).mono ?_;rintro e w1 ⟨rfl,hq1⟩;have hq:=hq0.out.trans hq1;clear hq0 hq1;have cp:=Hi (p_pop (hQ.out.qt hq) hne (by omega))
   have hb1:=Hi (hb.out.trans (hq.below M));clear ct hq hQ hne;go_wp2_with fail;refine cp.out.mono ?_;rintro e w2 ⟨rfl,hb2,vo2,vn2,P2⟩;have hm2:=Hi P2.mu;have hP2:=Hi P2;have hb2:=Hi (hb1.out.trans hb2);clear P2;go_wp2_with fail;exact ⟨⟨q.pop,vo2,vn2,hP2,hRp,hqa2,by omega,hb2⟩,by rw [hm2.out,hmu.out];omega⟩
  ·have hd:q.pops (fun c=>c == 38 || c == 124)=q:=pops_stop (p:=q) (f:=fun c=>c == 38 || c == 124) (fun c hc=>by
    have ht:topN q=c:=by unfold topN;rw [List.headD_eq_head?_getD,hc];rfl
    rw [ht] at h38 h124
    simp [h38,h124])
   have H:=Hi (H.out.trans (show _=(1,(q.push 124).step) by rw [← hR.out,hd]))
   have d38:((topN q:Int) == 38)=false:=by rw [beq_eq_false_iff_ne];omega
   have d124:((topN q:Int) == 124)=false:=by rw [beq_eq_false_iff_ne];omega
   clear h38 h124 hR hP1 hd;go_wp2_with fail;refine (ct.out _ (Qt.refl _)).mono ?_;rintro e w0 ⟨rfl,hq0⟩;have hq0:=Hi hq0;go_wp2_with fail;refine (ct.out _ hq0.out).mono ?_;rintro e w2 ⟨rfl,hq1⟩;have hq:=hq0.out.trans hq1;clear hq0 hq1;have P2:=hQ.out.qt hq;have hb2:=Hi (hb.out.trans (hq.below M));have q2:=P2.c2;have f2:=P2.free 2;obtain ⟨vo2,hvo⟩:∃ vo2,vo2=uo:=⟨_,rfl⟩
   rw [← hvo] at P2 q2;have hO:=Hi P2.oo;have hP2:=Hi P2;have hql:q.opn.length≤1000000:=by omega
   clear P2 ct hq hQ hmu hvo;go_upto_region 16 with (at_builtin;refine wpList_append_lies _ rfl (.tmp 59) (.tmp 60) _ rfl (M+1) 5 i0 _ 1 1 Tryz.underlying144 hi0.out hz0.out hz1.out hz2.out rfl (by decide) vo2 q.opn.length (u8n q.opn) rfl (hO.out.alloc _) ⟨w2.heap.size,0,none⟩ 1 1 [.int .u8 124] rfl rfl (World.news_of_block (heap_alloc_new w2 _)) (by intro u hu;simp only [List.mem_cons,List.not_mem_nil,or_false] at hu;rcases hu with rfl;rfl) (by decide) (by unfold maxLen;omega) (by omega) (by have:=hP2.out.lt;simp;omega) (w2.heap.size+1) (by simp) ?_;intro g' cap' w4 hown4 hg4 hat4 hlt4;have P1:=hP2.out.up ((Below.refl _ w2).alloc (Nat.le_refl _) (.cells #[.int .u8 124] 5 (0,0)));have q24:=hg4.cell P1.c2 (fun e=>P1.ne_box.2 e.symm);have f24:=(hg4.frozen_far (a:=⟨M,2,none⟩) P1.lt (fun e=>P1.ne_box.2 e.symm)).trans (P1.free 2);have hown5:=Hi hown4;have hg5:=Hi hg4;clear P1 hown4 hg4)
   obtain ⟨P3,hb3⟩:=push_done hP2.out hg5.out hat4 hown5.out;have hb3:=Hi (hb2.out.trans hb3);generalize w4.setCell ⟨M,2,none⟩ (.slice (some ⟨g',0,none⟩) (q.opn.length+1) cap')=W at *;have r5:W.cell? ⟨M,5,none⟩=some (.int .i64 q.e):=P3.c5;have r1:W.cell? ⟨M,1,none⟩=some (.int .i64 q.at_):=P3.c1;have g1:=P3.free 1;have hP3:=Hi P3;clear P3 q24 f24 q2 f2 hg5 hown5 hat4 hO hP2
   by_cases he:q.e=0
   ·have H2:=Hi (H.out.trans (show _=(1,{ q.push 124 with at_:=q.at_+1 }) by rw [step_ok (p:=q.push 124) he];rfl))
    have bw:IntKind.i64.wrap ((q.at_:Int)+1)=(q.at_:Int)+1:=IntWalk.i64_in _ (by omega)
    rw [he] at r5;clear H he;go_wp2_with fail
    (try simp only [Exit.inBlock,Exit.then])
    go_ret;rw [H2.out];exact ⟨rfl,hb3.out.setCell (Nat.le_refl M) _,_,_,hP3.out.setAt (q.at_+1)⟩
   ·have H2:=Hi (H.out.trans (show _=(1,q.push 124) by rw [step_bad (p:=q.push 124) he]))
    have be:(q.e == 0)=false:=by rw [beq_eq_false_iff_ne];exact he
    clear H he;go_wp2_with fail
    (try simp only [Exit.inBlock,Exit.then])
    go_ret;rw [H2.out];exact ⟨rfl,hb3.out,_,_,hP3.out⟩
theorem p_chain_end {w:World}{M g cap:Nat}{l:List Tk}{p:Pl}{vo vn:Value}(P:PlAt w M g cap l p vo vn)(hl:p.at_≤1000000)(hn:p.out.length+p.opn.length≤1000000)
  (h0:sgn l p.at_ sAnd=false) (h1:sgn l p.at_ sOr=false) :
  Calls Tryz.prog 106 #[.pointer (some ⟨M,0,none⟩)] w fun e w'=>PiPost w M g cap l (p.chain l) e w':=by
 have q1:=P.c1;have cs:=Hi (fun (s:ByteArray)=>p_sign P.c0 P.toks p.at_ s)
 have cc:=Hi (p_closing P hl hn)
 cases hc:(p.closing l).1
 rotate_left
 ·have H:=Hi (show p.chain l=(0,(p.closing l).2) by unfold Pl.chain;rw [if_neg (by rw [h0];decide),if_neg (by rw [h1];decide),if_pos hc])
  have hc2:=Hi hc;clear P hc;go_enter Tryz.func106,Tryz.ntmps106;go_wp2_with (go_at_call 128;refine (cs.out _).mono ?_;rintro e w' ⟨rfl,rfl⟩);refine cc.out.mono ?_;rintro e w1 ⟨rfl,hb,vo1,vn1,P1⟩;rw [hc2.out];have hP1:=Hi P1;clear P1 cc cs;go_wp2_with fail;go_ret;rw [H.out];exact ⟨rfl,hb,_,_,hP1.out⟩
 ·have hq:(p.closing l).2=p:=by
   unfold Pl.closing at hc ⊢
   split at hc
   ·rename_i h;rw [if_pos h]
   ·split at hc<;>cases hc
  have H:=Hi (show p.chain l=(-1,p.pops (fun _=>true)) by unfold Pl.chain;rw [if_neg (by rw [h0];decide),if_neg (by rw [h1];decide),if_neg (by rw [hc];decide),hq])
  rw [show p.closing l=(false,p) from Prod.ext hc hq] at cc
  clear P hc hq;go_enter Tryz.func106,Tryz.ntmps106;go_wp2_with (go_at_call 128;refine (cs.out _).mono ?_;rintro e w' ⟨rfl,rfl⟩);refine cc.out.mono ?_;rintro e w1 ⟨rfl,hb1,vo1,vn1,P1⟩;have hP1:=Hi P1;have hb1:=Hi hb1;clear P1 cc cs q1;go_wp2_with fail
  go_loopw [] (fun wx=>∃ (q:Pl) (uo un:Value),Hid (PlAt wx M g cap l q uo un)∧Hid (q.pops (fun _=>true)=p.pops (fun _=>true))∧q.out.length+q.opn.length≤1000000∧Hid (Below M w wx)) (fun wx=>muO M wx)
  case atStart=>exact ⟨p,vo1,vn1,hP1,Hi rfl,hn,hb1⟩
  case round=>
   obtain ⟨q,uo,un,hQ,hR,hqn,hb⟩:=hrel;obtain ⟨wq,rfl⟩:∃ wq,wq=wr:=⟨_,rfl⟩
   have hmu:=Hi hQ.out.mu
   by_cases hne:q.opn=[]
   ·have hd:=Hi ((pops_stop (p:=q) (f:=fun _=>true) (fun c hc=>by rw [hne] at hc;cases hc)).symm.trans hR.out)
    have hl0:q.opn.length=0:=by rw [hne];rfl
    have q2:=hQ.out.c2;have hoo:=hQ.out.oo;rw [hl0] at hoo;have hQ2:=hQ;rcases Go.Joins.ownsRow_forms hoo with ⟨rfl,_⟩|⟨go,co,rfl⟩
    all_goals (
     clear hR hP1 hne hoo hmu hQ;go_wp2_with fail;go_ret;rw [H.out,← hd.out];exact ⟨rfl,hb.out,_,_,hQ2.out⟩)
   ·obtain ⟨c,S,hS⟩:∃ c S,q.opn=c::S:=by
     cases h:q.opn with
     | nil=>exact absurd h hne
     | cons c S=>exact ⟨c,S,rfl⟩
    have hRp:=Hi ((pops_pop hS (f:=fun _=>true) rfl).trans hR.out)
    obtain ⟨l1,l2⟩:=pop_lens q hne;have cp:=Hi (p_pop hQ.out hne (by omega))
    have q2:=hQ.out.c2;obtain ⟨go,co,rfl⟩:=Go.Joins.ownsRow_form hQ.out.oo (by rw [hS];simp)
    have bl:(q.opn.length:Int)>0:=by omega
    clear hS hR hP1 hQ hne;go_wp2_with fail;refine cp.out.mono ?_;rintro e w2 ⟨rfl,hb2,vo2,vn2,P2⟩;have hm2:=Hi P2.mu;have hP2:=Hi P2;have hb2:=Hi (hb.out.trans hb2);clear P2;go_wp2_with fail;exact ⟨⟨q.pop,vo2,vn2,hP2,hRp,by omega,hb2⟩,by rw [hm2.out,hmu.out];omega⟩
end Go.Proofs.YtjokciofeicdkaaGreatDoor

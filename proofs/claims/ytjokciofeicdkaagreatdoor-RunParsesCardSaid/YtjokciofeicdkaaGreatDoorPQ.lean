/- A part of the proof of RunParses: DscP ExA ExB ExC. -/
import Derived.Test.YtjokciofeicdkaaGreatDoorPL
import Derived.Test.YtjokciofeicdkaaGreatDoorPD
import Derived.Lib.SmallJoins
import Derived.Test.YtjokciofeicdkaaGreatDoorPO
set_option maxHeartbeats 16000000
set_option maxRecDepth 100000
set_option linter.all false
namespace Go.Proofs.YtjokciofeicdkaaGreatDoor
open Go.RowKit
theorem dnum_same {l:List Tk}{d:Ds}{v:Int×Ds}(h:d.num l=some v):v.2.opn=d.opn∧v.2.out=d.out∧v.2.made=d.made:=by
 unfold Ds.num at h
 split at h
 ·cases h
 ·split at h
  ·cases h
  ·cases h;exact ⟨rfl,rfl,rfl⟩
def Wt (k:Nat)(d:Ds):Prop:=d.out.length+k≤d.made∧d.made≤64
theorem Wt.put {k:Nat}{d:Ds}(h:Wt (k+1) d)(x:Nd):Wt k (d.put x):=by
 unfold Wt at h ⊢
 show (d.out++[x]).length+k≤d.made∧d.made≤64
 rw [List.length_append,List.length_singleton];omega
theorem Wt.out {k:Nat}{d:Ds}(h:Wt k d):d.out.length≤64:=by unfold Wt at h;omega
theorem dtest_same {l:List Tk}{d:Ds}{name:ByteArray}:((d.test l name).1=true→(d.test l name).2.opn=d.opn)∧∀ k,Wt (k+1) d→Wt k (d.test l name).2:=by
 have hw:∀ k (d:Ds),Wt (k+1) d→Wt k d:=fun k d h=>by unfold Wt at h ⊢;omega
 unfold Ds.test
 split
 ·exact ⟨(fun h=>by cases h),fun k h=>hw k d h⟩
 ·dsimp only
  split
  ·exact ⟨fun _=>rfl,fun k h=>Wt.put (d:={ d with at_:=d.at_+1+1 }) h _⟩
  ·cases hn:Ds.num { d with at_:=d.at_+1 } l with
   | none=>exact ⟨(fun h=>by cases h),fun k h=>hw k { d with at_:=d.at_+1 } h⟩
   | some v=>
     obtain ⟨v1,v2,v3⟩:=dnum_same hn;have hv:∀ k,Wt (k+1) d→Wt (k+1) v.2:=fun k h=>by unfold Wt at h ⊢;rw [v2,v3];exact h
     dsimp only
     split
     ·cases hu:Ds.num { v.2 with at_:=v.2.at_+1 } l with
      | none=>exact ⟨(fun h=>by cases h),fun k h=>hw k _ (hv k h)⟩
      | some u=>
        obtain ⟨u1,u2,u3⟩:=dnum_same hu;exact ⟨fun _=>u1.trans v1,fun k h=>Wt.put (by have:=hv k h;unfold Wt at this ⊢;rw [u2,u3];exact this) _⟩
     ·split
      ·cases hu:Ds.num { v.2 with at_:=v.2.at_+1 } l with
       | none=>exact ⟨(fun h=>by cases h),fun k h=>hw k _ (hv k h)⟩
       | some u=>
         obtain ⟨u1,u2,u3⟩:=dnum_same hu;exact ⟨fun _=>u1.trans v1,fun k h=>Wt.put (by have:=hv k h;unfold Wt at this ⊢;rw [u2,u3];exact this) _⟩
      ·exact ⟨fun _=>v1,fun k h=>Wt.put (hv k h) _⟩
theorem dsc_same (l:List Tk):∀ (f:Nat) (m:Md) (d:Ds),((dsc l f m d).1=true→(dsc l f m d).2.opn=d.opn)∧∀ k,Wt k d→Wt k (dsc l f m d).2:=by
 intro f
 induction f with
 | zero=>intro m d;exact ⟨(fun h=>by cases h),fun k h=>h⟩
 | succ f ih=>
   intro m d
   cases m with
   | fac=>
     unfold dsc
     split
     ·split
      ·exact ⟨(fun h=>by cases h),fun k h=>h⟩
      ·split
       ·exact ⟨(fun h=>by cases h),fun k h=>h⟩
       ·rename_i h64;have h:=ih .fac { d with at_:=d.at_+1,made:=d.made+1,opn:=d.opn+1 }
        have hW:∀ k,Wt k d→Wt (k+1) ({ d with at_:=d.at_+1,made:=d.made+1,opn:=d.opn+1 }:Ds):=fun k hk=>by
         unfold Wt at hk ⊢;dsimp only;omega
        dsimp only
        split
        ·rename_i hr;refine ⟨fun _=>?_,fun k hk=>?_⟩
         ·show (dsc l f .fac _).2.opn-1=_
          rw [h.1 hr];rfl
         ·exact Wt.put (k:=k) (d:={ (dsc l f .fac { d with at_:=d.at_+1,made:=d.made+1,opn:=d.opn+1 }).2 with opn:=(dsc l f .fac { d with at_:=d.at_+1,made:=d.made+1,opn:=d.opn+1 }).2.opn-1 }) (h.2 (k+1) (hW k hk)) _
        ·rename_i hr;exact ⟨fun h2=>absurd h2 hr,fun k hk=>by have:=h.2 (k+1) (hW k hk);unfold Wt at this ⊢;omega⟩
     ·split
      ·split
       ·exact ⟨(fun h=>by cases h),fun k h=>h⟩
       ·have h:=ih .or { d with at_:=d.at_+1,opn:=d.opn+1 };dsimp only
        split
        ·rename_i hr
         split
         ·exact ⟨(fun h=>by cases h),fun k hk=>h.2 k hk⟩
         ·refine ⟨fun _=>?_,fun k hk=>h.2 k hk⟩
          show (dsc l f .or _).2.opn-1=_
          rw [h.1 hr];rfl
        ·rename_i hr;exact ⟨fun h2=>absurd h2 hr,fun k hk=>h.2 k hk⟩
      ·split
       ·exact ⟨(fun h=>by cases h),fun k h=>h⟩
       ·split
        ·exact ⟨(fun h=>by cases h),fun k h=>h⟩
        ·have hW:∀ k,Wt k d→Wt (k+1) ({ d with at_:=d.at_+1,made:=d.made+1 }:Ds):=fun k hk=>by
          unfold Wt at hk ⊢;dsimp only;omega
         split
         ·exact ⟨fun _=>rfl,fun k hk=>Wt.put (hW k hk) _⟩
         ·split
          ·exact ⟨fun _=>rfl,fun k hk=>Wt.put (hW k hk) _⟩
          ·have h:=dtest_same (l:=l) (d:={ d with at_:=d.at_+1,made:=d.made+1 }) (name:=textAt l d.at_);exact ⟨h.1,fun k hk=>h.2 k (hW k hk)⟩
   | and=>
     unfold dsc;have h:=ih .fac d
     split
     ·rename_i hr;have h2:=ih .andT (dsc l f .fac d).2;exact ⟨fun h3=>(h2.1 h3).trans (h.1 hr),fun k hk=>h2.2 k (h.2 k hk)⟩
     ·exact h
   | or=>
     unfold dsc;have h:=ih .and d
     split
     ·rename_i hr;have h2:=ih .orT (dsc l f .and d).2;exact ⟨fun h3=>(h2.1 h3).trans (h.1 hr),fun k hk=>h2.2 k (h.2 k hk)⟩
     ·exact h
   | andT=>
     unfold dsc
     split
     ·split
      ·exact ⟨(fun h=>by cases h),fun k h=>h⟩
      ·have h:=ih .fac { d with at_:=d.at_+1,made:=d.made+1 }
       have hW:∀ k,Wt k d→Wt (k+1) ({ d with at_:=d.at_+1,made:=d.made+1 }:Ds):=fun k hk=>by
        unfold Wt at hk ⊢;dsimp only;omega
       dsimp only
       split
       ·rename_i hr;have h2:=ih .andT (Ds.put (dsc l f .fac { d with at_:=d.at_+1,made:=d.made+1 }).2 (Nd.of 5));exact ⟨fun h3=>(h2.1 h3).trans (h.1 hr),fun k hk=>h2.2 k (Wt.put (h.2 (k+1) (hW k hk)) _)⟩
       ·rename_i hr;exact ⟨fun h2=>absurd h2 hr,fun k hk=>by have:=h.2 (k+1) (hW k hk);unfold Wt at this ⊢;omega⟩
     ·exact ⟨fun _=>rfl,fun k h=>h⟩
   | orT=>
     unfold dsc
     split
     ·split
      ·exact ⟨(fun h=>by cases h),fun k h=>h⟩
      ·have h:=ih .and { d with at_:=d.at_+1,made:=d.made+1 }
       have hW:∀ k,Wt k d→Wt (k+1) ({ d with at_:=d.at_+1,made:=d.made+1 }:Ds):=fun k hk=>by
        unfold Wt at hk ⊢;dsimp only;omega
       dsimp only
       split
       ·rename_i hr;have h2:=ih .orT (Ds.put (dsc l f .and { d with at_:=d.at_+1,made:=d.made+1 }).2 (Nd.of 6));exact ⟨fun h3=>(h2.1 h3).trans (h.1 hr),fun k hk=>h2.2 k (Wt.put (h.2 (k+1) (hW k hk)) _)⟩
       ·rename_i hr;exact ⟨fun h2=>absurd h2 hr,fun k hk=>by have:=h.2 (k+1) (hW k hk);unfold Wt at this ⊢;omega⟩
     ·exact ⟨fun _=>rfl,fun k h=>h⟩
end Go.Proofs.YtjokciofeicdkaaGreatDoor
namespace Go.Proofs.YtjokciofeicdkaaGreatDoor
open Go.RowKit
attribute [local go_sem ↓] Go.wp_at_zero Go.wp_at_succ
def EnvOn (B:Nat)(w:World):Prop:=∀ w',Below B w w'→Env w'
theorem EnvOn.env {B:Nat}{w:World}(h:EnvOn B w):Env w:=h w (Below.refl _ _)
theorem EnvOn.next {B:Nat}{w w1:World}(h:EnvOn B w)(hb:Below B w w1):EnvOn B w1:=fun w' hb'=>h w' (hb.trans hb')
theorem EnvOn.of {w:World}(E:Env w):EnvOn w.heap.size w:=fun _ hb=>E.below hb
theorem EnvOn.mono {B B':Nat}{w:World}(h:EnvOn B w)(hB:B≤B'):EnvOn B' w:=fun w' hb=>h w' (hb.mono hB)
theorem aloneK_bad {s:ByteArray}{k:Int}{x:Int×Int×Nat}(h:scanR s=.inr x):aloneK s k=false:=by unfold aloneK;rw [h]
theorem aloneK_in {s:ByteArray}{k:Int}{l:List Tk}(h:scanR s=.inl l):aloneK s k=(decide (l.length=2) && (match l[0]? with
  | none=>false
  | some t=>t.kind == k && decide (t.text=s))):=by unfold aloneK;rw [h];rfl
theorem x_isName (s:ByteArray)(hs:s.size≤9223372036854775807)(w:World)(E:Env w) :
  Calls Tryz.prog 229 #[.string s] w fun e w'=>e=.returned (.bool (isName (bs s)))∧Below w.heap.size w w':=by
 have H0:=Hi (alone_name s);have cs:=Scan_any s w hs E;clear E
 cases hr:scanR s with
 | inr x=>
   have hx:=(scan_same s).2 x hr;rw [hx.2] at cs;have cs:=Hi cs;have H:=Hi (H0.out.symm.trans (aloneK_bad hr));have bx:(x.1 == 0)=false:=by rw [beq_eq_false_iff_ne];exact hx.1
   clear hr hx H0;go_enter Tryz.func229,Tryz.ntmps229;go_wp2_with (go_at_call 25;refine cs.out.mono ?_;rintro e w' ⟨v,rfl,ho,hb,_⟩;have hb:=Hi hb;clear ho);go_ret;exact ⟨by rw [H.out];rfl,hb.out⟩
 | inl l=>
   have hx:=(scan_same s).1 l hr;rw [hx] at cs;have cs:=Hi cs;have H:=Hi (H0.out.symm.trans (aloneK_in hr));clear hr hx H0
   by_cases h2:l.length=2
   ·obtain ⟨t,u,rfl⟩:∃ t u,l=[t,u]:=by
     match l,h2 with
     | [t,u],_=>exact ⟨t,u,rfl⟩
    have H2:=Hi (H.out.trans (show _=(t.kind == 2 && decide (t.text=s)) by simp))
    have cs:=Hi (show Calls Tryz.prog 25 #[.string s] w fun e w'=>ScanPost w ⟨2,flatT [t,u],0,0,0⟩ e w' from cs.out)
    have ht:=Hi (show [t,u][0]?=some t from rfl)
    clear H h2
    by_cases hk:t.kind=2
    ·have bk:(t.kind == 2)=true:=by rw [hk];rfl
     have H3:=Hi (H2.out.trans (show _=decide (t.text=s) by rw [hk];rfl))
     clear H2 hk;go_enter Tryz.func229,Tryz.ntmps229;go_wp2_with (go_at_call 25;refine cs.out.mono ?_;rintro e w' ⟨v,rfl,ho,hb,_⟩;obtain ⟨g,cp,rfl⟩:=Go.Joins.ownsRow_form ho (by show (0:Nat)<2;decide);have e0:w'.cell? ⟨g,0,none⟩=some (.int .i64 t.kind):=own_tok ho rfl 0 t ht.out 0 _ rfl;have e1:w'.cell? ⟨g,1,none⟩=some (.string t.text):=own_tok ho rfl 0 t ht.out 1 _ rfl;have hb:=Hi hb;clear ho)
     go_ret;exact ⟨by rw [H3.out,← ba_beq];rfl,hb.out⟩
    ·have bk:(t.kind == 2)=false:=by rw [beq_eq_false_iff_ne];exact hk
     have H3:=Hi (H2.out.trans (show _=false by rw [bk];rfl))
     clear H2 hk;go_enter Tryz.func229,Tryz.ntmps229;go_wp2_with (go_at_call 25;refine cs.out.mono ?_;rintro e w' ⟨v,rfl,ho,hb,_⟩;obtain ⟨g,cp,rfl⟩:=Go.Joins.ownsRow_form ho (by show (0:Nat)<2;decide);have e0:w'.cell? ⟨g,0,none⟩=some (.int .i64 t.kind):=own_tok ho rfl 0 t ht.out 0 _ rfl;have hb:=Hi hb;clear ho)
     go_ret;exact ⟨by rw [H3.out];rfl,hb.out⟩
   ·have H2:=Hi (H.out.trans (show _=false by rw [decide_eq_false h2];rfl))
    have b2:((l.length:Int) == 2)=false:=by rw [beq_eq_false_iff_ne];omega
    clear H h2;go_enter Tryz.func229,Tryz.ntmps229;go_wp2_with (go_at_call 25;refine cs.out.mono ?_;rintro e w' ⟨v,rfl,ho,hb,_⟩;have hb:=Hi hb;rcases Go.Joins.ownsRow_forms ho with ⟨rfl,h0⟩|⟨g,cp,rfl⟩<;>clear ho)
    all_goals go_ret
    all_goals exact ⟨by rw [H2.out];rfl,hb.out⟩
theorem x_isPattern (s:ByteArray)(hs:s.size≤9223372036854775807)(w:World)(E:Env w) :
  Calls Tryz.prog 234 #[.string s] w fun e w'=>e=.returned (.bool (isPatR (bs s)))∧Below w.heap.size w w':=by
 have H0:=Hi (alone_pat s);have cs:=Scan_any s w hs E;clear E
 cases hr:scanR s with
 | inr x=>
   have hx:=(scan_same s).2 x hr;rw [hx.2] at cs;have cs:=Hi cs;have H:=Hi (H0.out.symm.trans (aloneK_bad hr));have bx:(x.1 == 0)=false:=by rw [beq_eq_false_iff_ne];exact hx.1
   clear hr hx H0;go_enter Tryz.func234,Tryz.ntmps234;go_wp2_with (go_at_call 25;refine cs.out.mono ?_;rintro e w' ⟨v,rfl,ho,hb,_⟩;have hb:=Hi hb;clear ho);go_ret;exact ⟨by rw [H.out];rfl,hb.out⟩
 | inl l=>
   have hx:=(scan_same s).1 l hr;rw [hx] at cs;have cs:=Hi cs;have H:=Hi (H0.out.symm.trans (aloneK_in hr));clear hr hx H0
   by_cases h2:l.length=2
   ·obtain ⟨t,u,rfl⟩:∃ t u,l=[t,u]:=by
     match l,h2 with
     | [t,u],_=>exact ⟨t,u,rfl⟩
    have H2:=Hi (H.out.trans (show _=(t.kind == 5 && decide (t.text=s)) by simp))
    have cs:=Hi (show Calls Tryz.prog 25 #[.string s] w fun e w'=>ScanPost w ⟨2,flatT [t,u],0,0,0⟩ e w' from cs.out)
    have ht:=Hi (show [t,u][0]?=some t from rfl)
    clear H h2
    by_cases hk:t.kind=5
    ·have bk:(t.kind == 5)=true:=by rw [hk];rfl
     have H3:=Hi (H2.out.trans (show _=decide (t.text=s) by rw [hk];rfl))
     clear H2 hk;go_enter Tryz.func234,Tryz.ntmps234;go_wp2_with (go_at_call 25;refine cs.out.mono ?_;rintro e w' ⟨v,rfl,ho,hb,_⟩;obtain ⟨g,cp,rfl⟩:=Go.Joins.ownsRow_form ho (by show (0:Nat)<2;decide);have e0:w'.cell? ⟨g,0,none⟩=some (.int .i64 t.kind):=own_tok ho rfl 0 t ht.out 0 _ rfl;have e1:w'.cell? ⟨g,1,none⟩=some (.string t.text):=own_tok ho rfl 0 t ht.out 1 _ rfl;have hb:=Hi hb;clear ho)
     go_ret;exact ⟨by rw [H3.out,← ba_beq];rfl,hb.out⟩
    ·have bk:(t.kind == 5)=false:=by rw [beq_eq_false_iff_ne];exact hk
     have H3:=Hi (H2.out.trans (show _=false by rw [bk];rfl))
     clear H2 hk;go_enter Tryz.func234,Tryz.ntmps234;go_wp2_with (go_at_call 25;refine cs.out.mono ?_;rintro e w' ⟨v,rfl,ho,hb,_⟩;obtain ⟨g,cp,rfl⟩:=Go.Joins.ownsRow_form ho (by show (0:Nat)<2;decide);have e0:w'.cell? ⟨g,0,none⟩=some (.int .i64 t.kind):=own_tok ho rfl 0 t ht.out 0 _ rfl;have hb:=Hi hb;clear ho)
     go_ret;exact ⟨by rw [H3.out];rfl,hb.out⟩
   ·have H2:=Hi (H.out.trans (show _=false by rw [decide_eq_false h2];rfl))
    have b2:((l.length:Int) == 2)=false:=by rw [beq_eq_false_iff_ne];omega
    clear H h2;go_enter Tryz.func234,Tryz.ntmps234;go_wp2_with (go_at_call 25;refine cs.out.mono ?_;rintro e w' ⟨v,rfl,ho,hb,_⟩;have hb:=Hi hb;rcases Go.Joins.ownsRow_forms ho with ⟨rfl,h0⟩|⟨g,cp,rfl⟩<;>clear ho)
    all_goals go_ret
    all_goals exact ⟨by rw [H2.out];rfl,hb.out⟩
def signS (op:Int):ByteArray:=if op=1 then ⟨#[61]⟩ else if op=2 then ⟨#[33,61]⟩ else if op=3 then ⟨#[60]⟩ else if op=4 then ⟨#[60,61]⟩ else if op=5 then ⟨#[62]⟩ else if op=6 then ⟨#[62,61]⟩ else ⟨#[]⟩
theorem str_ret {a b:ByteArray}(h:a=b):Ending.returned (.string a)=Ending.returned (.string b):=by rw [h]
theorem x_signOf (op:Int)(w:World):Calls Tryz.prog 233 #[.int .i64 op] w fun e w'=>e=.returned (.string (signS op))∧w=w':=by
 go_enter Tryz.func233,Tryz.ntmps233;go_wp2
 all_goals go_ret
 all_goals (refine ⟨str_ret ?_,rfl⟩;(try simp only [beq_iff_eq,beq_eq_false_iff_ne,ne_eq] at *);unfold signS;first|rfl|(simp [*];done)|(subst_vars;rfl))
def DsBox (g cap:Nat)(l:List Tk)(d:Ds)(vn:Value):Array Value:=#[tokV g cap l,.int .i64 d.at_,vn,.int .i64 d.made,.int .i64 d.opn,.int .i64 d.code]
structure DsAt (w:World)(M g cap:Nat)(l:List Tk)(d:Ds)(vn:Value):Prop where
 box:w.heap[M]?=some (.cells (DsBox g cap l d vn) 235 (0,0))
 gM:g<M
 toks:TokIn w g l
 on:w.ownsRow (M+1) 86 8 vn d.out.length (flatN d.out)
section
variable {w:World} {M g cap:Nat} {l:List Tk} {d:Ds} {vn:Value}
theorem DsAt.lt (h:DsAt w M g cap l d vn):M<w.heap.size:=(Array.getElem?_eq_some_iff.1 h.box).1
theorem DsAt.free (h:DsAt w M g cap l d vn)(i:Nat):w.frozen? ⟨M,i,none⟩=false:=by simp [World.frozen?,h.box]
theorem DsAt.c0 (h:DsAt w M g cap l d vn):w.cell? ⟨M,0,none⟩=some (tokV g cap l):=by have:=cell_of_row w M 0 _ _ (0,0) h.box;simpa [DsBox] using this
theorem DsAt.c1 (h:DsAt w M g cap l d vn):w.cell? ⟨M,1,none⟩=some (.int .i64 d.at_):=by have:=cell_of_row w M 1 _ _ (0,0) h.box;simpa [DsBox] using this
theorem DsAt.c2 (h:DsAt w M g cap l d vn):w.cell? ⟨M,2,none⟩=some vn:=by have:=cell_of_row w M 2 _ _ (0,0) h.box;simpa [DsBox] using this
theorem DsAt.c3 (h:DsAt w M g cap l d vn):w.cell? ⟨M,3,none⟩=some (.int .i64 d.made):=by have:=cell_of_row w M 3 _ _ (0,0) h.box;simpa [DsBox] using this
theorem DsAt.c4 (h:DsAt w M g cap l d vn):w.cell? ⟨M,4,none⟩=some (.int .i64 d.opn):=by have:=cell_of_row w M 4 _ _ (0,0) h.box;simpa [DsBox] using this
theorem DsAt.c5 (h:DsAt w M g cap l d vn):w.cell? ⟨M,5,none⟩=some (.int .i64 d.code):=by have:=cell_of_row w M 5 _ _ (0,0) h.box;simpa [DsBox] using this
theorem DsAt.ne (h:DsAt w M g cap l d vn):vn.ownBlock≠some M:=fun e=>by have:=(h.on.lt M e).1;omega
theorem DsAt.set (h:DsAt w M g cap l d vn){i:Nat}{u:Value}{d':Ds}(hb:(DsBox g cap l d vn).setIfInBounds i u=DsBox g cap l d' vn)(hn:d'.out=d.out):DsAt (w.setCell ⟨M,i,none⟩ u) M g cap l d' vn where
 box:=by
  have:=h.box;simp only [World.setCell,Array.getElem?_modify,this,Option.map_some];rw [← hb];rfl
 gM:=h.gM
 toks:=h.toks.below (Below.setCell (Below.refl M w) (Nat.le_refl M) _) h.gM
 on:=by rw [hn];exact ownsRow_setCell_below h.on (Nat.lt_succ_self M) _
theorem DsAt.setAt (h:DsAt w M g cap l d vn)(i:Nat):DsAt (w.setCell ⟨M,1,none⟩ (.int .i64 i)) M g cap l { d with at_:=i } vn:=h.set rfl rfl
theorem DsAt.setMade (h:DsAt w M g cap l d vn)(i:Nat):DsAt (w.setCell ⟨M,3,none⟩ (.int .i64 i)) M g cap l { d with made:=i } vn:=h.set rfl rfl
theorem DsAt.setOpn (h:DsAt w M g cap l d vn)(i:Nat):DsAt (w.setCell ⟨M,4,none⟩ (.int .i64 i)) M g cap l { d with opn:=i } vn:=h.set rfl rfl
theorem DsAt.setCode (h:DsAt w M g cap l d vn)(i:Int):DsAt (w.setCell ⟨M,5,none⟩ (.int .i64 i)) M g cap l { d with code:=i } vn:=h.set rfl rfl
theorem DsAt.up (h:DsAt w M g cap l d vn){w':World}(hb:Below w.heap.size w w'):DsAt w' M g cap l d vn where
 box:=(hb.block M h.lt).trans h.box
 gM:=h.gM
 toks:=h.toks.below hb h.toks.1
 on:=own_below h.on hb
theorem DsAt.qt (h:DsAt w M g cap l d vn){w':World}(hq:Qt w w'):DsAt w' M g cap l d vn:=h.up (hq.below _)
theorem DsAt.setOut {w1:World}{v':Value}{xs:List Nd}(P:DsAt w M g cap l d vn)(hg:w.grownBy w1 vn.ownBlock)
  (ho:w1.ownsRow (M+1) 86 8 v' xs.length (flatN xs)):DsAt (w1.setCell ⟨M,2,none⟩ v') M g cap l { d with out:=xs } v' where
 box:=by
  have h1:w1.heap[M]?=w.heap[M]?:=hg.block M P.lt (fun e=>P.ne e.symm)
  have:=h1.trans P.box;simp only [World.setCell,Array.getElem?_modify,this,Option.map_some]
  rfl
 gM:=P.gM
 toks:=by
  refine TokIn.below (L:=M) ⟨Nat.lt_of_lt_of_le P.toks.1 hg.size,fun k t hk j u hj=>?_⟩ (Below.setCell (Below.refl M w1) (Nat.le_refl M) _) P.gM
  exact hg.cell (P.toks.2 k t hk j u hj) (fun e=>by have:=(P.on.lt g e.symm).1;have:=P.gM;omega)
 on:=ownsRow_setCell_below ho (Nat.lt_succ_self M) _
end
def DbPost (w:World)(M g cap:Nat)(l:List Tk)(x:Bool×Ds)(e:Ending)(w':World):Prop:=e=.returned (.bool x.1)∧Below M w w'∧∃ vn,DsAt w' M g cap l x.2 vn
theorem x_sign {w:World}{M g cap:Nat}{l:List Tk}{d:Ds}{vn:Value}(P:DsAt w M g cap l d vn)(s:ByteArray) :
  Calls Tryz.prog 205 #[.pointer (some ⟨M,0,none⟩),.string s] w fun e w'=>e=.returned (.bool (sgn l d.at_ s))∧Qt w w':=by
 have q0:=P.c0;have q1:=P.c1
 by_cases hi:d.at_<l.length
 ·have ht:l[d.at_]?=some l[d.at_]:=List.getElem?_eq_getElem hi;generalize l[d.at_]=t at ht;have e0:w.cell? ⟨g,d.at_*4,none⟩=some (.int .i64 t.kind):=P.toks.2 d.at_ t ht 0 _ rfl;have e1:w.cell? ⟨g,d.at_*4+1,none⟩=some (.string t.text):=P.toks.2 d.at_ t ht 1 _ rfl;have hs:sgn l d.at_ s=(t.kind == 7 && decide (t.text=s)):=by unfold sgn;rw [ht]
  have b1:decide (d.at_<l.length)=true:=decide_eq_true hi;have b2:(d.at_:Int)<(l.length:Int):=by omega
  have b0:(0:Int)≤(d.at_:Int):=by omega
  clear P ht hi
  by_cases hk:t.kind=7
  ·have H:=Hi (hs.trans (show _=decide (t.text=s) by rw [hk];rfl))
   have bk:(t.kind == 7)=true:=by rw [hk];rfl
   clear hs hk;go_enter Tryz.func205,Tryz.ntmps205;go_wp2_with fail;go_quiet (fail);go_wp2_with fail;go_ret;exact ⟨by rw [H.out,← ba_beq];rfl,Qt.self _ _⟩
  ·have H:=Hi (hs.trans (show _=false by rw [show (t.kind == 7)=false by rw [beq_eq_false_iff_ne];exact hk];rfl))
   have bk:(t.kind == 7)=false:=by rw [beq_eq_false_iff_ne];exact hk
   clear hs hk;go_enter Tryz.func205,Tryz.ntmps205;go_wp2_with fail;go_quiet (fail);go_wp2_with fail;go_ret;exact ⟨by rw [H.out];rfl,Qt.self _ _⟩
 ·have H:=Hi (show sgn l d.at_ s=false by unfold sgn;rw [List.getElem?_eq_none (by omega)])
  have b1:decide (d.at_<l.length)=false:=decide_eq_false hi;clear P hi;go_enter Tryz.func205,Tryz.ntmps205;go_wp2_with fail;go_quiet (fail);go_wp2_with fail;go_ret;exact ⟨by rw [H.out];rfl,Qt.self _ _⟩
theorem x_fail {w:World}{M g cap:Nat}{l:List Tk}{d:Ds}{vn:Value}(P:DsAt w M g cap l d vn)(c:Int) :
  Calls Tryz.prog 219 #[.pointer (some ⟨M,0,none⟩),.int .i64 c] w fun e w'=>e=.returned (.bool false)∧Sole M w w'∧Below M w w'∧DsAt w' M g cap l { d with code:=c } vn:=by
 have q5:=P.c5;have f5:=P.free 5;have hP:=Hi P;clear P;go_enter Tryz.func219,Tryz.ntmps219;go_wp2_with fail;go_ret;exact ⟨rfl,(Sole.refl M w).setCell _ _,(Below.refl M w).setCell (Nat.le_refl M) _,hP.out.setCode c⟩
def Ds.makes (d:Ds):Bool×Ds:=if 64≤d.made then d.fail 51 else (true,{ d with made:=d.made+1 })
theorem x_makes {w:World}{M g cap:Nat}{l:List Tk}{d:Ds}{vn:Value}(P:DsAt w M g cap l d vn) :
  Calls Tryz.prog 206 #[.pointer (some ⟨M,0,none⟩)] w fun e w'=>DbPost w M g cap l d.makes e w':=by
 have q3:=P.c3;have f3:=P.free 3
 by_cases h64:64≤d.made
 ·have H:=Hi (show d.makes=d.fail 51 from if_pos h64)
  have b64:(d.made:Int)≥64:=by omega
  have c:=Hi (x_fail P 51);clear P h64;go_enter Tryz.func206,Tryz.ntmps206;go_wp2_with fail;refine c.out.mono ?_;rintro e w1 ⟨rfl,hs,hb,P1⟩;have hP:=Hi P1;clear P1 c q3 f3;go_wp2_with fail;go_ret;rw [H.out];exact ⟨rfl,hb,vn,hP.out⟩
 ·have H:=Hi (show d.makes=(true,{ d with made:=d.made+1 }) from if_neg h64)
  have b64:¬ (d.made:Int)≥64:=by omega
  have bw:IntKind.i64.wrap ((d.made:Int)+1)=(d.made:Int)+1:=IntWalk.i64_in _ (by omega)
  have hP:=Hi P;clear P h64;go_enter Tryz.func206,Tryz.ntmps206;go_wp2_with fail;go_ret;rw [H.out];exact ⟨rfl,(Below.refl M w).setCell (Nat.le_refl M) _,vn,by have:=hP.out.setMade (d.made+1);exact this⟩
theorem x_put {w:World}{M g cap:Nat}{l:List Tk}{d:Ds}{vn:Value}(P:DsAt w M g cap l d vn)(k:Int)(yf:ByteArray)(yo ym yl yh yn:Int)(yp:ByteArray)(hn:d.out.length≤1000000) :
  Calls Tryz.prog 207 #[.pointer (some ⟨M,0,none⟩),.int .i64 k,.agg #[.string yf,.int .i64 yo,.int .i64 ym,.int .i64 yl,.int .i64 yh,.int .i64 yn,.string yp]] w fun e w'=>DbPost w M g cap l (true,d.put ⟨k,yf,yo,ym,yl,yh,yn,yp⟩) e w':=by
 obtain ⟨i0,hi0,hz0,hz1,hz2⟩:=info_parts node_info;have hi0:=Hi hi0;have hz0:=Hi hz0;have hz1:=Hi hz1;have hz2:=Hi hz2;have hlt:=P.lt;have Pt:=P.up ((Below.refl _ w).alloc (Nat.le_refl _) (.cells #[.string yf,.int .i64 yo,.int .i64 ym,.int .i64 yl,.int .i64 yh,.int .i64 yn,.string yp] 84 (0,0)));have hbt:Below M w (w.alloc (.cells #[.string yf,.int .i64 yo,.int .i64 ym,.int .i64 yl,.int .i64 yh,.int .i64 yn,.string yp] 84 (0,0))):=(Below.refl M w).alloc (Nat.le_of_lt hlt) _;have htb:(w.alloc (.cells #[.string yf,.int .i64 yo,.int .i64 ym,.int .i64 yl,.int .i64 yh,.int .i64 yn,.string yp] 84 (0,0))).heap[w.heap.size]?=some (.cells #[.string yf,.int .i64 yo,.int .i64 ym,.int .i64 yl,.int .i64 yh,.int .i64 yn,.string yp] 84 (0,0)):=heap_alloc_new w _;have hbt:=Hi hbt;have htb:=Hi htb;have Pt:=Hi Pt;clear P;go_enter Tryz.func207,Tryz.ntmps207;go_upto_region 1 with fail;generalize w.alloc (.cells #[.string yf,.int .i64 yo,.int .i64 ym,.int .i64 yl,.int .i64 yh,.int .i64 yn,.string yp] 84)=wc at hbt htb Pt ⊢;generalize w.heap.size=B at htb ⊢;have htb:=htb.out;have q3:=Pt.out.c2;have f3:=Pt.out.free 2;have hlt:=Pt.out.lt;have z0:=cell_of_row wc B 0 _ _ _ htb;have z1:=cell_of_row wc B 1 _ _ _ htb;have z2:=cell_of_row wc B 2 _ _ _ htb;have z3:=cell_of_row wc B 3 _ _ _ htb;have z4:=cell_of_row wc B 4 _ _ _ htb;have z5:=cell_of_row wc B 5 _ _ _ htb;have z6:=cell_of_row wc B 6 _ _ _ htb;simp only [List.getElem?_toArray,List.getElem?_cons_zero,List.getElem?_cons_succ] at z0 z1 z2 z3 z4 z5 z6;have Pa:=Pt.out.up ((Below.refl _ wc).alloc (Nat.le_refl _) (.cells #[.int .i64 k,.string yf,.int .i64 yo,.int .i64 ym,.int .i64 yl,.int .i64 yh,.int .i64 yn,.string yp] 86 (0,0)));have q3a:=Pa.c2;have hO:=Hi Pt.out.on;clear Pa htb
 go_region_law (refine step_append_lies _ (by rfl) (.tmp 11) (.tmp 15) _ (by rfl) (M+1) 86 i0 _ 8 80 Tryz.underlying40 hi0.out hz0.out hz1.out hz2.out rfl (by decide) vn d.out.length (flatN d.out) (by rfl) ((hO.out.alloc _).drew) ⟨wc.heap.size,0,none⟩ 1 1 [.int .i64 k,.string yf,.int .i64 yo,.int .i64 ym,.int .i64 yl,.int .i64 yh,.int .i64 yn,.string yp] (by rfl) (by rfl) (World.news_of_block (heap_alloc_new wc _)) (oc _ rfl) (by decide) (by unfold maxLen;omega) (by omega) (by simp;omega) (wc.heap.size+1) (by simp) ?_;intro g' cap' w4 hown4 hg4 hat4 hlt4;have P1:=(Pt.out.up ((Below.refl _ wc).alloc (Nat.le_refl _) (.cells #[.int .i64 k,.string yf,.int .i64 yo,.int .i64 ym,.int .i64 yl,.int .i64 yh,.int .i64 yn,.string yp] 86 (0,0)))).qt (Qt.self _ 1);have q34:=hg4.cell P1.c2 (fun e=>P1.ne e.symm);have f34:=(hg4.frozen_far (a:=⟨M,2,none⟩) P1.lt (fun e=>P1.ne e.symm)).trans (P1.free 2);have hown5:=Hi hown4;have hg5:=Hi hg4;clear P1 hown4 hg4)
 all_goals (
  go_wp2_with fail;go_ret;have hb1:Below M wc ((wc.alloc (.cells #[.int .i64 k,.string yf,.int .i64 yo,.int .i64 ym,.int .i64 yl,.int .i64 yh,.int .i64 yn,.string yp] 86 (0,0))).drewN 1):=((Below.refl M wc).alloc (Nat.le_of_lt hlt) _).trans ((Qt.self _ 1).below M);have P1:=(Pt.out.up ((Below.refl _ wc).alloc (Nat.le_refl _) (.cells #[.int .i64 k,.string yf,.int .i64 yo,.int .i64 ym,.int .i64 yl,.int .i64 yh,.int .i64 yn,.string yp] 86 (0,0)))).qt (Qt.self _ 1);refine ⟨rfl,hbt.out.trans ((hb1.grown hg5.out (Nat.le_of_lt P1.lt) (fun i hi=>by have:=(hO.out.lt i hi).1;omega)).setCell (Nat.le_refl M) _),.slice (some ⟨g',0,none⟩) (d.out.length+1) cap',?_⟩
  exact P1.setOut (xs:=d.out++[⟨k,yf,yo,ym,yl,yh,yn,yp⟩]) hg5.out (by rw [flatN_snoc,List.length_append];exact hown5.out))
theorem TstAt.up {w w':World}{B:Nat}{x:Nd}(h:TstAt w B x)(hb:Below w.heap.size w w'):TstAt w' B x:=(hb.block B h.lt).trans h
structure DtAt (w0 w:World)(M g cap:Nat)(l:List Tk)(d:Ds)(vn:Value)(B:Nat)(x:Nd):Prop where
 P:DsAt w M g cap l d vn
 T:TstAt w B x
 mB:M<B
 b0:Below M w0 w
section
variable {w0 w:World} {M g cap:Nat} {l:List Tk} {d:Ds} {vn:Value} {B:Nat} {x:Nd}
theorem DsAt.side (P:DsAt w M g cap l d vn)(h:TstAt w B x)(hB:M<B)(i:Nat)(u:Value):DsAt (w.setCell ⟨B,i,none⟩ u) M g cap l d vn where
 box:=by
  simp only [World.setCell];rw [Array.getElem?_modify,if_neg (fun e:B=M=>by omega)];exact P.box
 gM:=P.gM
 toks:=P.toks.below (Below.setCell (Below.refl M w) (Nat.le_of_lt hB) _) P.gM
 on:=ownsRow_setCell_other P.on (fun e=>by
  obtain ⟨c,fz,h2⟩:=Lib.ownsRow_kind P.on B e;unfold TstAt at h;rw [h] at h2;simp at h2) _
theorem DtAt.setT (h:DtAt w0 w M g cap l d vn B x)(i:Nat)(u:Value)(y:Nd)(hy:(tcells x).setIfInBounds i u=tcells y):DtAt w0 (w.setCell ⟨B,i,none⟩ u) M g cap l d vn B y:=
 ⟨h.P.side h.T h.mB i u,h.T.set i u y hy,h.mB,h.b0.setCell (Nat.le_of_lt h.mB) u⟩
theorem DtAt.setAt (h:DtAt w0 w M g cap l d vn B x)(i:Nat):DtAt w0 (w.setCell ⟨M,1,none⟩ (.int .i64 i)) M g cap l { d with at_:=i } vn B x:=
 ⟨h.P.setAt i,h.T.setM (by have:=h.mB;omega),h.mB,h.b0.setCell (Nat.le_refl M) _⟩
theorem DtAt.up {w':World}(h:DtAt w0 w M g cap l d vn B x)(hb:Below w.heap.size w w'):DtAt w0 w' M g cap l d vn B x:=
 ⟨h.P.up hb,h.T.up hb,h.mB,h.b0.trans (hb.mono (Nat.le_of_lt h.P.lt))⟩
theorem DtAt.qt {w':World}(h:DtAt w0 w M g cap l d vn B x)(hq:Qt w w'):DtAt w0 w' M g cap l d vn B x:=h.up (hq.below _)
theorem DtAt.sole {w':World}{q:Ds}(h:DtAt w0 w M g cap l d vn B x)(hs:Sole M w w')(hb:Below M w w')(hP:DsAt w' M g cap l q vn):DtAt w0 w' M g cap l q vn B x:=
 ⟨hP,h.T.sole hs (by have:=h.mB;omega),h.mB,h.b0.trans hb⟩
end
def NumPost (w0:World)(M g cap:Nat)(l:List Tk)(d:Ds)(vn:Value)(B:Nat)(y:Nd)(fy:Int→Nd)(e:Ending)(w':World):Prop:=match d.num l with
 | none=>e=.returned (.bool false)∧DtAt w0 w' M g cap l { d with code:=50 } vn B y
 | some v=>e=.returned (.bool true)∧DtAt w0 w' M g cap l v.2 vn B (fy v.1)
theorem numPost_none {w0:World}{M g cap:Nat}{l:List Tk}{d:Ds}{vn:Value}{B:Nat}{y:Nd}{fy:Int→Nd}{e:Ending}{w':World}(h:d.num l=none):NumPost w0 M g cap l d vn B y fy e w'=(e=.returned (.bool false)∧DtAt w0 w' M g cap l { d with code:=50 } vn B y):=by unfold NumPost;rw [h]
theorem numPost_some {w0:World}{M g cap:Nat}{l:List Tk}{d:Ds}{vn:Value}{B:Nat}{y:Nd}{fy:Int→Nd}{e:Ending}{w':World}{v:Int×Ds}(h:d.num l=some v):NumPost w0 M g cap l d vn B y fy e w'=(e=.returned (.bool true)∧DtAt w0 w' M g cap l v.2 vn B (fy v.1)):=by unfold NumPost;rw [h]
theorem x_number {w0 w:World}{M g cap:Nat}{l:List Tk}{d:Ds}{vn:Value}{B k:Nat}{y:Nd}{fy:Int→Nd}(T:DtAt w0 w M g cap l d vn B y)(hE:EnvOn M w)(hG:∀ t∈l,TokG t)(hl:l.length≤1000000)
  (hk:∃ z,(tcells y)[k]?=some (.int .i64 z)) (hfy:∀ v:Int,(tcells y).setIfInBounds k (.int .i64 v)=tcells (fy v)) :
  Calls Tryz.prog 235 #[.pointer (some ⟨M,0,none⟩),.pointer (some ⟨B,k,none⟩)] w fun e w'=>NumPost w0 M g cap l d vn B y fy e w':=by
 have q0:=T.P.c0;have q1:=T.P.c1;have hT:=Hi T;have hf:=Hi (fun (w':World) (hq:Qt w w')=>x_fail (T.qt hq).P 50)
 by_cases hi:d.at_<l.length
 rotate_left
 ·have hn:d.num l=none:=by unfold Ds.num;rw [if_pos (show kindIs l d.at_ 4=false by unfold kindIs;rw [List.getElem?_eq_none (by omega)])]
  have H:=Hi hn;have b1:decide (l.length≤d.at_)=true:=decide_eq_true (by omega)
  clear T hi hn hk hfy;go_enter Tryz.func235,Tryz.ntmps235;go_wp2_with fail;go_quiet (fail);go_wp2_with fail;refine (hf.out _ (Qt.self w _)).mono ?_;rintro e w1 ⟨rfl,hs,hb,P1⟩;have hP1:=Hi P1;clear P1 hf;go_wp2_with fail;go_ret;rw [numPost_none H.out];exact ⟨rfl,(hT.out.qt (Qt.self w _)).sole hs hb hP1.out⟩
 have ht:l[d.at_]?=some l[d.at_]:=List.getElem?_eq_getElem hi;have hts:=(hG _ (List.getElem_mem hi)).2.2.2.2.1;generalize l[d.at_]=t at ht hts;have e0:w.cell? ⟨g,d.at_*4,none⟩=some (.int .i64 t.kind):=T.P.toks.2 d.at_ t ht 0 _ rfl;have e1:w.cell? ⟨g,d.at_*4+1,none⟩=some (.string t.text):=T.P.toks.2 d.at_ t ht 1 _ rfl;have hki:kindIs l d.at_ 4=(t.kind == 4):=by unfold kindIs;rw [ht]
 have hti:textAt l d.at_=t.text:=by unfold textAt;rw [ht]
 have b1:decide (l.length≤d.at_)=false:=by rw [decide_eq_false_iff_not];omega
 have b2:(d.at_:Int)<(l.length:Int):=by omega
 have b3:(0:Int)≤(d.at_:Int):=by omega
 by_cases hk4:t.kind=4
 rotate_left
 ·have hn:d.num l=none:=by unfold Ds.num;rw [if_pos (by rw [hki,beq_eq_false_iff_ne];exact hk4)]
  have H:=Hi hn;have bk:(t.kind != 4)=true:=by simpa using hk4
  clear T hi hn hk hfy hki hti hts ht e1 hk4;go_enter Tryz.func235,Tryz.ntmps235;go_wp2_with fail;go_quiet (fail);go_wp2_with fail;refine (hf.out _ (Qt.self w _)).mono ?_;rintro e w1 ⟨rfl,hs,hb,P1⟩;have hP1:=Hi P1;clear P1 hf;go_wp2_with fail;go_ret;rw [numPost_none H.out];exact ⟨rfl,(hT.out.qt (Qt.self w _)).sole hs hb hP1.out⟩
 have bk:(t.kind != 4)=false:=by rw [hk4];rfl
 have cv:=Hi (fun (w':World) (hb:Below M w w')=>p_Value t.text (by omega) w' (hE w' hb))
 have hn:d.num l=if (valOf t.text (numS t.text)).2≠0 then none else some ((valOf t.text (numS t.text)).1,{ d with at_:=d.at_+1 }):=by
  unfold Ds.num;rw [hki,hti,hk4,if_neg (by decide)]
 generalize valOf t.text (numS t.text)=v at *;obtain ⟨v1,v2⟩:=v;dsimp only at hn cv;obtain ⟨z,hz⟩:=hk;have zk:w.cell? ⟨B,k,none⟩=some (.int .i64 z):=(T.T.cell k).trans hz;clear T hki hti hts ht hk4 hz
 by_cases hv:v2=0
 ·have H:=Hi (hn.trans (if_neg (fun h=>h hv)))
  have hi:=Hi hi;have hfy:=Hi hfy;subst hv;clear hn;go_enter Tryz.func235,Tryz.ntmps235;go_wp2_with fail;go_quiet (fail);go_wp2_with fail
  go_region_law (go_simp;go_at_call 65;refine (cv.out _ ((Qt.self w _).below M)).mono ?_;rintro e wz ⟨rfl,hbz⟩;go_wp2_with fail)
  all_goals (
   have T2:=(hT.out.qt (Qt.self w (nq+1))).up hbz;have s1:=T2.P.c1;have f1:=T2.P.free 1;have zk2:wz.cell? ⟨B,k,none⟩=some (.int .i64 z):=(hbz.cell (p:=⟨B,k,none⟩) (hT.out.qt (Qt.self w (nq+1))).T.lt).trans zk;have fk:=T2.T.free k;have T2:=Hi T2;have bw:IntKind.i64.wrap ((d.at_:Int)+1)=(d.at_:Int)+1:=IntWalk.i64_in _ (by have:=hi.out;omega)
   clear hbz q0 q1 e0 e1 zk;go_upto_region 7 with fail;have T3:=T2.out.setT k (.int .i64 v1) _ (hfy.out v1);clear T2 s1 f1 zk2 fk;generalize wz.setCell ⟨B,k,none⟩ (.int .i64 v1)=W3 at T3 ⊢;have s1:=T3.P.c1;have f1:=T3.P.free 1;have T3:=Hi T3;go_wp2_with fail;go_ret;rw [numPost_some H.out];exact ⟨rfl,T3.out.setAt (d.at_+1)⟩)
 ·have H:=Hi (hn.trans (if_pos hv));have bv:(v2 != 0)=true:=by simpa using hv
  have hf2:=Hi (fun (W:World) (T:DtAt w0 W M g cap l d vn B y)=>x_fail T.P 50)
  clear hn hv hf;go_enter Tryz.func235,Tryz.ntmps235;go_wp2_with fail;go_quiet (fail);go_wp2_with fail
  go_region_law (go_simp;go_at_call 65;refine (cv.out _ ((Qt.self w _).below M)).mono ?_;rintro e wz ⟨rfl,hbz⟩;go_wp2_with fail)
  all_goals (
   have T2:=(hT.out.qt (Qt.self w (nq+1))).up hbz;have T2:=Hi T2;clear hbz q0 q1 e0 e1 zk;go_wp2_with fail;refine (hf2.out _ T2.out).mono ?_;rintro e w1 ⟨rfl,hs,hb,P1⟩;have hP1:=Hi P1;clear P1 hf2;go_wp2_with fail;go_ret;rw [numPost_none H.out];exact ⟨rfl,T2.out.sole hs hb hP1.out⟩)
end Go.Proofs.YtjokciofeicdkaaGreatDoor

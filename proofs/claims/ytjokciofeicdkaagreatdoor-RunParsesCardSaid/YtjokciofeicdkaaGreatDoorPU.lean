/- A part of the proof of RunParses: TraA TraB TraC TraD TraE TraF TraG TraH TraI TraJ TraK. -/
import Derived.Test.YtjokciofeicdkaaGreatDoorPT
set_option maxHeartbeats 16000000
set_option maxRecDepth 100000
set_option linter.all false
namespace Go.Proofs.YtjokciofeicdkaaGreatDoor
open Go.RowKit
attribute [local go_sem ↓] Go.wp_at_zero Go.wp_at_succ
theorem or32:∀ n:Fin 256,letterN n.1=((decide ((97:Int)≤bits .or .u8 ((n.1:Nat):Int) 32) && decide (bits .or .u8 ((n.1:Nat):Int) 32≤122)) || (((n.1:Nat):Int) == 95)):=by decide +kernel
theorem or32u (c:UInt8):letterN c.toNat=((decide ((97:Int)≤bits .or .u8 (c.toNat:Int) 32) && decide (bits .or .u8 (c.toNat:Int) 32≤122)) || ((c.toNat:Int) == 95)):=or32 ⟨c.toNat,c.toNat_lt⟩
theorem t_letter {w:World}{M:Nat}{s:ByteArray}(q0:w.cell? ⟨M,0,none⟩=some (.string s))(i:Nat)(hi:i≤1000000) :
  Calls Tryz.prog 220 #[.pointer (some ⟨M,0,none⟩),.int .i64 i] w fun e w'=>e=.returned (.bool (letL ((bs s).drop i)))∧w=w':=by
 by_cases h:i<s.size
 ·have H:=Hi ((letL_at s i h).trans (or32u _));have b1:¬ (i:Int)≥(s.size:Int):=by omega
  go_enter Tryz.func220,Tryz.ntmps220;go_wp2_with fail
  all_goals go_ret
  ·rename_i h1 h2;refine ⟨ret_bool ?_,rfl⟩;rw [H.out,decide_eq_true h1,Bool.true_and]
  ·rename_i h1 h2;refine ⟨ret_bool ?_,rfl⟩;rw [H.out,decide_eq_true h1,decide_eq_true h2];rfl
  ·rename_i h1;refine ⟨ret_bool ?_,rfl⟩;rw [H.out,decide_eq_false (by omega),Bool.false_and,Bool.false_or]
 ·have H:=Hi (letL_end s i h);have b1:(i:Int)≥(s.size:Int):=by omega
  go_enter Tryz.func220,Tryz.ntmps220;go_wp2_with fail;go_ret;exact ⟨by rw [H.out];rfl,rfl⟩
def wdL:Bytes→Bool
 | []=>false
 | c::_=>wordU c
theorem wdL_len {l:Bytes}(h:wdL l=true):wordLen l=wordLen (l.drop 1)+1:=by
 cases l with
 | nil=>cases h
 | cons c r=>rw [wordLen,if_pos (show wordU c=true from h)];rfl
theorem wdL_end {l:Bytes}(h:wdL l=false):wordLen l=0:=by
 cases l with
 | nil=>rfl
 | cons c r=>rw [wordLen,if_neg (by rw [show wordU c=false from h];simp)]
theorem t_word {w:World}{M:Nat}{s:ByteArray}(q0:w.cell? ⟨M,0,none⟩=some (.string s))(i:Nat)(hi:i≤1000000) :
  Calls Tryz.prog 231 #[.pointer (some ⟨M,0,none⟩),.int .i64 i] w fun e w'=>e=.returned (.bool (wdL ((bs s).drop i)))∧w=w':=by
 have c:=Hi (t_letter q0 i hi)
 by_cases h:i<s.size
 ·have hd:=bs_drop s i h;have b1:(i:Int)<(s.size:Int):=by omega
  cases hL:letL ((bs s).drop i)
  ·have H:=Hi (show wdL ((bs s).drop i)=digitN s[i].toNat by
    rw [hd] at hL ⊢;show (letterU s[i] || digitU s[i])=_;rw [show letterU s[i]=false from hL];rfl)
   rw [hL] at c;clear hd hL;go_enter Tryz.func231,Tryz.ntmps231;go_wp2_with (go_at_call 220;refine c.out.mono ?_;rintro e w' ⟨rfl,rfl⟩)
   all_goals go_ret
   all_goals (refine ⟨ret_bool ?_,rfl⟩;rw [H.out,Bool.eq_iff_iff];simp [digitN];omega)
  ·have H:=Hi (show wdL ((bs s).drop i)=true by
    rw [hd] at hL ⊢;show (letterU s[i] || digitU s[i])=_;rw [show letterU s[i]=true from hL];rfl)
   rw [hL] at c;clear hd hL;go_enter Tryz.func231,Tryz.ntmps231;go_wp2_with (go_at_call 220;refine c.out.mono ?_;rintro e w' ⟨rfl,rfl⟩);go_ret;exact ⟨by rw [H.out];rfl,rfl⟩
 ·have H:=Hi (show wdL ((bs s).drop i)=false by rw [bs_drop_end s i h];rfl)
  have b1:¬ (i:Int)<(s.size:Int):=by omega
  rw [letL_end s i h] at c;go_enter Tryz.func231,Tryz.ntmps231;go_wp2_with (go_at_call 220;refine c.out.mono ?_;rintro e w' ⟨rfl,rfl⟩);go_ret;exact ⟨by rw [H.out];rfl,rfl⟩
theorem t_item {w:World}{M it:Nat}(q2:w.cell? ⟨M,2,none⟩=some (.int .i64 it))(f2:w.frozen? ⟨M,2,none⟩=false)(hi:it≤1000) :
  Calls Tryz.prog 221 #[.pointer (some ⟨M,0,none⟩)] w fun e w'=>e=.returned (.bool (!decide (48≤it)))∧w.setCell ⟨M,2,none⟩ (.int .i64 (it+1:Nat))=w':=by
 have bw:=wS it (by omega)
 have H:=Hi (show (!decide (48≤it))=decide ((it:Int)+1≤48) by rw [Bool.eq_iff_iff];simp;omega)
 go_enter Tryz.func221,Tryz.ntmps221;go_wp2_with fail
 all_goals go_ret
 all_goals exact ⟨ret_bool (by rw [H.out]),rfl⟩
end Go.Proofs.YtjokciofeicdkaaGreatDoor
namespace Go.Proofs.YtjokciofeicdkaaGreatDoor
open Go.RowKit
def RowIn (w:World)(F:Nat→Prop)(v:Value)(vs:List Value):Prop:=
 (v=.slice none 0 0∧vs=[])∨∃ g cap cs fz,vs≠[]∧v=.slice (some ⟨g,0,none⟩) vs.length cap∧F g∧w.heap[g]?=some (Obj.cells cs 266 fz)∧∀ (j:Nat) (u:Value),vs[j]?=some u→w.cell? ⟨g,j,none⟩=some u
theorem RowIn.up {w w':World}{F F':Nat→Prop}{v:Value}{vs:List Value}(h:RowIn w F v vs)(hF:∀ b,F b→F' b)(hw:∀ b,F b→w'.heap[b]?=w.heap[b]?):RowIn w' F' v vs:=by
 rcases h with h|⟨g,cap,cs,fz,hne,rfl,hg,hb,hc⟩
 ·exact .inl h
 ·have e:=hw g hg;exact .inr ⟨g,cap,cs,fz,hne,rfl,hF g hg,e.trans hb,fun j u hj=>by rw [World.cell?_of_block (a:=⟨g,j,none⟩) e];exact hc j u hj⟩
theorem RowIn.shape {w:World}{F:Nat→Prop}{v:Value}{vs:List Value}(h:RowIn w F v vs):∃ A m c,v=.slice A m c:=by
 rcases h with ⟨rfl,_⟩|⟨g,cap,cs,fz,_,rfl,_⟩<;>exact ⟨_,_,_,rfl⟩
inductive Forest (w:World) (F:Nat→Prop):List Value→Nat→Prop
 | nil:Forest w F [] 0
 | leaf (t:ByteArray) (a b c:Bool) (r:List Value) (m:Nat):Forest w F r m→Forest w F (.iface 285 (.agg #[.string t,.bool a,.bool b,.bool c])::r) (t.size+2+m)
 | suf (u:Value) (c:UInt8) (n:Nat) (r:List Value) (m:Nat):c.toNat<128→Forest w F [u] n→Forest w F r m→Forest w F (.iface 282 (.agg #[u,.int .u8 c.toNat])::r) (n+1+m)
 | seq (v:Value) (vs:List Value) (n:Nat) (r:List Value) (m:Nat):RowIn w F v vs→Forest w F vs n→Forest w F r m→Forest w F (.iface 292 v::r) (n+1+m)
 | cho (v:Value) (vs:List Value) (n:Nat) (r:List Value) (m:Nat):RowIn w F v vs→Forest w F vs n→Forest w F r m→Forest w F (.iface 293 v::r) (n+1+m)
theorem Forest.up {w w':World}{F F':Nat→Prop}{vs:List Value}{n:Nat}(h:Forest w F vs n)(hF:∀ b,F b→F' b)(hw:∀ b,F b→w'.heap[b]?=w.heap[b]?):Forest w' F' vs n:=by
 induction h with
 | nil=>exact .nil
 | leaf t a b c r m _ ih=>exact .leaf t a b c r m ih
 | suf u c n r m hc _ _ ih1 ih2=>exact .suf u c n r m hc ih1 ih2
 | seq v vs n r m hr _ _ ih1 ih2=>exact .seq v vs n r m (hr.up hF hw) ih1 ih2
 | cho v vs n r m hr _ _ ih1 ih2=>exact .cho v vs n r m (hr.up hF hw) ih1 ih2
theorem Forest.app {w:World}{F:Nat→Prop}{vs us:List Value}{n m:Nat}(h:Forest w F vs n)(k:Forest w F us m):Forest w F (vs++us) (n+m):=by
 induction h with
 | nil=>simpa using k
 | leaf t a b c r i _ ih=>have:=Forest.leaf t a b c _ _ ih;rw [List.cons_append,Nat.add_assoc];exact this
 | suf u c n r i hc h1 _ _ ih=>have:=Forest.suf u c n _ _ hc h1 ih;rw [List.cons_append,Nat.add_assoc];exact this
 | seq v vs n r i hr h1 _ _ ih=>have:=Forest.seq v vs n _ _ hr h1 ih;rw [List.cons_append,Nat.add_assoc];exact this
 | cho v vs n r i hr h1 _ _ ih=>have:=Forest.cho v vs n _ _ hr h1 ih;rw [List.cons_append,Nat.add_assoc];exact this
theorem Forest.uncons {w:World}{F:Nat→Prop}{v:Value}{r:List Value}{n:Nat}(h:Forest w F (v::r) n):∃ k m,n=k+m∧Forest w F [v] k∧Forest w F r m:=by
 cases h with
 | leaf t a b c _ m hr=>exact ⟨t.size+2,m,rfl,.leaf t a b c [] 0 .nil,hr⟩
 | suf u c n _ m hc h1 hr=>exact ⟨n+1,m,rfl,.suf u c n [] 0 hc h1 .nil,hr⟩
 | seq v vs n _ m hv h1 hr=>exact ⟨n+1,m,rfl,.seq v vs n [] 0 hv h1 .nil,hr⟩
 | cho v vs n _ m hv h1 hr=>exact ⟨n+1,m,rfl,.cho v vs n [] 0 hv h1 .nil,hr⟩
theorem Forest.one_cell {w:World}{F:Nat→Prop}{vs:List Value}{n:Nat}(h:Forest w F vs n):∀ u∈vs,u.oneCell'=true:=by
 induction h with
 | nil=>intro u hu;cases hu
 | leaf t a b c r m _ ih=>
   intro u hu
   (rcases List.mem_cons.1 hu with rfl|hu)
   ·rfl
   exact ih u hu
 | suf u c n r m hc _ _ _ ih2=>
   intro x hu
   (rcases List.mem_cons.1 hu with rfl|hu)
   ·rfl
   exact ih2 x hu
 | seq v vs n r m hr _ _ _ ih2=>
   intro x hu
   (rcases List.mem_cons.1 hu with rfl|hu)
   ·rfl
   exact ih2 x hu
 | cho v vs n r m hr _ _ _ ih2=>
   intro x hu
   (rcases List.mem_cons.1 hu with rfl|hu)
   ·rfl
   exact ih2 x hu
theorem Forest.len {w:World}{F:Nat→Prop}{vs:List Value}{n:Nat}(h:Forest w F vs n):vs.length≤n:=by
 induction h with
 | nil=>exact Nat.zero_le _
 | leaf t a b c r m _ ih=>rw [List.length_cons];omega
 | suf u c n r m hc _ _ _ ih2=>rw [List.length_cons];omega
 | seq v vs n r m hr _ _ _ ih2=>rw [List.length_cons];omega
 | cho v vs n r m hr _ _ _ ih2=>rw [List.length_cons];omega
inductive Kind1 (w:World) (F:Nat→Prop):Value→Nat→Prop
 | leaf (t:ByteArray) (a b c:Bool):Kind1 w F (.iface 285 (.agg #[.string t,.bool a,.bool b,.bool c])) (t.size+2)
 | suf (u:Value) (c:UInt8) (n:Nat):c.toNat<128→Forest w F [u] n→Kind1 w F (.iface 282 (.agg #[u,.int .u8 c.toNat])) (n+1)
 | seq (v:Value) (vs:List Value) (n:Nat):RowIn w F v vs→Forest w F vs n→Kind1 w F (.iface 292 v) (n+1)
 | cho (v:Value) (vs:List Value) (n:Nat):RowIn w F v vs→Forest w F vs n→Kind1 w F (.iface 293 v) (n+1)
theorem Forest.kind {w:World}{F:Nat→Prop}{v:Value}{n:Nat}(h:Forest w F [v] n):Kind1 w F v n:=by
 cases h with
 | leaf t a b c _ m hr=>cases hr;exact .leaf t a b c
 | suf u c n _ m hc h1 hr=>cases hr;exact .suf u c n hc h1
 | seq v vs n _ m hv h1 hr=>cases hr;exact .seq v vs n hv h1
 | cho v vs n _ m hv h1 hr=>cases hr;exact .cho v vs n hv h1
def Since (F:Nat→Prop)(w w':World):Nat→Prop:=fun b=>F b∨(w.heap.size≤b∧b<w'.heap.size)
theorem row_own {w:World}{base g cap:Nat}{vs:List Value}{F:Nat→Prop}(h:w.ownsRow base 266 1 (.slice (some ⟨g,0,none⟩) vs.length cap) vs.length vs)(hne:vs≠[])(hF:F g):RowIn w F (.slice (some ⟨g,0,none⟩) vs.length cap) vs:=by
 obtain ⟨c,fz,hb⟩:=Lib.ownsRow_kind h g rfl
 exact .inr ⟨g,cap,c,fz,hne,rfl,hF,hb,fun j k hj=>by
  have hl:=(List.getElem?_eq_some_iff.1 hj).1;rw [h.cellAt _ (by omega)];exact hj⟩
theorem row_new {w w0:World}{v:Value}{vs:List Value}{F:Nat→Prop}(h:w.ownsRow w0.heap.size 266 1 v vs.length vs)(hn:vs=[]→v=.slice none 0 0):RowIn w (Since F w0 w) v vs:=by
 cases hk:vs with
 | nil=>exact .inl ⟨hn hk,rfl⟩
 | cons a r=>
   obtain ⟨g,cap,rfl⟩:=Go.Joins.ownsRow_form h (by rw [hk];simp)
   rw [← hk];have:=h.lt g rfl;exact row_own h (by rw [hk];simp) (.inr this)
def OneTree (w:World)(F:Nat→Prop)(n:Nat)(e:Ending)(w':World):Prop:=∃ t k,e=.returned t∧k≤n∧Forest w' (Since F w w') [t] k∧Below w.heap.size w w'
theorem ta_gen {P:Program}{a e:TypeId}{j:TypeInfo}{z:Value}(hu:P.underlying a=some (.slice e))(hj:P.info? a=some j)(hz:j.zero=some z)(t:TypeId)(x:Value)(xT:TypeId)(w:World) :
  (Instr.typeAssert (.iface t x) xT a true).run P w=.ok (if t=a then .tuple #[x,.bool true] else .tuple #[z,.bool false]) w:=by
 by_cases h:t=a
 ·subst h
  simp [Instr.typeAssert,run_underlying hu]
 ·simp [Instr.typeAssert,run_underlying hu,h,zeroValue,typeInfo,hj,hz]
theorem tree_info:(Tryz.prog.info? 266).map (fun i=>(i.zero,i.size,i.bytes))=some (some .nilIface,1,16):=by kernel_rfl
end Go.Proofs.YtjokciofeicdkaaGreatDoor
namespace Go.Proofs.YtjokciofeicdkaaGreatDoor
open Go.RowKit
attribute [local go_sem ↓] Go.wp_at_zero Go.wp_at_succ
theorem info_seq:(Tryz.prog.info? 292).map (·.zero)=some (some (.slice none 0 0)):=by kernel_rfl
theorem ta_seq (t:TypeId)(x:Value)(w:World):(Instr.typeAssert (.iface t x) 266 292 true).run Tryz.prog w=.ok (if t=292 then .tuple #[x,.bool true] else .tuple #[.slice none 0 0,.bool false]) w:=by
 obtain ⟨j,hj,hz⟩:=Option.map_eq_some_iff.1 info_seq;exact ta_gen Tryz.underlying292 hj hz t x _ w
theorem t_newSeq {w:World}{F:Nat→Prop}{v:Value}{vs:List Value}{n:Nat}(hv:RowIn w (fun _=>True) v vs)(hf:Forest w F vs n)(hF:∀ b,F b→b<w.heap.size)(hn:n≤100000) :
  Calls Tryz.prog 223 #[v] w fun e w'=>OneTree w F (n+1) e w':=by
 rcases hv with ⟨rfl,rfl⟩|⟨gl,cl,csl,fzl,hne,rfl,_,hgl,hcl⟩
 ·go_enter Tryz.func223,Tryz.ntmps223;go_wp2_with fail
  go_loopw [3,10] (fun a b wr=>a=.slice none 0 0∧b=.int .i64 0∧wr=w) (fun _ _ _=>0)
  case atStart=>exact ⟨rfl,rfl,rfl⟩
  case round=>
   obtain ⟨rfl,rfl,rfl⟩:=hrel;go_wp2_with fail;go_ret;exact ⟨_,1,rfl,by omega,.seq _ [] 0 [] 0 (.inl ⟨rfl,rfl⟩) .nil .nil,Below.refl _ _⟩
 obtain ⟨i0,hi0,hz0,hz1,hz2⟩:=info_parts tree_info;have hi0:=Hi hi0;have hz0:=Hi hz0;have hz1:=Hi hz1;have hz2:=Hi hz2;have hgl2:=(Array.getElem?_eq_some_iff.1 hgl).1;have hcl:=Hi hcl;have hln:=hf.len;have hF:=Hi hF;clear hgl hne;go_enter Tryz.func223,Tryz.ntmps223;go_wp2_with fail
 go_loopw [3,10] (fun a b wr=>∃ (i:Nat) (fl:List Value) (k m:Nat),b=.int .i64 i∧i≤vs.length∧Hid (wr.ownsRow w.heap.size 266 1 a fl.length fl)∧(fl=[]→a=.slice none 0 0)∧Hid (Forest w F fl k)∧Hid (Forest w F (vs.drop i) m)∧k+m≤n∧Hid (Below w.heap.size w wr)) (fun _ b _=>vs.length-(intOf b).toNat)
 case atStart=>exact ⟨0,[],0,n,rfl,Nat.zero_le _,Hi ⟨by simp,.inl ⟨rfl,rfl⟩⟩,fun _=>rfl,Hi .nil,Hi hf,by omega,Hi (Below.refl _ _)⟩
 case round=>
  obtain ⟨i,fl,k,m,rfl,hi,hO,hnil,hfl,hrs,hkm,hbl⟩:=hrel;obtain ⟨wq,rfl⟩:∃ wq,wq=wr:=⟨_,rfl⟩
  have hnil:=Hi hnil;have hfll:=hfl.out.len
  by_cases hlt:i<vs.length
  ·have b1:(i:Int)<(vs.length:Int):=by omega
   have b0:(0:Int)≤(i:Int):=by omega
   have hkI:vs[i]?=some vs[i]:=List.getElem?_eq_getElem hlt;have hdr:=hrs.out;rw [List.drop_eq_getElem_cons hlt] at hdr;obtain ⟨k1,m1,rfl,ht,hr⟩:=hdr.uncons;generalize vs[i]=t at hkI ht;have hr:=Hi hr;have ek:wq.cell? ⟨gl,i,none⟩=some t:=(hbl.out.cell (p:=⟨gl,i,none⟩) hgl2).trans (hcl.out i t hkI);have bwi:=wS i (by omega)
   have hszq:=hbl.out.size;have ht1:=Hi ht;have hK:=ht.kind;clear hkI hdr hrs ht hf
   cases hK with
   | leaf s a b c=>
     have hta:(Instr.typeAssert (.iface 285 (.agg #[.string s,.bool a,.bool b,.bool c])) 266 292 true).run Tryz.prog wq=.ok (.tuple #[.slice none 0 0,.bool false]) wq:=(ta_seq _ _ wq).trans (by rfl)
     go_wp2_with (at_builtin;refine wpList_append_lies _ rfl (.tmp 15) (.tmp 17) _ rfl w.heap.size 266 i0 _ 1 16 Tryz.underlying292 hi0.out hz0.out hz1.out hz2.out rfl (by decide) u3 fl.length fl rfl (hO.out.alloc _) ⟨wq.heap.size,0,none⟩ 1 1 [.iface 285 (.agg #[.string s,.bool a,.bool b,.bool c])] rfl rfl (World.news_of_block (heap_alloc_new wq _)) ht1.out.one_cell (by decide) (by unfold maxLen;omega) (by omega) (by simp;omega) (wq.heap.size+1) (by simp) ?_;intro g' cap' w4 hown4 hg4 hat4 hlt4;have hown5:=Hi hown4;have hg5:=Hi hg4;clear hown4 hg4)
     go_roundw
     case rel=>exact ⟨i+1,fl++[.iface 285 (.agg #[.string s,.bool a,.bool b,.bool c])],_,m1,by first|rfl|go_num,hlt,Hi (by rw [List.length_append];exact hown5.out),(fun h=>by have:=congrArg List.length h;simp at this),Hi (hfl.out.app ht1.out),hr,by omega,Hi ((hbl.out.alloc hszq _).grown hg5.out (by simp;omega) (fun i hi=>(hO.out.lt i hi).1))⟩
     case measure=>simp [intOf];omega
   | suf u c n2 hc hu=>
     have hta:(Instr.typeAssert (.iface 282 (.agg #[u,.int .u8 c.toNat])) 266 292 true).run Tryz.prog wq=.ok (.tuple #[.slice none 0 0,.bool false]) wq:=(ta_seq _ _ wq).trans (by rfl)
     go_wp2_with (at_builtin;refine wpList_append_lies _ rfl (.tmp 15) (.tmp 17) _ rfl w.heap.size 266 i0 _ 1 16 Tryz.underlying292 hi0.out hz0.out hz1.out hz2.out rfl (by decide) u3 fl.length fl rfl (hO.out.alloc _) ⟨wq.heap.size,0,none⟩ 1 1 [.iface 282 (.agg #[u,.int .u8 c.toNat])] rfl rfl (World.news_of_block (heap_alloc_new wq _)) ht1.out.one_cell (by decide) (by unfold maxLen;omega) (by omega) (by simp;omega) (wq.heap.size+1) (by simp) ?_;intro g' cap' w4 hown4 hg4 hat4 hlt4;have hown5:=Hi hown4;have hg5:=Hi hg4;clear hown4 hg4)
     go_roundw
     case rel=>exact ⟨i+1,fl++[.iface 282 (.agg #[u,.int .u8 c.toNat])],_,m1,by first|rfl|go_num,hlt,Hi (by rw [List.length_append];exact hown5.out),(fun h=>by have:=congrArg List.length h;simp at this),Hi (hfl.out.app ht1.out),hr,by omega,Hi ((hbl.out.alloc hszq _).grown hg5.out (by simp;omega) (fun i hi=>(hO.out.lt i hi).1))⟩
     case measure=>simp [intOf];omega
   | seq v2 us n2 hv2 hu=>
     have hu:=Hi hu;rcases hv2 with ⟨rfl,rfl⟩|⟨g2,c2,cs2,fz2,hne2,rfl,hFg,hb2,hc2⟩
     ·have hta:(Instr.typeAssert (.iface 292 (.slice none 0 0)) 266 292 true).run Tryz.prog wq=.ok (.tuple #[.slice none 0 0,.bool true]) wq:=(ta_seq _ _ wq).trans (by rfl)
      go_wp2_with (at_builtin;refine wpList_append_own_none rfl (.tmp 22) (.tmp 23) _ rfl w.heap.size 266 i0 1 Tryz.underlying292 hi0.out u3 fl.length fl rfl hO.out rfl ?_)
      go_roundw
      case rel=>exact ⟨i+1,fl,k,m1,by first|rfl|go_num,hlt,hO,hnil.out,hfl,hr,by omega,hbl⟩
      case measure=>simp [intOf];omega
     ·have hg2:=hF.out g2 hFg
      have hnews:∀ (j:Nat) (u:Value),us[j]?=some u→wq.cell? ((⟨g2,0,none⟩:Addr).add j)=some u:=fun j u hj=>by
       rw [show (⟨g2,0,none⟩:Addr).add j=⟨g2,j,none⟩ by unfold Addr.add;split<;>simp_all]
       exact (hbl.out.cell (p:=⟨g2,j,none⟩) hg2).trans (hc2 j u hj)
      have hnews:=Hi hnews;have hpos:0<us.length:=List.length_pos_iff.2 hne2;have hul:=hu.out.len;clear hc2 hb2 hne2;have hta:(Instr.typeAssert (.iface 292 (.slice (some ⟨g2,0,none⟩) us.length c2)) 266 292 true).run Tryz.prog wq=.ok (.tuple #[.slice (some ⟨g2,0,none⟩) us.length c2,.bool true]) wq:=(ta_seq _ _ wq).trans (by rfl)
      go_wp2_with (at_builtin;refine wpList_append_lies _ rfl (.tmp 22) (.tmp 23) _ rfl w.heap.size 266 i0 _ 1 16 Tryz.underlying292 hi0.out hz0.out hz1.out hz2.out rfl (by decide) u3 fl.length fl rfl hO.out ⟨g2,0,none⟩ us.length _ us rfl (by rw [Nat.mul_one]) hnews.out hu.out.one_cell hpos (by unfold maxLen;omega) (by omega) hszq wq.heap.size rfl ?_;intro g' cap' w4 hown4 hg4 hat4 hlt4;have hown5:=Hi hown4;have hg5:=Hi hg4;clear hown4 hg4)
      go_roundw
      case rel=>exact ⟨i+1,fl++us,_,m1,by first|rfl|go_num,hlt,Hi (by rw [List.length_append];exact hown5.out),(fun h=>by rw [(List.append_eq_nil_iff.1 h).2] at hpos;cases hpos),Hi (hfl.out.app hu.out),hr,by omega,Hi (hbl.out.grown hg5.out hszq (fun i hi=>(hO.out.lt i hi).1))⟩
      case measure=>simp [intOf];omega
   | cho v2 us n2 hv2 hu=>
     have hta:(Instr.typeAssert (.iface 293 (v2)) 266 292 true).run Tryz.prog wq=.ok (.tuple #[.slice none 0 0,.bool false]) wq:=(ta_seq _ _ wq).trans (by rfl)
     go_wp2_with (at_builtin;refine wpList_append_lies _ rfl (.tmp 15) (.tmp 17) _ rfl w.heap.size 266 i0 _ 1 16 Tryz.underlying292 hi0.out hz0.out hz1.out hz2.out rfl (by decide) u3 fl.length fl rfl (hO.out.alloc _) ⟨wq.heap.size,0,none⟩ 1 1 [.iface 293 v2] rfl rfl (World.news_of_block (heap_alloc_new wq _)) ht1.out.one_cell (by decide) (by unfold maxLen;omega) (by omega) (by simp;omega) (wq.heap.size+1) (by simp) ?_;intro g' cap' w4 hown4 hg4 hat4 hlt4;have hown5:=Hi hown4;have hg5:=Hi hg4;clear hown4 hg4)
     go_roundw
     case rel=>exact ⟨i+1,fl++[.iface 293 v2],_,m1,by first|rfl|go_num,hlt,Hi (by rw [List.length_append];exact hown5.out),(fun h=>by have:=congrArg List.length h;simp at this),Hi (hfl.out.app ht1.out),hr,by omega,Hi ((hbl.out.alloc hszq _).grown hg5.out (by simp;omega) (fun i hi=>(hO.out.lt i hi).1))⟩
     case measure=>simp [intOf];omega
  ·have b1:¬ (i:Int)<(vs.length:Int):=by omega
   have hup:∀ b,F b→wq.heap[b]?=w.heap[b]?:=fun b hb=>hbl.out.block b (hF.out b hb)
   have hup:=Hi hup
   by_cases h1:fl.length=1
   ·obtain ⟨t,rfl⟩:∃ t,fl=[t]:=by
     cases fl with
     | nil=>cases h1
     | cons t r=>cases r with
       | nil=>exact ⟨t,rfl⟩
       | cons _ _=>simp at h1
    obtain ⟨g,cp,rfl⟩:=Go.Joins.ownsRow_form hO.out (by show 0<1;decide)
    have e0:wq.cell? ⟨g,0,none⟩=some t:=by rw [hO.out.cellAt _ (by simp)];rfl
    clear h1;go_wp2_with fail;go_ret;exact ⟨t,k,rfl,by omega,hfl.out.up (fun _ h=>.inl h) hup.out,hbl.out⟩
   ·have hR:=row_new (F:=F) hO.out hnil.out;obtain ⟨A,mm,c,rfl⟩:=hR.shape;have hm1:mm=fl.length:=by rcases Go.Joins.ownsRow_forms hO.out with ⟨h,h2⟩|⟨g,cp,h⟩<;>cases h<;>simp_all
    have bl1:((mm:Int) == 1)=false:=by rw [beq_eq_false_iff_ne];omega
    have hR:=Hi hR;clear hm1 h1;go_wp2_with fail;go_ret;exact ⟨_,k+1,rfl,by omega,.seq _ fl k [] 0 hR.out (hfl.out.up (fun _ h=>.inl h) hup.out) .nil,hbl.out⟩
theorem info_cho:(Tryz.prog.info? 293).map (·.zero)=some (some (.slice none 0 0)):=by kernel_rfl
theorem ta_cho (t:TypeId)(x:Value)(w:World):(Instr.typeAssert (.iface t x) 266 293 true).run Tryz.prog w=.ok (if t=293 then .tuple #[x,.bool true] else .tuple #[.slice none 0 0,.bool false]) w:=by
 obtain ⟨j,hj,hz⟩:=Option.map_eq_some_iff.1 info_cho;exact ta_gen Tryz.underlying293 hj hz t x _ w
theorem t_newCho {w:World}{F:Nat→Prop}{v:Value}{vs:List Value}{n:Nat}(hv:RowIn w (fun _=>True) v vs)(hf:Forest w F vs n)(hF:∀ b,F b→b<w.heap.size)(hn:n≤100000) :
  Calls Tryz.prog 225 #[v] w fun e w'=>OneTree w F (n+1) e w':=by
 rcases hv with ⟨rfl,rfl⟩|⟨gl,cl,csl,fzl,hne,rfl,_,hgl,hcl⟩
 ·go_enter Tryz.func225,Tryz.ntmps225;go_wp2_with fail
  go_loopw [3,10] (fun a b wr=>a=.slice none 0 0∧b=.int .i64 0∧wr=w) (fun _ _ _=>0)
  case atStart=>exact ⟨rfl,rfl,rfl⟩
  case round=>
   obtain ⟨rfl,rfl,rfl⟩:=hrel;go_wp2_with fail;go_ret;exact ⟨_,1,rfl,by omega,.cho _ [] 0 [] 0 (.inl ⟨rfl,rfl⟩) .nil .nil,Below.refl _ _⟩
 obtain ⟨i0,hi0,hz0,hz1,hz2⟩:=info_parts tree_info;have hi0:=Hi hi0;have hz0:=Hi hz0;have hz1:=Hi hz1;have hz2:=Hi hz2;have hgl2:=(Array.getElem?_eq_some_iff.1 hgl).1;have hcl:=Hi hcl;have hln:=hf.len;have hF:=Hi hF;clear hgl hne;go_enter Tryz.func225,Tryz.ntmps225;go_wp2_with fail
 go_loopw [3,10] (fun a b wr=>∃ (i:Nat) (fl:List Value) (k m:Nat),b=.int .i64 i∧i≤vs.length∧Hid (wr.ownsRow w.heap.size 266 1 a fl.length fl)∧(fl=[]→a=.slice none 0 0)∧Hid (Forest w F fl k)∧Hid (Forest w F (vs.drop i) m)∧k+m≤n∧Hid (Below w.heap.size w wr)) (fun _ b _=>vs.length-(intOf b).toNat)
 case atStart=>exact ⟨0,[],0,n,rfl,Nat.zero_le _,Hi ⟨by simp,.inl ⟨rfl,rfl⟩⟩,fun _=>rfl,Hi .nil,Hi hf,by omega,Hi (Below.refl _ _)⟩
 case round=>
  obtain ⟨i,fl,k,m,rfl,hi,hO,hnil,hfl,hrs,hkm,hbl⟩:=hrel;obtain ⟨wq,rfl⟩:∃ wq,wq=wr:=⟨_,rfl⟩
  have hnil:=Hi hnil;have hfll:=hfl.out.len
  by_cases hlt:i<vs.length
  ·have b1:(i:Int)<(vs.length:Int):=by omega
   have b0:(0:Int)≤(i:Int):=by omega
   have hkI:vs[i]?=some vs[i]:=List.getElem?_eq_getElem hlt;have hdr:=hrs.out;rw [List.drop_eq_getElem_cons hlt] at hdr;obtain ⟨k1,m1,rfl,ht,hr⟩:=hdr.uncons;generalize vs[i]=t at hkI ht;have hr:=Hi hr;have ek:wq.cell? ⟨gl,i,none⟩=some t:=(hbl.out.cell (p:=⟨gl,i,none⟩) hgl2).trans (hcl.out i t hkI);have bwi:=wS i (by omega)
   have hszq:=hbl.out.size;have ht1:=Hi ht;have hK:=ht.kind;clear hkI hdr hrs ht hf
   cases hK with
   | leaf s a b c=>
     have hta:(Instr.typeAssert (.iface 285 (.agg #[.string s,.bool a,.bool b,.bool c])) 266 293 true).run Tryz.prog wq=.ok (.tuple #[.slice none 0 0,.bool false]) wq:=(ta_cho _ _ wq).trans (by rfl)
     go_wp2_with (at_builtin;refine wpList_append_lies _ rfl (.tmp 15) (.tmp 17) _ rfl w.heap.size 266 i0 _ 1 16 Tryz.underlying293 hi0.out hz0.out hz1.out hz2.out rfl (by decide) u3 fl.length fl rfl (hO.out.alloc _) ⟨wq.heap.size,0,none⟩ 1 1 [.iface 285 (.agg #[.string s,.bool a,.bool b,.bool c])] rfl rfl (World.news_of_block (heap_alloc_new wq _)) ht1.out.one_cell (by decide) (by unfold maxLen;omega) (by omega) (by simp;omega) (wq.heap.size+1) (by simp) ?_;intro g' cap' w4 hown4 hg4 hat4 hlt4;have hown5:=Hi hown4;have hg5:=Hi hg4;clear hown4 hg4)
     go_roundw
     case rel=>exact ⟨i+1,fl++[.iface 285 (.agg #[.string s,.bool a,.bool b,.bool c])],_,m1,by first|rfl|go_num,hlt,Hi (by rw [List.length_append];exact hown5.out),(fun h=>by have:=congrArg List.length h;simp at this),Hi (hfl.out.app ht1.out),hr,by omega,Hi ((hbl.out.alloc hszq _).grown hg5.out (by simp;omega) (fun i hi=>(hO.out.lt i hi).1))⟩
     case measure=>simp [intOf];omega
   | suf u c n2 hc hu=>
     have hta:(Instr.typeAssert (.iface 282 (.agg #[u,.int .u8 c.toNat])) 266 293 true).run Tryz.prog wq=.ok (.tuple #[.slice none 0 0,.bool false]) wq:=(ta_cho _ _ wq).trans (by rfl)
     go_wp2_with (at_builtin;refine wpList_append_lies _ rfl (.tmp 15) (.tmp 17) _ rfl w.heap.size 266 i0 _ 1 16 Tryz.underlying293 hi0.out hz0.out hz1.out hz2.out rfl (by decide) u3 fl.length fl rfl (hO.out.alloc _) ⟨wq.heap.size,0,none⟩ 1 1 [.iface 282 (.agg #[u,.int .u8 c.toNat])] rfl rfl (World.news_of_block (heap_alloc_new wq _)) ht1.out.one_cell (by decide) (by unfold maxLen;omega) (by omega) (by simp;omega) (wq.heap.size+1) (by simp) ?_;intro g' cap' w4 hown4 hg4 hat4 hlt4;have hown5:=Hi hown4;have hg5:=Hi hg4;clear hown4 hg4)
     go_roundw
     case rel=>exact ⟨i+1,fl++[.iface 282 (.agg #[u,.int .u8 c.toNat])],_,m1,by first|rfl|go_num,hlt,Hi (by rw [List.length_append];exact hown5.out),(fun h=>by have:=congrArg List.length h;simp at this),Hi (hfl.out.app ht1.out),hr,by omega,Hi ((hbl.out.alloc hszq _).grown hg5.out (by simp;omega) (fun i hi=>(hO.out.lt i hi).1))⟩
     case measure=>simp [intOf];omega
   | seq v2 us n2 hv2 hu=>
     have hta:(Instr.typeAssert (.iface 292 (v2)) 266 293 true).run Tryz.prog wq=.ok (.tuple #[.slice none 0 0,.bool false]) wq:=(ta_cho _ _ wq).trans (by rfl)
     go_wp2_with (at_builtin;refine wpList_append_lies _ rfl (.tmp 15) (.tmp 17) _ rfl w.heap.size 266 i0 _ 1 16 Tryz.underlying293 hi0.out hz0.out hz1.out hz2.out rfl (by decide) u3 fl.length fl rfl (hO.out.alloc _) ⟨wq.heap.size,0,none⟩ 1 1 [.iface 292 v2] rfl rfl (World.news_of_block (heap_alloc_new wq _)) ht1.out.one_cell (by decide) (by unfold maxLen;omega) (by omega) (by simp;omega) (wq.heap.size+1) (by simp) ?_;intro g' cap' w4 hown4 hg4 hat4 hlt4;have hown5:=Hi hown4;have hg5:=Hi hg4;clear hown4 hg4)
     go_roundw
     case rel=>exact ⟨i+1,fl++[.iface 292 v2],_,m1,by first|rfl|go_num,hlt,Hi (by rw [List.length_append];exact hown5.out),(fun h=>by have:=congrArg List.length h;simp at this),Hi (hfl.out.app ht1.out),hr,by omega,Hi ((hbl.out.alloc hszq _).grown hg5.out (by simp;omega) (fun i hi=>(hO.out.lt i hi).1))⟩
     case measure=>simp [intOf];omega
   | cho v2 us n2 hv2 hu=>
     have hu:=Hi hu;rcases hv2 with ⟨rfl,rfl⟩|⟨g2,c2,cs2,fz2,hne2,rfl,hFg,hb2,hc2⟩
     ·have hta:(Instr.typeAssert (.iface 293 (.slice none 0 0)) 266 293 true).run Tryz.prog wq=.ok (.tuple #[.slice none 0 0,.bool true]) wq:=(ta_cho _ _ wq).trans (by rfl)
      go_wp2_with (at_builtin;refine wpList_append_own_none rfl (.tmp 22) (.tmp 23) _ rfl w.heap.size 266 i0 1 Tryz.underlying293 hi0.out u3 fl.length fl rfl hO.out rfl ?_)
      go_roundw
      case rel=>exact ⟨i+1,fl,k,m1,by first|rfl|go_num,hlt,hO,hnil.out,hfl,hr,by omega,hbl⟩
      case measure=>simp [intOf];omega
     ·have hg2:=hF.out g2 hFg
      have hnews:∀ (j:Nat) (u:Value),us[j]?=some u→wq.cell? ((⟨g2,0,none⟩:Addr).add j)=some u:=fun j u hj=>by
       rw [show (⟨g2,0,none⟩:Addr).add j=⟨g2,j,none⟩ by unfold Addr.add;split<;>simp_all]
       exact (hbl.out.cell (p:=⟨g2,j,none⟩) hg2).trans (hc2 j u hj)
      have hnews:=Hi hnews;have hpos:0<us.length:=List.length_pos_iff.2 hne2;have hul:=hu.out.len;clear hc2 hb2 hne2;have hta:(Instr.typeAssert (.iface 293 (.slice (some ⟨g2,0,none⟩) us.length c2)) 266 293 true).run Tryz.prog wq=.ok (.tuple #[.slice (some ⟨g2,0,none⟩) us.length c2,.bool true]) wq:=(ta_cho _ _ wq).trans (by rfl)
      go_wp2_with (at_builtin;refine wpList_append_lies _ rfl (.tmp 22) (.tmp 23) _ rfl w.heap.size 266 i0 _ 1 16 Tryz.underlying293 hi0.out hz0.out hz1.out hz2.out rfl (by decide) u3 fl.length fl rfl hO.out ⟨g2,0,none⟩ us.length _ us rfl (by rw [Nat.mul_one]) hnews.out hu.out.one_cell hpos (by unfold maxLen;omega) (by omega) hszq wq.heap.size rfl ?_;intro g' cap' w4 hown4 hg4 hat4 hlt4;have hown5:=Hi hown4;have hg5:=Hi hg4;clear hown4 hg4)
      go_roundw
      case rel=>exact ⟨i+1,fl++us,_,m1,by first|rfl|go_num,hlt,Hi (by rw [List.length_append];exact hown5.out),(fun h=>by rw [(List.append_eq_nil_iff.1 h).2] at hpos;cases hpos),Hi (hfl.out.app hu.out),hr,by omega,Hi (hbl.out.grown hg5.out hszq (fun i hi=>(hO.out.lt i hi).1))⟩
      case measure=>simp [intOf];omega
  ·have b1:¬ (i:Int)<(vs.length:Int):=by omega
   have hup:∀ b,F b→wq.heap[b]?=w.heap[b]?:=fun b hb=>hbl.out.block b (hF.out b hb)
   have hup:=Hi hup
   by_cases h1:fl.length=1
   ·obtain ⟨t,rfl⟩:∃ t,fl=[t]:=by
     cases fl with
     | nil=>cases h1
     | cons t r=>cases r with
       | nil=>exact ⟨t,rfl⟩
       | cons _ _=>simp at h1
    obtain ⟨g,cp,rfl⟩:=Go.Joins.ownsRow_form hO.out (by show 0<1;decide)
    have e0:wq.cell? ⟨g,0,none⟩=some t:=by rw [hO.out.cellAt _ (by simp)];rfl
    clear h1;go_wp2_with fail;go_ret;exact ⟨t,k,rfl,by omega,hfl.out.up (fun _ h=>.inl h) hup.out,hbl.out⟩
   ·have hR:=row_new (F:=F) hO.out hnil.out;obtain ⟨A,mm,c,rfl⟩:=hR.shape;have hm1:mm=fl.length:=by rcases Go.Joins.ownsRow_forms hO.out with ⟨h,h2⟩|⟨g,cp,h⟩<;>cases h<;>simp_all
    have bl1:((mm:Int) == 1)=false:=by rw [beq_eq_false_iff_ne];omega
    have hR:=Hi hR;clear hm1 h1;go_wp2_with fail;go_ret;exact ⟨_,k+1,rfl,by omega,.cho _ fl k [] 0 hR.out (hfl.out.up (fun _ h=>.inl h) hup.out) .nil,hbl.out⟩
theorem Since.mono {F F':Nat→Prop}{w w' w1 w1':World}{b:Nat}(h:Since F w w' b)(hF:∀ b,F b→Since F' w1 w1' b)(h1:w1.heap.size≤w.heap.size)(h2:w'.heap.size≤w1'.heap.size):Since F' w1 w1' b:=by
 rcases h with h|⟨h,k⟩
 ·exact hF b h
 ·exact .inr ⟨by omega,by omega⟩
theorem whole_kids {w4 w5 w6:World}{F:Nat→Prop}{cs:List Value}{t5:Value}{n1 k5 g4:Nat}{v':Obj}(hc:Forest w4 F cs n1)(hF:∀ b,F b→b<w4.heap.size∧b≠g4)(hg4:g4<w4.heap.size)(h5:Forest w5 (Since F w4 w5) [t5] k5)(b5:Below w4.heap.size w4 w5)
  (hg:(w5.alloc v').grownBy w6 (some g4)):Forest w6 (Since F w4 w5) (cs++[t5]) (n1+k5):=by
 have hsz:=b5.size
 have e:∀ b,b<w5.heap.size→b≠g4→w6.heap[b]?=w5.heap[b]?:=fun b hb hn=>by
  refine (hg.block b (by simp;omega) (fun h=>hn (by cases h;rfl))).trans ?_
  exact heap_alloc_old w5 _ hb
 refine Forest.app (hc.up (fun b hb=>.inl hb) fun b hb=>?_) (h5.up (fun b hb=>hb) fun b hb=>?_)
 ·obtain ⟨h1,h2⟩:=hF b hb;exact (e b (by omega) h2).trans (b5.block b h1)
 ·rcases hb with hb|⟨hb,hb2⟩
  ·obtain ⟨h1,h2⟩:=hF b hb;exact e b (by omega) h2
  ·exact e b hb2 (by omega)
def OwnT (w:World)(B:Nat)(v:Value)(xs:List Value):Prop:=w.ownsRow B 266 1 v xs.length xs
theorem whole_row {w:World}{base g cap:Nat}{cs:List Value}{t:Value}(h:w.ownsRow base 266 1 (.slice (some ⟨g,0,none⟩) (cs.length+1) cap) (cs.length+1) (cs++[t])):RowIn w (fun _=>True) (.slice (some ⟨g,0,none⟩) (cs.length+1) cap) (cs++[t]):=by
 have k:=row_own (vs:=cs++[t]) (F:=fun _=>True) (cap:=cap) (g:=g) (base:=base) (w:=w) (by rw [List.length_append];exact h) (by simp) trivial
 rw [List.length_append] at k;exact k
theorem cho_call {w6:World}{F6:Nat→Prop}{base g cap n k:Nat}{cs:List Value}{t:Value}(h:w6.ownsRow base 266 1 (.slice (some ⟨g,0,none⟩) (cs.length+1) cap) (cs.length+1) (cs++[t]))(hK:Forest w6 F6 (cs++[t]) (n+k))(hF:∀ b,F6 b→b<w6.heap.size)(hn:n+k≤100000) :
  Calls Tryz.prog 225 #[.slice (some ⟨g,0,none⟩) (cs.length+1) cap] w6 fun e w'=>OneTree w6 F6 (n+k+1) e w':=
 t_newCho (whole_row h) hK hF hn
theorem cho_step {w4 w5 w6:World}{F:Nat→Prop}{cs:List Value}{t5:Value}{n1 n2 k5 g4 base g6 cap6:Nat}{v':Obj}(hc:Forest w4 F cs n1)(hF:∀ b,F b→b<w4.heap.size∧b≠g4)(hg4:g4<w4.heap.size)(h5:Forest w5 (Since F w4 w5) [t5] k5)(b5:Below w4.heap.size w4 w5)
  (hg:(w5.alloc v').grownBy w6 (some g4)) (h:w6.ownsRow base 266 1 (.slice (some ⟨g6,0,none⟩) (cs.length+1) cap6) (cs.length+1) (cs++[t5])) (hn:n1+n2≤50000) (hk:k5≤n2+1) :
  Calls Tryz.prog 225 #[.slice (some ⟨g6,0,none⟩) (cs.length+1) cap6] w6 fun e w'=>OneTree w6 (Since F w4 w5) (n1+k5+1) e w':=by
 have s6:w5.heap.size+1≤w6.heap.size:=by have:=hg.size;simp at this;omega
 have s5:=b5.size;refine cho_call h (whole_kids hc hF hg4 h5 b5 hg) (fun b hb=>?_) (by omega)
 rcases hb with hb|⟨_,hb⟩
 ·have:=(hF b hb).1;omega
 ·omega
theorem Forest.iface {w:World}{F:Nat→Prop}{v:Value}{n:Nat}(h:Forest w F [v] n):∃ a b,v=.iface a b:=by
 cases h.kind<;>exact ⟨_,_,rfl⟩
theorem t_whole_some {w:World}{F:Nat→Prop}{vp:Value}{cs ps:List Value}{n1 n2 gc cc:Nat}{csl:Array Value}{fzl:Nat×Nat}(hgc:w.heap[gc]?=some (Obj.cells csl 266 fzl))(hcl:∀ (j:Nat) (u:Value),cs[j]?=some u→w.cell? ⟨gc,j,none⟩=some u)(hne:cs≠[])
  (hp:RowIn w (fun _=>True) vp ps) (hc:Forest w F cs n1) (hps:Forest w F ps n2) (hF:∀ b,F b→b<w.heap.size) (hn:n1+n2≤50000) :
  Calls Tryz.prog 209 #[.agg #[.slice (some ⟨gc,0,none⟩) cs.length cc,vp]] w fun e w'=>OneTree w F (n1+n2+2) e w':=by
 obtain ⟨i0,hi0,hz0,hz1,hz2⟩:=info_parts tree_info;have hi0:=Hi hi0;have hz0:=Hi hz0;have hz1:=Hi hz1;have hz2:=Hi hz2;have hg2:=(Array.getElem?_eq_some_iff.1 hgc).1;have hcl0:=hc.len;have hpos:0<cs.length:=List.length_pos_iff.2 hne;obtain ⟨A,m,c,rfl⟩:=hp.shape;go_enter Tryz.func209,Tryz.ntmps209;go_upto_region 1 with fail;obtain ⟨wa,hwa⟩:∃ W,w.alloc (Obj.cells #[Value.slice (some { block:=gc,off:=0 }) cs.length cc,Value.slice A m c] 262)=W:=⟨_,rfl⟩
 have hba:Below w.heap.size w wa:=by rw [← hwa];exact (Below.refl _ w).alloc (Nat.le_refl _) _
 have hza:wa.heap[w.heap.size]?=some (.cells #[Value.slice (some { block:=gc,off:=0 }) cs.length cc,Value.slice A m c] 262 (0,0)):=by rw [← hwa];exact heap_alloc_new w _
 rw [hwa];have z0:=cell_of_row wa w.heap.size 0 _ _ _ hza;have z1:=cell_of_row wa w.heap.size 1 _ _ _ hza;simp only [List.getElem?_toArray,List.getElem?_cons_zero,List.getElem?_cons_succ] at z0 z1;have hlta:=(Array.getElem?_eq_some_iff.1 hza).1
 have cN:=Hi (show ∀ (j:Nat) (u:Value),cs[j]?=some u→wa.drew.cell? ((⟨gc,0,none⟩:Addr).add j)=some u from fun j u hj=>by
  rw [show (⟨gc,0,none⟩:Addr).add j=⟨gc,j,none⟩ by unfold Addr.add;split<;>simp_all]
  exact (hba.cell (p:=⟨gc,j,none⟩) hg2).trans (hcl j u hj))
 have cS:=Hi (show ∀ W,Below wa.heap.size wa W→Calls Tryz.prog 223 #[.slice A m c] W fun e w'=>OneTree W F (n2+1) e w' from fun W hW=>by
  have hall:∀ b,b<w.heap.size→W.heap[b]?=w.heap[b]?:=fun b hb=>(hW.block b (Nat.lt_of_lt_of_le hb hba.size)).trans (hba.block b hb)
  refine t_newSeq (vs:=ps) ?_ (hps.up (fun _ h=>h) fun b hb=>hall b (hF b hb)) (fun b hb=>?_) (by omega)
  ·rcases hp with h|⟨g,cap,cs2,fz,h1,h2,_,h3,h4⟩
   ·exact .inl h
   ·have hl:=(Array.getElem?_eq_some_iff.1 h3).1;exact .inr ⟨g,cap,cs2,fz,h1,h2,trivial,(hall g hl).trans h3,fun j u hj=>by rw [World.cell?_of_block (a:=⟨g,j,none⟩) (hall g hl)];exact h4 j u hj⟩
  ·have:=hF b hb;have:=hba.size;have:=hW.size;omega)
 have hcH:=Hi hc;have hFH:=Hi hF;have hbaH:=Hi hba;clear hwa hza hp hps hcl hgc hne hc hF hba
 go_region_law (first
  | (go_simp;go_at_call 225;refine (cC.out).mono ?_;rintro e w7 ⟨t7,k7,rfl,hk7,hf7,B7⟩;have hf7:=Hi hf7;go_wp2_with fail)
  | (refine step_append_lies _ (by rfl) (.tmp 5) (.tmp 9) _ (by rfl) wa.heap.size 266 i0 _ 1 16 Tryz.underlying260 hi0.out hz0.out hz1.out hz2.out rfl (by decide) (.slice (some ⟨g4,0,none⟩) cs.length cap4) cs.length cs (by rfl) (World.ownsRow.alloc O5 _) ⟨w5.heap.size,0,none⟩ 1 1 [.iface ta tv] (by rfl) (by rfl) (World.news_of_block (heap_alloc_new w5 _)) hf5.out.one_cell (by decide) (by unfold maxLen;omega) (by omega) (by simp;omega) (w5.heap.size+1) (by simp) ?_;intro g6 cap6 w6 hown6 hg6 hat6 hlt6;have s6:w5.heap.size≤w6.heap.size:=(by have:=hg6.size;simp at this;omega);have B6:=Hi (((B4.out.trans (B5.out.mono s4)).alloc (Nat.le_trans s4 s5) _).grown hg6 (by simp;omega) (fun k hk=>(World.ownsRow.lt O5 k hk).1));have cC:=Hi (cho_step C4.out F4.out hlt4 hf5.out B5.out hg6 hown6 hn hk5);clear hown6 hg6)
  | (go_simp;go_at_call 223;refine (cS.out _ B4.out).mono ?_;rintro e w5 ⟨t5,k5,rfl,hk5,hf5,B5⟩;obtain ⟨ta,tv,rfl⟩:=hf5.iface;have hf5:=Hi hf5;have O5:OwnT w5 wa.heap.size (.slice (some ⟨g4,0,none⟩) cs.length cap4) cs:=own_below O4 B5;have s5:=B5.size;have B5:=Hi B5;go_wp2_with fail)
  | (refine step_append_lies _ (by rfl) (.const (.slice none 0 0)) (.tmp 4) _ (by rfl) wa.heap.size 266 i0 _ 1 16 Tryz.underlying260 hi0.out hz0.out hz1.out hz2.out rfl (by decide) (.slice none 0 0) 0 [] (by rfl) ⟨by simp,.inl ⟨rfl,rfl⟩⟩ ⟨gc,0,none⟩ cs.length _ cs (by rfl) (by rw [Nat.mul_one]) cN.out hcH.out.one_cell hpos (by unfold maxLen;omega) (by omega) (Nat.le_refl _) wa.heap.size (by rfl) ?_;intro g4 cap4 w4 hown4 hg4 hat4 hlt4;rw [Nat.zero_add] at hown4 ⊢;have O4:OwnT w4 wa.heap.size (.slice (some ⟨g4,0,none⟩) cs.length cap4) cs:=hown4;have B4:=((Qt.self wa 1).below wa.heap.size).grown hg4 (Nat.le_refl _) (by intro k hk;cases hk);have z4:=(B4.cell (p:=⟨w.heap.size,1,none⟩) hlta).trans z1;have s4:=B4.size;have C4:=Hi (hcH.out.up (fun _ h=>h) (fun b hb=>(B4.block b (Nat.lt_of_lt_of_le (hFH.out b hb) hbaH.out.size)).trans (hbaH.out.block b (hFH.out b hb))));have F4:=Hi (show ∀ b,F b→b<w4.heap.size∧b≠g4 from fun b hb=>(by have:=hFH.out b hb;have:=hbaH.out.size;have:=(World.ownsRow.lt O4 g4 rfl).1;exact ⟨by omega,by omega⟩));have B4:=Hi B4;clear hown4 hg4))
 all_goals (
  have h1:=B4.out;have h2:=B5.out;have h3:=hf7.out;have h4:=B7.size;have h5:=hbaH.out.size;have h6:=B6.out;have h7:=hbaH.out;go_wp2_with fail;go_ret;refine ⟨t7,k7,rfl,by omega,h3.up (fun b hb=>hb.mono (fun b hb=>hb.mono (fun b hb=>.inl hb) (Nat.le_trans h5 s4) (Nat.le_trans s6 h4)) (Nat.le_trans h5 (Nat.le_trans s4 (Nat.le_trans s5 s6))) (Nat.le_refl _)) (fun _ _=>rfl),h7.trans ((h6.trans (B7.mono (by omega))).mono h5)⟩)
theorem cho_one {w5 w6:World}{F5:Nat→Prop}{t5:Value}{n2 k5 base g6 cap6:Nat}{v':Obj}(hF:∀ b,F5 b→b<w5.heap.size)(h5:Forest w5 F5 [t5] k5)
  (hg:(w5.alloc v').grownBy w6 none) (h:w6.ownsRow base 266 1 (.slice (some ⟨g6,0,none⟩) 1 cap6) 1 [t5]) (hn:n2≤50000) (hk:k5≤n2+1) :
  Calls Tryz.prog 225 #[.slice (some ⟨g6,0,none⟩) 1 cap6] w6 fun e w'=>OneTree w6 F5 (k5+1) e w':=by
 have s6:w5.heap.size+1≤w6.heap.size:=by have:=hg.size;simp at this;omega
 refine t_newCho (vs:=[t5]) (row_own (vs:=[t5]) h (by simp) trivial) (h5.up (fun _ h=>h) fun b hb=>?_) (fun b hb=>?_) (by omega)
 ·have:=hF b hb;exact (hg.block b (by simp;omega) (fun h=>by cases h)).trans (heap_alloc_old w5 _ this)
 ·have:=hF b hb;omega
theorem t_whole_none {w:World}{F:Nat→Prop}{vp:Value}{ps:List Value}{n2:Nat}
  (hp:RowIn w (fun _=>True) vp ps) (hps:Forest w F ps n2) (hF:∀ b,F b→b<w.heap.size) (hn:n2≤50000) :
  Calls Tryz.prog 209 #[.agg #[.slice none 0 0,vp]] w fun e w'=>OneTree w F (n2+2) e w':=by
 obtain ⟨i0,hi0,hz0,hz1,hz2⟩:=info_parts tree_info;have hi0:=Hi hi0;have hz0:=Hi hz0;have hz1:=Hi hz1;have hz2:=Hi hz2;obtain ⟨A,m,c,rfl⟩:=hp.shape;go_enter Tryz.func209,Tryz.ntmps209;go_upto_region 1 with fail;obtain ⟨wa,hwa⟩:∃ W,w.alloc (Obj.cells #[Value.slice none 0 0,Value.slice A m c] 262)=W:=⟨_,rfl⟩
 have hba:Below w.heap.size w wa:=by rw [← hwa];exact (Below.refl _ w).alloc (Nat.le_refl _) _
 have hza:wa.heap[w.heap.size]?=some (.cells #[Value.slice none 0 0,Value.slice A m c] 262 (0,0)):=by rw [← hwa];exact heap_alloc_new w _
 rw [hwa];have z0:=cell_of_row wa w.heap.size 0 _ _ _ hza;have z1:=cell_of_row wa w.heap.size 1 _ _ _ hza;simp only [List.getElem?_toArray,List.getElem?_cons_zero,List.getElem?_cons_succ] at z0 z1
 have cS:=Hi (show ∀ W,Below wa.heap.size wa W→Calls Tryz.prog 223 #[.slice A m c] W fun e w'=>OneTree W F (n2+1) e w' from fun W hW=>by
  have hall:∀ b,b<w.heap.size→W.heap[b]?=w.heap[b]?:=fun b hb=>(hW.block b (Nat.lt_of_lt_of_le hb hba.size)).trans (hba.block b hb)
  refine t_newSeq (vs:=ps) ?_ (hps.up (fun _ h=>h) fun b hb=>hall b (hF b hb)) (fun b hb=>?_) (by omega)
  ·rcases hp with h|⟨g,cap,cs2,fz,h1,h2,_,h3,h4⟩
   ·exact .inl h
   ·have hl:=(Array.getElem?_eq_some_iff.1 h3).1;exact .inr ⟨g,cap,cs2,fz,h1,h2,trivial,(hall g hl).trans h3,fun j u hj=>by rw [World.cell?_of_block (a:=⟨g,j,none⟩) (hall g hl)];exact h4 j u hj⟩
  ·have:=hF b hb;have:=hba.size;have:=hW.size;omega)
 have hFH:=Hi hF;have hbaH:=Hi hba;clear hwa hza hp hps hF hba
 go_region_law (first
  | (go_simp;go_at_call 225;refine (cC.out).mono ?_;rintro e w7 ⟨t7,k7,rfl,hk7,hf7,B7⟩;have hf7:=Hi hf7;go_wp2_with fail)
  | (refine step_append_lies _ (by rfl) (.tmp 5) (.tmp 9) _ (by rfl) wa.heap.size 266 i0 _ 1 16 Tryz.underlying260 hi0.out hz0.out hz1.out hz2.out rfl (by decide) (.slice none 0 0) 0 [] (by rfl) ⟨by simp,.inl ⟨rfl,rfl⟩⟩ ⟨w5.heap.size,0,none⟩ 1 1 [.iface ta tv] (by rfl) (by rfl) (World.news_of_block (heap_alloc_new w5 _)) hf5.out.one_cell (by decide) (by unfold maxLen;omega) (by omega) (by simp;omega) (w5.heap.size+1) (by simp) ?_;intro g6 cap6 w6 hown6 hg6 hat6 hlt6;rw [Nat.zero_add] at hown6 ⊢;have s6:w5.heap.size≤w6.heap.size:=(by have:=hg6.size;simp at this;omega);have B6:=Hi ((((Below.refl w5.heap.size w5).alloc (Nat.le_refl _) _).grown hg6 (by simp) (by intro k hk;cases hk)));have cC:=Hi (cho_one F5.out hf5.out hg6 hown6 hn hk5);clear hown6 hg6)
  | (go_simp;go_at_call 223;refine (cS.out _ ((Qt.self wa 1).below wa.heap.size)).mono ?_;rintro e w5 ⟨t5,k5,rfl,hk5,hf5,B5⟩;obtain ⟨ta,tv,rfl⟩:=hf5.iface;have hf5:=Hi hf5;have s5:wa.heap.size≤w5.heap.size:=B5.size;have F5:=Hi (show ∀ b,Since F wa.drew w5 b→b<w5.heap.size from fun b hb=>(by rcases hb with hb|⟨_,hb⟩;(have:=hFH.out b hb;have:=hbaH.out.size;omega);exact hb));have B5:=Hi B5;go_wp2_with fail))
 all_goals (
  have h2:=B5.out;have h3:=hf7.out;have h4:=B7.size;have h5:=hbaH.out.size;have h6:=B6.out;have h7:=hbaH.out;go_wp2_with fail;go_ret;refine ⟨t7,k7,rfl,by omega,h3.up (fun b hb=>hb.mono (fun b hb=>hb.mono (fun b hb=>.inl hb) h5 (Nat.le_trans s6 h4)) (Nat.le_trans h5 (Nat.le_trans s5 s6)) (Nat.le_refl _)) (fun _ _=>rfl),h7.trans ((((Qt.self wa 1).below wa.heap.size).trans (h2.trans ((h6.trans (B7.mono s6)).mono s5))).mono h5)⟩)
end Go.Proofs.YtjokciofeicdkaaGreatDoor
namespace Go.Proofs.YtjokciofeicdkaaGreatDoor
open Go.RowKit
theorem t_whole {w:World}{F:Nat→Prop}{vc vp:Value}{cs ps:List Value}{n1 n2:Nat}(hv:RowIn w (fun _=>True) vc cs)
  (hp:RowIn w (fun _=>True) vp ps) (hc:Forest w F cs n1) (hps:Forest w F ps n2) (hF:∀ b,F b→b<w.heap.size) (hn:n1+n2≤50000) :
  Calls Tryz.prog 209 #[.agg #[vc,vp]] w fun e w'=>OneTree w F (n1+n2+2) e w':=by
 rcases hv with ⟨rfl,rfl⟩|⟨g,cap,csl,fz,hne,rfl,_,hb,hl⟩
 ·refine (t_whole_none hp hps hF (by omega)).mono ?_
  rintro e w' ⟨t,k,rfl,hk,hf,hb⟩;exact ⟨t,k,rfl,by omega,hf,hb⟩
 ·exact t_whole_some hb hl hne hp hc hps hF hn
structure Lvl where
 vc:Value
 vp:Value
 cs:List Value
 ps:List Value
 wt:Nat
def Lvl.blocks (l:Lvl):List Nat:=l.vc.ownBlock.toList++l.vp.ownBlock.toList
structure LvlAt (w:World)(B:Nat)(F:Nat→Prop)(l:Lvl):Prop where
 c:OwnT w B l.vc l.cs
 p:OwnT w B l.vp l.ps
 cn:l.cs=[]→l.vc=.slice none 0 0
 pn:l.ps=[]→l.vp=.slice none 0 0
 wt:∃ n1 n2,n1+n2≤l.wt∧Forest w F l.cs n1∧Forest w F l.ps n2
def flatL (l:List Lvl):List Value:=l.flatMap fun x=>[x.vc,x.vp]
def ownsL (l:List Lvl):List Nat:=l.flatMap Lvl.blocks
def boxT (s:ByteArray)(at_ it:Nat)(vo:Value)(t:Lvl):Array Value:=#[.string s,.int .i64 at_,.int .i64 it,vo,t.vc,t.vp]
structure TrAt (w:World)(M B:Nat)(F:Nat→Prop)(s:ByteArray)(at_ it:Nat)(vo:Value)(ls:List Lvl)(t:Lvl):Prop where
 box:w.heap[M]?=some (.cells (boxT s at_ it vo t) 264 (0,0))
 bM:M<B
 bB:B≤w.heap.size
 out:w.ownsRow B 262 2 vo ls.length (flatL ls)
 lvl:∀ l∈t::ls,LvlAt w B F l
 apart:(ownsL (t::ls)).Nodup
 far:∀ b,F b→b<w.heap.size∧M<b∧b ∉ ownsL (t::ls)∧vo.ownBlock≠some b
section
variable {w:World} {M B:Nat} {F:Nat→Prop} {s:ByteArray} {at_ it:Nat} {vo:Value} {ls:List Lvl} {t:Lvl}
theorem TrAt.lt (h:TrAt w M B F s at_ it vo ls t):M<w.heap.size:=(Array.getElem?_eq_some_iff.1 h.box).1
theorem TrAt.free (h:TrAt w M B F s at_ it vo ls t)(i:Nat):w.frozen? ⟨M,i,none⟩=false:=by simp [World.frozen?,h.box]
theorem TrAt.c0 (h:TrAt w M B F s at_ it vo ls t):w.cell? ⟨M,0,none⟩=some (.string s):=by have:=cell_of_row w M 0 _ _ (0,0) h.box;simpa [boxT] using this
theorem TrAt.c1 (h:TrAt w M B F s at_ it vo ls t):w.cell? ⟨M,1,none⟩=some (.int .i64 at_):=by have:=cell_of_row w M 1 _ _ (0,0) h.box;simpa [boxT] using this
theorem TrAt.c2 (h:TrAt w M B F s at_ it vo ls t):w.cell? ⟨M,2,none⟩=some (.int .i64 it):=by have:=cell_of_row w M 2 _ _ (0,0) h.box;simpa [boxT] using this
theorem TrAt.c3 (h:TrAt w M B F s at_ it vo ls t):w.cell? ⟨M,3,none⟩=some vo:=by have:=cell_of_row w M 3 _ _ (0,0) h.box;simpa [boxT] using this
theorem TrAt.c4 (h:TrAt w M B F s at_ it vo ls t):w.cell? ⟨M,4,none⟩=some t.vc:=by have:=cell_of_row w M 4 _ _ (0,0) h.box;simpa [boxT] using this
theorem TrAt.c5 (h:TrAt w M B F s at_ it vo ls t):w.cell? ⟨M,5,none⟩=some t.vp:=by have:=cell_of_row w M 5 _ _ (0,0) h.box;simpa [boxT] using this
theorem TrAt.setNum (h:TrAt w M B F s at_ it vo ls t){i:Nat}{u:Value}{at' it':Nat}(hb:(boxT s at_ it vo t).setIfInBounds i u=boxT s at' it' vo t):TrAt (w.setCell ⟨M,i,none⟩ u) M B F s at' it' vo ls t:=by
 have hne:∀ b,b≠M→(w.setCell ⟨M,i,none⟩ u).heap[b]?=w.heap[b]?:=fun b hb=>by
  simp only [World.setCell];rw [Array.getElem?_modify,if_neg (fun e=>hb e.symm)]
 have hown:∀ {T:TypeId} {k n:Nat} {v:Value} {xs:List Value},w.ownsRow B T k v n xs→(w.setCell ⟨M,i,none⟩ u).ownsRow B T k v n xs:=fun ho=>
  ownsRow_setCell_other ho (fun e=>by have:=(ho.lt M e).1;have:=h.bM;omega) _
 refine ⟨?_,h.bM,by simpa [World.setCell] using h.bB,hown h.out,fun l hl=>?_,h.apart,fun b hb=>?_⟩
 ·have:=h.box;simp only [World.setCell,Array.getElem?_modify,this,if_pos rfl,Option.map_some];rw [← hb];rfl
 ·have hl:=h.lvl l hl;obtain ⟨n1,n2,hn,f1,f2⟩:=hl.wt;have hu:∀ b,F b→(w.setCell ⟨M,i,none⟩ u).heap[b]?=w.heap[b]?:=fun b hb=>hne b (by have:=(h.far b hb).2.1;omega)
  exact ⟨hown hl.c,hown hl.p,hl.cn,hl.pn,n1,n2,hn,f1.up (fun _ h=>h) hu,f2.up (fun _ h=>h) hu⟩
 ·obtain ⟨h1,h2,h3⟩:=h.far b hb;exact ⟨by simpa [World.setCell] using h1,h2,h3⟩
theorem TrAt.setAt (h:TrAt w M B F s at_ it vo ls t)(i:Nat):TrAt (w.setCell ⟨M,1,none⟩ (.int .i64 i)) M B F s i it vo ls t:=h.setNum rfl
theorem TrAt.setIt (h:TrAt w M B F s at_ it vo ls t)(i:Nat):TrAt (w.setCell ⟨M,2,none⟩ (.int .i64 i)) M B F s at_ i vo ls t:=h.setNum rfl
end
section
variable {w w':World} {M B:Nat} {F F':Nat→Prop} {s:ByteArray} {a i a' i':Nat} {vo vo':Value} {ls:List Lvl} {t t' l:Lvl}
theorem LvlAt.keep (h:LvlAt w B F l)(hk:∀ b,(b∈l.blocks∨F b)→w'.heap[b]?=w.heap[b]?)(hF:∀ b,F b→F' b):LvlAt w' B F' l:=by
 obtain ⟨n1,n2,hn,f1,f2⟩:=h.wt;exact ⟨own_heap h.c fun g hg=>hk g (.inl (by simp [Lvl.blocks,hg])),own_heap h.p fun g hg=>hk g (.inl (by simp [Lvl.blocks,hg])),h.cn,h.pn,n1,n2,hn,f1.up hF fun b hb=>hk b (.inr hb),f2.up hF fun b hb=>hk b (.inr hb)⟩
theorem LvlAt.blk (h:LvlAt w B F l){b:Nat}(hb:b∈l.blocks):B≤b∧b<w.heap.size∧∃ c fz,w.heap[b]?=some (.cells c 266 fz):=by
 simp only [Lvl.blocks,List.mem_append,Option.mem_toList] at hb;rcases hb with hb|hb
 ·have:=World.ownsRow.lt h.c b hb;exact ⟨this.1,this.2,Lib.ownsRow_kind h.c b hb⟩
 ·have:=World.ownsRow.lt h.p b hb;exact ⟨this.1,this.2,Lib.ownsRow_kind h.p b hb⟩
theorem TrAt.blk (h:TrAt w M B F s a i vo ls t){b:Nat}(hb:b∈ownsL (t::ls)):B≤b∧b<w.heap.size∧∃ c fz,w.heap[b]?=some (.cells c 266 fz):=by
 obtain ⟨l,hl,hb⟩:=List.mem_flatMap.1 hb;exact (h.lvl l hl).blk hb
theorem TrAt.oblk (h:TrAt w M B F s a i vo ls t){b:Nat}(hb:vo.ownBlock=some b):B≤b∧b<w.heap.size∧b ∉ ownsL (t::ls):=by
 have h1:=h.out.lt b hb;refine ⟨h1.1,h1.2,fun hm=>?_⟩
 obtain ⟨c,fz,h2⟩:=Lib.ownsRow_kind h.out b hb;obtain ⟨_,_,c2,fz2,h3⟩:=h.blk hm;rw [h2] at h3;simp at h3
theorem own_cons:ownsL (t::ls)=t.blocks++ownsL ls:=rfl
theorem own_snoc:ownsL (ls++[l])=ownsL ls++l.blocks:=by simp [ownsL]
theorem flatL_snoc:flatL (ls++[l])=flatL ls++[l.vc,l.vp]:=by simp [flatL]
theorem flatL_len:(flatL ls).length=ls.length*2:=by
 unfold flatL
 induction ls with
 | nil=>rfl
 | cons x r ih=>simp only [List.flatMap_cons,List.length_append,List.length_cons,List.length_nil] at ih ⊢;rw [ih];omega
theorem TrAt.swap (h:TrAt w M B F s a i vo ls t)(hs:w.heap.size≤w'.heap.size)(hx:∀ b,b<w.heap.size→b≠M→b ∉ t.blocks→w'.heap[b]?=w.heap[b]?)
  (hF:∀ b,F b→F' b) (hF':∀ b,F' b→F b∨(w.heap.size≤b∧b<w'.heap.size∧b ∉ t'.blocks)) (hbox:w'.heap[M]?=some (.cells (boxT s a' i' vo t') 264 (0,0)))
  (ht:LvlAt w' B F' t') (hb:∀ b∈t'.blocks,b∈t.blocks∨w.heap.size≤b) (hnd:t'.blocks.Nodup):TrAt w' M B F' s a' i' vo ls t':=by
 have hap:=h.apart;rw [own_cons,List.nodup_append] at hap;obtain ⟨_,ha2,ha3⟩:=hap;have hM:∀ b,B≤b→b≠M:=fun b hb e=>by have:=h.bM;omega
 refine ⟨hbox,h.bM,Nat.le_trans h.bB hs,own_heap h.out fun g hg=>?_,fun l hl=>?_,?_,fun b hb'=>?_⟩
 ·obtain ⟨h1,h2,h3⟩:=h.oblk hg;exact hx g h2 (hM g h1) fun hm=>h3 (by rw [own_cons];exact List.mem_append_left _ hm)
 ·rcases List.mem_cons.1 hl with rfl|hl
  ·exact ht
  ·refine (h.lvl l (List.mem_cons_of_mem _ hl)).keep (fun b hb=>?_) hF
   rcases hb with hb|hb
   ·have hm:b∈ownsL ls:=List.mem_flatMap.2 ⟨l,hl,hb⟩;obtain ⟨h1,h2,_⟩:=h.blk (b:=b) (by rw [own_cons];exact List.mem_append_right _ hm)
    exact hx b h2 (hM b h1) fun hm2=>ha3 b hm2 b hm rfl
   ·obtain ⟨h1,h2,h3,_⟩:=h.far b hb;exact hx b h1 (by omega) fun hm=>h3 (by rw [own_cons];exact List.mem_append_left _ hm)
 ·rw [own_cons,List.nodup_append];refine ⟨hnd,ha2,fun x hx1 y hy=>?_⟩
  rintro rfl;rcases hb x hx1 with h1|h1
  ·exact ha3 x h1 x hy rfl
  ·have:=(h.blk (b:=x) (by rw [own_cons];exact List.mem_append_right _ hy)).2.1
   omega
 ·rcases hF' b hb' with h1|⟨h1,h2,h3⟩
  ·obtain ⟨k1,k2,k3,k4⟩:=h.far b h1;refine ⟨by omega,k2,fun hm=>?_,k4⟩
   rw [own_cons] at hm k3;rcases List.mem_append.1 hm with hm|hm
   ·rcases hb b hm with hm|hm
    ·exact k3 (List.mem_append_left _ hm)
    ·omega
   ·exact k3 (List.mem_append_right _ hm)
  ·refine ⟨h2,by have:=h.lt;omega,fun hm=>?_,fun e=>by have:=(h.oblk e).2.1;omega⟩
   rw [own_cons] at hm;rcases List.mem_append.1 hm with hm|hm
   ·exact h3 hm
   ·have:=(h.blk (b:=b) (by rw [own_cons];exact List.mem_append_right _ hm)).2.1
    omega
theorem TrAt.opened (h:TrAt w M B F s a i vo ls t)(hs:w.heap.size≤w'.heap.size)(hx:∀ b,b<w.heap.size→b≠M→vo.ownBlock≠some b→w'.heap[b]?=w.heap[b]?)
  (hv:∀ b,vo'.ownBlock=some b→vo.ownBlock=some b∨w.heap.size≤b) (hO:w'.ownsRow B 262 2 vo' (ls.length+1) (flatL ls++[t.vc,t.vp]))
  (hbox:w'.heap[M]?=some (.cells (boxT s a' i vo' ⟨.slice none 0 0,.slice none 0 0,[],[],0⟩) 264 (0,0))) :
  TrAt w' M B F s a' i vo' (ls++[t]) ⟨.slice none 0 0,.slice none 0 0,[],[],0⟩:=by
 have hM:∀ b,B≤b→b≠M:=fun b hb e=>by have:=h.bM;omega
 have he:ownsL ((⟨.slice none 0 0,.slice none 0 0,[],[],0⟩:Lvl)::(ls++[t]))=ownsL ls++t.blocks:=by rw [own_cons,own_snoc];rfl
 have hm:∀ b,b∈ownsL ls++t.blocks→b∈ownsL (t::ls):=fun b hb=>by rw [own_cons];rcases List.mem_append.1 hb with h|h;exact List.mem_append_right _ h;exact List.mem_append_left _ h
 refine ⟨hbox,h.bM,Nat.le_trans h.bB hs,?_,fun l hl=>?_,?_,fun b hb=>?_⟩
 ·rw [List.length_append,flatL_snoc];exact hO
 ·rcases List.mem_cons.1 hl with rfl|hl
  ·exact ⟨⟨by simp,.inl ⟨rfl,rfl⟩⟩,⟨by simp,.inl ⟨rfl,rfl⟩⟩,fun _=>rfl,fun _=>rfl,0,0,by simp,.nil,.nil⟩
  ·have hl2:l∈t::ls:=by
    rcases List.mem_append.1 hl with hl|hl
    ·exact List.mem_cons_of_mem _ hl
    ·rw [List.mem_singleton] at hl;subst hl;exact List.mem_cons_self ..
   refine (h.lvl l hl2).keep (fun b hb=>?_) (fun _ h=>h)
   rcases hb with hb|hb
   ·have hm:b∈ownsL (t::ls):=List.mem_flatMap.2 ⟨l,hl2,hb⟩;obtain ⟨h1,h2,_⟩:=h.blk hm;exact hx b h2 (hM b h1) fun e=>(h.oblk e).2.2 hm
   ·obtain ⟨h1,h2,h3,h4⟩:=h.far b hb;exact hx b h1 (by omega) h4
 ·rw [he];have:=h.apart;rw [own_cons] at this;exact (List.perm_append_comm.nodup_iff).1 this
 ·obtain ⟨k1,k2,k3,k4⟩:=h.far b hb;refine ⟨by omega,k2,fun hb2=>?_,fun e=>?_⟩
  ·rw [he] at hb2;exact k3 (hm b hb2)
  ·rcases hv b e with h1|h1
   ·exact k4 h1
   ·omega
theorem TrAt.closed {N:Nat}(h:TrAt w M B F s a i vo (ls++[l]) t)(hs:w.heap.size≤w'.heap.size)(hx:∀ b,b<w.heap.size→b≠M→b ∉ l.blocks→w'.heap[b]?=w.heap[b]?)
  (hF:∀ b,F b→F' b) (hF':∀ b,F' b→F b∨(w.heap.size≤b∧b<w'.heap.size∧b ∉ t'.blocks)) (hvo:vo'.ownBlock=vo.ownBlock) (hO:∀ W:World,W.ownsRow B 262 2 vo (ls.length+1) (flatL ls++[l.vc,l.vp])→W.ownsRow B 262 2 vo' ls.length (flatL ls))
  (hbox:w'.heap[M]?=some (.cells (boxT s N i vo' t') 264 (0,0))) (ht:LvlAt w' B F' t') (hb:∀ b∈t'.blocks,b∈l.blocks∨w.heap.size≤b) (hnd:t'.blocks.Nodup):TrAt w' M B F' s N i vo' ls t':=by
 have hap:=h.apart;rw [own_cons,own_snoc] at hap;have hap:=(List.nodup_append.1 hap).2.1;obtain ⟨ha1,_,ha3⟩:=List.nodup_append.1 hap;have hM:∀ b,B≤b→b≠M:=fun b hb e=>by have:=h.bM;omega
 have hml:∀ b,b∈l.blocks→b∈ownsL (t::(ls++[l])):=fun b hb=>by rw [own_cons,own_snoc];exact List.mem_append_right _ (List.mem_append_right _ hb)
 have hms:∀ b,b∈ownsL ls→b∈ownsL (t::(ls++[l])):=fun b hb=>by rw [own_cons,own_snoc];exact List.mem_append_right _ (List.mem_append_left _ hb)
 refine ⟨hbox,h.bM,Nat.le_trans h.bB hs,?_,fun x hl=>?_,?_,fun b hb'=>?_⟩
 ·refine hO _ ?_;have:=h.out;rw [List.length_append,flatL_snoc] at this;refine own_heap this fun g hg=>?_
  obtain ⟨h1,h2,h3⟩:=h.oblk hg;exact hx g h2 (hM g h1) fun hm=>h3 (hml g hm)
 ·rcases List.mem_cons.1 hl with rfl|hl
  ·exact ht
  ·refine (h.lvl x (List.mem_cons_of_mem _ (List.mem_append_left _ hl))).keep (fun b hb=>?_) hF
   rcases hb with hb|hb
   ·have hm:b∈ownsL ls:=List.mem_flatMap.2 ⟨x,hl,hb⟩;obtain ⟨h1,h2,_⟩:=h.blk (hms b hm);exact hx b h2 (hM b h1) fun hm2=>ha3 b hm b hm2 rfl
   ·obtain ⟨h1,h2,h3,_⟩:=h.far b hb;exact hx b h1 (by omega) fun hm=>h3 (hml b hm)
 ·rw [own_cons,List.nodup_append];refine ⟨hnd,ha1,fun x hx1 y hy=>?_⟩
  rintro rfl;rcases hb x hx1 with h1|h1
  ·exact ha3 x hy x h1 rfl
  ·have:=(h.blk (hms x hy)).2.1;omega
 ·rcases hF' b hb' with h1|⟨h1,h2,h3⟩
  ·obtain ⟨k1,k2,k3,k4⟩:=h.far b h1;refine ⟨by omega,k2,fun hm=>?_,by rw [hvo];exact k4⟩
   rw [own_cons] at hm;rcases List.mem_append.1 hm with hm|hm
   ·rcases hb b hm with hm|hm
    ·exact k3 (hml b hm)
    ·omega
   ·exact k3 (hms b hm)
  ·refine ⟨h2,by have:=h.lt;omega,fun hm=>?_,fun e=>by rw [hvo] at e;have:=(h.oblk e).2.1;omega⟩
   rw [own_cons] at hm;rcases List.mem_append.1 hm with hm|hm
   ·exact h3 hm
   ·have:=(h.blk (hms b hm)).2.1;omega
end
end Go.Proofs.YtjokciofeicdkaaGreatDoor
namespace Go.Proofs.YtjokciofeicdkaaGreatDoor
open Go.RowKit
attribute [local go_sem ↓] Go.wp_at_zero Go.wp_at_succ
def Lvl.part (t:Lvl)(v x:Value)(k:Nat):Lvl:={ t with vp:=v,ps:=t.ps++[x],wt:=t.wt+k }
theorem setM_other {w:World}{M i b:Nat}{u:Value}(h:b≠M):(w.setCell ⟨M,i,none⟩ u).heap[b]?=w.heap[b]?:=by
 simp only [World.setCell];rw [Array.getElem?_modify,if_neg (fun e=>h e.symm)]
theorem setM_size {w:World}{M i:Nat}{u:Value}:(w.setCell ⟨M,i,none⟩ u).heap.size=w.heap.size:=by simp [World.setCell]
theorem setM_box {w:World}{M i:Nat}{u:Value}{c:Array Value}{T:TypeId}(h:w.heap[M]?=some (.cells c T (0,0))):(w.setCell ⟨M,i,none⟩ u).heap[M]?=some (.cells (c.setIfInBounds i u) T (0,0)):=by
 simp only [World.setCell,Array.getElem?_modify,h,if_pos rfl,Option.map_some];rfl
section
variable {w w4:World} {M B:Nat} {F:Nat→Prop} {s:ByteArray} {a i:Nat} {vo:Value} {ls:List Lvl} {t:Lvl}
theorem TrAt.nd (h:TrAt w M B F s a i vo ls t):t.blocks.Nodup:=by
 have:=h.apart;rw [own_cons] at this;exact (List.nodup_append.1 this).1
theorem blk_c {b:Nat}(h:t.vc.ownBlock=some b):b∈t.blocks:=by simp [Lvl.blocks,h]
theorem blk_p {b:Nat}(h:t.vp.ownBlock=some b):b∈t.blocks:=by simp [Lvl.blocks,h]
theorem blk_of {b:Nat}(h:b∈t.blocks):t.vc.ownBlock=some b∨t.vp.ownBlock=some b:=by
 simp only [Lvl.blocks,List.mem_append,Option.mem_toList] at h;exact h
theorem blk_two (h:t.blocks.Nodup){b:Nat}(hc:t.vc.ownBlock=some b):t.vp.ownBlock≠some b:=fun hp=>by
 simp [Lvl.blocks,hc,hp] at h
theorem nodup_two {vc vp:Value}(h:∀ b,vc.ownBlock=some b→vp.ownBlock≠some b):(vc.ownBlock.toList++vp.ownBlock.toList).Nodup:=by
 cases hc:vc.ownBlock with
 | none=>cases hp:vp.ownBlock<;>simp
 | some b=>
   cases hp:vp.ownBlock with
   | none=>simp
   | some c=>simp;rintro rfl;exact h b hc hp
theorem TrAt.pushed (h:TrAt w M B F s a i vo ls t){x:Value}{g' cap' k:Nat}(hg:(w.alloc (.cells #[x] 266)).grownBy w4 t.vp.ownBlock)(hat:t.vp.ownBlock=some g'∨g'=w.heap.size+1)
  (ho:w4.ownsRow B 266 1 (.slice (some ⟨g',0,none⟩) (t.ps.length+1) cap') (t.ps.length+1) (t.ps++[x])) (hx:Forest w F [x] k) :
  TrAt (w4.setCell ⟨M,5,none⟩ (.slice (some ⟨g',0,none⟩) (t.ps.length+1) cap')) M B F s a i vo ls (t.part (.slice (some ⟨g',0,none⟩) (t.ps.length+1) cap') x k) ∧
  Below M w (w4.setCell ⟨M,5,none⟩ (.slice (some ⟨g',0,none⟩) (t.ps.length+1) cap')):=by
 have hsz:w.heap.size+1≤w4.heap.size:=by have:=hg.size;simpa using this
 have hlt:=h.lt;have hbM:=h.bM
 have hold:∀ b,b<w.heap.size→t.vp.ownBlock≠some b→w4.heap[b]?=w.heap[b]?:=fun b hb hn=>
  (hg.block b (by simp;omega) (fun e=>hn e.symm)).trans (heap_alloc_old w _ hb)
 have hlv:=h.lvl t (List.mem_cons_self ..);have hg':=(ho.lt g' rfl);have hnd:=h.nd;have hMp:t.vp.ownBlock≠some M:=fun e=>by have:=(World.ownsRow.lt hlv.p M e).1;omega
 refine ⟨h.swap (by rw [setM_size];omega) (fun b hb hn ht=>?_) (fun _ h=>h) (fun b hb=>.inl hb) ?_ ?_ (fun b hb=>?_) ?_,?_⟩
 ·rw [setM_other hn];exact hold b hb fun e=>ht (blk_p e)
 ·rw [setM_box ((hold M hlt hMp).trans h.box)];rfl
 ·obtain ⟨n1,n2,hn,f1,f2⟩:=hlv.wt
  have hu:∀ b,F b→(w4.setCell ⟨M,5,none⟩ (.slice (some ⟨g',0,none⟩) (t.ps.length+1) cap')).heap[b]?=w.heap[b]?:=fun b hb=>by
   obtain ⟨h1,h2,h3,_⟩:=h.far b hb;rw [setM_other (by omega)]
   exact hold b h1 fun e=>h3 (by rw [own_cons];exact List.mem_append_left _ (blk_p e))
  refine ⟨own_heap hlv.c fun g hgc=>?_,?_,hlv.cn,fun e=>absurd e (by simp [Lvl.part]),n1,n2+k,?_,f1.up (fun _ h=>h) hu,(f2.up (fun _ h=>h) hu).app (hx.up (fun _ h=>h) hu)⟩
  ·have hl:=World.ownsRow.lt hlv.c g hgc;rw [setM_other (by omega)]
   exact hold g hl.2 (blk_two hnd hgc)
  ·show World.ownsRow _ _ _ _ _ _ _
   simp only [Lvl.part,List.length_append,List.length_cons,List.length_nil];exact ownsRow_setCell_other ho (fun e=>by simp only [Value.ownBlock,Option.some.injEq] at e;omega) _
  ·show n1+(n2+k)≤t.wt+k;omega
 ·rcases blk_of hb with e|e
  ·exact .inl (blk_c e)
  ·have e:g'=b:=by simpa [Lvl.part,Value.ownBlock] using e
   subst e;rcases hat with h1|h1
   ·exact .inl (blk_p h1)
   ·right;omega
 ·refine nodup_two fun b hc hp=>?_
  have hp:g'=b:=by simpa [Lvl.part,Value.ownBlock] using hp
  subst hp;rcases hat with h1|h1
  ·exact blk_two hnd hc h1
  ·have:=(World.ownsRow.lt hlv.c g' hc).2;omega
 ·exact (((Below.refl M w).alloc (Nat.le_of_lt hlt) _).grown hg (by simp;omega) (fun k hk=>by have:=(World.ownsRow.lt hlv.p k hk).1;omega)).setCell (Nat.le_refl M) _
end
theorem wd_step (s:ByteArray)(m:Nat)(h:wdL ((bs s).drop m)=true):m<s.size∧m+wordLen ((bs s).drop m)=(m+1)+wordLen ((bs s).drop (m+1)):=by
 have hlt:m<s.size:=by
  by_cases hlt:m<s.size
  ·exact hlt
  ·rw [bs_drop_end s m hlt] at h;cases h
 refine ⟨hlt,?_⟩;have:=wdL_len h;rw [List.drop_drop] at this;rw [this];omega
theorem grown_undrew {w w':World}{r:Option Nat}(h:w.drew.grownBy w' r):w.grownBy w' r:=⟨h.os,h.tape,h.output,h.size,h.block⟩
def NmPost (w:World)(M B:Nat)(F:Nat→Prop)(s:ByteArray)(a i:Nat)(vo:Value)(ls:List Lvl)(t:Lvl)(e:Ending)(w':World):Prop:=
 Below M w w'∧match nameEnd ((bs s).drop a) with
 | none=>e=.returned (.bool false)∧w'=w
 | some q=>e=.returned (.bool true)∧∃ (a':Nat) (v x:Value),a≤a'∧a'≤s.size∧(bs s).drop a'=q∧TrAt w' M B F s a' i vo ls (t.part v x (a'-a+2))
theorem t_name {w:World}{M B:Nat}{F:Nat→Prop}{s:ByteArray}{a i:Nat}{vo:Value}{ls:List Lvl}{t:Lvl}(P:TrAt w M B F s a i vo ls t)(ng:Bool)(ha:a≤s.size)(hs:s.size≤300)(hn:t.ps.length≤10000) :
  Calls Tryz.prog 224 #[.pointer (some ⟨M,0,none⟩),.bool ng] w fun e w'=>NmPost w M B F s a i vo ls t e w':=by
 have q0:=P.c0;have q1:=P.c1;have hP:=Hi P;have cw:=Hi (fun (i:Nat) (hi:i≤1000000)=>t_word q0 i hi)
 have cl:=Hi (fun (i:Nat) (hi:i≤1000000)=>t_letter q0 i hi)
 obtain ⟨l1,l2⟩:=runE_le s a ha;have h1:=nameEnd_one s a;have h2:=nameEnd_two s a;have hE:∃ e1,runE s a=e1:=⟨_,rfl⟩
 obtain ⟨e1,hE⟩:=hE;have HE:=Hi (show a+wordLen ((bs s).drop a)=e1 from hE)
 rw [hE] at h1 h2 l1 l2;have H1:=Hi h1;have H2:=Hi h2;clear P h1 h2 hE;have bws:IntKind.i64.wrap ((e1:Int)-(a:Int))=(e1:Int)-(a:Int):=IntWalk.i64_in _ (by omega)
 go_enter Tryz.func224,Tryz.ntmps224;go_wp2_with fail
 go_loop [5] (fun v=>∃ m:Nat,m≤s.size∧v=.int .i64 m∧Hid (m+wordLen ((bs s).drop m)=e1)) (fun v=>s.size-(intOf v).toNat)
 case atStart=>exact ⟨a,ha,rfl,HE⟩
 case round=>
  obtain ⟨m,hm,rfl,hR⟩:=hrel;have c:=Hi (cw.out m (by omega))
  cases hW:wdL ((bs s).drop m) with
  | true=>
    rw [hW] at c;obtain ⟨b1,b2⟩:=wd_step s m hW;have hR2:=Hi (b2.symm.trans hR.out);clear hR hW b2;go_wp2_with (go_at_call 231;refine c.out.mono ?_;rintro e w' ⟨rfl,rfl⟩)
    go_round
    case rel=>exact ⟨m+1,by omega,by go_num,hR2⟩
    case measure=>simp [intOf];omega
  | false=>
    rw [hW] at c;have hme:m=e1:=by have:=hR.out;rw [wdL_end hW] at this;omega
    subst hme;clear hR hW;go_upto_region 5 with (go_at_call 231;refine c.out.mono ?_;rintro e w' ⟨rfl,rfl⟩);have b1':IntKind.i64.wrap 0=0:=rfl;have bwe:=wS m (by omega)
    go_cut [7] (fun v wx=>wx=w∧v=.bool (dotB s m))
    case first=>
     by_cases hlt:m<s.size
     ·have c1:(m:Int)<(s.size:Int):=by omega
      have c0:(0:Int)≤(m:Int):=by omega
      by_cases h46:s[m].toNat=46
      ·have d46:((s[m].toNat:Int) == 46)=true:=by rw [h46];rfl
       have Hd:=Hi (show dotB s m=letL ((bs s).drop (m+1)) by unfold dotB;rw [bs_at s _ hlt];simp [h46])
       clear h46;go_wp2_with (go_at_call 220;refine (cl.out (m+1) (by omega)).mono ?_;rintro e w' ⟨rfl,rfl⟩)
       go_meet;exact ⟨rfl,by rw [Hd.out]⟩
      ·have d46:((s[m].toNat:Int) == 46)=false:=by rw [beq_eq_false_iff_ne];omega
       have Hd:=Hi (show dotB s m=false by unfold dotB;rw [bs_at s _ hlt];simp [h46])
       clear h46;go_wp2_with fail;go_meet;exact ⟨rfl,by rw [Hd.out]⟩
     ·have c1:¬ (m:Int)<(s.size:Int):=by omega
      have Hd:=Hi (show dotB s m=false by unfold dotB;rw [show (bs s)[m]?=none from List.getElem?_eq_none (by rw [bs_length];omega)])
      go_wp2_with fail;go_meet;exact ⟨rfl,by rw [Hd.out]⟩
    case rest=>
    obtain ⟨rfl,rfl⟩:=hcut;obtain ⟨d,hd⟩:∃ d,dotB s m=d:=⟨_,rfl⟩
    rw [hd];have hd:=Hi hd;go_upto_if 46 with fail
    go_cut [5,6] (fun x y wx=>wx=wc∧∃ (e2:Nat) (lg:Int),x=.int .i64 e2∧y=.int .i64 lg∧Hid (nameEnd ((bs s).drop a)=optN (decide (24<lg)) ((bs s).drop e2))∧m≤e2∧e2≤s.size)
    case first=>
     have hd:=hd.out
     cases d
     ·have hH:=H1.out (fun hl h46=>by
       unfold dotB at hd;rw [bs_at s _ hl] at hd
       simpa [h46] using hd)
      have hHH:=Hi (hH.trans (congrArg (fun b=>optN b ((bs s).drop m)) (show decide (24<m-a)=decide (24<(m:Int)-(a:Int)) by rw [Bool.eq_iff_iff];simp;omega)))
      clear hd hH;go_wp2_with fail;go_meet;exact ⟨rfl,m,_,rfl,rfl,hHH,Nat.le_refl _,l2⟩
     ·have hx:∃ hl:m<s.size,s[m].toNat=46∧letL ((bs s).drop (m+1))=true:=by
       unfold dotB at hd
       by_cases hl:m<s.size
       ·rw [bs_at s _ hl] at hd;simp only [Bool.and_eq_true,beq_iff_eq] at hd;exact ⟨hl,hd⟩
       ·rw [show (bs s)[m]?=none from List.getElem?_eq_none (by rw [bs_length];omega)] at hd;cases hd
      obtain ⟨hl,h46,hL⟩:=hx;have hH:=H2.out hl h46 hL;obtain ⟨k1,k2⟩:=runE_le s (m+1) (by omega)
      obtain ⟨e2,hE⟩:∃ e2,runE s (m+1)=e2:=⟨_,rfl⟩
      have HE2:=Hi (show m+1+wordLen ((bs s).drop (m+1))=e2 from hE)
      rw [hE] at hH k1 k2;have hHH:=Hi hH;clear hd hL h46 hH hE;go_wp2_with fail
      go_loop [5] (fun v=>∃ k:Nat,k≤s.size∧v=.int .i64 k∧Hid (k+wordLen ((bs s).drop k)=e2)) (fun v=>s.size-(intOf v).toNat)
      case atStart=>exact ⟨m+1,by omega,by go_num,HE2⟩
      case round=>
       obtain ⟨k,hk,rfl,hR⟩:=hrel;have c:=Hi (cw.out k (by omega))
       cases hW:wdL ((bs s).drop k) with
       | true=>
         rw [hW] at c;obtain ⟨b1,b2⟩:=wd_step s k hW;have hR2:=Hi (b2.symm.trans hR.out);clear hR hW b2 bwe;go_wp2_with (go_at_call 231;refine c.out.mono ?_;rintro e w' ⟨rfl,rfl⟩)
         go_round
         case rel=>exact ⟨k+1,by omega,by go_num,hR2⟩
         case measure=>simp [intOf];omega
       | false=>
         rw [hW] at c;have hke:k=e2:=by have:=hR.out;rw [wdL_end hW] at this;omega
         subst hke;have bws2:IntKind.i64.wrap ((k:Int)-((m:Int)+1))=(k:Int)-((m:Int)+1):=IntWalk.i64_in _ (by omega)
         clear hR hW cw;go_wp2_with (go_at_call 231;refine c.out.mono ?_;rintro e w' ⟨rfl,rfl⟩);go_meet;refine ⟨rfl,k,_,rfl,rfl,Hi (hHH.out.trans (congrArg (fun b=>optN b ((bs s).drop k)) ?_)),by omega,k2⟩
         clear bwe bws2;rw [Bool.eq_iff_iff];simp;omega
    case rest=>
     obtain ⟨rfl,e2,lg,rfl,rfl,hH,h12,h2s⟩:=hcut;clear cw cl HE H1 H2 bws b1' bwe
     by_cases h24:24<lg
     ·have hN:=Hi (show nameEnd ((bs s).drop a)=none by rw [hH.out,decide_eq_true h24];rfl)
      have b24:lg>24:=h24;clear hH h24;go_wp2_with fail;go_ret;unfold NmPost;rw [hN.out];exact ⟨Below.refl _ _,rfl,rfl⟩
     ·have hN:=Hi (show nameEnd ((bs s).drop a)=some ((bs s).drop e2) by rw [hH.out,decide_eq_false h24];rfl)
      have b24:¬ lg>24:=h24;have g1:(a:Int)≤(e2:Int):=by omega
      have g2:(e2:Int)≤(s.size:Int):=by omega
      have g3:(0:Int)≤(a:Int):=by omega
      have g4:(0:Int)≤(e2:Int):=by omega
      have q5:=hP.out.c5;have f5:=hP.out.free 5;clear hH h24;obtain ⟨i0,hi0,hz0,hz1,hz2⟩:=info_parts tree_info;have hi0:=Hi hi0;have hz0:=Hi hz0;have hz1:=Hi hz1;have hz2:=Hi hz2;have hO:OwnT wc B t.vp t.ps:=(hP.out.lvl t (List.mem_cons_self ..)).p;have hMl:=hP.out.lt;have hMp:=Hi (show t.vp.ownBlock≠some M from fun e=>by have:=(World.ownsRow.lt hO M e).1;have:=hP.out.bM;omega)
      have hBs:=hP.out.bB;have hO:=Hi hO;go_upto_region 14 with fail
      go_cut [83] (fun y wx=>∃ (v x:Value),Hid (TrAt wx M B F s a i vo ls (t.part v x ((s.extract a e2).size+2+0)))∧Hid (Below M wc wx))
      case first=>
       go_region_law (refine step_append_lies _ (by rfl) (.tmp 67) (.tmp 82) _ (by rfl) B 266 i0 _ 1 16 Tryz.underlying260 hi0.out hz0.out hz1.out hz2.out rfl (by decide) t.vp t.ps.length t.ps (by rfl) ((World.ownsRow.alloc hO.out _).drew) ⟨wc.heap.size,0,none⟩ 1 1 [.iface 285 (.agg #[.string (s.extract a e2),.bool true,.bool d,.bool ng])] (by rfl) (by rfl) (World.news_of_block (heap_alloc_new wc _)) (by intro u hu;simp only [List.mem_cons,List.not_mem_nil,or_false] at hu;subst hu;rfl) (by decide) (by unfold maxLen;omega) (by omega) (by simp;omega) (wc.heap.size+1) (by simp) ?_;intro g' cap' w4 hown4 hg4 hat4 hlt4;have q54:=hg4.cell (((Below.refl _ wc).alloc (Nat.le_refl _) (.cells #[.iface 285 (.agg #[.string (s.extract a e2),.bool true,.bool d,.bool ng])] 266)).cell (p:=⟨M,5,none⟩) hMl |>.trans q5) (fun e=>hMp.out e.symm);have f54:=(hg4.frozen_far (a:=⟨M,5,none⟩) (by simp;omega) (fun e=>hMp.out e.symm)).trans ((((Below.refl _ wc).alloc (Nat.le_refl _) (.cells #[.iface 285 (.agg #[.string (s.extract a e2),.bool true,.bool d,.bool ng])] 266)).frozen (p:=⟨M,5,none⟩) hMl).trans f5);have hown5:=Hi hown4;have hg5:=Hi hg4;have hat5:=Hi hat4;clear hown4 hg4 hat4)
       all_goals (
        obtain ⟨P4,B4⟩:=hP.out.pushed (grown_undrew hg5.out) hat5.out hown5.out (.leaf (s.extract a e2) true d ng [] 0 .nil);have P4:=Hi P4;have B4:=Hi B4;go_wp2_with fail;go_meet;exact ⟨_,_,P4,B4⟩)
      case rest=>
       obtain ⟨v,x,P4,B4⟩:=hcut;have q1':=P4.out.c1;have f1':=P4.out.free 1;clear q5 f5 q0 q1;go_wp2_with fail;go_ret;unfold NmPost;rw [hN.out];have P5:=P4.out.setAt e2;rw [show (s.extract a e2).size+2+0=e2-a+2 by rw [ByteArray.size_extract];omega] at P5
       exact ⟨B4.out.setCell (Nat.le_refl M) _,rfl,e2,v,x,by omega,h2s,rfl,P5⟩
end Go.Proofs.YtjokciofeicdkaaGreatDoor
namespace Go.Proofs.YtjokciofeicdkaaGreatDoor
open Go.RowKit
theorem own_short {w:World}{B g cap n:Nat}{T:TypeId}{xs:List Value}{a b:Value}(h:w.ownsRow B T 2 (.slice (some ⟨g,0,none⟩) (n+1) cap) (n+1) (xs++[a,b])):w.ownsRow B T 2 (.slice (some ⟨g,0,none⟩) n cap) n xs:=by
 obtain ⟨h1,h2⟩:=h;have hl:xs.length=n*2:=by simp at h1;omega
 refine ⟨hl,.inr ?_⟩;rcases h2 with ⟨h2,_⟩|⟨g',cap',cur,h2,hb,hg,hn,hc,hs,ht⟩
 ·cases h2
 ·cases h2
  refine ⟨g,cap,cur,rfl,hb,hg,by omega,hc,hs,?_⟩
  have:(cur.toList.take ((n+1)*2)).take (n*2)=xs:=by rw [ht,← hl,List.take_left]
  rw [List.take_take] at this
  rwa [Nat.min_eq_left (by omega)] at this
theorem Forest.split {w:World}{F:Nat→Prop}:∀ {vs us:List Value} {n:Nat},Forest w F (vs++us) n→∃ a b,n=a+b∧Forest w F vs a∧Forest w F us b:=by
 intro vs
 induction vs with
 | nil=>intro us n h;exact ⟨0,n,by omega,.nil,h⟩
 | cons v r ih=>
   intro us n h;obtain ⟨k,m,rfl,h1,h2⟩:=Forest.uncons h;obtain ⟨a,b,rfl,h3,h4⟩:=ih h2;exact ⟨k+a,b,by omega,Forest.app (vs:=[v]) h1 h3,h4⟩
section
variable {w w1 w4:World} {M B:Nat} {F:Nat→Prop} {s:ByteArray} {a i:Nat} {vo:Value} {ls:List Lvl} {t l:Lvl}
theorem TrAt.flt (h:TrAt w M B F s a i vo ls t):∀ b,F b→b<w.heap.size:=fun b hb=>(h.far b hb).1
theorem TrAt.mp (h:TrAt w M B F s a i vo ls t):t.vp.ownBlock≠some M:=fun e=>by have:=(World.ownsRow.lt (h.lvl t (List.mem_cons_self ..)).p M e).1;have:=h.bM;omega
theorem TrAt.mc (h:TrAt w M B F s a i vo ls t):t.vc.ownBlock≠some M:=fun e=>by have:=(World.ownsRow.lt (h.lvl t (List.mem_cons_self ..)).c M e).1;have:=h.bM;omega
theorem TrAt.mo (h:TrAt w M B F s a i vo ls t):vo.ownBlock≠some M:=fun e=>by have:=(h.oblk e).1;have:=h.bM;omega
theorem TrAt.since (h:TrAt w M B F s a i vo ls t)(hb:Below w.heap.size w w1):TrAt w1 M B (Since F w w1) s a i vo ls t:=by
 refine h.swap hb.size (fun b hb' _ _=>hb.block b hb') (fun b hb=>.inl hb) (fun b hb'=>?_) ((hb.block M h.lt).trans h.box) ?_ (fun b hb=>.inl hb) h.nd
 ·rcases hb' with h1|⟨h1,h2⟩
  ·exact .inl h1
  ·exact .inr ⟨h1,h2,fun hm=>by have:=(h.blk (b:=b) (by rw [own_cons];exact List.mem_append_left _ hm)).2.1;omega⟩
 ·refine (h.lvl t (List.mem_cons_self ..)).keep (fun b hb'=>hb.block b ?_) (fun b hb=>.inl hb)
  rcases hb' with h1|h1
  ·exact (h.blk (b:=b) (by rw [own_cons];exact List.mem_append_left _ h1)).2.1
  ·exact h.flt b h1
theorem TrAt.qt (h:TrAt w M B F s a i vo ls t){w':World}(hq:Qt w w'):TrAt w' M B F s a i vo ls t:=by
 obtain ⟨n,rfl⟩:=hq;exact ⟨h.box,h.bM,h.bB,h.out,fun l hl=>(h.lvl l hl).keep (w':=w.drewN n) (fun _ _=>rfl) (fun _ h=>h),h.apart,h.far⟩
theorem TrAt.barred (h:TrAt w M B F s a i vo ls t){x:Value}{g' cap' k:Nat}(hg:(w.alloc (.cells #[x] 266)).grownBy w4 t.vc.ownBlock)(hat:t.vc.ownBlock=some g'∨g'=w.heap.size+1)
  (ho:w4.ownsRow B 266 1 (.slice (some ⟨g',0,none⟩) (t.cs.length+1) cap') (t.cs.length+1) (t.cs++[x])) (hx:Forest w F [x] k) {n1 n2:Nat} (hk:k≤n2+1) (hn:n1+n2≤t.wt) (f1:Forest w F t.cs n1) :
  TrAt ((w4.setCell ⟨M,4,none⟩ (.slice (some ⟨g',0,none⟩) (t.cs.length+1) cap')).setCell ⟨M,5,none⟩ (.slice none 0 0)) M B F s a i vo ls ⟨.slice (some ⟨g',0,none⟩) (t.cs.length+1) cap',.slice none 0 0,t.cs++[x],[],t.wt+1⟩ ∧
  Below M w ((w4.setCell ⟨M,4,none⟩ (.slice (some ⟨g',0,none⟩) (t.cs.length+1) cap')).setCell ⟨M,5,none⟩ (.slice none 0 0)):=by
 have hsz:w.heap.size+1≤w4.heap.size:=by have:=hg.size;simpa using this
 have hlt:=h.lt;have hbM:=h.bM
 have hold:∀ b,b<w.heap.size→t.vc.ownBlock≠some b→w4.heap[b]?=w.heap[b]?:=fun b hb hn=>
  (hg.block b (by simp;omega) (fun e=>hn e.symm)).trans (heap_alloc_old w _ hb)
 have hlv:=h.lvl t (List.mem_cons_self ..);have hg':=(ho.lt g' rfl);refine ⟨h.swap (by rw [setM_size,setM_size];omega) (fun b hb hn ht=>?_) (fun _ h=>h) (fun b hb=>.inl hb) ?_ ?_ (fun b hb=>?_) ?_,?_⟩
 ·rw [setM_other hn,setM_other hn];exact hold b hb fun e=>ht (blk_c e)
 ·rw [setM_box (setM_box ((hold M hlt h.mc).trans h.box))];rfl
 ·have hu:∀ b,F b→((w4.setCell ⟨M,4,none⟩ (.slice (some ⟨g',0,none⟩) (t.cs.length+1) cap')).setCell ⟨M,5,none⟩ (.slice none 0 0)).heap[b]?=w.heap[b]?:=fun b hb=>by
   obtain ⟨h1,h2,h3,_⟩:=h.far b hb;rw [setM_other (by omega),setM_other (by omega)]
   exact hold b h1 fun e=>h3 (by rw [own_cons];exact List.mem_append_left _ (blk_c e))
  refine ⟨?_,⟨by simp,.inl ⟨rfl,rfl⟩⟩,fun e=>absurd e (by simp),fun _=>rfl,n1+k,0,by show n1+k+0≤t.wt+1;omega,(f1.up (fun _ h=>h) hu).app (hx.up (fun _ h=>h) hu),.nil⟩
  show World.ownsRow _ _ _ _ _ _ _
  simp only [List.length_append,List.length_cons,List.length_nil];exact ownsRow_setCell_other (ownsRow_setCell_other ho (fun e=>by simp only [Value.ownBlock,Option.some.injEq] at e;omega) _) (fun e=>by simp only [Value.ownBlock,Option.some.injEq] at e;omega) _
 ·rcases blk_of hb with e|e
  ·have e:g'=b:=by simpa [Value.ownBlock] using e
   subst e;rcases hat with h1|h1
   ·exact .inl (blk_c h1)
   ·right;omega
  ·simp [Value.ownBlock] at e
 ·exact nodup_two fun b _ hp=>by simp [Value.ownBlock] at hp
 ·exact ((((Below.refl M w).alloc (Nat.le_of_lt hlt) _).grown hg (by simp;omega) (fun k hk=>by have:=(World.ownsRow.lt hlv.c k hk).1;omega)).setCell (p:=⟨M,4,none⟩) (Nat.le_refl M) _).setCell (p:=⟨M,5,none⟩) (Nat.le_refl M) _
theorem TrAt.suffixed (h:TrAt w M B F s a i vo ls t){g cap:Nat}{r:List Value}{u:Value}{c:UInt8}(hc:c.toNat<128)(hv:t.vp=.slice (some ⟨g,0,none⟩) t.ps.length cap)(hp:t.ps=r++[u]) :
  TrAt (w.setCell ⟨g,r.length,none⟩ (.iface 282 (.agg #[u,.int .u8 c.toNat]))) M B F s a i vo ls { t with ps:=r++[.iface 282 (.agg #[u,.int .u8 c.toNat])],wt:=t.wt+1 } ∧
  Below M w (w.setCell ⟨g,r.length,none⟩ (.iface 282 (.agg #[u,.int .u8 c.toNat]))):=by
 have hlt:=h.lt;have hbM:=h.bM;have hlv:=h.lvl t (List.mem_cons_self ..);have hg:=World.ownsRow.lt hlv.p g (by rw [hv];rfl)
 have hgb:g∈t.blocks:=blk_p (by rw [hv];rfl)
 refine ⟨h.swap (by rw [setM_size];omega) (fun b hb hn ht=>?_) (fun _ h=>h) (fun b hb=>.inl hb) ?_ ?_ (fun b hb=>.inl hb) h.nd,(Below.refl M w).setCell (by show M≤g;omega) _⟩
 ·rw [setM_other (fun e=>ht (by rw [e];exact hgb))]
 ·rw [setM_other (by omega)];exact h.box
 ·obtain ⟨n1,n2,hn,f1,f2⟩:=hlv.wt
  have hu:∀ b,F b→(w.setCell ⟨g,r.length,none⟩ (.iface 282 (.agg #[u,.int .u8 c.toNat]))).heap[b]?=w.heap[b]?:=fun b hb=>by
   obtain ⟨h1,h2,h3,_⟩:=h.far b hb;exact setM_other (fun e=>h3 (by rw [own_cons];exact List.mem_append_left _ (by rw [e];exact hgb)))
  rw [hp] at f2;obtain ⟨m1,m2,rfl,k1,k2⟩:=f2.split;refine ⟨ownsRow_setCell_other hlv.c (fun e=>blk_two h.nd e (by rw [hv];rfl)) _,?_,hlv.cn,fun e=>absurd e (by simp),n1,m1+(m2+1),by show n1+(m1+(m2+1))≤t.wt+1;omega,f1.up (fun _ h=>h) hu,?_⟩
  ·have ho:=hlv.p;unfold OwnT at ho ⊢;rw [hv] at ho;have:=(World.ownsRow.stored ho r.length (.iface 282 (.agg #[u,.int .u8 c.toNat]))).1;rw [hp] at this;rw [hv];simp only [hp,List.length_append,List.length_cons,List.length_nil,List.set_append_right _ _ (Nat.le_refl _),Nat.sub_self,List.set_cons_zero] at this ⊢;exact this
  ·exact (k1.up (fun _ h=>h) hu).app (Forest.suf u c m2 [] 0 hc (k2.up (fun _ h=>h) hu) .nil)
theorem TrAt.opens (h:TrAt w M B F s a i vo ls t){g' cap':Nat}(hg:(w.alloc (.cells #[t.vc,t.vp] 262)).grownBy w4 vo.ownBlock)(hat:vo.ownBlock=some g'∨g'=w.heap.size+1)
  (ho:w4.ownsRow B 262 2 (.slice (some ⟨g',0,none⟩) (ls.length+1) cap') (ls.length+1) (flatL ls++[t.vc,t.vp])) :
  TrAt (((w4.setCell ⟨M,3,none⟩ (.slice (some ⟨g',0,none⟩) (ls.length+1) cap')).setCell ⟨M,4,none⟩ (.slice none 0 0)).setCell ⟨M,5,none⟩ (.slice none 0 0)) M B F s a i (.slice (some ⟨g',0,none⟩) (ls.length+1) cap') (ls++[t]) ⟨.slice none 0 0,.slice none 0 0,[],[],0⟩ ∧
  Below M w (((w4.setCell ⟨M,3,none⟩ (.slice (some ⟨g',0,none⟩) (ls.length+1) cap')).setCell ⟨M,4,none⟩ (.slice none 0 0)).setCell ⟨M,5,none⟩ (.slice none 0 0)):=by
 have hsz:w.heap.size+1≤w4.heap.size:=by have:=hg.size;simpa using this
 have hlt:=h.lt;have hbM:=h.bM;have hg':=(ho.lt g' rfl)
 have hold:∀ b,b<w.heap.size→vo.ownBlock≠some b→w4.heap[b]?=w.heap[b]?:=fun b hb hn=>
  (hg.block b (by simp;omega) (fun e=>hn e.symm)).trans (heap_alloc_old w _ hb)
 refine ⟨h.opened (by rw [setM_size,setM_size,setM_size];omega) (fun b hb hn ht=>?_) (fun b hb=>?_) ?_ ?_,?_⟩
 ·rw [setM_other hn,setM_other hn,setM_other hn];exact hold b hb ht
 ·simp only [Value.ownBlock,Option.some.injEq] at hb;subst hb;rcases hat with h1|h1
  ·exact .inl h1
  ·right;omega
 ·have hne:∀ j,(Value.slice (some ⟨g',0,none⟩) (ls.length+1) cap').ownBlock≠some (⟨M,j,none⟩:Addr).block:=fun j e=>by simp only [Value.ownBlock,Option.some.injEq] at e;omega
  exact ownsRow_setCell_other (ownsRow_setCell_other (ownsRow_setCell_other ho (hne 3) _) (hne 4) _) (hne 5) _
 ·rw [setM_box (setM_box (setM_box ((hold M hlt h.mo).trans h.box)))];rfl
 ·exact (((((Below.refl M w).alloc (Nat.le_of_lt hlt) _).grown hg (by simp;omega) (fun k hk=>by have:=(h.oblk hk).1;omega)).setCell (p:=⟨M,3,none⟩) (Nat.le_refl M) _).setCell (p:=⟨M,4,none⟩) (Nat.le_refl M) _).setCell (p:=⟨M,5,none⟩) (Nat.le_refl M) _
theorem TrAt.popped {g cap:Nat}(h:TrAt w M B F s a i (.slice (some ⟨g,0,none⟩) (ls.length+1) cap) (ls++[l]) t)(hb:Below w.heap.size w w1) :
  TrAt (((w1.setCell ⟨M,4,none⟩ l.vc).setCell ⟨M,5,none⟩ l.vp).setCell ⟨M,3,none⟩ (.slice (some ⟨g,0,none⟩) ls.length cap)) M B (Since F w w1) s a i (.slice (some ⟨g,0,none⟩) ls.length cap) ls l ∧
  Below M w (((w1.setCell ⟨M,4,none⟩ l.vc).setCell ⟨M,5,none⟩ l.vp).setCell ⟨M,3,none⟩ (.slice (some ⟨g,0,none⟩) ls.length cap)):=by
 have hlt:=h.lt;have hbM:=h.bM;have hs:=hb.size;have hll:l∈t::(ls++[l]):=List.mem_cons_of_mem _ (List.mem_append_right _ (List.mem_singleton.2 rfl));have hlv:=h.lvl l hll;have hin:∀ b,b∈l.blocks→b∈ownsL (t::(ls++[l])):=fun b hb=>List.mem_flatMap.2 ⟨l,hll,hb⟩
 have hold:∀ b,b<w.heap.size→b≠M→(((w1.setCell ⟨M,4,none⟩ l.vc).setCell ⟨M,5,none⟩ l.vp).setCell ⟨M,3,none⟩ (.slice (some ⟨g,0,none⟩) ls.length cap)).heap[b]?=w.heap[b]?:=fun b hb' hn=>by
  rw [setM_other hn,setM_other hn,setM_other hn];exact hb.block b hb'
 have hnd:l.blocks.Nodup:=by
  have:=h.apart;rw [own_cons,own_snoc] at this;exact (List.nodup_append.1 (List.nodup_append.1 this).2.1).2.1
 refine ⟨h.closed (F':=Since F w w1) (t':=l) (vo':=.slice (some ⟨g,0,none⟩) ls.length cap) (by rw [setM_size,setM_size,setM_size];exact hs) (fun b hb' hn _=>hold b hb' hn) (fun b hb=>.inl hb) (fun b hb'=>?_) rfl (fun W hW=>own_short hW) ?_ ?_ (fun b hb=>.inl hb) hnd,?_⟩
 ·rcases hb' with h1|⟨h1,h2⟩
  ·exact .inl h1
  ·exact .inr ⟨h1,by rw [setM_size,setM_size,setM_size];exact h2,fun hm=>by have:=(h.blk (hin b hm)).2.1;omega⟩
 ·rw [setM_box (setM_box (setM_box ((hb.block M hlt).trans h.box)))];rfl
 ·refine hlv.keep (fun b hb'=>hold b ?_ ?_) (fun b hb=>.inl hb)
  ·rcases hb' with h1|h1
   ·exact (h.blk (hin b h1)).2.1
   ·exact h.flt b h1
  ·rcases hb' with h1|h1
   ·have:=(h.blk (hin b h1)).1;omega
   ·have:=(h.far b h1).2.1;omega
 ·exact ((((hb.mono (Nat.le_of_lt hlt))).setCell (p:=⟨M,4,none⟩) (Nat.le_refl M) _).setCell (p:=⟨M,5,none⟩) (Nat.le_refl M) _).setCell (p:=⟨M,3,none⟩) (Nat.le_refl M) _
end
end Go.Proofs.YtjokciofeicdkaaGreatDoor
namespace Go.Proofs.YtjokciofeicdkaaGreatDoor
open Go.RowKit
attribute [local go_sem ↓] Go.wp_at_zero Go.wp_at_succ
def ClPost (w:World)(M B:Nat)(s:ByteArray)(a i:Nat)(ls:List Lvl)(t:Lvl)(e:Ending)(w':World):Prop:=
 (ls=[]→e=.returned (.bool false)∧w'=w) ∧
 (∀ l0 l,ls=l0++[l]→e=.returned (.bool true)∧Below M w w'∧∃ (F':Nat→Prop) (vo' v x:Value) (k:Nat),k≤t.wt+2∧TrAt w' M B F' s (a+1) i vo' l0 (l.part v x k))
theorem lvl_row {w:World}{B:Nat}{F:Nat→Prop}{l:Lvl}(h:LvlAt w B F l):RowIn w (fun _=>True) l.vc l.cs∧RowIn w (fun _=>True) l.vp l.ps:=by
 constructor
 ·cases hk:l.cs with
  | nil=>exact .inl ⟨h.cn hk,rfl⟩
  | cons a r=>
    have ho:=h.c;unfold OwnT at ho;obtain ⟨g,cap,hv⟩:=Go.Joins.ownsRow_form ho (by rw [hk];simp)
    rw [hv] at ho ⊢;rw [← hk];exact row_own ho (by rw [hk];simp) trivial
 ·cases hk:l.ps with
  | nil=>exact .inl ⟨h.pn hk,rfl⟩
  | cons a r=>
    have ho:=h.p;unfold OwnT at ho;obtain ⟨g,cap,hv⟩:=Go.Joins.ownsRow_form ho (by rw [hk];simp)
    rw [hv] at ho ⊢;rw [← hk];exact row_own ho (by rw [hk];simp) trivial
theorem own_cap {w:World}{B g cap n k:Nat}{T:TypeId}{xs:List Value}(h:w.ownsRow B T k (.slice (some ⟨g,0,none⟩) n cap) n xs):n≤cap:=by
 rcases h.2 with ⟨h2,_⟩|⟨g',cap',cur,h2,_,_,hn,_⟩
 ·cases h2
 ·cases h2;exact hn
theorem lvl_shape {w:World}{B:Nat}{F:Nat→Prop}{l:Lvl}(h:LvlAt w B F l):(∃ A m c,l.vc=.slice A m c)∧∃ A m c,l.vp=.slice A m c:=
 ⟨by have:=(lvl_row h).1.shape;exact this,by have:=(lvl_row h).2.shape;exact this⟩
theorem TrAt.whole {w:World}{M B:Nat}{F:Nat→Prop}{s:ByteArray}{a i:Nat}{vo:Value}{ls:List Lvl}{t:Lvl}(P:TrAt w M B F s a i vo ls t)(hw:t.wt≤50000) :
  Calls Tryz.prog 209 #[.agg #[t.vc,t.vp]] w fun e w'=>OneTree w F (t.wt+2) e w':=by
 have hl:=P.lvl t (List.mem_cons_self ..);obtain ⟨r1,r2⟩:=lvl_row hl;obtain ⟨n1,n2,hn,f1,f2⟩:=hl.wt;refine (t_whole r1 r2 f1 f2 P.flt (by omega)).mono ?_
 rintro e w' ⟨x,k,rfl,hk,hf,hb⟩;exact ⟨x,k,rfl,by omega,hf,hb⟩
theorem t_close {w:World}{M B:Nat}{F:Nat→Prop}{s:ByteArray}{a i:Nat}{vo:Value}{ls:List Lvl}{t:Lvl}(P:TrAt w M B F s a i vo ls t)(ha:a≤1000)(hl:ls.length≤1000)(hw:t.wt≤50000)(hps:∀ l∈ls,l.ps.length≤50000) :
  Calls Tryz.prog 222 #[.pointer (some ⟨M,0,none⟩)] w fun e w'=>ClPost w M B s a i ls t e w':=by
 have q3:=P.c3
 by_cases h0:ls=[]
 ·subst h0;have ho:=P.out;rcases Go.Joins.ownsRow_forms ho with ⟨rfl,_⟩|⟨g,cap,rfl⟩
  all_goals (
   clear P ho;go_enter Tryz.func222,Tryz.ntmps222;go_wp2_with fail;go_ret;refine ⟨fun _=>⟨rfl,rfl⟩,fun l0 l h=>?_⟩
   cases l0<;>cases h)
 obtain ⟨l0,l,rfl⟩:∃ l0 l,ls=l0++[l]:=(List.eq_nil_or_concat ls).resolve_left h0 |>.imp fun l0 h=>h.imp fun l h=>by simpa using h
 have hl0:(l0++[l]).length=l0.length+1:=by simp
 have ho:=P.out;rw [hl0] at ho hl;obtain ⟨g,cap,rfl⟩:=Go.Joins.ownsRow_form ho (by omega)
 have hgb:=ho.lt g rfl;have hcap:l0.length≤cap:=Nat.le_of_succ_le (own_cap ho)
 have e0:w.cell? ⟨g,l0.length*2,none⟩=some l.vc:=by
  rw [ho.cellAt _ (by omega),flatL_snoc,List.getElem?_append_right (by rw [flatL_len];omega),flatL_len,Nat.sub_self];rfl
 have e1:w.cell? ⟨g,l0.length*2+1,none⟩=some l.vp:=by
  rw [ho.cellAt _ (by omega),flatL_snoc,List.getElem?_append_right (by rw [flatL_len];omega),flatL_len,show l0.length*2+1-l0.length*2=1 by omega];rfl
 have q4:=P.c4;have q5:=P.c5;have bw:IntKind.i64.wrap ((l0.length:Int)+1-1)=(l0.length:Int):=(congrArg _ (by omega)).trans (IntWalk.i64_in _ (by omega))
 have bn:¬ (l0.length:Int)<0:=by omega
 have b0:(0:Int)≤(l0.length:Int):=by omega
 have b1:(l0.length:Int)<(l0.length:Int)+1:=by omega
 have cW:=Hi (P.whole hw);have hP:=Hi P;have hMl:=P.lt;have hpl:l.ps.length≤50000:=hps l (by simp)
 clear P ho h0 hps;go_enter Tryz.func222,Tryz.ntmps222;go_upto_region 5 with (go_at_call 209;refine cW.out.mono ?_;rintro e w1 ⟨x,k,rfl,hk,hf,hb⟩);have P1:=hP.out.since hb;have hfl:=hP.out.flt;obtain ⟨P2,B2⟩:=hP.out.popped hb
 have hfu:Forest (((w1.setCell ⟨M,4,none⟩ l.vc).setCell ⟨M,5,none⟩ l.vp).setCell ⟨M,3,none⟩ (.slice (some ⟨g,0,none⟩) l0.length cap)) (Since F w w1) [x] k:=hf.up (fun _ h=>h) fun b hb2=>by
  have:b≠M:=by
   rcases hb2 with h|h
   ·have:=(hP.out.far b h).2.1;omega
   ·omega
  rw [setM_other this,setM_other this,setM_other this]
 have q3:=P1.c3;have f3:=P1.free 3;have f4:=P1.free 4;have f5:=P1.free 5;have q4:=P1.c4;have q5:=P1.c5;have e0:=(hb.cell (p:=⟨g,l0.length*2,none⟩) hgb.2).trans e0;have e1:=(hb.cell (p:=⟨g,l0.length*2+1,none⟩) hgb.2).trans e1;obtain ⟨⟨A1,m1,c1,hvc⟩,⟨A2,m2,c2,hvp⟩⟩:=lvl_shape (hP.out.lvl l (List.mem_cons_of_mem _ (by simp)))
 rw [hvc] at e0 P2 B2 hfu;rw [hvp] at e1 P2 B2 hfu;have hP2:=Hi P2;have hB2:=Hi B2;have hfu:=Hi hfu;have hvp:=Hi hvp;obtain ⟨xa,xv,rfl⟩:=hf.iface;clear P1 P2 B2 hf hb hfl cW hvc;go_upto_region 7 with fail;generalize ((w1.setCell ⟨M,4,none⟩ (.slice A1 m1 c1)).setCell ⟨M,5,none⟩ (.slice A2 m2 c2)).setCell ⟨M,3,none⟩ (.slice (some ⟨g,0,none⟩) l0.length cap)=W at *;have q5:=hP2.out.c5;rw [hvp.out] at q5;have f5:=hP2.out.free 5;have hMl:=hP2.out.lt;have hMp:=Hi hP2.out.mp;have hBs:=hP2.out.bB;have hO:OwnT W B l.vp l.ps:=(hP2.out.lvl l (List.mem_cons_self ..)).p;rw [hvp.out] at hO hMp;have hO:=Hi hO;obtain ⟨i0,hi0,hz0,hz1,hz2⟩:=info_parts tree_info;have hi0:=Hi hi0;have hz0:=Hi hz0;have hz1:=Hi hz1;have hz2:=Hi hz2;go_upto_region 8 with (at_builtin;refine wpList_append_lies _ rfl (.tmp 42) (.tmp 44) _ rfl B 266 i0 _ 1 16 Tryz.underlying260 hi0.out hz0.out hz1.out hz2.out rfl (by decide) (.slice A2 m2 c2) l.ps.length l.ps rfl (World.ownsRow.alloc hO.out _) ⟨W.heap.size,0,none⟩ 1 1 [.iface xa xv] rfl rfl (World.news_of_block (heap_alloc_new W _)) (by intro u hu;simp only [List.mem_cons,List.not_mem_nil,or_false] at hu;subst hu;rfl) (by decide) (by unfold maxLen;omega) (by omega) (by simp;omega) (W.heap.size+1) (by simp) ?_;intro g' cap' w4 hown4 hg4 hat4 hlt4;have q54:=hg4.cell (((Below.refl _ W).alloc (Nat.le_refl _) (.cells #[.iface xa xv] 266)).cell (p:=⟨M,5,none⟩) hMl |>.trans q5) (fun e=>hMp.out e.symm);have f54:=(hg4.frozen_far (a:=⟨M,5,none⟩) (by simp;omega) (fun e=>hMp.out e.symm)).trans ((((Below.refl _ W).alloc (Nat.le_refl _) (.cells #[.iface xa xv] 266)).frozen (p:=⟨M,5,none⟩) hMl).trans f5);have hown5:=Hi hown4;have hg5:=Hi hg4;have hat5:=Hi hat4;clear hown4 hg4 hat4)
 rw [← hvp.out] at hg5 hat5;obtain ⟨P4,B4⟩:=hP2.out.pushed hg5.out hat5.out hown5.out hfu.out;have hB4:=Hi (hB2.out.trans B4);have hP4:=Hi P4;clear P4 B4 hown5 hg5 hat5 hO hfu hP2 hB2 q54 f54;generalize w4.setCell ⟨M,5,none⟩ (.slice (some ⟨g',0,none⟩) (l.ps.length+1) cap')=W2 at *;have q1:=hP4.out.c1;have f1:=hP4.out.free 1;have bwa:=wS a (by omega)
 go_wp2_with fail;go_ret;refine ⟨fun h=>absurd h (by simp),fun l1 l2 h=>?_⟩
 obtain ⟨rfl,h2⟩:=List.append_inj' h rfl
 cases h2
 exact ⟨rfl,hB4.out.setCell (Nat.le_refl M) _,_,_,_,_,k,hk,hP4.out.setAt (a+1)⟩
end Go.Proofs.YtjokciofeicdkaaGreatDoor

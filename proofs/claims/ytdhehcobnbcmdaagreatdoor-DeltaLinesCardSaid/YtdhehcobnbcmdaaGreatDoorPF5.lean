/- A part of the proof of DeltaLines: Fld5 Fld6 Fld7. -/
import Derived.Test.YtdhehcobnbcmdaaGreatDoorPF3
import Derived.Laws.IdiomCopy
import Derived.Test.YtdhehcobnbcmdaaGreatDoorPMd
import Derived.Handy
import Derived.Lib.LazyBuf
set_option linter.all false
namespace Go.Proofs.YtdhehcobnbcmdaaGreatDoor
open Go.RowKit
set_option maxHeartbeats 8000000 in
set_option maxRecDepth 100000 in
theorem f_values (t:TestS)(b:Nat)(F:FitH t b)(hp:Sm t.pat)(w:World):Calls Tryz.prog 164 #[.agg (testV t).toArray, .int .i64 b] w (CoverN 17179869184 b w):=by
  obtain ⟨W,hW⟩:∃ W,w.alloc (.cells (testV t).toArray 45 (0,0))=W:=⟨_,rfl⟩
  have hbW:=Lib.hid (show Below w.heap.size w W by rw [← hW];exact (Below.refl _ _).alloc (Nat.le_refl _) _)
  have hI:=Lib.hid (show TestIn W w.heap.size t by rw [← hW];exact TestIn.new w t)
  have q3:=hI.out.c3
  have hzW:=hbW.out.size
  obtain ⟨hb1,hb2⟩:=F.b1
  have hlo:=F.lo
  have hop:=F.op
  go_enter Tryz.func164,Tryz.ntmps164
  go_upto_region 1 with fail
  go_cut [5,6] (fun u v wx=>u=.int .i64 t.lo∧v=.int .i64 t.lo∧Hid (∃ n,wx=W.drewN n))
  case first=>
    go_quiet (fail)
    go_wp2_with fail
    go_meet
    exact ⟨rfl,rfl,Lib.hid ⟨_,rfl⟩⟩
  case rest=>
  obtain ⟨rfl,rfl,hn⟩:=hcut
  clear hW q3
  replace hbW:Hid (Below w.heap.size w wc):=Lib.hid (by obtain ⟨n,rfl⟩:=hn.out;exact below_drewN hbW.out n)
  replace hI:Hid (TestIn wc w.heap.size t):=Lib.hid (by obtain ⟨n,rfl⟩:=hn.out;exact hI.out)
  clear hn hzW
  have hzW:=hbW.out.size
  have q0:=hI.out.c0
  have q1:=hI.out.c1
  have q2:=hI.out.c2
  have q3:=hI.out.c3
  have q4:=hI.out.c4
  have q5:=hI.out.c5
  have q6:=hI.out.c6
  have cA:=Lib.hid fun hi h1 h2=>f_cover b 0 hi hb2 ⟨by omega,by omega⟩ h1 h2 wc
  have ce:=Lib.hid (f_either t b F hp wc)
  have ht:=topS_lt (b:=(b:Int)) (by omega) (by omega)
  have ct:=Lib.hid (f_top (b:Int) (by omega) (by omega) wc)
  have cB:=Lib.hid fun lo h1=>f_cover b lo (topS b) hb2 h1 (by omega) (by omega) wc
  generalize topS (b:Int)=tp at *
  clear F hp
  by_cases h12:t.op=1∨t.op=2
  · have e12:(t.op == 1)=true∨((t.op == 1)=false∧(t.op == 2)=true):=by rcases h12 with h|h<;>simp [h]
    clear h12 hop
    rcases e12 with e1|⟨e1,e2⟩
    all_goals
      go_wp2_with (go_at_call 187;refine ce.out.mono ?_;rintro e w2 ⟨v,l,rfl,hR,hS,hl,hb2⟩;have hF:=Lib.hid (show CoverN 17179869184 b w (.returned v) w2 from ⟨v,l,rfl,Go.Joins.ownsRow_le hR hzW,hS,hl,hbW.out.trans (hb2.mono hzW)⟩);clear hR hS hl hb2)
      go_ret
      exact hF.out
  obtain h|h|h|h:t.op=3∨t.op=4∨t.op=5∨t.op=6:=by omega
  all_goals
    rw [h] at q1
    clear h12 h hop ce
  · have cC:=Lib.hid (cA.out (t.lo-1) (by omega) (by omega))
    go_wp2_with (first|(go_at_call 161;refine ct.out.mono ?_;rintro e w' ⟨rfl,rfl⟩)|(go_at_call 188;refine cC.out.mono ?_;rintro e w2 ⟨v,l,rfl,hR,hS,hl,hb2⟩;have hF:=Lib.hid (show CoverN 17179869184 b w (.returned v) w2 from ⟨v,l,rfl,Go.Joins.ownsRow_le hR hzW,hS,Nat.le_trans hl (by decide),hbW.out.trans (hb2.mono hzW)⟩);clear hR hS hl hb2))
    go_ret
    exact hF.out
  · have cC:=Lib.hid (cA.out t.lo (by omega) (by omega))
    go_wp2_with (first|(go_at_call 161;refine ct.out.mono ?_;rintro e w' ⟨rfl,rfl⟩)|(go_at_call 188;refine cC.out.mono ?_;rintro e w2 ⟨v,l,rfl,hR,hS,hl,hb2⟩;have hF:=Lib.hid (show CoverN 17179869184 b w (.returned v) w2 from ⟨v,l,rfl,Go.Joins.ownsRow_le hR hzW,hS,Nat.le_trans hl (by decide),hbW.out.trans (hb2.mono hzW)⟩);clear hR hS hl hb2))
    go_ret
    exact hF.out
  · have cC:=Lib.hid (cB.out (t.lo+1) ⟨by omega,by omega⟩)
    go_wp2_with (first|(go_at_call 161;refine ct.out.mono ?_;rintro e w' ⟨rfl,rfl⟩)|(go_at_call 188;refine cC.out.mono ?_;rintro e w2 ⟨v,l,rfl,hR,hS,hl,hb2⟩;have hF:=Lib.hid (show CoverN 17179869184 b w (.returned v) w2 from ⟨v,l,rfl,Go.Joins.ownsRow_le hR hzW,hS,Nat.le_trans hl (by decide),hbW.out.trans (hb2.mono hzW)⟩);clear hR hS hl hb2))
    go_ret
    exact hF.out
  · have cC:=Lib.hid (cB.out t.lo ⟨by omega,by omega⟩)
    go_wp2_with (first|(go_at_call 161;refine ct.out.mono ?_;rintro e w' ⟨rfl,rfl⟩)|(go_at_call 188;refine cC.out.mono ?_;rintro e w2 ⟨v,l,rfl,hR,hS,hl,hb2⟩;have hF:=Lib.hid (show CoverN 17179869184 b w (.returned v) w2 from ⟨v,l,rfl,Go.Joins.ownsRow_le hR hzW,hS,Nat.le_trans hl (by decide),hbW.out.trans (hb2.mono hzW)⟩);clear hR hS hl hb2))
    go_ret
    exact hF.out
theorem SlOf.drop {α : Type} {size : Nat} {R : World → Nat → List Value → α → Prop} {w : World} {B len cap b off : Nat} {l : List α} (h : SlOf size R w B (.slice (some ⟨b, off, none⟩) len cap) l) {k : Nat} (hk : k ≤ l.length) (A' : Option Addr) (hA : k < l.length → A' = some ⟨b, off + k * size, none⟩) :
    SlOf size R w B (.slice A' (len-k) (cap-k)) (l.drop k):=by
  obtain ⟨cs,hl,hs,⟨A,c2,hv,h1,h2,h3,h4⟩,hR⟩:=h
  injection hv with hA1 hlen hcap
  subst hA1 hcap hlen
  have hfl:∀ (n:Nat) (ds:List (List Value)),(∀ c∈ds,c.length=size)→(ds.drop n).flatten=ds.flatten.drop (n*size):=by
    intro n
    induction n with
    | zero=>intro ds _;simp
    | succ n ih =>
      intro ds hds
      cases ds with
      | nil=>simp
      | cons d ds =>
        have hd:=hds d (by simp)
        rw [List.drop_succ_cons,List.flatten_cons,ih ds fun c hc=>hds c (by simp [hc]),List.drop_append,List.drop_of_length_le (l:=d) (by rw [hd,Nat.add_mul];omega),hd,Nat.add_mul,Nat.one_mul,Nat.add_sub_cancel,List.nil_append]
  refine ⟨cs.drop k,by rw [List.length_drop,List.length_drop];omega,fun c hc=>hs c (List.mem_of_mem_drop hc),⟨A',cap-k,by rw [List.length_drop],by rw [List.length_drop];omega,⟨by omega,by rw [List.length_drop];omega⟩,?_,fun hp=>?_⟩,fun i c x hc hx=>?_⟩
  · rw [hfl k cs hs,List.length_drop,List.length_drop,h3,Nat.sub_mul]
  · rw [List.length_drop] at hp
    obtain ⟨b',off',hA2,hb,hc⟩:=h4 (by omega)
    cases hA2
    refine ⟨b,off+k*size,hA (by omega),hb,fun j u hu=>?_⟩
    rw [hfl k cs hs,List.getElem?_drop] at hu
    rw [Nat.add_assoc]
    exact hc _ u hu
  · rw [List.getElem?_drop] at hc hx
    exact hR _ c x hc hx
def CubesPost (ok:Bool)(w:World)(e:Ending)(w':World):Prop:=(∃ (v:Value) (k:Int),e=.returned (.tuple #[v, .int .i64 k])∧(k=0↔ok=true))∧Below w.heap.size w w'
theorem cubes_bad {ok:Bool}{w w':World}{v:Value}{k:Int}(h:ok=false)(hk:k≠0)(hb:Below w.heap.size w w'):CubesPost ok w (.returned (.tuple #[v, .int .i64 k])) w':=⟨⟨v,k,rfl,by rw [h];simp [hk]⟩,hb⟩
theorem test7 {w:World}{M:Nat}{t:TestS}(h:TestIn w M t):w.cell? ⟨M,0,none⟩=some (.string t.field)∧w.cell? ⟨M,1,none⟩=some (.int .i64 t.op)∧w.cell? ⟨M,2,none⟩=some (.int .i64 t.form)∧w.cell? ⟨M,3,none⟩=some (.int .i64 t.lo)∧w.cell? ⟨M,4,none⟩=some (.int .i64 t.hi)∧w.cell? ⟨M,5,none⟩=some (.int .i64 t.len)∧w.cell? ⟨M,6,none⟩=some (.string t.pat):=
  ⟨h.c0,h.c1,h.c2,h.c3,h.c4,h.c5,h.c6⟩
set_option maxHeartbeats 8000000 in
set_option maxRecDepth 100000 in
theorem f_Cubes (l : List FieldS) (v : Value) (t : TestS) (B : Nat) (w : World) (hl : Fields w B v l) (hB : B ≤ w.heap.size) (E : Env w) (hp : Sm t.pat) (hf : Sm t.field) : Calls Tryz.prog 132 #[v, .agg (testV t).toArray] w (CubesPost (okF l && okT l t) w) := by
  obtain ⟨A,cap,rfl,hcl,hcap⟩:=SlOf.form hl
  obtain ⟨W,hW⟩:∃ W,w.alloc (.cells (testV t).toArray 45 (0,0))=W:=⟨_,rfl⟩
  have hbW:=Lib.hid (show Below w.heap.size w W by rw [← hW];exact (Below.refl _ _).alloc (Nat.le_refl _) _)
  have hI:=Lib.hid (show TestIn W w.heap.size t by rw [← hW];exact TestIn.new w t)
  have hzW:=hbW.out.size
  have hlt:=hI.out.lt
  have hlW:=Lib.hid (Fields.below hl hbW.out hB)
  have cc:=Lib.hid (f_Check l _ w.heap.size W hlW.out hzW)
  have HR:=Lib.hid (show (okF l && okT l t)=(okF l && okT l t) from rfl)
  obtain ⟨R,hR⟩:∃ R,R=(okF l && okT l t):=⟨_,rfl⟩
  rw [← hR]
  replace hR:=Lib.hid hR
  clear HR hl
  cases hok:okF l
  · have HF:=Lib.hid (show R=false by rw [hR.out,hok];rfl)
    go_enter Tryz.func132,Tryz.ntmps132
    go_wp2_with (go_at_call 54;refine cc.out.mono ?_;rintro e w2 ⟨⟨k,a,rfl,hk⟩,hb2⟩;rw [hok,if_neg (by simp)] at hk;have hk0:(k != 0)=true:=(by simp [hk.1]);have hF:=Lib.hid fun v=>cubes_bad (v:=v) HF.out hk.1 (hbW.out.trans (hb2.mono hzW));clear hk hb2)
    go_ret2
    exact hF.out _
  have hgd:=okF_good hok
  have hft:=findF_lt l t.field
  go_enter Tryz.func132,Tryz.ntmps132
  go_upto_region 5 with (first
    | (go_at_call 54;refine cc.out.mono ?_;rintro e w2 ⟨⟨k,a,rfl,hk⟩,hb2⟩;rw [hok,if_pos rfl] at hk;subst hk;have hI2:=Lib.hid (hI.out.below hb2 hlt);have q0:=hI2.out.c0;have hb3:=Lib.hid (hbW.out.trans (hb2.mono hzW));have hl3:=Lib.hid (Fields.below hlW.out (hb2.mono hzW) (Nat.le_refl _));have cf:=Lib.hid (f_find l t.field _ w.heap.size w2 hl3.out hb3.out.size);clear hb2 cc)
    | (go_at_call 94;refine cf.out.mono ?_;rintro e w4 ⟨rfl,hb4⟩;have hb5:=Lib.hid (hb3.out.trans (hb4.mono hb3.out.size));have hI5:=Lib.hid (hI2.out.below hb4 hI2.out.lt);have hl5:=Lib.hid (Fields.below hl3.out (hb4.mono hb3.out.size) (Nat.le_refl _));clear q0 cf hb4))
  clear hW hbW hI hzW hlt hlW hI2 hb3 hl3
  obtain ⟨fd,hfd⟩:∃ fd,fd=findF l t.field:=⟨_,rfl⟩
  rw [← hfd] at hft
  by_cases h0:fd<0
  · have HF:=Lib.hid (cubes_bad (w:=w) (w':=w4) (v:=.slice none 0 0) (k:=41) (show R=false by
      rw [hR.out,hok]
      unfold okT
      rw [← hfd]
      split
      · rw [decide_eq_false (p:=0≤fd) (by omega)];rfl
      · rfl) (by decide) hb5.out)
    rw [← hfd]
    replace hfd:=Lib.hid hfd
    clear hgd hft
    go_wp2_with fail
    go_ret2
    exact HF.out
  obtain ⟨n,rfl⟩:∃ n:Nat,fd=n:=⟨fd.toNat,by omega⟩
  have hnl:n<l.length:=by omega
  obtain ⟨b,off,rfl⟩:=SlOf.addr hl5.out (by omega)
  obtain ⟨hbb,c,x,hx,⟨hc,hxs⟩,hj⟩:=SlOf.el hl5.out hnl
  subst hc
  have e1:w4.cell? ⟨b,off+n*2+1,none⟩=some (.int .i64 x.bits):=hj 1 _ rfl
  have hG:=hgd.2.1 x (List.mem_of_getElem? hx)
  obtain ⟨bt,hbt⟩:∃ bt:Nat,x.bits=bt:=⟨x.bits.toNat,by have:=hG.2.2.2;omega⟩
  have hbt1:1≤bt∧bt≤32:=by have:=hG.2.2.2;omega
  rw [hbt] at e1
  have hRt:Hid (R=fitS t bt):=Lib.hid (by
    rw [hR.out,hok]
    unfold okT
    rw [← hfd,Int.toNat_natCast,hx,Bool.true_and]
    simp only [hbt]
    rw [decide_eq_true (p:=(0:Int)≤(n:Int)) (by omega),Bool.true_and])
  rw [← hfd]
  replace hfd:=Lib.hid hfd
  obtain ⟨q0,q1,q2,q3,q4,q5,q6⟩:=test7 hI5.out
  have cfit:=Lib.hid (f_fit t bt (by omega) (by omega) w4 (E.below hb5.out) hp)
  have hd0:=fun k=>widthF_take (l:=l) hgd.2.1 k
  obtain ⟨m1,hm1⟩:∃ m1:Nat,widthF (l.take n)=m1:=⟨(widthF (l.take n)).toNat,by have:=(hd0 n).1;omega⟩
  obtain ⟨m2,hm2⟩:∃ m2:Nat,widthF (l.drop (n+1))=m2:=⟨(widthF (l.drop (n+1))).toNat,by have:=(hd0 (n+1)).2.2.1;omega⟩
  have hm1b:m1≤256:=by have:=(hd0 n).2.1;have:=hgd.2.2;omega
  have hm2b:m2≤256:=by have:=(hd0 (n+1)).2.2.2;have:=hgd.2.2;omega
  have cw1:Hid (∀ W,Below w4.heap.size w4 W→Calls Tryz.prog 160 #[.slice (some ⟨b,off,none⟩) n cap] W fun e w'=>e=.returned (.int .i64 m1)∧Below W.heap.size W w'):=Lib.hid fun W hW=>by
    rw [← hm1]
    exact f_width (l.take n) _ w.heap.size W (SlOf.take (Fields.below hl5.out (hW.mono hb5.out.size) (Nat.le_refl _)) (Nat.le_of_lt hnl)) (Nat.le_trans hb5.out.size hW.size) fun k=>by
      rw [List.take_take]
      have:=hd0 (min k n)
      have:=hgd.2.2
      omega
  have cw2:Hid (∀ W A',Below w4.heap.size w4 W→(n+1<l.length→A'=some ⟨b,off+(n+1)*2,none⟩)→Calls Tryz.prog 160 #[.slice A' (l.length-(n+1)) (cap-(n+1))] W fun e w'=>e=.returned (.int .i64 m2)∧Below W.heap.size W w'):=Lib.hid fun W A' hW hA=>by
    rw [← hm2]
    exact f_width (l.drop (n+1)) _ w.heap.size W (SlOf.drop (Fields.below hl5.out (hW.mono hb5.out.size) (Nat.le_refl _)) hnl A' hA) (Nat.le_trans hb5.out.size hW.size) fun k=>by
      have h1:=widthF_take (l:=l.drop (n+1)) (fun x hx=>hgd.2.1 x (List.mem_of_mem_drop hx)) k
      have:=(hd0 (n+1)).2.2.2
      have:=hgd.2.2
      omega
  have cr1:=Lib.hid fun W=>rep_x m1 hm1b W
  have cr2:=Lib.hid fun W=>rep_x m2 hm2b W
  have hEH:=Lib.hid E
  have hncap:n≤cap:=by omega
  clear hd0 hm1 hm2 hgd hG hx hbt hj E
  replace hft:=hft.1
  cases hfs:fitS t bt
  · rw [hfs] at cfit
    have HF:=Lib.hid (show R=false by rw [hRt.out,hfs])
    clear cw1 cw2 cr1 cr2
    go_wp2_with (go_at_call 163;refine cfit.out.mono ?_;intro e w6 hp6;obtain ⟨kk,rfl,hk0,hk1,hb6⟩:=code_no hp6;have hF:=Lib.hid fun v=>cubes_bad (v:=v) HF.out hk0 (hb5.out.trans (hb6.mono hb5.out.size));clear hp6 hb6)
    go_ret2
    exact hF.out _
  have F:=fitH hbt1 hfs
  have HT:=Lib.hid (show R=true by rw [hRt.out,hfs])
  rw [hfs] at cfit
  have cv:=Lib.hid fun W=>f_values t bt F hp W
  clear hfs hRt hR F
  go_upto_region 12 with (first
    | (go_at_call 163;refine cfit.out.mono ?_;intro e w6 hp6;obtain ⟨rfl,hb6⟩:=code_yes hp6;have hb7:=Lib.hid hb6;clear hp6 hb6 cfit)
    | (go_at_call 160;refine (cw1.out _ hb7.out).mono ?_;rintro e w8 ⟨rfl,hb8⟩;have hb9:=Lib.hid (hb7.out.trans (hb8.mono hb7.out.size));clear hb8 cw1)
    | (go_at_call 159;refine (cr1.out _).mono ?_;rintro e w10 ⟨⟨s1,rfl,hs1⟩,hb10⟩;have hb11:=Lib.hid (hb9.out.trans (hb10.mono hb9.out.size));have hs1':=Lib.hid hs1;clear hb10 hs1 cr1))
  obtain ⟨wd,rfl⟩:∃ wd,wd=w10:=⟨_,rfl⟩
  go_cut [12] (fun v wx=>∃ s2:ByteArray,v=.string s2∧Hid (s2.size=m2)∧Hid (Below w4.heap.size w4 wx))
  case first=>
    by_cases hce:cap=n+1
    · have cw3:=cw2.out wd (some ⟨b,off,none⟩) hb11.out (fun h=>absurd h (by omega))
      rw [show cap-(n+1)=0 by omega,show l.length-(n+1)=0 by omega] at cw3
      replace cw3:=Lib.hid cw3
      have hce':n+1=cap:=hce.symm
      clear hce
      go_wp2_with (first
        | (go_at_call 160;(with_reducible refine cw3.out.mono ?_);rintro e w12 ⟨rfl,hb12⟩;have hb13:=Lib.hid (hb11.out.trans (hb12.mono hb11.out.size));clear hb12)
        | (go_at_call 159;refine (cr2.out _).mono ?_;rintro e w14 ⟨⟨s2,rfl,hs2⟩,hb14⟩;have hb15:=Lib.hid (hb13.out.trans (hb14.mono hb13.out.size));have hs2':=Lib.hid hs2;clear hb14 hs2))
      go_meet
      exact ⟨_,rfl,hs2',hb15⟩
    · have cw3:=Lib.hid (cw2.out wd (some ⟨b,off+(n+1)*2,none⟩) hb11.out (fun _=>rfl))
      go_wp2_with (first
        | (go_at_call 160;(with_reducible refine cw3.out.mono ?_);rintro e w12 ⟨rfl,hb12⟩;have hb13:=Lib.hid (hb11.out.trans (hb12.mono hb11.out.size));clear hb12)
        | (go_at_call 159;refine (cr2.out _).mono ?_;rintro e w14 ⟨⟨s2,rfl,hs2⟩,hb14⟩;have hb15:=Lib.hid (hb13.out.trans (hb14.mono hb13.out.size));have hs2':=Lib.hid hs2;clear hb14 hs2))
      go_meet
      exact ⟨_,rfl,hs2',hb15⟩
  case rest=>
  obtain ⟨s2,rfl,hs2,hb15⟩:=hcut
  clear hb11 cw2 cr2 q0 q1 q2 q3 q4 q5 q6 e1
  have hl4:=hI5.out.lt
  obtain ⟨q0,q1,q2,q3,q4,q5,q6⟩:=test7 (hI5.out.below hb15.out hl4)
  have hbC:=Lib.hid (hb5.out.trans (hb15.out.mono hb5.out.size))
  go_wp2_with (go_at_call 164;refine (cv.out _).mono ?_;rintro e we ⟨v,ls,rfl,hR,hS,hll,hbe⟩;have hR0:=Lib.hid hR;have hS0:=Lib.hid hS;have hbe0:=Lib.hid hbe;obtain ⟨A9,c9,rfl,_⟩:=own_form hR;clear hR hS hbe)
  have hbE:=Lib.hid (hbC.out.trans (hbe0.out.mono hbC.out.size))
  clear hl5 hI5 hb5 hb7 hb15 hb9 q0 q1 q2 q3 q4 q5 q6 hEH cv
  obtain ⟨m,hm⟩:∃ m,m=ls.length:=⟨_,rfl⟩
  rw [← hm] at hll ⊢
  replace hR0:Hid (we.ownsRow wc.heap.size 9 1 (.slice A9 m c9) m (ls.map .string)):=Lib.hid (by have:=hR0.out;unfold TextsR at this;rw [← hm] at this;exact this)
  replace hm:=Lib.hid hm
  go_loopw [14,56] (fun _ i wr=>∃ (j:Nat) (l:List ByteArray),j≤m∧i=.int .i64 j∧Hid (l.length=m)∧Hid (wr.ownsRow wc.heap.size 9 1 (.slice A9 m c9) m (l.map .string))∧Hid (∀ i s,j≤i→l[i]?=some s→s.size≤32)∧Hid (Below w.heap.size w wr)) (fun _ i _=>m-(intOf i).toNat)
  case atStart=>exact ⟨0,ls,by omega,rfl,Lib.hid hm.out.symm,hR0,Lib.hid (fun i s _ hs=>by rw [hS0.out s (List.mem_of_getElem? hs)];omega),hbE⟩
  case round=>
    obtain ⟨j,l,hj,rfl,hlm,hR,hS,hb⟩:=hrel
    clear hR0 hS0 hbE
    by_cases hlt:j<m
    · obtain ⟨A,c,hv,hA⟩:=own_form hR.out
      injection hv with hv1 _ hv2
      subst hv1 hv2
      obtain ⟨g,rfl⟩:=hA (by omega)
      have hg:=row_base hR.out
      obtain ⟨s,hs⟩:∃ s,l[j]?=some s:=⟨_,List.getElem?_eq_getElem (by rw [hlm.out];exact hlt)⟩
      have q0:wr.cell? ⟨g,j,none⟩=some (.string s):=row_cell hR.out (by rw [List.getElem?_map,hs];rfl)
      have q1:wr.frozen? ⟨g,j,none⟩=false:=hR.out.frozenAt j
      have hsz:=hS.out j s (Nat.le_refl _) hs
      have z1:¬ 9223372036854775807<s1.size+s.size:=by have:=hs1'.out;omega
      have z2:¬ 9223372036854775807<s1.size+s.size+s2.size:=by have:=hs1'.out;have:=hs2.out;omega
      have z3:¬ 9223372036854775807<(s1++s).size+s2.size:=by rw [ByteArray.size_append];exact z2
      have hst:=Lib.hid (row_set hR.out j (.string (s1++s++s2)))
      have hbS:=Lib.hid (hb.out.setCell (p:=⟨g,j,none⟩) (show w.heap.size≤g by have:=hbC.out.size;omega) (.string (s1++s++s2)))
      clear hR hb hs hA
      go_wp2_with fail
      go_roundw
      case rel=>exact ⟨j+1,l.set j (s1++s++s2),by omega,by go_num,Lib.hid (by rw [List.length_set];exact hlm.out),Lib.hid (by rw [List.map_set];exact hst.out),Lib.hid (fun i u hi hu=>by rw [List.getElem?_set_ne (by omega)] at hu;exact hS.out i u (by omega) hu),hbS⟩
      case measure=>simp [intOf];omega
    · have hF:=Lib.hid (show CubesPost R w (.returned (.tuple #[.slice A9 m c9, .int .i64 0])) wr from ⟨⟨_,_,rfl,by rw [HT.out];simp⟩,hb.out⟩)
      clear hR hb
      go_wp2_with fail
      go_ret2
      exact hF.out
def BufIs (w:World)(g n:Nat):Prop:=∀ j,j<n→(∃ c:Int,w.cell? ⟨g,j,none⟩=some (.int .u8 c))∧w.frozen? ⟨g,j,none⟩=false
theorem BufIs.below {w w':World}{g n B:Nat}(h:BufIs w g n)(hb:Below B w w')(hg:g<B):BufIs w' g n:=by
  intro j hj
  obtain ⟨⟨c,h1⟩,h2⟩:=h j hj
  exact ⟨⟨c,(hb.cell (p:=⟨g,j,none⟩) hg).trans h1⟩,by rw [← h2];unfold World.frozen?;simp only [hb.block g hg]⟩
theorem BufIs.set {w:World}{g n:Nat}(h:BufIs w g n)(i:Nat)(x:Int):BufIs (w.setCell ⟨g,i,none⟩ (.int .u8 x)) g n:=by
  intro j hj
  obtain ⟨⟨c,h1⟩,h2⟩:=h j hj
  refine ⟨?_,by rw [World.frozen?_setCell];exact h2⟩
  by_cases e:i=j
  · subst e
    exact ⟨x,World.cell?_setCell_same' _ _ _ (by rw [h1];rfl)⟩
  · exact ⟨c,by rw [World.cell?_setCell_other (h:=by intro h;injection h with _ h;exact e h)];exact h1⟩
theorem BufIs.sets {g n:Nat}:∀ (l:List UInt8) (o:Nat) {w:World},BufIs w g n→BufIs (w.setCells g o (l.map fun x=>Value.int .u8 (x.toNat:Int))) g n
  | [],_,_,h=>h
  | x::r,o,_,h=>BufIs.sets r (o+1) (h.set o (x.toNat:Int))
theorem BufIs.conv {w:World}{g n cap:Nat}(h:BufIs w g n):∃ s,(convert 132 9 (.slice (some ⟨g,0,none⟩) n cap)).run Tryz.prog w=.ok (.string s) w:=by
  have hx:∃ f:Nat→Int,∀ j,j<n→w.cell? ⟨g,j,none⟩=some (.int .u8 (f j)):=by
    have h':∀ j,j<n→∃ c:Int,w.cell? ⟨g,j,none⟩=some (.int .u8 c):=fun j hj=>(h j hj).1
    refine ⟨fun j=>if hj:j<n then Classical.choose (h' j hj) else 0,fun j hj=>?_⟩
    show w.cell? ⟨g,j,none⟩=some (.int .u8 (if hj:j<n then Classical.choose (h' j hj) else 0))
    rw [dif_pos hj]
    exact Classical.choose_spec (h' j hj)
  obtain ⟨f,hf⟩:=hx
  refine ⟨strOfNums ((List.range n).map f),?_⟩
  exact run_convert_bytes_arg (P:=Tryz.prog) w 132 5 Tryz.underlying132 Tryz.underlying5 g 0 n cap ((List.range n).map f) (by simp) (fun i hi=>by
    have hi':i<n:=by simpa using hi
    rw [Nat.zero_add,hf i hi']
    simp [List.getD,hi']) 9 Tryz.underlying9
theorem BufIs.new (w:World)(s:ByteArray):BufIs (Lib.bytesWorld w 5 s) w.heap.size s.size:=by
  intro j hj
  refine ⟨⟨_,Lib.bytesWorld_cell w 5 s j hj⟩,?_⟩
  simp [World.frozen?,Lib.bytesWorld_at_new,Lib.bytesCells]
  omega
theorem BufIs.some {w:World}{g n:Nat}(h:BufIs w g n){j:Nat}(hj:j<n):(w.cell? ⟨g,j,none⟩).isSome=true:=by
  obtain ⟨⟨c,h1⟩,_⟩:=h j hj
  rw [h1]
  rfl
theorem setCells_size {g N:Nat}:∀ (vs:List Value) (o:Nat) (w:World),N<w.heap.size→N<(w.setCells g o vs).heap.size
  | [],_,_,h=>h
  | v::r,o,w,h=>setCells_size r (o+1) _ (by rw [World.size_setCell];exact h)
theorem okW_long {l:List FieldS}{s:List SetS}(h:12<s.length):okW l s=false:=by
  unfold okW
  rw [decide_eq_false (by omega)]
  rfl
theorem okW_noF {l:List FieldS}{s:List SetS}(h:okF l=false):okW l s=false:=by
  unfold okW
  rw [h]
  simp
theorem okF_len {l:List FieldS}(h:okF l=true):1≤l.length∧l.length≤12:=by
  unfold okF at h
  simp only [Bool.and_eq_true,decide_eq_true_eq] at h
  exact h.1
set_option maxHeartbeats 8000000 in
set_option maxRecDepth 100000 in
theorem f_Word (l : List FieldS) (s : List SetS) (vf v : Value) (B : Nat) (w : World) (hf : Fields w B vf l) (hl : SetsL w B v s) (hB : B ≤ w.heap.size) :
    Calls Tryz.prog 129 #[vf,v] w (CubesPost (okW l s) w):=by
  obtain ⟨Af,capf,rfl,hcf,hcapf⟩:=SlOf.form hf
  obtain ⟨A,cap,rfl,hcl,hcap⟩:=SlOf.form hl
  have cF:=Lib.hid (f_Check l _ B w hf hB)
  replace hl:=Lib.hid hl
  replace hf:=Lib.hid hf
  have hb0:=Lib.hid (Below.refl w.heap.size w)
  by_cases h12:12<l.length∨12<s.length
  · have hR:=Lib.hid (show okW l s=false by
      rcases h12 with h|h
      · refine okW_noF (Bool.eq_false_iff.2 fun e=>?_)
        have:=(okF_len e).2
        omega
      · exact okW_long h)
    by_cases h1:12<l.length
    · have b1:decide ((12:Int)<(l.length:Int))=true:=decide_eq_true (by omega)
      go_enter Tryz.func129,Tryz.ntmps129
      go_wp2_with fail
      go_ret2
      exact cubes_bad hR.out (by decide) hb0.out
    · have b1:decide ((12:Int)<(l.length:Int))=false:=decide_eq_false (by omega)
      have b2:decide ((12:Int)<(s.length:Int))=true:=decide_eq_true (by omega)
      go_enter Tryz.func129,Tryz.ntmps129
      go_wp2_with fail
      go_ret2
      exact cubes_bad hR.out (by decide) hb0.out
  have b1:decide ((12:Int)<(l.length:Int))=false:=decide_eq_false (by omega)
  have b2:decide ((12:Int)<(s.length:Int))=false:=decide_eq_false (by omega)
  cases hof:okF l
  · have hR:=Lib.hid (okW_noF (s:=s) hof)
    go_enter Tryz.func129,Tryz.ntmps129
    go_wp2_with (go_at_call 54;refine cF.out.mono ?_;rintro e w2 ⟨⟨k,a,rfl,hk⟩,hb2⟩;rw [hof,if_neg (by simp)] at hk;obtain ⟨hk,_⟩:=hk;have hk1:(k != 0)=true:=(by simp [hk]);have hb3:=Lib.hid hb2;replace hk:=Lib.hid hk;clear hb2)
    go_ret2
    exact cubes_bad hR.out hk.out hb3.out
  have hgd:=okF_good hof
  have hw0:=widthF_take (l:=l) hgd.2.1
  have cw:=Lib.hid fun w' (hb:Below w.heap.size w w')=>f_width l _ w.heap.size w' (Fields.below hf.out hb hB) hb.size (fun k=>by have:=hw0 k;have:=hgd.2.2;omega)
  have hwl:0≤widthF l:=by have:=hw0 l.length;rw [List.take_length] at this;exact this.1
  obtain ⟨n,hn⟩:∃ n:Nat,widthF l=n:=⟨(widthF l).toNat,by omega⟩
  have hn256:n≤256:=by have:=hgd.2.2;omega
  rw [hn] at cw
  have cx:=Lib.hid fun w'=>rep_x n hn256 w'
  have hR0:Hid (okW l s=okWFrom l (s.take 0) (s.drop 0)):=Lib.hid (by unfold okW;rw [hof,decide_eq_true (show s.length≤12 by omega)];rfl)
  generalize okW l s=R at *
  go_enter Tryz.func129,Tryz.ntmps129
  go_wp2_with (first
    | (go_at_call 54;refine cF.out.mono ?_;rintro e w2 ⟨⟨k,a,rfl,hk⟩,hb2⟩;rw [hof,if_pos rfl] at hk;subst hk;have hb3:=Lib.hid hb2;clear hb2)
    | (go_at_call 160;refine (cw.out _ hb3.out).mono ?_;rintro e w4 ⟨rfl,hb4⟩;have hb5:=Lib.hid (hb3.out.trans (hb4.mono hb3.out.size));clear hb4)
    | (go_at_call 159;refine (cx.out _).mono ?_;rintro e w6 ⟨⟨s0,rfl,hs0⟩,hb6⟩;have hcv:=Lib.run_convert_string_bytes (P:=Tryz.prog) w6 9 132 5 s0 (u:=.string) Tryz.underlying9 Tryz.underlying132 Tryz.underlying5;have hz7:=(hb5.out.trans (hb6.mono hb5.out.size));have hb8:=Lib.hid (hz7.trans ((below_bytes w6 5 s0).mono hz7.size));have hz9:=Lib.hid hz7.size;have hBuf:=Lib.hid (BufIs.new w6 s0);have hsz:=Lib.bytesWorld_size w6 5 s0;obtain ⟨W1,hW1⟩:∃ W1,W1=Lib.bytesWorld w6 5 s0:=⟨_,rfl⟩;rw [← hW1] at hcv hb8 hBuf hsz;rw [hs0] at hcv hBuf;clear hb6 hz7 hW1 hs0))
  have hcapn:n≤grownCap w6 n 0 5:=grownCap_ge w6 n 0 5
  generalize grownCap w6 n 0 5=capb at *
  obtain ⟨g,hg⟩:∃ g,g=w6.heap.size:=⟨_,rfl⟩
  rw [← hg] at hBuf hz9 hsz
  subst hg
  have hgl:w6.heap.size<W1.heap.size:=by omega
  clear hb0
  have hb0:=hb8
  clear hb3 hb5 hb8 hcv cF cw cx
  go_loopw [37] (fun i wr=>∃ k:Nat,k≤s.length∧i=.int .i64 k∧Hid (R=okWFrom l (s.take k) (s.drop k))∧Hid (BufIs wr w6.heap.size n)∧Hid (Below w.heap.size w wr)∧Hid (w6.heap.size<wr.heap.size)) (fun i _=>s.length-(intOf i).toNat)
  case atStart=>exact ⟨0,Nat.zero_le _,rfl,hR0,hBuf,hb0,Lib.hid hgl⟩
  case round=>
    obtain ⟨k,hk,rfl,hRk,hBk,hbw,hgk⟩:=hrel
    obtain ⟨wo,rfl⟩:∃ wo,wo=wr:=⟨_,rfl⟩
    clear hR0 hBuf hb0 hgl hsz
    by_cases hlt:k<s.length
    · have hS := SlOf.form hl.out
      have hSw:=pureSl (w':=wo) hl.out hB (keepB hbw.out hB)
      obtain ⟨b,off,rfl⟩:=SlOf.addr hSw (by omega)
      obtain ⟨hbB,c,x,hx,⟨hc,hxs⟩,hj⟩:=SlOf.el hSw hlt
      subst hc
      have e0:wo.cell? ⟨b,off+k*2,none⟩=some (.string x.field):=hj 0 _ rfl
      have e1:wo.cell? ⟨b,off+k*2+1,none⟩=some (.int .i64 x.value):=hj 1 _ rfl
      clear hS hj hSw
      have hzw:=hbw.out.size
      have hneo:¬ wo.heap.size=w6.heap.size:=by have:=hgk.out;omega
      have hbA:=Lib.hid fun o=>hbw.out.alloc hzw o
      have hBA:=Lib.hid fun o=>hBk.out.below ((Below.refl wo.heap.size wo).alloc (Nat.le_refl _) o) hgk.out
      have hgA:=Lib.hid fun o=>(show w6.heap.size<(wo.alloc o).heap.size by have:=hgk.out;simp;omega)
      go_upto_region 9 with fail
      go_cut [9,10] (fun i u wx=>i=.int .i64 k∧u=.pointer (some ⟨wo.heap.size,0,none⟩)∧Hid (wx.heap[wo.heap.size]?=some (.cells #[.string x.field, .int .i64 x.value] 123 (0,0)))∧Hid (Below w.heap.size w wx)∧Hid (BufIs wx w6.heap.size n)∧Hid (w6.heap.size<wx.heap.size))
      case first=>
        go_wp2_with fail
        go_meet
        exact ⟨rfl,rfl,Lib.hid (heap_alloc_new wo _),hbA.out _,Lib.hid (hBA.out _),Lib.hid (hgA.out _)⟩
      case rest=>
      obtain ⟨rfl,rfl,hX,hbW,hBW,hgW⟩:=hcut
      obtain ⟨wd,rfl⟩:∃ wd,wd=wc:=⟨_,rfl⟩
      clear hbA hBA hgA e0 e1 hBk hbw
      have hXl:=(Array.getElem?_eq_some_iff.1 hX.out).1
      have q0:wd.cell? ⟨wo.heap.size,0,none⟩=some (.string x.field):=by rw [cell_of_row wd _ _ _ _ _ hX.out];rfl
      have q1:wd.cell? ⟨wo.heap.size,1,none⟩=some (.int .i64 x.value):=by rw [cell_of_row wd _ _ _ _ _ hX.out];rfl
      have cf:=Lib.hid (f_find l x.field _ w.heap.size wd (Fields.below hf.out hbW.out hB) hbW.out.size)
      have hft:=findF_lt l x.field
      have hfa:=findF_at (l:=l) (nm:=x.field)
      have HS:Hid (R=((match l[(findF l x.field).toNat]? with
        | some f=>decide (0≤findF l x.field) && !((s.take k).any fun t=>decide (t.field=x.field)) && decide (0≤x.value∧x.value≤topS f.bits)
        | none=>false) && okWFrom l (s.take (k+1)) (s.drop (k+1)))):=Lib.hid (by rw [hRk.out,drop_at hx,take_snoc hx];rfl)
      clear hRk
      generalize findF l x.field=fd at *
      by_cases h0:fd<0
      · have HF:=Lib.hid (show R=false by
          rw [HS.out]
          split
          · rw [decide_eq_false (p:=0≤fd) (by omega)];rfl
          · rfl)
        clear HS hfa
        go_wp2_with (go_at_call 94;refine cf.out.mono ?_;rintro e w4 ⟨rfl,hb4⟩;have hb5:=Lib.hid (hbW.out.trans (hb4.mono hbW.out.size));clear hb4)
        go_ret2
        exact cubes_bad HF.out (by decide) hb5.out
      obtain ⟨p,rfl⟩:∃ p:Nat,fd=p:=⟨fd.toNat,by omega⟩
      obtain ⟨y,hy,_⟩:=hfa (by omega)
      simp only [Int.toNat_natCast] at hy HS
      have hG:=hgd.2.1 y (List.mem_of_getElem? hy)
      obtain ⟨bt,hbt⟩:∃ bt:Nat,y.bits=bt:=⟨y.bits.toNat,by have:=hG.2.2.2;omega⟩
      have hbt1:1≤bt∧bt≤32:=by have:=hG.2.2.2;omega
      obtain ⟨m1,hm1⟩:∃ m1:Nat,widthF (l.take p)=m1:=⟨(widthF (l.take p)).toNat,by have:=(hw0 p).1;omega⟩
      have hmn:m1+bt≤n:=by
        have h1:=widthF_add l p y hy
        have h2:=(hw0 (p+1)).2.1
        omega
      replace HS:Hid (R=((!((s.take k).any fun t=>decide (t.field=x.field)) && decide (0≤x.value∧x.value≤topS bt)) && okWFrom l (s.take (k+1)) (s.drop (k+1)))):=Lib.hid (by rw [HS.out,hy];simp only [hbt];rw [decide_eq_true (p:=(0:Int)≤(p:Int)) (by omega),Bool.true_and])
      have hkc:k≤cap:=by omega
      clear hfa hG
      go_upto_region 13 with (go_at_call 94;refine cf.out.mono ?_;rintro e w7 ⟨rfl,hb4⟩;have hb5:=Lib.hid (hbW.out.trans (hb4.mono hbW.out.size));have hB4:=Lib.hid (hBW.out.below hb4 hgW.out);have hX4:=Lib.hid ((hb4.block _ hXl).trans hX.out);have hz4:=hb4.size;clear hb4 q0 q1 cf)
      go_wp2_with fail
      have hl7:=Lib.hid fun W (hb:Below w7.heap.size w7 W)=>pureSl (w':=W) hl.out hB (keepB (hb5.out.trans (hb.mono hb5.out.size)) hB)
      have hXl7:wo.heap.size<w7.heap.size:=by omega
      have hgl7:w6.heap.size<w7.heap.size:=by have:=hgW.out;omega
      have hb7:=Lib.hid (Below.refl w7.heap.size w7)
      clear hX hBW hgW hgk
      go_loopw [52] (fun i wr=>∃ j:Nat,j≤k∧i=.int .i64 j∧Hid (∀ t∈s.take j,¬ t.field=x.field)∧Hid (Below w7.heap.size w7 wr)) (fun i _=>k-(intOf i).toNat)
      case atStart=>exact ⟨0,Nat.zero_le _,rfl,Lib.hid (by simp),hb7⟩
      case round=>
        obtain ⟨j,hj,rfl,hno,hbt7⟩:=hrel
        clear hb7
        by_cases hjk:j<k
        · obtain ⟨_,c,t,ht,⟨hc,hts⟩,hjc⟩:=SlOf.el (hl7.out wr hbt7.out) (show j<s.length by omega)
          subst hc
          have e0:wr.cell? ⟨b,off+j*2,none⟩=some (.string t.field):=hjc 0 _ rfl
          have e1:wr.cell? ⟨b,off+j*2+1,none⟩=some (.int .i64 t.value):=hjc 1 _ rfl
          have q0:wr.cell? ⟨wo.heap.size,0,none⟩=some (.string x.field):=by rw [cell_of_row wr _ _ _ _ _ ((hbt7.out.block _ hXl7).trans hX4.out)];rfl
          have hbA:=Lib.hid fun o=>hbt7.out.alloc hbt7.out.size o
          have hlt7:wo.heap.size<wr.heap.size:=by have:=hbt7.out.size;omega
          clear hjc
          by_cases he:t.field=x.field
          · have HF:=Lib.hid (show R=false by
              rw [HS.out,show ((s.take k).any fun t=>decide (t.field=x.field))=true from List.any_eq_true.2 ⟨t,List.mem_of_getElem? (by rw [List.getElem?_take,if_pos hjk];exact ht),by simp [he]⟩]
              rfl)
            have hbe:(t.field.toList == x.field.toList)=true:=by rw [ba_beq,decide_eq_true he]
            have hbF:=Lib.hid fun o=>hb5.out.trans ((hbA.out o).mono hb5.out.size)
            clear HS he
            go_wp2_with fail
            go_ret2
            exact cubes_bad HF.out (by decide) (hbF.out _)
          · have hbe:(t.field.toList == x.field.toList)=false:=by rw [ba_beq,decide_eq_false he]
            have hno2:Hid (∀ u∈s.take (j+1),¬ u.field=x.field):=Lib.hid (by
              rw [take_snoc ht]
              intro u hu
              rcases List.mem_append.1 hu with h|h
              · exact hno.out u h
              · rw [List.mem_singleton] at h;rw [h];exact he)
            clear HS he hno
            go_wp2_with fail
            go_roundw
            case rel=>exact ⟨j+1,by omega,by go_num,hno2,hbA.out _⟩
            case measure=>simp [intOf];omega
        · obtain rfl:j=k:=by omega
          obtain ⟨wq,rfl⟩:∃ wq,wq=wr:=⟨_,rfl⟩
          replace HS:Hid (R=(decide (0≤x.value∧x.value≤topS bt) && okWFrom l (s.take (j+1)) (s.drop (j+1)))):=Lib.hid (by
            rw [HS.out,show ((s.take j).any fun t=>decide (t.field=x.field))=false from Bool.eq_false_iff.2 fun h=>by
              obtain ⟨u,hu,he⟩:=List.any_eq_true.1 h
              exact hno.out u hu (by simpa using he)]
            rfl)
          have hbq:=Lib.hid (hb5.out.trans (hbt7.out.mono hb5.out.size))
          have hXq:=(hbt7.out.block _ hXl7).trans hX4.out
          have q0:wq.cell? ⟨wo.heap.size,0,none⟩=some (.string x.field):=by rw [cell_of_row wq _ _ _ _ _ hXq];rfl
          have q1:wq.cell? ⟨wo.heap.size,1,none⟩=some (.int .i64 x.value):=by rw [cell_of_row wq _ _ _ _ _ hXq];rfl
          have hXlq:=Lib.hid (Array.getElem?_eq_some_iff.1 hXq).1
          have hBq:=Lib.hid (hB4.out.below hbt7.out hgl7)
          have hFq:=Fields.below hf.out hbq.out hB
          obtain ⟨bf,of,rfl⟩:=SlOf.addr hFq (by omega)
          have hpl:p<l.length:=(List.getElem?_eq_some_iff.1 hy).1
          obtain ⟨_,cf9,y9,hy9,⟨hc9,_⟩,hj9⟩:=SlOf.el hFq hpl
          obtain rfl:y=y9:=by rw [hy9] at hy;injection hy with h;exact h.symm
          subst hc9
          have f1:wq.cell? ⟨bf,of+p*2+1,none⟩=some (.int .i64 y.bits):=hj9 1 _ rfl
          rw [hbt] at f1
          have ct:Hid (∀ w',Calls Tryz.prog 161 #[.int .i64 bt] w' fun e w''=>e=.returned (.int .i64 (topS bt))∧w''=w'):=Lib.hid fun w'=>(f_top bt (by omega) (by omega) w').mono fun _ _ h=>⟨h.1,h.2.symm⟩
          have htl:=topS_lt (b:=(bt:Int)) (by omega) (by omega)
          have hpc:p≤capf:=by omega
          clear hno hl7 hX4 hB4 hj9 hy9 hFq
          by_cases hv0:x.value<0
          · have HF:=Lib.hid (show R=false by rw [HS.out,decide_eq_false (by omega)];rfl)
            have hdq:=Lib.hid fun n=>below_drewN hbq.out n
            clear HS
            go_upto_region 20 with fail
            go_quiet (fail)
            go_wp2_with fail
            go_ret2
            exact cubes_bad HF.out (by decide) (hdq.out _)
          by_cases hv1:topS (bt:Int)<x.value
          · have HF:=Lib.hid (show R=false by rw [HS.out,decide_eq_false (by omega)];rfl)
            have hdq:=Lib.hid fun n=>below_drewN hbq.out n
            clear HS
            generalize topS (bt:Int)=tp at *
            go_upto_region 20 with fail
            go_quiet (exact Calls.quiet_of_same (ct.out _))
            go_wp2_with fail
            go_ret2
            exact cubes_bad HF.out (by decide) (hdq.out _)
          have hRn:Hid (R=okWFrom l (s.take (j+1)) (s.drop (j+1))):=Lib.hid (by rw [HS.out,decide_eq_true (by omega),Bool.true_and])
          have cw1:Hid (∀ W,Below w.heap.size w W→Calls Tryz.prog 160 #[.slice (some ⟨bf,of,none⟩) p capf] W fun e w'=>e=.returned (.int .i64 m1)∧Below W.heap.size W w'):=Lib.hid fun W hW=>by
            rw [← hm1]
            exact f_width (l.take p) _ w.heap.size W (SlOf.take (Fields.below hf.out hW hB) (Nat.le_of_lt hpl)) hW.size fun k=>by
              rw [List.take_take]
              have:=hw0 (min k p)
              have:=hgd.2.2
              omega
          have cb:=Lib.hid fun W=>f_binary x.value bt bt (Nat.le_refl _) (by omega) W ⟨by omega,by omega⟩
          clear HS
          generalize topS (bt:Int)=tp at *
          go_upto_region 20 with fail
          go_quiet (exact Calls.quiet_of_same (ct.out _))
          go_upto_region 22 with fail
          obtain ⟨W5,hW5⟩:∃ W5,W5=wq.drewN nq:=⟨_,rfl⟩
          have hb5q:=below_drewN (Below.refl wq.heap.size wq) nq
          rw [← hW5] at hb5q ⊢
          clear hW5
          have r1:=(hb5q.cell (p:=⟨wo.heap.size,1,none⟩) hXlq.out).trans q1
          have hB5:=Lib.hid (hBq.out.below hb5q (by have:=hXlq.out;have:=hbt7.out.size;omega))
          have hb55:=Lib.hid (hbq.out.trans (hb5q.mono hbq.out.size))
          have hl5:wo.heap.size<W5.heap.size:=by have:=hXlq.out;have:=hb5q.size;omega
          have hg5:w6.heap.size<W5.heap.size:=by have:=hXlq.out;have:=hbt7.out.size;have:=hb5q.size;omega
          have hd:=Lib.hid (Below.refl W5.heap.size W5).drew
          have i0:(0:Int)≤(p:Int):=by omega
          have i1:(m1:Int)≤(n:Int):=by omega
          have i2:¬ capb=m1:=by omega
          have i3:¬ m1=capb:=by omega
          have hz1:∀ w,(Go.sizeOf 5).run Tryz.prog w=.ok 1 w:=fun w=>by kernel_rfl
          have hne:¬ wo.heap.size=w6.heap.size:=hneo
          have hgz1:=@setCells_size
          clear hneo
          go_region_held3 (fun W=>W.cell? ⟨wo.heap.size,1,none⟩=some (.int .i64 x.value))
            (first|exact hHeld|go_keep|exact hSk|exact (hbj.cell (p:=⟨wo.heap.size,1,none⟩) hl5).trans r1|exact (hbk.cell (p:=⟨wo.heap.size,1,none⟩) hl5).trans r1)
            ((first
              | (have hbi:=hbk;go_at_call 160;(with_reducible refine (cw1.out _ (hb55.out.trans (hbi.mono hb55.out.size))).mono ?_);rintro e wy ⟨rfl,hbB⟩;have hbj:=hbi.trans (hbB.mono hbi.size);have hBy:=hB5.out.below hbj hg5;have hle9:s9.size≤n-m1:=(by omega);have hcp:=run_copy_string (P:=Tryz.prog) wy 132 9 3 5 w6.heap.size m1 (n-m1) (capb-m1) s9 Tryz.underlying132 hz1 hle9 (fun j2 hj2=>hBy.some (show m1+j2<n by omega)) (fun j2 hj2=>(hBy (m1+j2) (by omega)).2);have hSk:=(World.cell?_setCells_out w6.heap.size (s9.data.toList.map fun x=>Value.int .u8 (x.toNat:Int)) m1 wy ⟨wo.heap.size,1,none⟩ (fun h=>absurd h hne)).trans ((hbj.cell (p:=⟨wo.heap.size,1,none⟩) hl5).trans r1);have hBz:=Lib.hid ((hB5.out.below hbj hg5).sets s9.data.toList m1);have hbz:=Lib.hid (below_setCells hz9.out (s9.data.toList.map fun x=>Value.int .u8 (x.toNat:Int)) m1 wy (hb55.out.trans (hbj.mono hb55.out.size)));have hgz:Hid (w6.heap.size<(wy.setCells w6.heap.size m1 (s9.data.toList.map fun x=>Value.int .u8 (x.toNat:Int))).heap.size):=Lib.hid (hgz1 _ _ _ (by have:=hbj.size;omega));clear hBy)
              | (have hbi:=hbk;go_at_call 162;(with_reducible refine (cb.out _).mono ?_);rintro e wy ⟨⟨s9,rfl,hs9⟩,hbB⟩;have hbj:=hbi.trans (hbB.mono hbi.size);have hBy:=hB5.out.below hbj hg5;have hle9:s9.size≤n-m1:=(by omega);have hcp:=run_copy_string (P:=Tryz.prog) wy 132 9 3 5 w6.heap.size m1 (n-m1) (capb-m1) s9 Tryz.underlying132 hz1 hle9 (fun j2 hj2=>hBy.some (show m1+j2<n by omega)) (fun j2 hj2=>(hBy (m1+j2) (by omega)).2);have hSk:=(World.cell?_setCells_out w6.heap.size (s9.data.toList.map fun x=>Value.int .u8 (x.toNat:Int)) m1 wy ⟨wo.heap.size,1,none⟩ (fun h=>absurd h hne)).trans ((hbj.cell (p:=⟨wo.heap.size,1,none⟩) hl5).trans r1);have hBz:=Lib.hid ((hB5.out.below hbj hg5).sets s9.data.toList m1);have hbz:=Lib.hid (below_setCells hz9.out (s9.data.toList.map fun x=>Value.int .u8 (x.toNat:Int)) m1 wy (hb55.out.trans (hbj.mono hb55.out.size)));have hgz:Hid (w6.heap.size<(wy.setCells w6.heap.size m1 (s9.data.toList.map fun x=>Value.int .u8 (x.toNat:Int))).heap.size):=Lib.hid (hgz1 _ _ _ (by have:=hbj.size;omega));clear hBy)
              | (go_at_call 160;(with_reducible refine (cw1.out _ (hb55.out.trans (hd.out.mono hb55.out.size))).mono ?_);rintro e wz ⟨rfl,hbA⟩;have hbk:=hd.out.trans (hbA.mono hd.out.size))
              | (go_at_call 162;(with_reducible refine (cb.out _).mono ?_);rintro e wz ⟨⟨s9,rfl,hs9⟩,hbA⟩;have hbk:=hd.out.trans (hbA.mono hd.out.size))))
          all_goals
            go_wp2_with fail
            go_roundw
            case rel=>exact ⟨j+1,by omega,by go_num,hRn,hBz,hbz,hgz⟩
            case measure=>simp [intOf];omega
    · have hOt:R=true:=by rw [hRk.out,List.drop_of_length_le (by omega)];rfl
      clear hRk
      obtain ⟨st,hcs⟩:=hBk.out.conv (cap:=capb)
      go_wp2_with fail
      go_ret2
      exact ⟨⟨_,_,rfl,by rw [hOt];simp⟩,hbw.out⟩
end Go.Proofs.YtdhehcobnbcmdaaGreatDoor

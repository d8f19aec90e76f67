/- A part of the proof of DeltaLines: Mod13. -/
import Derived.Test.YtdhehcobnbcmdaaGreatDoorPMo9
set_option linter.all false
namespace Go.Proofs.YtdhehcobnbcmdaaGreatDoor
open Go.RowKit Go.Maps
theorem conf_form {w:World}{B:Nat}{c:ConfS}{vf vb vl vs:Value}(h:ConfC w B c vf vb vl vs):∃ Af cf Ab cb Al cl As cs,vf=.slice Af c.fields.length cf∧vb=.slice Ab c.boxes.length cb∧vl=.slice Al c.links.length cl∧vs=.slice As c.slices.length cs:=by
  obtain ⟨Af,cf,h1,_,_⟩:=SlOf.form h.f
  obtain ⟨Ab,cb,h2,_,_⟩:=SlOf.form h.b
  obtain ⟨Al,cl,h3,_,_⟩:=SlOf.form h.l
  obtain ⟨As,cs,h4,_,_⟩:=SlOf.form h.s
  exact ⟨Af,cf,Ab,cb,Al,cl,As,cs,h1,h2,h3,h4⟩
theorem key_inv {key:Value}{kl:Lit}(h:keyOf Tryz.prog 9 key=some kl):∃ s:ByteArray,key=.string s∧kl=.string s.data.toList∧s.size≤maxLen:=by
  cases key<;>simp [keyOf,Tryz.underlying9,mapKey] at h
  rename_i s
  obtain ⟨h1,h2⟩:=h
  exact ⟨s,rfl,h2.symm,h1⟩
theorem str_key {a b:ByteArray}:(Lit.string a.data.toList).sameKey (.string b.data.toList)=decide (a=b):=by
  by_cases h:a=b
  · subst h
    rw [decide_eq_true rfl]
    exact WideAt.sameKey_self (show WideAt.IsKeyLit (.string _) from trivial)
  · rw [decide_eq_false h]
    exact sameKey_ne (str_ne h)
theorem map_put' {w:World}{b n:Nat}{f:Tab}{ops:Array Oper}{rest:List Oper}{o:Oper}{a:Act}{Q:Exit→Act→World→Prop}(h:MapIs w b n f)(hg:o.guard=none)(m x v:Operand)(hop:o.op=Op.mapUpdate 99 m x v)(hm:a.eval m=.map (some b))(s:ByteArray)(hx:a.eval x=.string s)(hs:s.size≤maxLen)(hn:n≤1000000000000000)
    (c:Int) (hv:a.eval v=.int .i64 c) (hc : -9223372036854775808≤c∧c≤9223372036854775807)
    (hK:∀ w',MapIs w' b (n+1) (upd f s c)→w.grownBy w' (some b)→wpList Tryz.prog ops Q rest (a.put o.dst undef) w'):wpList Tryz.prog ops Q (o::rest) a w:=by
  obtain ⟨D,h,t⟩:=h
  exact wpList_mapUpdate_own w hg m x v 99 hop 9 3 lawStr Tryz.underlying99 (plainElem Tryz.prog 3) b n D hm h (by unfold maxLen;omega) _ _ _ hx hv (WideMaps.keyOf_string_mk Tryz.underlying9 hs) (.lit (.int .i64 c)) []
    (plainElem_int Tryz.underlying3 (WalkArith.wf_i64 hc)) fun w' h' hg'=>hK w' ⟨_,h',t.put h.isMap s c⟩ hg'
def FreeAs (f:Tab)(l:List (ByteArray×Bool))(left:Lit→Bool)(g:Tab):Prop:=∀ s:ByteArray,g s=match f s with
  | some k=>if left (.string s.data.toList) || inAt l k then none else some k
  | none=>none
theorem FreeAs.out {f:Tab}{l:List (ByteArray×Bool)}{left:Lit→Bool}{g:Tab}(h:FreeAs f l left g){s:ByteArray}{k:Int}(hk:f s=some k)(hi:inAt l k=false):FreeAs f l (fun z=>left z && !z.sameKey (.string s.data.toList)) (upd g s k):=fun t=>by
  unfold upd
  by_cases e:t=s
  · subst e
    rw [if_pos rfl,hk]
    simp [hi,str_key]
  · rw [if_neg e,h t]
    simp [str_key,e]
theorem FreeAs.inn {f:Tab}{l:List (ByteArray×Bool)}{left:Lit→Bool}{g:Tab}(h:FreeAs f l left g){s:ByteArray}{k:Int}(hk:f s=some k)(hi:inAt l k=true):FreeAs f l (fun z=>left z && !z.sameKey (.string s.data.toList)) g:=fun t=>by
  by_cases e:t=s
  · subst e
    rw [h t,hk]
    simp [hi]
  · rw [h t]
    simp [str_key,e]
set_option maxHeartbeats 8000000 in
set_option maxRecDepth 100000 in
theorem m_links (c : ConfS) (vf vb vl vs : Value) (B : Nat) (w : World) (h : ConfC w B c vf vb vl vs) (hB : B ≤ w.heap.size) (hlen : (fulls c.boxes).length ≤ 1000) :
    Calls Tryz.prog 26 #[.agg (confV c vf vb vl vs)] w (EPost (linksB c) w):=by
  have hl47:c.links.length≤140737488355328:=by obtain ⟨_,_,_,_,h⟩:=SlOf.form h.l;exact h.2
  obtain ⟨Af,cf,Ab,cb,Al,cl,As,cs,rfl,rfl,rfl,rfl⟩:=conf_form h
  obtain ⟨W0,hW0⟩:∃ W0,w.alloc (confO c (.slice Af c.fields.length cf) (.slice Ab c.boxes.length cb) (.slice Al c.links.length cl) (.slice As c.slices.length cs))=W0:=⟨_,rfl⟩
  have hb0:=Lib.hid (show Below w.heap.size w W0 by rw [← hW0];exact (Below.refl _ _).alloc (Nat.le_refl _) _)
  have hX:W0.heap[w.heap.size]?=some (confO c (.slice Af c.fields.length cf) (.slice Ab c.boxes.length cb) (.slice Al c.links.length cl) (.slice As c.slices.length cs)):=by rw [← hW0];exact heap_alloc_new w _
  have hlt0:w.heap.size<W0.heap.size:=by rw [← hW0];simp
  have hcx:=Lib.hid fun W (hb:Below W0.heap.size W0 W)=>conf_cells ((hb.block _ hlt0).trans hX)
  have hbz:=Lib.hid fun W (hb:Below W0.heap.size W0 W)=>hb0.out.trans (hb.mono (Nat.le_of_lt hlt0))
  have cN:=Lib.hid (m_numbered c _ _ _ _ w.heap.size W0 (h.below hb0.out hB) (Nat.le_of_lt hlt0) hlen)
  have hLx:=Lib.hid fun W (hb:Below w.heap.size w W)=>pureSl h.l hB (keepB hb hB)
  have hmm:=@run_makeMap Tryz.prog
  obtain ⟨x0,x1,x2,x3,x4,x5,x6⟩:=conf_cells hX
  clear h hX
  go_enter Tryz.func26,Tryz.ntmps26
  go_upto_region 1 with fail
  clear hW0
  go_cut [4,5] (fun a b wx=>∃ z mb base A cap p,p.length≤cap∧cap≤9223372036854775807∧a=.pointer (some ⟨z,0,none⟩)∧b=.pointer (some ⟨z+1,0,none⟩)∧Hid (LinkW wx z (z+1) mb base A cap p.length p (numsT c))∧Hid (p.map (·.2)=(fulls c.boxes).map (·.2))∧Hid (Below W0.heap.size W0 wx)∧Hid (z+1<wx.heap.size∧mb<z∧∀ g,A=some ⟨g,0,none⟩→g<z))
  case first=>
    go_wp2_with (go_at_call 60;refine cN.out.mono ?_;rintro e w2 ⟨A,cap,p,rfl,hp,hr,hm,hb2⟩;have hp':=Lib.hid hp;have hr':=Lib.hid hr;have hm':=Lib.hid hm;have hb2':=Lib.hid hb2;clear hp hr hm hb2)
    go_meet
    have hba:Below w2.heap.size w2 (w2.alloc (.cells #[.slice A p.length cap] 106 (0,0))):=(Below.refl _ _).alloc (Nat.le_refl _) _
    have hbb:=hba.alloc (Nat.le_trans (Nat.le_refl _) hba.size) (.cells #[.map (some (W0.heap.size+2))] 99 (0,0))
    obtain ⟨hpc1,hpc2⟩:p.length≤cap∧cap≤9223372036854775807:=by
      rcases hr'.out.2 with ⟨hv,h0⟩|⟨g,c',cur,hv,_,_,h1,h2,_⟩
      · injection hv with _ _ hc
        omega
      · injection hv with _ _ hc
        subst hc
        unfold maxLen at h2
        exact ⟨h1,by omega⟩
    refine ⟨w2.heap.size,W0.heap.size+2,W0.heap.size+4,A,cap,p,hpc1,hpc2,rfl,rfl,Lib.hid ⟨?_,?_,?_,?_,?_⟩,hp',Lib.hid (hb2'.out.trans (hbb.mono hb2'.out.size)),Lib.hid ⟨by simp,by have:=hm'.out.lt;omega,fun g hg=>?_⟩⟩
    · have h1:(w2.alloc (.cells #[.slice A p.length cap] 106 (0,0))).heap[w2.heap.size]?=some (.cells #[.slice A p.length cap] 106 (0,0)):=heap_alloc_new w2 _
      exact cell_of_one (((((Below.refl (w2.alloc (.cells #[.slice A p.length cap] 106 (0,0))).heap.size _).alloc (Nat.le_refl _) _).block _ (by simp)).trans h1))
    · have h1:=heap_alloc_new (w2.alloc (.cells #[.slice A p.length cap] 106 (0,0))) (.cells #[.map (some (W0.heap.size+2))] 99 (0,0))
      have h2:=cell_of_one h1
      simpa using h2
    · exact (hr'.out.alloc _).alloc _
    · exact (hm'.out.alloc _).alloc _
    · intro s k hk
      have h1:=numsT_lt hk
      have h2:=congrArg List.length hp'.out
      simp only [List.length_map] at h2
      omega
    · exact (hr'.out.lt g (by rw [hg];rfl)).2
  case rest=>
  obtain ⟨z,mb,base,A,cap,p,hpc1,hpc2,rfl,rfl,hL,hp,hbc,hzz⟩:=hcut
  obtain ⟨wd,rfl⟩:∃ wd,wd=wc:=⟨_,rfl⟩
  obtain ⟨hz1,hz2,hz3⟩:=hzz.out
  have hpc:p.length≤cap∧cap≤9223372036854775807:=⟨hpc1,hpc2⟩
  obtain ⟨D,hown,hT⟩:=hL.out.m
  have hfb:=Lib.hid (MapIs.new wd)
  have hob:=hown.alloc (.map #[] 0)
  have hsz:=hown.size_le
  have hbd:=Lib.hid ((Below.refl wd.heap.size wd).alloc (Nat.le_refl _) (.map #[] 0))
  have hLk:=Lib.hid fun W (hb:Below wd.heap.size wd W)=>hL.out.keep (fun g hg=>hb.block g hg) (by omega) hz1 (by omega) (fun g hg=>by have:=hz3 g hg;omega)
  have q1:=((hLk.out _ hbd.out).q)
  have hT':=Lib.hid hT
  have hpl:Hid (p.length=(fulls c.boxes).length):=Lib.hid (by have:=congrArg List.length hp.out;simpa using this)
  have hp1000:p.length≤1000:=by have:=hpl.out;omega
  clear x0 x1 x2 x3 x4 x5 x6
  go_wp2_with (at_range;refine wpList_range_own _ rfl _ 99 rfl 9 3 lawStr Tryz.underlying99 _ mb p.length D rfl hob ?_;intro w6 hrg0 hg0 hs0)
  go_frame
  have hb6:Hid (Below wd.heap.size wd w6):=Lib.hid (hbd.out.grown hg0 hbd.out.size (fun k hk=>by cases hk))
  have hM6:Hid (MapIs w6 wd.heap.size 0 noTab):=Lib.hid (hfb.out.kept hg0 (by simp))
  have hsz6:Hid (wd.heap.size+1<w6.heap.size):=Lib.hid (by rw [hs0];simp)
  have hwa:(wd.alloc (.map #[] 0)).heap.size=wd.heap.size+1:=by simp
  rw [hwa] at hrg0 ⊢
  have hF0:Hid (FreeAs (numsT c) (fulls c.boxes) (Maps.has D) noTab):=Lib.hid fun s=>by
    cases hs:numsT c s with
    | none=>rfl
    | some k=>simp [noTab,(hT s).1,hs]
  have hrg:=Lib.hid hrg0
  clear hg0 hs0 hrg0 hT q1 hob hown hwa
  go_loopw [7] (fun _ wr=>∃ left cnt n' g,Hid (wr.ranges Tryz.prog 9 (plainElem Tryz.prog 3) mb (wd.heap.size+1) p.length D left cnt)∧Hid (n'+cnt≤Maps.size D)∧Hid (FreeAs (numsT c) (fulls c.boxes) left g)∧Hid (MapIs wr wd.heap.size n' g)∧Hid (Below wd.heap.size wd wr)∧Hid (wd.heap.size+1<wr.heap.size)) (fun _ wr=>wr.rangeLeft mb (wd.heap.size+1))
  case atStart=>exact ⟨_,_,0,noTab,hrg,Lib.hid (by omega),hF0,hM6,hb6,hsz6⟩
  case round=>
    obtain ⟨left,cnt,n',g,hrg,hnc,hF,hM,hbw,hzw⟩:=hrel
    obtain ⟨wo,rfl⟩:∃ wo,wo=wr:=⟨_,rfl⟩
    clear hF0 hM6 hb6 hsz6
    go_wp2_with (at_next;refine wpList_next_ranges _ rfl _ rfl 9 lawStr (plainElem Tryz.prog 3) Value.string (Value.int .i64) (fun key kl hk=>by obtain ⟨s,h,_⟩:=key_inv hk;exact ⟨s,h⟩) (fun v y hv=>by obtain ⟨a,h,_⟩:=plainElem_int_inv Tryz.underlying3 hv;exact ⟨a,h⟩) mb (wd.heap.size+1) p.length D left cnt rfl hrg.out ?_ ?_)
    · intro _ hl0
      have hFr:Hid (∀ s,g s=freeT (numsT c) (fulls c.boxes) s):=Lib.hid fun s=>by
        rw [hF.out s]
        unfold freeT
        cases numsT c s with
        | none=>rfl
        | some k=>simp [hl0]
      have hMf:Hid (MapIs wo wd.heap.size n' (freeT (numsT c) (fulls c.boxes))):=Lib.hid (by
        have e:g=freeT (numsT c) (fulls c.boxes):=funext hFr.out
        rw [← e]
        exact hM.out)
      have hR0:Hid (linksB c=linksFrom (numsT c) (fulls c.boxes) (freeT (numsT c) (fulls c.boxes)) (c.links.drop 0)):=Lib.hid rfl
      generalize freeT (numsT c) (fulls c.boxes)=g0 at *
      generalize linksB c=R at *
      have hbW:=Lib.hid fun W (hb:Below wd.heap.size wd W)=>hbc.out.trans (hb.mono hbc.out.size)
      obtain ⟨_,_,_,_,_,x5,_⟩:=hcx.out _ (hbW.out _ hbw.out)
      have hbw':=Lib.hid hbw.out
      clear hFr hF hM hnc hl0 hrg hbw hzw
      go_wp2_with fail
      clear x5
      go_loopw [42] (fun i wr=>∃ k:Nat,k≤c.links.length∧i=.int .i64 k∧∃ gk,Hid (R=linksFrom (numsT c) (fulls c.boxes) gk (c.links.drop k))∧Hid (MapIs wr wd.heap.size n' gk)∧Hid (Below wd.heap.size wd wr)) (fun i _=>c.links.length-(intOf i).toNat)
      case atStart=>exact ⟨0,Nat.zero_le _,rfl,g0,hR0,hMf,hbw'⟩
      case round=>
        obtain ⟨k,hk,rfl,gk,HR,hMk,hbw⟩:=hrel
        obtain ⟨wi,rfl⟩:∃ wi,wi=wr:=⟨_,rfl⟩
        clear hR0 hMf hbw'
        by_cases hlt:k<c.links.length
        · have hBw:=hLx.out _ (hbz.out _ (hbW.out _ hbw.out))
          obtain ⟨b,off,rfl⟩:=SlOf.addr hBw (by omega)
          obtain ⟨_,cc,x,hx,⟨hc,hs1,hs2⟩,hj⟩:=SlOf.el hBw hlt
          subst hc
          have e0:wi.cell? ⟨b,off+k*3,none⟩=some (.string x.frm):=hj 0 _ rfl
          have e1:wi.cell? ⟨b,off+k*3+1,none⟩=some (.string x.dst):=hj 1 _ rfl
          have e2:wi.cell? ⟨b,off+k*3+2,none⟩=some (.int .i64 x.cost):=hj 2 _ rfl
          have HS:Hid (R=(sideN (numsT c) (fulls c.boxes) x.frm false && sideN (numsT c) (fulls c.boxes) x.dst true && decide (1≤x.cost∧x.cost≤9999) && (gk x.frm).isSome && linksFrom (numsT c) (fulls c.boxes) (cutT gk x.frm) (c.links.drop (k+1)))):=Lib.hid (by rw [HR.out,drop_at hx];rfl)
          have hs1':x.frm.size≤1000000000000000:=by unfold Sm at hs1;omega
          have hs2':x.dst.size≤1000000000000000:=by unfold Sm at hs2;omega
          clear hj hBw HR hx
          obtain ⟨wa,hwa⟩:∃ wa,wi.alloc (.cells #[.string x.frm, .string x.dst, .int .i64 x.cost] 63 (0,0))=wa:=⟨_,rfl⟩
          have hba:Below wi.heap.size wi wa:=by rw [← hwa];exact (Below.refl _ _).alloc (Nat.le_refl _) _
          have hbA:=Lib.hid (hbw.out.trans (hba.mono hbw.out.size))
          have hXa:wa.heap[wi.heap.size]?=some (.cells #[.string x.frm, .string x.dst, .int .i64 x.cost] 63 (0,0)):=by rw [← hwa];exact heap_alloc_new wi _
          have hla:wi.heap.size<wa.heap.size:=by rw [← hwa];simp
          have hca:=Lib.hid fun W (hb:Below wa.heap.size wa W)=>cells3' ((hb.block _ hla).trans hXa)
          have hMa:=Lib.hid (hMk.out.below hba hMk.out.lt)
          obtain ⟨z0,z1,z2⟩:=hca.out _ (Below.refl _ _)
          have hbR:=Lib.hid fun W (hb:Below wa.heap.size wa W)=>hbA.out.trans (hb.mono hbA.out.size)
          have hbF:=Lib.hid fun W (hb:Below wa.heap.size wa W) n=>below_drewN (hbz.out _ (hbW.out _ (hbR.out W hb))) n
          have cS:=Lib.hid fun W (hb:Below wa.heap.size wa W) s inn (hs:s.size≤1000000000000000)=>k_side c z (z+1) mb base cap p.length A p (numsT c) s inn W (hLk.out _ (hbR.out W hb)) hp.out hs hpc
          have hra:=Lib.hid (Below.refl wa.heap.size wa)
          clear hXa hba hMk
          cases g1:sideN (numsT c) (fulls c.boxes) x.frm false
          · have HF:=Lib.hid (show R=false by rw [HS.out,g1];rfl)
            have c1:=Lib.hid (cS.out wa hra.out x.frm false hs1')
            rw [g1] at c1
            clear HS g1
            go_upto_region 14 with (go_at_call 61;refine c1.out.mono ?_;intro e w5 hp5;obtain ⟨k5,rfl,hk0,hk1,hb5⟩:=code_no hp5;obtain ⟨y0,y1,y2⟩:=hca.out _ hb5;have hb6:=Lib.hid (hbF.out _ hb5);replace hk0:=Lib.hid hk0;clear hb5 hp5)
            clear hwa
            go_quiet (fail)
            go_wp2_with fail
            go_ret2
            exact e_bad HF.out hk0.out (hb6.out _)
          have c1:=Lib.hid (cS.out wa hra.out x.frm false hs1')
          rw [g1] at c1
          cases g2:sideN (numsT c) (fulls c.boxes) x.dst true
          · have HF:=Lib.hid (show R=false by rw [HS.out,g1,g2];rfl)
            clear HS g1
            go_upto_region 17 with (first
              | (go_at_call 61;refine c2.out.mono ?_;intro e w7 hp7;obtain ⟨k7,rfl,hk0,hk1,hb7⟩:=code_no hp7;have hb8:=Lib.hid (hb6.out.trans (hb7.mono hb6.out.size));obtain ⟨t0,t1,t2⟩:=hca.out _ hb8.out;have hb9:=Lib.hid (hbF.out _ hb8.out);replace hk0:=Lib.hid hk0;clear hb7 hp7 c2)
              | (go_at_call 61;refine c1.out.mono ?_;intro e w5 hp5;obtain ⟨rfl,hb5⟩:=code_yes hp5;obtain ⟨y0,y1,y2⟩:=hca.out _ hb5;have hb6:=Lib.hid hb5;have c2:=Lib.hid (cS.out w5 hb5 x.dst true hs2');rw [g2] at c2;clear hb5 hp5 c1))
            clear hwa
            go_quiet (fail)
            go_wp2_with fail
            go_ret2
            exact e_bad HF.out hk0.out (hb9.out _)
          have hS2:Hid (∀ W,Below wa.heap.size wa W→MapIs W wd.heap.size n' gk):=Lib.hid fun W hb=>hMa.out.below hb hMa.out.lt
          by_cases h3:1≤x.cost∧x.cost≤9999
          case neg=>
            have HF:=Lib.hid (show R=false by rw [HS.out,g1,g2,decide_eq_false h3];rfl)
            clear HS g1
            by_cases h31:x.cost<1
            · have d1:decide (x.cost<1)=true:=decide_eq_true h31
              go_upto_region 19 with (first
                | (go_at_call 61;refine c2.out.mono ?_;intro e w7 hp7;obtain ⟨rfl,hb7⟩:=code_yes hp7;have hb8:=Lib.hid (hb6.out.trans (hb7.mono hb6.out.size));obtain ⟨t0,t1,t2⟩:=hca.out _ hb8.out;have hb9:=Lib.hid (hbF.out _ hb8.out);clear hb7 hp7 c2)
                | (go_at_call 61;refine c1.out.mono ?_;intro e w5 hp5;obtain ⟨rfl,hb5⟩:=code_yes hp5;obtain ⟨y0,y1,y2⟩:=hca.out _ hb5;have hb6:=Lib.hid hb5;have c2:=Lib.hid (cS.out w5 hb5 x.dst true hs2');rw [g2] at c2;clear hb5 hp5 c1))
              clear hwa
              go_quiet (fail)
              go_wp2_with fail
              go_ret2
              exact e_bad HF.out (by decide) (hb9.out _)
            · have d1:decide (x.cost<1)=false:=decide_eq_false h31
              have d2:x.cost>9999:=by omega
              go_upto_region 19 with (first
                | (go_at_call 61;refine c2.out.mono ?_;intro e w7 hp7;obtain ⟨rfl,hb7⟩:=code_yes hp7;have hb8:=Lib.hid (hb6.out.trans (hb7.mono hb6.out.size));obtain ⟨t0,t1,t2⟩:=hca.out _ hb8.out;have hb9:=Lib.hid (hbF.out _ hb8.out);clear hb7 hp7 c2)
                | (go_at_call 61;refine c1.out.mono ?_;intro e w5 hp5;obtain ⟨rfl,hb5⟩:=code_yes hp5;obtain ⟨y0,y1,y2⟩:=hca.out _ hb5;have hb6:=Lib.hid hb5;have c2:=Lib.hid (cS.out w5 hb5 x.dst true hs2');rw [g2] at c2;clear hb5 hp5 c1))
              clear hwa
              go_quiet (fail)
              go_wp2_with fail
              go_ret2
              exact e_bad HF.out (by decide) (hb9.out _)
          have d1:decide (x.cost<1)=false:=decide_eq_false (by omega)
          have d2:¬ (x.cost>9999):=by omega
          cases hg:gk x.frm with
          | none =>
            have HF:=Lib.hid (show R=false by rw [HS.out,g1,g2,decide_eq_true h3,hg];rfl)
            have hg':=Lib.hid hg
            clear HS g1 hg
            go_upto_region 22 with (first
              | (go_at_call 61;refine c2.out.mono ?_;intro e w7 hp7;obtain ⟨rfl,hb7⟩:=code_yes hp7;have hb8:=Lib.hid (hb6.out.trans (hb7.mono hb6.out.size));obtain ⟨t0,t1,t2⟩:=hca.out _ hb8.out;have hb9:=Lib.hid (hbF.out _ hb8.out);have hM7:=Lib.hid (hS2.out _ hb8.out);clear hb7 hp7 c2)
              | (go_at_call 61;refine c1.out.mono ?_;intro e w5 hp5;obtain ⟨rfl,hb5⟩:=code_yes hp5;obtain ⟨y0,y1,y2⟩:=hca.out _ hb5;have hb6:=Lib.hid hb5;have c2:=Lib.hid (cS.out w5 hb5 x.dst true hs2');rw [g2] at c2;clear hb5 hp5 c1)
              | (at_lookup;refine map_look hM7.out rfl _ _ rfl rfl x.frm rfl hs1' ?_;intro c9 _;rw [hg'.out]))
            clear hwa
            go_quiet (fail)
            go_wp2_with fail
            go_ret2
            exact e_bad HF.out (by decide) (hb9.out _)
          | some kk =>
            have HF:=Lib.hid (show R=linksFrom (numsT c) (fulls c.boxes) (cutT gk x.frm) (c.links.drop (k+1)) by rw [HS.out,g1,g2,decide_eq_true h3,hg];rfl)
            have hg':=Lib.hid hg
            clear HS g1 hg
            go_wp2_with (first
              | (go_at_call 61;refine c2.out.mono ?_;intro e w7 hp7;obtain ⟨rfl,hb7⟩:=code_yes hp7;have hb8:=Lib.hid (hb6.out.trans (hb7.mono hb6.out.size));obtain ⟨t0,t1,t2⟩:=hca.out _ hb8.out;have hM7:=Lib.hid (hS2.out _ hb8.out);have hb9:=Lib.hid (hbR.out _ hb8.out);clear hb7 hp7 c2)
              | (go_at_call 61;refine c1.out.mono ?_;intro e w5 hp5;obtain ⟨rfl,hb5⟩:=code_yes hp5;obtain ⟨y0,y1,y2⟩:=hca.out _ hb5;have hb6:=Lib.hid hb5;have c2:=Lib.hid (cS.out w5 hb5 x.dst true hs2');rw [g2] at c2;clear hb5 hp5 c1)
              | (at_lookup;refine map_look hM7.out rfl _ _ rfl rfl x.frm rfl hs1' ?_;intro c9 _;rw [hg'.out])
              | (at_delete;refine map_del hM7.out rfl _ _ rfl rfl x.frm rfl hs1' ?_;intro w8 hM8 hg8;have hM9:=Lib.hid hM8;have hb10:=Lib.hid (hb9.out.trans (below_grow wd.heap.size hg8 hb9.out.size));clear hM8 hg8))
            go_roundw
            case rel=>exact ⟨k+1,by omega,by go_num,_,HF,hM9,hb10⟩
            case measure=>simp [intOf];omega
        · have HF:Hid (R=true):=Lib.hid (by rw [HR.out,drop_end hlt];rfl)
          have hbF:=Lib.hid (hbz.out _ (hbW.out _ hbw.out))
          clear HR
          go_wp2_with fail
          go_ret2
          exact e_ok HF.out hbF.out
    · intro x cc kl yd yp w1 cnt1 hkey hlk hv hat hrg1 hlt hg1 hs1 hen
      obtain ⟨x',hx',rfl,hxl⟩:=key_inv hkey
      injection hx' with hx'
      subst hx'
      obtain ⟨a,ha,hyz,hwf⟩:=plainElem_int_inv Tryz.underlying3 hv
      injection ha with _ ha
      subst ha
      injection hyz with hyd _
      subst hyd
      obtain ⟨k,hk⟩:∃ k,numsT c x=some k:=by
        have h1:=has_true_of_atKey hat
        rw [(hT'.out x).1] at h1
        exact Option.isSome_iff_exists.1 h1
      have hkc:k=cc:=by
        have h1:=((hT'.out x).2 k hk .nil).symm.trans (hat .nil)
        injection h1 with h1
        injection h1
      subst hkc
      obtain ⟨hk0,hk1⟩:=numsT_lt hk
      obtain ⟨kn,rfl⟩:∃ kn:Nat,k=kn:=⟨k.toNat,by omega⟩
      have hkn:kn<p.length:=by have:=hpl.out;omega
      have hb1:=Lib.hid (hbw.out.trans (below_grow wd.heap.size hg1 hbw.out.size))
      have hL1:=hLk.out _ hb1.out
      obtain ⟨gb,hA,e,he,e1⟩:=hL1.at_ hkn
      have l1:=hL1.l
      subst hA
      have hin:=inAt_is hp.out he
      have hM1:=Lib.hid (hM.out.kept hg1 (by intro h;injection h with h;omega))
      have hz1':=Lib.hid (show wd.heap.size+1<w1.heap.size by rw [hs1];exact hzw.out)
      have hrg1':=Lib.hid hrg1
      have hrg':=Lib.hid hrg.out
      have hcnt:=Lib.hid hlt
      have hxl':=Lib.hid hxl
      have hk1':=Lib.hid hk
      have hmeas:Hid (cnt1<cnt):=Lib.hid hlt
      clear hkey hlk hv hat hrg1 hlt hg1 hs1 hL1 hrg hwf hxl hM hbw
      have hn1000:n'≤1000000000000000:=by have:=hnc.out;omega
      cases hx2:e.2
      · rw [hx2] at hin e1
        have hF2:=Lib.hid (hF.out.out hk1'.out hin)
        clear hin hk
        go_wp2_with (at_mapUpdate;(refine map_put' hM1.out rfl _ _ _ rfl rfl x rfl hxl'.out hn1000 kn rfl (by omega) ?_;intro w3 hM3 hg3;have hM4:=Lib.hid hM3;have hb4:=Lib.hid (hb1.out.trans (below_grow wd.heap.size hg3 hb1.out.size));have hrg4:=Lib.hid (hrg1'.out.kept hg3 (by intro h;injection h with h;omega) (by intro h;injection h with h;omega));have hz4:=Lib.hid (Nat.lt_of_lt_of_le hz1'.out hg3.size);clear hM3 hg3))
        go_roundw
        case rel=>exact ⟨_,cnt1,hrg4,n'+1,Lib.hid (by have:=hnc.out;have:=hmeas.out;omega),_,hF2,hM4⟩
        case measure=>rw [hrg4.out.left_eq,hrg'.out.left_eq];exact hmeas.out
      · rw [hx2] at hin e1
        have hF2:=Lib.hid (hF.out.inn hk1'.out hin)
        clear hin hk
        go_wp2_with fail
        go_roundw
        case rel=>exact ⟨_,cnt1,n',_,hrg1',Lib.hid (by have:=hnc.out;have:=hmeas.out;omega),hF2,hM1,hb1,hz1'⟩
        case measure=>rw [hrg1'.out.left_eq,hrg'.out.left_eq];exact hmeas.out
end Go.Proofs.YtdhehcobnbcmdaaGreatDoor

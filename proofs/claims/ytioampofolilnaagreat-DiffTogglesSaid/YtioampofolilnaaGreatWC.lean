/- A part of the seat's proofs over the abstract machine. No condition. -/
import Derived.Test.YtioampofolilnaaGreatWB
import Derived.Test.YtioampofolilnaaGreatWA
set_option linter.unusedSimpArgs false
set_option linter.unusedVariables false
set_option maxRecDepth 100000
namespace Go.Proofs.YtioampofolilnaaGreat.M
open Go Go.Mini
attribute [local congr] go1_congr goM_congr goG_congr goV_congr drawwp_congr Xwp_congr
theorem slc_take {l:List Int} {i:Nat} (h:i≤l.length):aSlc 1 (.fsl 1 (l.map (AVal.int .i64 ·))) none (some (.int .i64 (i:Nat))) none=some (.fsl 1 ((l.take i).map (AVal.int .i64 ·))):=by
 have b1:aBound (some (.int .i64 (i:Nat))) (l.map (AVal.int .i64 ·)).length (l.map (AVal.int .i64 ·)).length=some i:=by
  simp only [aBound,List.length_map];rw [if_pos (by simp;omega)];rfl
 have b2:aBound none 0 i=some 0:=rfl
 have b3:aBound none (l.map (AVal.int .i64 ·)).length (l.map (AVal.int .i64 ·)).length=some (l.map (AVal.int .i64 ·)).length:=rfl
 have e:((l.map (AVal.int .i64 ·)).take i).drop 0=(l.take i).map (AVal.int .i64 ·):=by rw [List.drop_zero,List.map_take]
 simp only [aSlc,b3,b1,b2,e,Option.isSome_none,Bool.false_and,Bool.false_eq_true,if_false];rfl
section
variable {σ:Heap} {k:Nat} {R:Revs} {P:Nat→Bool} {u:AVal} {els:List AVal}
theorem row_last {K:Nat} {cap:Cap} {cs:List AVal} {opn:Option TypeId} {n:Nat} {z:AVal} (h:Row 0 σ t_ints 1 (.slc (.new K) 0 (n+1) cap) els) (hl:∀ z∈els,∃ l,Lst z l) (hn:els.length=n+1) (hg:σ.get K=some (.cells cs opn)) {s:List Int} (hz:Lst z s):
  n+1≤cs.length∧Row 0 (σ.set K (.cells (cs.take n ++ [z] ++ cs.drop (n+1)) opn)) t_ints 1 (.slc (.new K) 0 (n+1) cap) (els.take n ++ [z]):=by
 have hone:=h.1
 rcases h.2 with ⟨h1,_⟩ | ⟨K',cap',cs',opn',h1,h2,h3,h4,h5,h6⟩
 ·cases h1
 simp only [AVal.slc.injEq,Id.new.injEq] at h1
 obtain ⟨rfl,_,_,rfl⟩:=h1
 rw [hg] at h2
 cases h2
 rw [lst_flat hl,Nat.mul_one] at h3
 have hcl:n+1≤cs.length:=by
  have:=congrArg List.length h3
  simp at this;omega
 refine ⟨hcl,?_⟩
 have hlz:(els.take n ++ [z]).length=n+1:=by simp;omega
 have ht:cs.take n=els.take n:=by rw [← h3,List.take_take,Nat.min_eq_left (by omega)]
 have hlist:∀ y∈els.take n ++ [z],∃ l,Lst y l:=by
  intro y hy
  rcases List.mem_append.1 hy with hy | hy
  ·exact hl y (List.mem_of_mem_take hy)
  ·rw [List.mem_singleton.1 hy];exact ⟨s,hz⟩
 refine ⟨fun y hy=>by obtain ⟨l,hl⟩:=hlist y hy;rw [hl.cells.1];rfl,.inr ⟨K,cap,cs.take n ++ [z] ++ cs.drop (n+1),opn,by rw [hlz],by rw [Heap.get_set,if_pos rfl],?_,Nat.zero_le _,by simpa using h5,?_⟩⟩
 ·rw [lst_flat hlist,hlz,Nat.mul_one,List.take_append_of_le_length (by simp;omega),List.take_of_length_le (by simp;omega),ht]
 ·have:(cs.take n ++ [z] ++ cs.drop (n+1)).length=cs.length:=by simp;omega
  rw [this,hlz]
  rw [hn] at h6
  exact h6
theorem delAll_take {s l:List Int} {i:Nat} (h:i<s.length):delAll (s.take (i+1)) l=delAll (s.take i) l ++ (if decide (s[i]∉l) then [s[i]] else []):=take_filter (fun x=>decide (x∉l)) h
set_option maxHeartbeats 2000000 in
theorem rforget_spec {fp:List Nat} (h:IsRef σ k R fp) (l:List Int) (hll:l.length≤1000000):MSpec Tryz.prog n_palinoderef20_Revs_Forget [.ptr (.new k) 0,ints l] σ fun v τ=>v= .int .i64 (forgetR R l).2∧∃ fp',IsRef τ k (forgetR R l).1 fp'∧Keep fp σ τ∧Fresh fp σ fp':=by
 obtain ⟨P,u,els,h,rfl⟩:=h
 refine spec_of_xwp c_palinoderef20_Revs_Forget (tl rfl) ?_
 unfold f_palinoderef20_Revs_Forget
 have hk:=h.blk
 have hf:=h.few
 have fin:IsRef σ k R (k::uid u)∧Keep (k::uid u) σ σ∧Fresh (k::uid u) σ (k::uid u):=⟨⟨P,u,els,h,rfl⟩,Keep.refl _ _,fun x hx=>.inl hx⟩
 refine x_seq mixed ?_
 simp +decide only [↓evd,evw,evz,reduceCtorEq]
 refine x_seq mixed ?_
 simp +decide only [↓evd,evw,reduceCtorEq]
 refine awp_loop (fun m fr τ=>∃ i,m+i=l.length∧fr.get 0= .ptr (.new k) 0∧fr.get 1=ints l∧fr.get 5= .int .i64 (i:Nat)∧(l.take i).Nodup∧(∀ g∈l.take i,g∈R.grp)∧τ=σ) ?_ (m:=l.length) ?_
 ·rintro m fr τ ⟨i,hi,e0,e1,e5,hnd,hin,rfl⟩
  by_cases hlt:i<l.length
  ·have hlt':(i:Int)<(l.length:Int):=by omega
   have hg:=map_get (AVal.int .i64 ·) l i hlt
   have hs:=wrap_succ (i:=i) (by omega)
   have t1:=List.take_succ_eq_append_getElem hlt
   have hm:=List.getElem_mem hlt
   have hsl:=slc_take (l:=l) (i:=i) (by omega)
   have hbad:l[i]∉R.grp∨l[i]∈l.take i→¬Good R l:=by
    rintro (h1 | h1) h2
    ·exact h1 (h2.2 _ hm)
    ·have:=h2.1.sublist (List.take_sublist (i+1) l)
     rw [t1] at this
     exact (List.nodup_append.1 this).2.2 _ h1 _ (by simp) rfl
   generalize l[i]=g at hg t1 hm hbad
   have hi2:=is_call h g
   have hi3:=in_call τ (l.take i) g (by simp;omega)
   simp +decide only [↓evd,evw,evz,reduceCtorEq,↓reduceIte,e1,e5,hlt']
   with_reducible refine draw_of_grow (fun _=>True) (ms:=[false,false,false,false,true,true,false,false,false,false,false,false,false,false,true,true,false]) (by kernel_rfl) ?_
   simp +decide only [↓evd,evw,evz,↓reduceIte,e0,e1,e5,hg]
   refine MSpec.of hi2 ?_
   by_cases h1:g∈R.grp
   case neg=>
    have hfb:forgetR R l=(R,210):=forget_bad (hbad (.inl h1))
    rw [hfb]
    simp +decide only [↓evd,evw,reduceCtorEq,↓reduceIte,not_mem_bool h1]
    exact ⟨_,fin⟩
   by_cases h2:g∈l.take i
   ·have hfb:forgetR R l=(R,210):=forget_bad (hbad (.inr h2))
    rw [hfb]
    simp +decide only [↓evd,evw,evz,↓reduceIte,e1,e5,mem_bool h1,hg,hsl]
    refine MSpec.of hi3 ?_
    simp +decide only [↓evd,evw,reduceCtorEq,↓reduceIte,mem_bool h2]
    exact ⟨_,fin⟩
   ·simp +decide only [↓evd,evw,evz,↓reduceIte,e1,e5,mem_bool h1,hg,hsl]
    refine MSpec.of hi3 ?_
    simp +decide only [↓evd,evw,evz,reduceCtorEq,↓reduceIte,e0,e1,e5,not_mem_bool h2,hs]
    refine ⟨m - 1,by omega,i+1,by omega,rfl,?_,?_⟩
    ·rw [t1]
     exact List.nodup_append.2 ⟨hnd,by simp,fun a ha b hb e=>h2 (by rw [List.mem_singleton] at hb;rw [← hb,← e];exact ha)⟩
    ·intro y hy
     rw [t1] at hy
     rcases List.mem_append.1 hy with hy | hy
     ·exact hin y hy
     ·rw [List.mem_singleton.1 hy];exact h1
  ·have hlt':¬(i:Int)<(l.length:Int):=by omega
   rw [List.take_of_length_le (by omega)] at hnd hin
   have hgood:Good R l:=⟨hnd,hin⟩
   simp +decide only [↓evd,evw,evz,reduceCtorEq,↓reduceIte,e1,e5,hlt']
   clear e5 hlt hlt' hi
   rw [forget_good hgood]
   have hone:=List.length_pos_iff.2 h.ok.one
   obtain ⟨K,cap,x,e1',e2',e3',e4'⟩:=h.last
   have hhd:(R.head:Int)<((R.head+1:Nat):Int):=by omega
   have hx:=e3'.cells.2.2
   have hrt:=h.ok.top.2.1
   have hlent:=rise_len hrt
   subst e1'
   refine x_seq mixed ?_
   simp +decide only [↓evd,evw,reduceCtorEq]
   refine x_seq mixed ?_
   simp +decide only [↓evd]
   with_reducible refine draw_of_grow (fun _=>True) (ms:=[false,false,false,true,false,false,false,true,false,true,false]) (by kernel_rfl) ?_
   simp +decide only [↓evd,evw,↓reduceIte,e0,hk,rc_u,rc_0,hhd,e2']
   refine x_seq mixed ?_
   simp +decide only [↓evd,evw,reduceCtorEq]
   have hlx:=e3'.len
   have hxs:R.top≠[]→x=ints R.top:=fun hne=>by
    rcases e3' with h1 | ⟨_,h1⟩
    ·exact h1
    ·exact absurd h1 hne
   generalize hs0:R.top=s at hrt hlent hlx hxs
   refine awp_loop (fun m fr ρ=>∃ i,m+i=s.length∧fr.get 0= .ptr (.new k) 0∧fr.get 1=ints l∧fr.get 7=x∧fr.get 8= .int .i64 (i:Nat)∧Own τ.next ρ t_int 1 (fr.get 6) ((delAll (s.take i) l).map (AVal.int .i64 ·))∧Keep [] τ ρ) ?_ (m:=s.length) ?_
   ·clear e0 e1
    rintro m fr ρ ⟨i,hi,e0,e1,e7,e8,hO,hK⟩
    by_cases hlt:i<s.length
    ·have hlt':(i:Int)<(s.length:Int):=by omega
     have hxe:=hxs (by intro e;rw [e] at hlt;simp at hlt)
     subst hxe
     have hg:=map_get (AVal.int .i64 ·) s i hlt
     have hs:=wrap_succ (i:=i) (by omega)
     have hdt:=delAll_take (l:=l) hlt
     generalize s[i]=g at hg hdt
     have hi3:=in_call ρ l g hll
     have hll2:(delAll (s.take i) l).length≤1000000:=by have:=List.length_filter_le (fun x=>decide (x∉l)) (s.take i);simp only [delAll];simp at this ⊢;omega
     by_cases hgl:g∈l
     ·simp +decide only [↓evd,evw,evz,reduceCtorEq,↓reduceIte,e1,e7,e8,hlt',hg]
      refine MSpec.of hi3 ?_
      simp +decide only [↓evd,evw,evz,reduceCtorEq,↓reduceIte,e0,e1,e7,e8,mem_bool hgl,hs]
      refine ⟨m - 1,by omega,i+1,by omega,rfl,?_,hK⟩
      rw [hdt,if_neg (by simpa using hgl),List.append_nil];exact hO
     ·obtain ⟨x1,ρ1,a1,a2,a3,a4,a5,a6,a7⟩:=own_int hO hK.2.2.1 hll2 g
      simp +decide only [↓evd,evw,evz,reduceCtorEq,↓reduceIte,e1,e7,e8,hlt',hg]
      refine MSpec.of hi3 ?_
      simp +decide only [↓evd,evw,evz,reduceCtorEq,↓reduceIte,e0,e1,e7,e8,not_mem_bool hgl,hs,hg,a1]
      refine ⟨m - 1,by omega,i+1,by omega,rfl,?_,?_⟩
      ·rw [hdt,if_pos (by simpa using hgl)];exact a2
      ·exact ⟨a3.trans hK.1,a4.trans hK.2.1,Nat.le_trans hK.2.2.1 (Nat.le_of_lt a5),fun q hq _=>by
        rw [a6 q (Nat.lt_of_lt_of_le hq hK.2.2.1) (fun K o n c e hk=>by have:=(hO.low e).1;omega)];exact hK.2.2.2 q hq (by simp)⟩
    ·have hlt':¬(i:Int)<(s.length:Int):=by omega
     rw [List.take_of_length_le (by omega)] at hO
     simp +decide only [↓evd,evw,reduceCtorEq,↓reduceIte,e7,e8,hlx,hlt']
     clear e7 e8 hlt hlt' hi
     generalize h6:fr.get 6=x6 at hO
     obtain ⟨τ1,s1,d1⟩:=Own.sees2 hO
     have hK1:Keep [] τ τ1:=by rcases d1 with rfl | ⟨K,_,rfl,hK2⟩;exact hK;exact hK.set (.inr hK2) _
     have hA:=h.move hK1.2.2.1 fun q hq=>hK1.2.2.2 q (h.lows q hq) (by simp)
     refine x_freeze (FSees.reg (t:=6) (by decide) (by simp +decide only [evw,↓reduceIte,h6]) s1) ?_
     refine x_of_awp mixed ?_
     have hk1:=hA.blk
     obtain ⟨cs,opn,hcs⟩:∃ cs opn,τ1.get K=some (.cells cs opn):=by
      rcases hA.row.2 with ⟨h1,_⟩ | ⟨K',cap',cs,opn,h1,h2,_⟩
      ·cases h1
      ·simp only [AVal.slc.injEq,Id.new.injEq] at h1
       rw [← h1.1] at h2
       exact ⟨cs,opn,h2⟩
     have hKk:=h.ne _ _ _ _ rfl
     have hlen:=h.len
     have hdrop:els.drop (R.head+1)=[]:=List.drop_eq_nil_of_le (by omega)
     obtain ⟨hcl,hrow⟩:=row_last (z:=ints (delAll s l)) hA.row hA.lst (by omega) hcs (s:=delAll s l) (.inl rfl)
     have hcl2:decide (R.head+1≤cs.length)=true:=by simpa using hcl
     have hKlow:=(hA.row.low rfl).2
     simp +decide only [↓evd]
     with_reducible refine draw_of_grow (fun _=>True) (ms:=[false,false,false,true,false,false,false,true,false,false,true]) (by kernel_rfl) ?_
     simp +decide only [↓evd,evw,reduceCtorEq,↓reduceIte,e0,hk1,rc_u,rc_0,hhd,hcs,hcl2]
     simp only [ints] at hrow
     generalize hτ2:τ1.set K _=τ2 at hrow
     have hn2:τ2.next=τ1.next:=by rw [← hτ2,Heap.set_next]
     have hk2:τ2.get k=some (.cells (refCells R.head R.floor P (.slc (.new K) 0 (R.head+1) cap)) none):=by rw [← hτ2,Heap.get_set,if_neg (fun e=>hKk e)];exact hk1
     have hK2:Keep [K] τ τ2:=by rw [← hτ2];exact (hK1.mono (fun x hx=>by cases hx)).set (.inl (by simp)) _
     refine awp_loop (fun m fr ρ=>∃ i P',m+i=l.length∧fr.get 0= .ptr (.new k) 0∧fr.get 1=ints l∧fr.get 9= .int .i64 (i:Nat)∧ρ.get k=some (.cells (refCells R.head R.floor P' (.slc (.new K) 0 (R.head+1) cap)) none)∧(∀ g:Nat,g<60→P' g=P g)∧(∀ g:Nat,g<60→P' (60+g)=(P (60+g) || decide ((g:Int)∈l.take i)))∧Keep [k] τ2 ρ) ?_ (m:=l.length) ?_
     ·clear e0 e1
      rintro m fr ρ ⟨i,P',hi,e0,e1,e9,hkb,hp1,hp2,hK3⟩
      by_cases hlt:i<l.length
      ·have hlt':(i:Int)<(l.length:Int):=by omega
       have hg:=map_get (AVal.int .i64 ·) l i hlt
       have hs:=wrap_succ (i:=i) (by omega)
       have t1:=List.take_succ_eq_append_getElem hlt
       have hb:=h.ok.grp.2 _ (hin _ (List.getElem_mem hlt))
       generalize l[i]=g at hg t1 hb
       obtain ⟨j,rfl⟩:∃ j:Nat,g=(j:Int):=⟨g.toNat,by omega⟩
       have hj:j<60:=by omega
       have h2:=aIdxR_lt (n:=60) (k:=1) (off:=62) (i:= .new k) (K:= .i64) hj
       have hle:decide (62+j+1≤123)=true:=by simp;omega
       have hle2:decide (62+j≤122)=true:=by simp;omega
       simp +decide only [↓evd,evw,evz,reduceCtorEq,↓reduceIte,e1,e9,hlt']
       with_reducible refine draw_of_grow (fun _=>True) (ms:=[false,false,false,false,true,false,false,false,true]) (by kernel_rfl) ?_
       simp +decide only [↓evd,evw,evz,reduceCtorEq,↓reduceIte,e0,e1,e9,hg,h2,hkb,rc_setgone hj,rc_len,hle,hs]
       refine ⟨m - 1,by omega,i+1,_,by omega,rfl,rfl,?_,?_,?_⟩
       ·intro g hg2
        show (if g=60+j then true else P' g)=P g
        rw [if_neg (by omega)];exact hp1 g hg2
       ·intro g hg2
        show (if 60+g=60+j then true else P' (60+g))=_
        rw [t1]
        by_cases e:g=j
        ·subst e;simp
        ·rw [if_neg (by omega),hp2 g hg2]
         have:((g:Int)∈l.take i ++ [(j:Int)])↔(g:Int)∈l.take i:=by
          rw [List.mem_append,List.mem_singleton]
          exact ⟨fun h=>h.resolve_right (by omega),.inl⟩
         simp [this]
       ·exact hK3.set (.inl (by simp)) _
      ·have hlt':¬(i:Int)<(l.length:Int):=by omega
       rw [List.take_of_length_le (by omega)] at hp2
       simp +decide only [↓evd,evw,evz,reduceCtorEq,↓reduceIte,e0,e1,e9,hlt',hkb,rc_0,rc_len]
       have hKne:∀ q∈[K],q∉[k]:=by intro q hq;simp at hq ⊢;omega
       refine ⟨k::[K],⟨P',.slc (.new K) 0 (R.head+1) cap,els.take R.head ++ [ints (delAll s l)],⟨?_,?_,?_,?_,?_,?_,?_,?_,?_,?_⟩,rfl⟩,?_,?_⟩
       ·rw [Heap.get_set,if_pos rfl];rfl
       ·refine Row.set ?_ (fun K' o n c e=>by cases e;exact fun e=>hKk e.symm) _
        exact Row.move hrow hK3.2.2.1 fun q hq=>hK3.2.2.2 q (by simp [uid] at hq;subst hq;omega) (hKne q hq)
       ·intro K' o n c e;cases e;exact hKk
       ·simp;omega
       ·intro z hz
        rcases List.mem_append.1 hz with hz | hz
        ·exact h.lst z (List.mem_of_mem_take hz)
        ·rw [List.mem_singleton.1 hz];exact ⟨_,.inl rfl⟩
       ·intro j t ht
        cases j with
        | zero=>
         simp at ht;subst ht
         refine ⟨ints (delAll s l),?_,.inl rfl⟩
         have:(els.take R.head).length=R.head:=by simp;omega
         show (els.take R.head ++ [ints (delAll s l)])[R.head+0]? =_
         rw [Nat.add_zero,List.getElem?_append_right (by omega),this];simp
        | succ j=>simp at ht
       ·intro g hg2
        show (P' g && !P' (60+g))=decide ((g:Int)∈delAll R.grp l)
        rw [hp1 g hg2,hp2 g hg2]
        have h1:=h.has g hg2
        have hm:decide ((g:Int)∈delAll R.grp l)=(decide ((g:Int)∈R.grp) && !decide ((g:Int)∈l)):=by
         rw [Bool.eq_iff_iff];simp [mem_delAll]
        rw [hm,← h1]
        cases P g <;> cases P (60+g) <;> simp
       ·intro g hg2
        show P' (60+g)=decide ((g:Int)∈goneAll R.gone l)
        rw [hp2 g hg2,h.gone g hg2]
        rw [Bool.eq_iff_iff];simp [mem_goneAll]
        exact Or.comm
       ·have:=hK3.2.2.1;simp;have:=hA.low;omega
       ·refine ⟨by simp,?_,?_,h.ok.grp.delAll l,h.ok.gone.goneAll fun g hg=>h.ok.grp.2 g (hin g hg)⟩
        ·simp;omega
        ·intro t ht
         simp at ht;subst ht;exact hrt.delAll l
       ·refine Keep.set ?_ (.inl (by simp)) _
        refine (hK2.mono (fp':=k::[K]) (fun x hx _=>by simp at hx;simp [hx])).trans hK3 (fun x hx=>.inl (by simp at hx;simp [hx]))
       ·exact fun x hx=>.inl hx
     ·refine ⟨0,P,by omega,?_⟩
      simp +decide only [evw,evz,↓reduceIte,e0,e1]
      simp only [List.not_mem_nil,decide_false,Bool.or_false]
      exact ⟨hk2,fun _ _=>trivial,Keep.refl _ _⟩
   ·refine ⟨0,by omega,?_⟩
    simp +decide only [evw,evz,↓reduceIte,e0,e1]
    simp only [delAll,List.filter_nil,List.map_nil]
    exact ⟨Own.nil _ _ _ _,Keep.refl _ _⟩
 ·refine ⟨0,by omega,?_⟩
  simp +decide only [evw,evz,↓reduceIte]
  simp
end
theorem rc_cell {a b:Nat} {P:Nat→Bool} {u:AVal} (hu:u.isCell=true):(refCells a b P u).all AVal.isCell=true:=by
 rw [List.all_eq_true]
 intro z hz
 simp only [refCells,List.mem_cons,List.mem_append,List.not_mem_nil,or_false] at hz
 rcases hz with rfl | rfl | hz | rfl
 ·rfl
 ·rfl
 ·simp only [bitRow,List.mem_map] at hz
  obtain ⟨_,_,rfl⟩:=hz;rfl
 ·exact hu
theorem RefAt.ucell {σ:Heap} {k:Nat} {R:Revs} {P:Nat→Bool} {u:AVal} {els:List AVal} (h:RefAt σ k R P u els):u.isCell=true:=by
 rcases h.row.2 with ⟨rfl,_⟩ | ⟨K,cap,cs,opn,rfl,_⟩ <;> rfl
theorem rrcopy_at {σ:Heap} {k:Nat} {R:Revs} {fp:List Nat} (h0:IsRef σ k R fp):MSpec Tryz.prog n_palinoderef20_Revs_Copy [.ptr (.new k) 0] σ fun v τ=>∃ kr fp',v= .ptr (.new kr) 0∧IsRef τ kr R fp'∧(∀ x∈fp',σ.next≤x)∧Keep [] σ τ:=by
 obtain ⟨P,u,els,h,rfl⟩:=h0
 refine spec_of_awp mixed c_palinoderef20_Revs_Copy (tl rfl) ?_
 unfold f_palinoderef20_Revs_Copy
 have hb:=h.blk
 have hlen:=rc_len (a:=R.head) (b:=R.floor) (P:=P) (u:=u)
 have hcell:=rc_cell (a:=R.head) (b:=R.floor) (P:=P) h.ucell
 have hu:=rc_u (a:=R.head) (b:=R.floor) (P:=P) (u:=u)
 have hld:cellsFrom σ (.new k) 0 123=some (refCells R.head R.floor P u):=by
  have:=cellsFrom_whole hb;rw [hlen] at this;exact this
 generalize hcs:refCells R.head R.floor P u=cs at hb hlen hcell hu hld
 obtain ⟨z0,hz0⟩:∃ z0,z0=([AVal.int .i64 0,AVal.int .i64 0] ++ (bitRow 120 (fun _=>false) ++ [AVal.nils])):=⟨_,rfl⟩
 have hz0l:z0.length=123:=by rw [hz0];simp [bitRow_len]
 rw [← hz0]
 have hL:∀ (a:AVal),a= .ptr (.new k) 0→aLoad (some 123) a σ=some (.agg cs):=by
  rintro a rfl;simp only [aLoad,hld,Option.map_some]
 have hkl:=h.low
 have hset:∀ x:AVal,cs.take 122 ++ [x] ++ cs.drop 123=refCells R.head R.floor P x:=fun x=>by rw [← hcs];exact rc_setu x
 have d1:decide (cs.length=123)=true:=by rw [hlen];rfl
 have d2:decide (cs.length≤z0.length)=true:=by rw [hlen,hz0l];rfl
 have d3:cs ++ z0.drop cs.length=cs:=by rw [List.drop_eq_nil_of_le (by omega),List.append_nil]
 have hne:els≠[]:=by
  intro e
  have:=h.len
  have h1:=List.length_pos_iff.2 h.ok.one
  rw [e] at this;simp at this;omega
 obtain ⟨K,cap,rw0,opn,rfl,r1,r2,r3,r4,r5⟩:∃ K cap rw0 opn,u= .slc (.new K) 0 els.length cap∧σ.get K=some (.cells rw0 opn)∧rw0.take (els.length * 1)=els.flatMap AVal.cells∧0≤K∧K<σ.next∧els.length≤rw0.length:=by
  rcases h.row.2 with ⟨_,e⟩ | ⟨K,cap,rw0,opn,q1,q2,q3,q4,q5,q6⟩
  ·exact absurd e hne
  ·refine ⟨K,cap,rw0,opn,q1,q2,q3,q4,q5,?_⟩
   rcases q6 with ⟨_,_,h1⟩ | ⟨c,_,h1,h2⟩ <;> omega
 obtain ⟨τ1,hτ1⟩:∃ τ1,τ1=(σ.new (.cells z0 none)).set σ.next (.cells cs none):=⟨_,rfl⟩
 have hn1:τ1.next=σ.next+1:=by rw [hτ1];rfl
 have hk1:Keep [] σ τ1:=by rw [hτ1];exact (Keep.refl _ _).junk _ _
 have hgk:τ1.get k=some (.cells cs none):=by rw [hk1.get hkl];exact hb
 have hgK:τ1.get K=some (.cells rw0 opn):=by rw [hk1.get r4];exact r1
 have hgn:τ1.get σ.next=some (.cells cs none):=by rw [hτ1,Heap.get_set,if_pos rfl]
 have hfew:=h.few
 have hel:=h.len
 obtain ⟨x',τ2,g1,g2,g3,g4⟩:=own_app (bytes:=24) (y:= .slc (.new K) 0 els.length cap) (ys:=els) (Own.nil τ1.next τ1 t_ints 1) (Nat.le_refl _) rfl (by
  simp only [srcCells,slcCells,Nat.le_refl,if_true]
  rw [cellsFrom_get hgK _ _ (by omega),List.drop_zero,r2]) h.row.1 (by
   rw [lst_flat h.lst,List.all_eq_true]
   intro z hz
   obtain ⟨l,hl⟩:=h.lst z hz
   exact hl.cells.2.1) (by omega) (by omega) (by unfold maxRoom;simp;omega)
 rw [List.nil_append] at g2
 have hgn2:τ2.get σ.next=some (.cells cs none):=by rw [g3.2.2.2 _ (by omega)];exact hgn
 have hle:decide (122+1≤cs.length)=true:=by rw [hlen];rfl
 obtain ⟨K',n',rfl⟩:∃ K' n',x'= .slc (.new K') 0 n' (.gr 1):=by
  rcases g2.2 with ⟨_,e⟩ | ⟨K',e,_⟩
  ·exact absurd e hne
  ·exact ⟨K',_,e⟩
 have hK':=g2.low rfl
 have hnek:(σ.next=k)=False:=eq_false (by omega)
 have g1':=g1
 rw [hτ1] at g1'
 simp +decide only [↓evd,evw,reduceCtorEq,↓reduceIte,↓hld,hb,d1,d2,hcell,d3,hnek,hu,g1',hgn2,hle,hset]
 have hk2:Keep [] σ τ2:=⟨g3.1.trans hk1.1,g3.2.1.trans hk1.2.1,by have:=g3.2.2.1;omega,fun q hq _=>by rw [g3.2.2.2 q (by omega)];exact hk1.get hq⟩
 refine ⟨σ.next,_,rfl,⟨P,.slc (.new K') 0 n' (.gr 1),els,⟨by rw [Heap.get_set,if_pos rfl],?_,?_,h.len,h.lst,h.at_,h.has,h.gone,?_,h.ok⟩,rfl⟩,?_,hk2.set (.inr (Nat.le_refl _)) _⟩
 ·have h1:Own 0 τ2 t_ints 1 (.slc (.new K') 0 n' (.gr 1)) els:=⟨g2.1,g2.2.imp id fun ⟨K,q1,q2,q3,q4⟩=>⟨K,q1,q2,Nat.zero_le _,q4⟩⟩
  exact Own.row (Own.set h1 (fun K o n c e hk=>by injection e with e1;injection e1 with e2;omega) _)
 ·intro K o n c e hk
  injection e with e1;injection e1 with e2;omega
 ·have:=g3.2.2.1;simp only [Heap.set_next];omega
 ·intro x hx
  simp only [uid,List.mem_cons,List.not_mem_nil,or_false] at hx
  omega
structure RefEAt (σ:Heap) (k:Nat) (E:Eng) (x:AVal) (kr:Nat) (fpr:List Nat):Prop where
 blk:σ.get k=some (.cells [.ptr (.new kr) 0,x] none)
 lst:x=eAtoms E.l∨(x= .nils∧E.l=[])
 revs:IsRef σ kr E.R fpr
 low:k<σ.next
 off:k∉fpr
 ok:E.Ok
def IsRefE (σ:Heap) (k:Nat) (E:Eng) (fp:List Nat):Prop:=∃ x kr fpr,RefEAt σ k E x kr fpr∧fp=k::fpr
theorem RefEAt.sees {σ:Heap} {k:Nat} {E:Eng} {x:AVal} {kr:Nat} {fpr:List Nat} (h:RefEAt σ k E x kr fpr) (τ:Heap):Sees τ x τ (eAtoms E.l):=by
 rcases h.lst with rfl | ⟨rfl,e⟩
 ·exact Sees.refl _ _
 ·rw [e];exact Sees.nils τ 5
theorem IsRefE.keep {σ τ:Heap} {k:Nat} {E:Eng} {fp fp':List Nat} (h:IsRefE σ k E fp) (hk:Keep fp' σ τ) (hd:∀ x∈fp,x∉fp'):IsRefE τ k E fp:=by
 obtain ⟨x,kr,fpr,h,rfl⟩:=h
 exact ⟨x,kr,fpr,⟨by rw [hk.2.2.2 k h.low (hd k (by simp))];exact h.blk,h.lst,h.revs.keep hk (fun y hy=>hd y (List.mem_cons_of_mem _ hy)),Nat.lt_of_lt_of_le h.low hk.2.2.1,h.off,h.ok⟩,rfl⟩
theorem IsRefE.low {σ:Heap} {k:Nat} {E:Eng} {fp:List Nat} (h:IsRefE σ k E fp):∀ x∈fp,x<σ.next:=by
 obtain ⟨x,kr,fpr,h,rfl⟩:=h
 intro y hy
 rcases List.mem_cons.1 hy with rfl | hy
 ·exact h.low
 ·exact h.revs.low y hy
theorem rnewE_at (σ:Heap):MSpec Tryz.prog n_palinoderef20_New [] σ fun v τ=>∃ k fp,v= .ptr (.new k) 0∧IsRefE τ k Eng.new fp∧(∀ x∈fp,σ.next≤x)∧Keep [] σ τ:=by
 refine spec_of_awp mixed c_palinoderef20_New (tl rfl) ?_
 unfold f_palinoderef20_New
 simp +decide only [↓evd,evw,reduceCtorEq]
 refine (rnew_at σ).mono ?_
 rintro v τ ⟨rfl,⟨fp,hR,hf⟩,hK⟩
 simp +decide only [↓evd,evw,reduceCtorEq,↓reduceIte]
 have hn:=hK.2.2.1
 have hK2:Keep [] τ (τ.new (.cells [.ptr (.new (σ.next+1)) 0,.nils] none)):=(Keep.refl _ _).new _
 refine ⟨τ.next,_,rfl,⟨.nils,σ.next+1,fp,⟨by rw [Heap.get_new,if_pos rfl],.inr ⟨rfl,rfl⟩,hR.keep hK2 (fun x _=>by simp),by simp,fun hm=>by have:=hR.low _ hm;omega,Eng.new_ok⟩,rfl⟩,?_,hK.new _⟩
 intro x hx
 rcases List.mem_cons.1 hx with rfl | hx
 ·exact hn
 ·exact hf x hx
theorem rtextE_at {σ:Heap} {k:Nat} {E:Eng} {fp:List Nat} (h:IsRefE σ k E fp) (n:Int):ACall Tryz.prog n_palinoderef20_Engine_Text [.ptr (.new k) 0,.int .i64 n] σ (.tup [.str (if E.R.live n then E.text n else []),.bool (E.R.live n)]) σ:=by
 obtain ⟨x,kr,fpr,h,rfl⟩:=h
 obtain ⟨P,u,els,hR,_⟩:=h.revs
 refine exact_call (spec_of_awp mixed c_palinoderef20_Engine_Text (tl rfl) ?_)
 unfold f_palinoderef20_Engine_Text
 have hb:=h.blk
 have hlv:=rlive_call hR n
 have hun:=rundone_call hR n
 have huf:=undone_few hR.ok n
 have htx:=rtext_call σ E.l n (E.R.undone n) huf (h.ok.fits hR.ok)
 have hsee:=h.sees σ
 simp +decide only [↓evd,evw,reduceCtorEq,↓reduceIte,hb]
 refine MSpec.of hlv ?_
 cases hl:E.R.live n
 ·simp +decide only [↓evd,evw,reduceCtorEq,↓reduceIte]
 ·simp +decide only [↓evd,evw,reduceCtorEq,↓reduceIte]
  with_reducible refine draw_of_grow (fun _=>True) (ms:=[false,false,false,false,false,false,false,false,false,false,false,false,false,false]) (by kernel_rfl) ?_
  simp +decide only [↓evd,evw,↓reduceIte,hb]
  refine MSpec.of hun ⟨.inr Keeps.rfl,?_⟩
  simp +decide only [↓evd,evw,evz,↓reduceIte]
  refine mspec_seen (.cons hsee (.cons (Sees.refl _ _) (.cons (Sees.refl _ _) (.nil _)))) ?_
  refine MSpec.of htx ⟨.inr Keeps.rfl,?_⟩
  simp +decide only [↓evd,evw,↓reduceIte]
  rfl
end Go.Proofs.YtioampofolilnaaGreat.M
namespace Go.Proofs.YtioampofolilnaaGreat.M
open Go Go.Mini
attribute [local congr] go1_congr goM_congr goG_congr goV_congr drawwp_congr Xwp_congr
set_option maxHeartbeats 4000000 in
theorem redit_at {σ:Heap} {k:Nat} {E E':Eng} {fp:List Nat} {base group rank n c:Int} {cs:List Chg} (h0:IsRefE σ k E fp) (hcl:cs.length≤1000000) (hc5:∀ c∈cs,c.text.length≤5000) (e:editE E base group rank cs=(E',n,c)):
  MSpec Tryz.prog n_palinoderef20_Engine_Edit [.ptr (.new k) 0,.int .i64 base,.int .i64 group,.int .i64 rank,eChgs cs] σ fun v τ=>v= .tup [.int .i64 n,.int .i64 c]∧∃ fp',IsRefE τ k E' fp'∧Keep fp σ τ∧Fresh fp σ fp':=by
 obtain ⟨x,kr,fpr,h,rfl⟩:=id h0
 refine spec_of_awp mixed c_palinoderef20_Engine_Edit (tl rfl) ?_
 unfold f_palinoderef20_Engine_Edit
 have hroom:maxRoom=68719476736:=rfl
 have hc':∀ c∈cs,ChgFits c:=fun c h=>by have:=hc5 c h;unfold ChgFits;omega
 have hRok:=h.revs.ok
 have htx:=rtextE_at h0 base
 have same:∀ {τ:Heap} {n0 c0:Int},Keep [] σ τ→(E,n0,c0)=(E',n,c)→AVal.tup [.int .i64 n0,.int .i64 c0]=AVal.tup [.int .i64 n,.int .i64 c]∧∃ fp',IsRefE τ k E' fp'∧Keep (k::fpr) σ τ∧Fresh (k::fpr) σ fp':=by
  intro τ n0 c0 hk he
  cases he
  exact ⟨rfl,_,h0.keep hk (fun x _=>by simp),hk.mono (fun x hx=>nomatch hx),fun x hx=>.inl hx⟩
 rw [editE] at e
 cases hl:E.R.live base
 ·rw [if_pos hl] at e
  rw [hl] at htx
  simp +decide only [↓evd,evw,evz,reduceCtorEq,↓reduceIte]
  refine MSpec.of htx ?_
  simp +decide only [↓evd,evw,reduceCtorEq,↓reduceIte]
  exact (same (Keep.refl _ _) e)
 rw [if_neg (by rw [hl];simp)] at e
 rw [hl] at htx
 simp only [if_true] at htx
 have htl:(E.text base).length≤maxRoom:=by
  have:=atomsText_len base (E.R.undone base) E.l
  have:=(h.ok.fits hRok).2.2
  simp only [Eng.text];omega
 have hck:=rcheck_call σ (E.text base) cs htl (by omega) hc'
 simp +decide only [↓evd,evw,evz,reduceCtorEq,↓reduceIte]
 refine MSpec.of htx ?_
 simp +decide only [↓evd,evw,reduceCtorEq,↓reduceIte]
 refine MSpec.of hck ?_
 by_cases hc0:check (E.text base) cs=0
 case neg=>
  rw [if_pos hc0] at e
  have hb:(check (E.text base) cs != 0)=true:=by simpa using hc0
  simp +decide only [↓evd,evw,reduceCtorEq,↓reduceIte,hb]
  exact (same (Keep.refl _ _) e)
 rw [if_neg (by simpa using hc0)] at e
 have hb:(check (E.text base) cs != 0)=false:=by simpa using hc0
 have hbk:=h.blk
 simp +decide only [↓evd,evw,reduceCtorEq,↓reduceIte,hb,hbk]
 refine (rrcopy_at h.revs).mono ?_
 rintro v τ ⟨kr2,fp2,rfl,hR2,hf2,hK⟩
 rcases had:addR E.R group with ⟨R',now,c1⟩
 have hadd:=radd_at hR2 had
 simp +decide only [↓evd,evw,reduceCtorEq,↓reduceIte]
 refine hadd.mono ?_
 rintro v τ1 ⟨rfl,fp3,hR3,hK3,hF3⟩
 have hf3:∀ x∈fp3,σ.next≤x:=fun x hx=>by
  rcases hF3 x hx with h | h
  ·exact hf2 x h
  ·have:=hK.2.2.1;omega
 have hK1:Keep [] σ τ1:=hK.trans hK3 (fun x hx=>.inr (hf2 x hx))
 rw [had] at e
 simp only at e
 by_cases h1:c1=0
 case neg=>
  rw [if_pos h1] at e
  have hb1:(c1 != 0)=true:=by simpa using h1
  simp +decide only [↓evd,evw,reduceCtorEq,↓reduceIte,hb1]
  exact (same hK1 e)
 rw [if_neg (by simpa using h1)] at e
 subst h1
 obtain ⟨a1,a2,a3,a4,a5,a6⟩:=addR_ok (by rw [had]) hRok
 rw [had] at a5 a6
 have hnow:now=(E.R.head:Int)+1:=by have:=congrArg (fun q=>q.2.1) a5;exact this
 have hhd:R'.head=E.R.head+1:=a6
 have hb1:((0:Int) != 0)=false:=rfl
 by_cases h2:rank<0∨1000000<rank
 ·rw [if_pos h2] at e
  rcases h2 with h2 | h2
  ·simp +decide only [↓evd,evw,reduceCtorEq,↓reduceIte,hb1,h2]
   exact (same hK1 e)
  ·have h3:¬rank<0:=by omega
   simp +decide only [↓evd,evw,reduceCtorEq,↓reduceIte,hb1,h2,h3]
   exact (same hK1 e)
 rw [if_neg h2] at e
 have h3:¬rank<0:=by omega
 have h4:¬1000000<rank:=by omega
 have hE1:=h0.keep hK1 (fun x _=>by simp)
 have hbk1:τ1.get k=some (.cells [.ptr (.new kr) 0,x] none):=by rw [hK1.get h.low];exact h.blk
 have hrv1:=h.revs.keep hK1 (fun x _=>by simp)
 obtain ⟨P,u,els,hRA,_⟩:=hrv1
 have hun:=rundone_call hRA base
 have huf:=undone_few hRok base
 have hhead:=head_le hRok
 have hup:=rupon_call τ1 E.l base (E.R.undone base) cs now group rank huf (h.ok.fits hRok) (by have:=h.ok.len;omega) (fun a ha=>by have:=h.ok.cuts a ha;omega) hc5 hc0
 obtain ⟨f1,f2⟩:=upon_facts h.ok (base:=base) (group:=group) (rank:=rank) (now:=now) (cs:=cs) (u:=E.R.undone base)
 have hok':(editE E base group rank cs).1.Ok:=editE_ok h.ok hRok base group rank cs
 rw [editE,if_neg (by rw [hl];simp),if_neg (by simpa using hc0),had] at hok'
 simp only at hok'
 rw [if_neg (by simp),if_neg h2] at hok'
 have hupl:aLen (eAtoms (upon E.l base (E.R.undone base) cs now group rank))=some (.int .i64 ((upon E.l base (E.R.undone base) cs now group rank).length:Nat)):=by simp [eAtoms,aLen_fsl]
 generalize upon E.l base (E.R.undone base) cs now group rank=l' at e hup f1 f2 hok' hupl
 have hsee:=h.sees τ1
 simp only [ints,eChgs] at hun hup
 simp +decide only [↓evd,evw,reduceCtorEq,↓reduceIte,hb1,h3,h4]
 with_reducible refine draw_of_grow (fun _=>True) (ms:=[false,false,false,false,false,false,false,false,false,false,false,false,false,false,false,false,false]) (by kernel_rfl) ?_
 simp +decide only [↓evd,evw,↓reduceIte,hbk1]
 refine MSpec.of hun ⟨.inr Keeps.rfl,?_⟩
 simp +decide only [↓evd,evw,↓reduceIte]
 refine mspec_seen (.cons hsee (.cons (Sees.refl _ _) (.cons (Sees.refl _ _) (.cons (Sees.refl _ _) (.cons (Sees.refl _ _) (.cons (Sees.refl _ _) (.cons (Sees.refl _ _) (.nil _)))))))) ?_
 refine MSpec.of hup ⟨.inr Keeps.rfl,?_⟩
 by_cases h5:4000<l'.length
 ·rw [if_pos h5] at e
  have h5':(4000:Int)<(l'.length:Int):=by omega
  simp +decide only [↓evd,evw,evz,reduceCtorEq,↓reduceIte,h5']
  exact (same hK1 e)
 rw [if_neg h5] at e hok'
 have h5':¬(4000:Int)<(l'.length:Int):=by omega
 obtain ⟨P3,u3,els3,hRA3,hfp3⟩:=id hR3
 have hun3:=rundone_call hRA3 now
 have hR3ok:=hR3.ok
 have huf3:=undone_few hR3ok now
 have hfit:Fits l':=fits_of (n:=201) (by omega) f1 (fun a ha=>by have:=f2 a ha;omega) (by omega)
 have htx3:=rtext_call τ1 l' now (R'.undone now) huf3 hfit
 have hnn:((R'.head:Nat):Int)=now:=by rw [hhd,hnow];rfl
 simp only [Eng.text,hnn] at e hok'
 generalize atomsText now (R'.undone now) l'=t at e htx3 hok'
 simp only [ints,eAtoms] at hun3 htx3
 simp +decide only [↓evd,evw,evz,reduceCtorEq,↓reduceIte,h5']
 refine MSpec.of hun3 ?_
 simp +decide only [↓evd,evw,↓reduceIte]
 refine MSpec.of htx3 ?_
 by_cases h6:20000<t.length
 ·rw [if_pos h6] at e
  have h6':(20000:Int)<(t.length:Int):=by omega
  simp +decide only [↓evd,evw,reduceCtorEq,↓reduceIte,h6']
  exact (same hK1 e)
 rw [if_neg h6] at e hok'
 have h6':¬(20000:Int)<(t.length:Int):=by omega
 cases e
 simp +decide only [↓evd,evw,reduceCtorEq,↓reduceIte,h6',hbk1]
 have hks:=(((Keep.refl [k] τ1).set (j:=k) (.inl (by simp)) (.cells [.ptr (.new kr2) 0,x] none)).set (j:=k) (.inl (by simp)) (.cells [.ptr (.new kr2) 0,.fsl 5 (l'.map eAtom)] none))
 have hkn:∀ y∈fp3,y∉[k]:=fun y hy hm=>by
  have:=hf3 y hy
  have:=h.low
  rw [List.mem_singleton] at hm;omega
 refine ⟨k::fp3,⟨eAtoms l',kr2,fp3,⟨by rw [Heap.get_set,if_pos rfl];rfl,.inl rfl,hR3.keep hks hkn,Nat.lt_of_lt_of_le h.low (by simpa using hK1.2.2.1),fun hm=>hkn k hm (by simp),hok'⟩,rfl⟩,?_,?_⟩
 ·exact ((hK1.mono (fun x hx=>nomatch hx)).set (.inl (by simp)) _).set (.inl (by simp)) _
 ·intro y hy
  rcases List.mem_cons.1 hy with rfl | hy
  ·exact .inl (by simp)
  ·exact .inr (hf3 y hy)
set_option maxHeartbeats 4000000 in
theorem rtoggleE_at {σ:Heap} {k:Nat} {E E':Eng} {fp:List Nat} {g n c:Int} (h0:IsRefE σ k E fp) (e:toggleE E g=(E',n,c)):
  MSpec Tryz.prog n_palinoderef20_Engine_Toggle [.ptr (.new k) 0,.int .i64 g] σ fun v τ=>v= .tup [.int .i64 n,.int .i64 c]∧∃ fp',IsRefE τ k E' fp'∧Keep fp σ τ∧Fresh fp σ fp':=by
 obtain ⟨x,kr,fpr,h,rfl⟩:=id h0
 refine spec_of_awp mixed c_palinoderef20_Engine_Toggle (tl rfl) ?_
 unfold f_palinoderef20_Engine_Toggle
 have hRok:=h.revs.ok
 have same:∀ {τ:Heap} {n0 c0:Int},Keep [] σ τ→(E,n0,c0)=(E',n,c)→AVal.tup [.int .i64 n0,.int .i64 c0]=AVal.tup [.int .i64 n,.int .i64 c]∧∃ fp',IsRefE τ k E' fp'∧Keep (k::fpr) σ τ∧Fresh (k::fpr) σ fp':=by
  intro τ n0 c0 hk he
  cases he
  exact ⟨rfl,_,h0.keep hk (fun x _=>by simp),hk.mono (fun x hx=>nomatch hx),fun x hx=>.inl hx⟩
 have hok':(toggleE E g).1.Ok:=toggleE_ok h.ok hRok g
 rw [toggleE] at e hok'
 have hbk:=h.blk
 simp +decide only [↓evd,evw,reduceCtorEq,↓reduceIte,hbk]
 refine (rrcopy_at h.revs).mono ?_
 rintro v τ ⟨kr2,fp2,rfl,hR2,hf2,hK⟩
 rcases had:toggleR E.R g with ⟨R',now,c1⟩
 have hadd:=rtoggle_at hR2 had
 simp +decide only [↓evd,evw,reduceCtorEq,↓reduceIte]
 refine hadd.mono ?_
 rintro v τ1 ⟨rfl,fp3,hR3,hK3,hF3⟩
 have hf3:∀ x∈fp3,σ.next≤x:=fun x hx=>by
  rcases hF3 x hx with h | h
  ·exact hf2 x h
  ·have:=hK.2.2.1;omega
 have hK1:Keep [] σ τ1:=hK.trans hK3 (fun x hx=>.inr (hf2 x hx))
 rw [had] at e hok'
 simp only at e hok'
 by_cases h1:c1=0
 case neg=>
  rw [if_pos h1] at e
  have hb1:(c1 != 0)=true:=by simpa using h1
  simp +decide only [↓evd,evw,reduceCtorEq,↓reduceIte,hb1]
  exact (same hK1 e)
 rw [if_neg (by simpa using h1)] at e hok'
 subst h1
 obtain ⟨a1,a4,a5,a6⟩:=toggleR_ok (by rw [had]) hRok
 rw [had] at a5 a6
 have hnow:now=(E.R.head:Int)+1:=by have:=congrArg (fun q=>q.2.1) a5;exact this
 have hhd:R'.head=E.R.head+1:=a6
 have hb1:((0:Int) != 0)=false:=rfl
 have hbk1:τ1.get k=some (.cells [.ptr (.new kr) 0,x] none):=by rw [hK1.get h.low];exact h.blk
 obtain ⟨P3,u3,els3,hRA3,hfp3⟩:=id hR3
 have hun3:=rundone_call hRA3 now
 have huf3:=undone_few hR3.ok now
 have htx3:=rtext_call τ1 E.l now (R'.undone now) huf3 (h.ok.fits hRok)
 have hnn:((R'.head:Nat):Int)=now:=by rw [hhd,hnow];rfl
 simp only [Eng.text,hnn] at e hok'
 generalize atomsText now (R'.undone now) E.l=t at e htx3 hok'
 have hsee:=h.sees τ1
 simp only [ints] at hun3 htx3
 simp +decide only [↓evd,evw,reduceCtorEq,↓reduceIte,hb1]
 with_reducible refine draw_of_grow (fun _=>True) (ms:=[false,false,false,false,false,false,false,false,false,false,false]) (by kernel_rfl) ?_
 simp +decide only [↓evd,evw,↓reduceIte,hbk1]
 refine MSpec.of hun3 ⟨.inr Keeps.rfl,?_⟩
 simp +decide only [↓evd,evw,↓reduceIte]
 refine mspec_seen (.cons hsee (.cons (Sees.refl _ _) (.cons (Sees.refl _ _) (.nil _)))) ?_
 refine MSpec.of htx3 ⟨.inr Keeps.rfl,?_⟩
 by_cases h6:20000<t.length
 ·rw [if_pos h6] at e
  have h6':(20000:Int)<(t.length:Int):=by omega
  simp +decide only [↓evd,evw,reduceCtorEq,↓reduceIte,h6']
  exact (same hK1 e)
 rw [if_neg h6] at e hok'
 have h6':¬(20000:Int)<(t.length:Int):=by omega
 cases e
 simp +decide only [↓evd,evw,reduceCtorEq,↓reduceIte,h6',hbk1]
 have hks:=((Keep.refl [k] τ1).set (j:=k) (.inl (by simp)) (.cells [.ptr (.new kr2) 0,x] none))
 have hkn:∀ y∈fp3,y∉[k]:=fun y hy hm=>by
  have:=hf3 y hy
  have:=h.low
  rw [List.mem_singleton] at hm;omega
 refine ⟨k::fp3,⟨x,kr2,fp3,⟨by rw [Heap.get_set,if_pos rfl],h.lst,hR3.keep hks hkn,Nat.lt_of_lt_of_le h.low (by simpa using hK1.2.2.1),fun hm=>hkn k hm (by simp),hok'⟩,rfl⟩,?_,?_⟩
 ·exact (hK1.mono (fun x hx=>nomatch hx)).set (.inl (by simp)) _
 ·intro y hy
  rcases List.mem_cons.1 hy with rfl | hy
  ·exact .inl (by simp)
  ·exact .inr (hf3 y hy)
end Go.Proofs.YtioampofolilnaaGreat.M
namespace Go.Proofs.YtioampofolilnaaGreat.M
open Go Go.Mini
attribute [local congr] go1_congr goM_congr goG_congr goV_congr drawwp_congr Xwp_congr
def leftA (gs u:List Int) (a:Atom):Atom × Bool:=
 if a.group∈gs∧a.group∈u then (a,false) else
 if (a.cuts.any fun c=>staysG gs u c.group)=true then ({a with group:=if a.group∈gs then -1 else a.group},false) else
 ({a with cuts:=a.cuts.filter (fun c=>!goneG gs u c.group),group:=if a.group∈gs then -1 else a.group},true)
theorem leftA_rest (gs u:List Int) (a:Atom):restA gs u a=if (leftA gs u a).2 then some (leftA gs u a).1 else none:=by
 unfold restA leftA
 by_cases h:a.group∈gs∧a.group∈u
 ·rw [if_pos h,if_pos (by simp [goneG,h.1,h.2])];rfl
 ·have hg:goneG gs u a.group=false:=by
   simp only [goneG]
   by_cases h1:a.group∈gs
   ·have h2:a.group∉u:=fun h2=>h ⟨h1,h2⟩
    simp [h1,h2]
   ·simp [h1]
  rw [if_neg h,hg,Bool.false_or]
  by_cases hs:(a.cuts.any fun c=>staysG gs u c.group)=true
  ·rw [if_pos hs,if_pos hs];rfl
  ·rw [if_neg hs,if_neg hs];rfl
set_option maxHeartbeats 4000000 in
theorem rleft_call (σ:Heap) (a:Atom) (gs u:List Int) (hg:gs.length≤1000000) (hu:u.length≤1000000) (hc:a.cuts.length≤1000000):
  ACall Tryz.prog n_palinoderef20_left [eAtom a,ints gs,ints u] σ (.tup [eAtom (leftA gs u a).1,.bool (leftA gs u a).2]) σ:=by
 refine bare_call (by simp only [AVal.pures,ints_pure,eAtom_pure];rfl) (by simp only [AVal.pure,AVal.pures,eAtom_pure];rfl) (fun W F=>spec_of_awp mixed c_palinoderef20_left (tl rfl) ?_) σ
 unfold f_palinoderef20_left
 have hin:=fun (τ:Heap) (g:Int)=>in_call τ gs g hg
 have hinu:=fun (τ:Heap) (g:Int)=>in_call τ u g hu
 simp only [ints] at hin hinu
 obtain ⟨a1,ha1⟩:∃ a1:Atom,a1={a with group:=if a.group∈gs then -1 else a.group}:=⟨_,rfl⟩
 have b1:a1.cuts=a.cuts:=by rw [ha1]
 have b2:a1.text=a.text:=by rw [ha1]
 have b3:a1.rev=a.rev:=by rw [ha1]
 have b4:a1.rank=a.rank:=by rw [ha1]
 simp +decide only [↓evd,evw,evz,reduceCtorEq,↓reduceIte,eAtom]
 refine MSpec.of (hin _ _) ?_
 by_cases h1:a.group∈gs∧a.group∈u
 ·simp +decide only [↓evd,evw,evz,reduceCtorEq,↓reduceIte,mem_bool h1.1]
  refine MSpec.of (hinu _ _) ?_
  simp +decide only [↓evd,evw,evz,reduceCtorEq,↓reduceIte,mem_bool h1.2]
  exact seen (by rw [leftA,if_pos h1]) rfl rfl
 by_cases h2:a.group∈gs
 ·have h3:a.group∉u:=fun h=>h1 ⟨h2,h⟩
  simp +decide only [↓evd,evw,evz,reduceCtorEq,↓reduceIte,mem_bool h2]
  refine MSpec.of (hinu _ _) ?_
  simp +decide only [↓evd,evw,evz,reduceCtorEq,↓reduceIte,not_mem_bool h3]
  refine awp_loop (fun m fr τ=>∃ (i:Nat),m+i=a.cuts.length∧fr.get 1=ints gs∧fr.get 2=ints u∧fr.get 3= .ptr (.new 0) 0∧fr.get 6= .ptr (.new 1) 0∧fr.get 7= .bool false∧fr.get 9= .int .i64 (i:Nat)∧((a.cuts.take i).any fun c=>staysG gs u c.group)=false∧Own 2 τ t_Cut 2 (fr.get 8) (((a.cuts.take i).filter (fun c=>!goneG gs u c.group)).map eCut)∧τ.get 0=some (.cells [.str a.text,.int .i64 a.rev,.int .i64 (-1),.int .i64 a.rank,.fsl 2 (a.cuts.map eCut)] none)∧τ.get 1=some (.cells [.str [],.int .i64 0,.int .i64 0,.int .i64 0,.nils] none)∧2≤τ.next∧τ.W=W∧τ.F0=F) ?_ (m:=a.cuts.length) ?_
  ·rintro m fr τ ⟨i,hi,e1,e2,e3,e6,e7,e9,hst,hO,q0,q1,hn,hW,hF⟩
   generalize hx:fr.get 8=x at hO
   by_cases hlt:i<a.cuts.length
   ·have hlt':(i:Int)<(a.cuts.length:Int):=by omega
    have hw:=wrap_succ (i:=i) (by omega)
    have hgc:=map_get eCut a.cuts i hlt
    have htk:=List.take_succ_eq_append_getElem hlt
    have hmem:=List.getElem_mem hlt
    generalize a.cuts[i]=c at hgc htk hmem
    have n0:(τ.next=0)=False:=eq_false (by omega)
    have n1:(τ.next=1)=False:=eq_false (by omega)
    have hO2:Own 2 ((τ.new (.cells [.int .i64 0,.int .i64 0] none)).set τ.next (.cells [.int .i64 c.rev,.int .i64 c.group] none)) t_Cut 2 x (((a.cuts.take i).filter (fun c=>!goneG gs u c.group)).map eCut):=Own.var2 hO _ _
    have hfl:((a.cuts.take i).filter (fun c=>!goneG gs u c.group)).length≤1000000:=by
     have:=List.length_filter_le (fun c:Cut=>!goneG gs u c.group) (a.cuts.take i)
     rw [List.length_take] at this;omega
    obtain ⟨x',σ',g1,g2,g3,g4,g5,g6,g7⟩:=own_cut hO2 (by simp;omega) hfl c
    simp only [Heap.set_next,Heap.new_next] at g1 g5 g6
    have k0:σ'.get 0=some (.cells [.str a.text,.int .i64 a.rev,.int .i64 (-1),.int .i64 a.rank,.fsl 2 (a.cuts.map eCut)] none):=by
     rw [g6 0 (by omega) (fun hm=>by have:=(own_low hO 0 hm).1;omega),Heap.get_set,if_neg (by omega),Heap.get_new,if_neg (by omega)];exact q0
    have k1:σ'.get 1=some (.cells [.str [],.int .i64 0,.int .i64 0,.int .i64 0,.nils] none):=by
     rw [g6 1 (by omega) (fun hm=>by have:=(own_low hO 1 hm).1;omega),Heap.get_set,if_neg (by omega),Heap.get_new,if_neg (by omega)];exact q1
    simp +decide only [↓evd,evw,evz,reduceCtorEq,↓reduceIte,e1,e3,e9,q0,hlt',hgc,eCut]
    refine MSpec.of (hin _ _) ?_
    by_cases m1:c.group∈gs
    ·simp +decide only [↓evd,evw,evz,reduceCtorEq,↓reduceIte,e2,mem_bool m1]
     refine MSpec.of (hinu _ _) ?_
     by_cases m2:c.group∈u
     ·simp +decide only [↓evd,evw,evz,reduceCtorEq,↓reduceIte,e1,e2,e3,e6,e7,e9,hx,mem_bool m2,hw]
      refine ⟨m - 1,by omega,i+1,by omega,rfl,?_,?_,?_⟩
      ·rw [htk,List.any_append,hst];simp [staysG,m1,m2]
      ·rw [htk,List.filter_append,List.filter_cons]
       have:(!goneG gs u c.group)=false:=by simp [goneG,m1,m2]
       rw [this]
       simpa using hO2
      ·exact ⟨by rw [if_neg (by omega),if_neg (by omega)];exact q0,by rw [if_neg (by omega),if_neg (by omega)];exact q1,by omega,hW,hF⟩
     ·have hany:(a.cuts.any fun c=>staysG gs u c.group)=true:=List.any_eq_true.2 ⟨c,hmem,by simp [staysG,m1,m2]⟩
      simp +decide only [↓evd,evw,reduceCtorEq,↓reduceIte,e3,e6,not_mem_bool m2,q0,q1,n0,n1]
      refine seen ?_ hW hF
      rw [leftA,if_neg h1,if_pos hany]
      rw [if_pos h2]
    ·simp +decide only [↓evd,evw,evz,reduceCtorEq,↓reduceIte,e1,e2,e3,e6,e7,e9,hx,not_mem_bool m1,g1,hw]
     refine ⟨m - 1,by omega,i+1,by omega,rfl,?_,?_,?_⟩
     ·rw [htk,List.any_append,hst];simp [staysG,m1]
     ·rw [htk,List.filter_append,List.filter_cons]
      have:(!goneG gs u c.group)=true:=by simp [goneG,m1]
      rw [this]
      exact g2
     ·exact ⟨k0,k1,by omega,g3.trans hW,g4.trans hF⟩
   ·have hlt':¬(i:Int)<(a.cuts.length:Int):=by omega
    rw [List.take_of_length_le (by omega)] at hO hst
    obtain ⟨τ3,s1,d1⟩:=Own.sees2 hO
    have hL:leftA gs u a=({a with cuts:=a.cuts.filter (fun c=>!goneG gs u c.group),group:=(-1)},true):=by
     rw [leftA,if_neg h1,if_neg (by rw [hst];simp)]
     rw [if_pos h2]
    rw [hL]
    have fin:∀ ρ:Heap,Own 2 ρ t_Cut 2 x ((a.cuts.filter (fun c=>!goneG gs u c.group)).map eCut)→ρ.W=W→ρ.F0=F→∃ τ',Sees ρ (.tup [.agg [.str a.text,.int .i64 a.rev,.int .i64 (-1),.int .i64 a.rank,x],.bool true]) τ' (.tup [.agg [.str a.text,.int .i64 a.rev,.int .i64 (-1),.int .i64 a.rank,.fsl 2 ((a.cuts.filter (fun c=>!goneG gs u c.group)).map eCut)],.bool true])∧τ'.W=W∧τ'.F0=F:=by
     intro ρ ho hw1 hf1
     obtain ⟨τ4,s2,d2⟩:=Own.sees2 ho
     refine ⟨τ4,SeesL.tup (.cons (SeesL.agg (.cons (Sees.refl _ _) (.cons (Sees.refl _ _) (.cons (Sees.refl _ _) (.cons (Sees.refl _ _) (.cons s2 (.nil _))))))) (.cons (Sees.refl _ _) (.nil _))),?_⟩
     rcases d2 with rfl | ⟨K,_,rfl,hK2⟩ <;> exact ⟨hw1,hf1⟩
    have hset:∀ (j:Nat) (b:ABlk) (ρ:Heap),j<2→Own 2 ρ t_Cut 2 x ((a.cuts.filter (fun c=>!goneG gs u c.group)).map eCut)→Own 2 (ρ.set j b) t_Cut 2 x ((a.cuts.filter (fun c=>!goneG gs u c.group)).map eCut):=fun j b ρ hj ho=>
     Own.set ho (fun K o n c e hk=>by have:=(ho.low e).1;omega) _
    rcases (show x= .nils∨∃ K n,x= .slc (.new K) 0 n (.gr 2) from by
     rcases hO.2 with ⟨h,_⟩ | ⟨K,h,_⟩
     ·exact .inl h
     ·exact .inr ⟨K,_,h⟩) with rfl | ⟨K,n,rfl⟩
    all_goals
     simp +decide only [↓evd,evw,evz,reduceCtorEq,↓reduceIte,e3,e6,e9,hx,q0,q1,hlt']
     exact fin _ (hset _ _ _ (by omega) (hset _ _ _ (by omega) hO)) hW hF
  ·refine ⟨0,by omega,?_⟩
   simp +decide only [evw,evz,↓reduceIte]
   exact ⟨rfl,Own.nil _ _ _ _⟩
 ·simp +decide only [↓evd,evw,reduceCtorEq,↓reduceIte,not_mem_bool h2]
  refine awp_loop (fun m fr τ=>∃ (i:Nat),m+i=a.cuts.length∧fr.get 1=ints gs∧fr.get 2=ints u∧fr.get 3= .ptr (.new 0) 0∧fr.get 6= .ptr (.new 1) 0∧fr.get 7= .bool false∧fr.get 9= .int .i64 (i:Nat)∧((a.cuts.take i).any fun c=>staysG gs u c.group)=false∧Own 2 τ t_Cut 2 (fr.get 8) (((a.cuts.take i).filter (fun c=>!goneG gs u c.group)).map eCut)∧τ.get 0=some (.cells [.str a.text,.int .i64 a.rev,.int .i64 a.group,.int .i64 a.rank,.fsl 2 (a.cuts.map eCut)] none)∧τ.get 1=some (.cells [.str [],.int .i64 0,.int .i64 0,.int .i64 0,.nils] none)∧2≤τ.next∧τ.W=W∧τ.F0=F) ?_ (m:=a.cuts.length) ?_
  ·rintro m fr τ ⟨i,hi,e1,e2,e3,e6,e7,e9,hst,hO,q0,q1,hn,hW,hF⟩
   generalize hx:fr.get 8=x at hO
   by_cases hlt:i<a.cuts.length
   ·have hlt':(i:Int)<(a.cuts.length:Int):=by omega
    have hw:=wrap_succ (i:=i) (by omega)
    have hgc:=map_get eCut a.cuts i hlt
    have htk:=List.take_succ_eq_append_getElem hlt
    have hmem:=List.getElem_mem hlt
    generalize a.cuts[i]=c at hgc htk hmem
    have n0:(τ.next=0)=False:=eq_false (by omega)
    have n1:(τ.next=1)=False:=eq_false (by omega)
    have hO2:Own 2 ((τ.new (.cells [.int .i64 0,.int .i64 0] none)).set τ.next (.cells [.int .i64 c.rev,.int .i64 c.group] none)) t_Cut 2 x (((a.cuts.take i).filter (fun c=>!goneG gs u c.group)).map eCut):=Own.var2 hO _ _
    have hfl:((a.cuts.take i).filter (fun c=>!goneG gs u c.group)).length≤1000000:=by
     have:=List.length_filter_le (fun c:Cut=>!goneG gs u c.group) (a.cuts.take i)
     rw [List.length_take] at this;omega
    obtain ⟨x',σ',g1,g2,g3,g4,g5,g6,g7⟩:=own_cut hO2 (by simp;omega) hfl c
    simp only [Heap.set_next,Heap.new_next] at g1 g5 g6
    have k0:σ'.get 0=some (.cells [.str a.text,.int .i64 a.rev,.int .i64 a.group,.int .i64 a.rank,.fsl 2 (a.cuts.map eCut)] none):=by
     rw [g6 0 (by omega) (fun hm=>by have:=(own_low hO 0 hm).1;omega),Heap.get_set,if_neg (by omega),Heap.get_new,if_neg (by omega)];exact q0
    have k1:σ'.get 1=some (.cells [.str [],.int .i64 0,.int .i64 0,.int .i64 0,.nils] none):=by
     rw [g6 1 (by omega) (fun hm=>by have:=(own_low hO 1 hm).1;omega),Heap.get_set,if_neg (by omega),Heap.get_new,if_neg (by omega)];exact q1
    simp +decide only [↓evd,evw,evz,reduceCtorEq,↓reduceIte,e1,e3,e9,q0,hlt',hgc,eCut]
    refine MSpec.of (hin _ _) ?_
    by_cases m1:c.group∈gs
    ·simp +decide only [↓evd,evw,evz,reduceCtorEq,↓reduceIte,e2,mem_bool m1]
     refine MSpec.of (hinu _ _) ?_
     by_cases m2:c.group∈u
     ·simp +decide only [↓evd,evw,evz,reduceCtorEq,↓reduceIte,e1,e2,e3,e6,e7,e9,hx,mem_bool m2,hw]
      refine ⟨m - 1,by omega,i+1,by omega,rfl,?_,?_,?_⟩
      ·rw [htk,List.any_append,hst];simp [staysG,m1,m2]
      ·rw [htk,List.filter_append,List.filter_cons]
       have:(!goneG gs u c.group)=false:=by simp [goneG,m1,m2]
       rw [this]
       simpa using hO2
      ·exact ⟨by rw [if_neg (by omega),if_neg (by omega)];exact q0,by rw [if_neg (by omega),if_neg (by omega)];exact q1,by omega,hW,hF⟩
     ·have hany:(a.cuts.any fun c=>staysG gs u c.group)=true:=List.any_eq_true.2 ⟨c,hmem,by simp [staysG,m1,m2]⟩
      simp +decide only [↓evd,evw,reduceCtorEq,↓reduceIte,e3,e6,not_mem_bool m2,q0,q1,n0,n1]
      refine seen ?_ hW hF
      rw [leftA,if_neg h1,if_pos hany]
      rw [if_neg h2]
    ·simp +decide only [↓evd,evw,evz,reduceCtorEq,↓reduceIte,e1,e2,e3,e6,e7,e9,hx,not_mem_bool m1,g1,hw]
     refine ⟨m - 1,by omega,i+1,by omega,rfl,?_,?_,?_⟩
     ·rw [htk,List.any_append,hst];simp [staysG,m1]
     ·rw [htk,List.filter_append,List.filter_cons]
      have:(!goneG gs u c.group)=true:=by simp [goneG,m1]
      rw [this]
      exact g2
     ·exact ⟨k0,k1,by omega,g3.trans hW,g4.trans hF⟩
   ·have hlt':¬(i:Int)<(a.cuts.length:Int):=by omega
    rw [List.take_of_length_le (by omega)] at hO hst
    obtain ⟨τ3,s1,d1⟩:=Own.sees2 hO
    have hL:leftA gs u a=({a with cuts:=a.cuts.filter (fun c=>!goneG gs u c.group),group:=a.group},true):=by
     rw [leftA,if_neg h1,if_neg (by rw [hst];simp)]
     rw [if_neg h2]
    rw [hL]
    have fin:∀ ρ:Heap,Own 2 ρ t_Cut 2 x ((a.cuts.filter (fun c=>!goneG gs u c.group)).map eCut)→ρ.W=W→ρ.F0=F→∃ τ',Sees ρ (.tup [.agg [.str a.text,.int .i64 a.rev,.int .i64 a.group,.int .i64 a.rank,x],.bool true]) τ' (.tup [.agg [.str a.text,.int .i64 a.rev,.int .i64 a.group,.int .i64 a.rank,.fsl 2 ((a.cuts.filter (fun c=>!goneG gs u c.group)).map eCut)],.bool true])∧τ'.W=W∧τ'.F0=F:=by
     intro ρ ho hw1 hf1
     obtain ⟨τ4,s2,d2⟩:=Own.sees2 ho
     refine ⟨τ4,SeesL.tup (.cons (SeesL.agg (.cons (Sees.refl _ _) (.cons (Sees.refl _ _) (.cons (Sees.refl _ _) (.cons (Sees.refl _ _) (.cons s2 (.nil _))))))) (.cons (Sees.refl _ _) (.nil _))),?_⟩
     rcases d2 with rfl | ⟨K,_,rfl,hK2⟩ <;> exact ⟨hw1,hf1⟩
    have hset:∀ (j:Nat) (b:ABlk) (ρ:Heap),j<2→Own 2 ρ t_Cut 2 x ((a.cuts.filter (fun c=>!goneG gs u c.group)).map eCut)→Own 2 (ρ.set j b) t_Cut 2 x ((a.cuts.filter (fun c=>!goneG gs u c.group)).map eCut):=fun j b ρ hj ho=>
     Own.set ho (fun K o n c e hk=>by have:=(ho.low e).1;omega) _
    rcases (show x= .nils∨∃ K n,x= .slc (.new K) 0 n (.gr 2) from by
     rcases hO.2 with ⟨h,_⟩ | ⟨K,h,_⟩
     ·exact .inl h
     ·exact .inr ⟨K,_,h⟩) with rfl | ⟨K,n,rfl⟩
    all_goals
     simp +decide only [↓evd,evw,evz,reduceCtorEq,↓reduceIte,e3,e6,e9,hx,q0,q1,hlt']
     exact fin _ (hset _ _ _ (by omega) (hset _ _ _ (by omega) hO)) hW hF
  ·refine ⟨0,by omega,?_⟩
   simp +decide only [evw,evz,↓reduceIte]
   exact ⟨rfl,Own.nil _ _ _ _⟩
theorem own_atoms_sees {B:Nat} {σ:Heap} {x:AVal} {l:List Atom} (h:Own B σ t_Atom 5 x (l.map eAtom)):∃ ρ,Sees σ x ρ (eAtoms l)∧ρ.W=σ.W∧ρ.F0=σ.F0∧ρ.next=σ.next∧∀ q,q<B→ρ.get q=σ.get q:=
 Own.sees h
theorem own_atom {B:Nat} {σ:Heap} {x:AVal} {l:List Atom} (h:Own B σ t_Atom 5 x (l.map eAtom)) (hB:B≤σ.next) (b:Atom) (hr:l.length≤900000):
  ∃ x' τ,aApp t_Atom 5 64 x (.slc (.new σ.next) 0 1 (.ex 1)) (σ.new (.cells [.str b.text,.int .i64 b.rev,.int .i64 b.group,.int .i64 b.rank,.fsl 2 (b.cuts.map eCut)] none))=some (x',τ)∧Own B τ t_Atom 5 x' ((l ++ [b]).map eAtom)∧Ext B σ τ:=by
 have hsrc:=src_one (σ:=σ.new (.cells [.str b.text,.int .i64 b.rev,.int .i64 b.group,.int .i64 b.rank,.fsl 2 (b.cuts.map eCut)] none)) (K:=σ.next) (k:=5) (cs:=[.str b.text,.int .i64 b.rev,.int .i64 b.group,.int .i64 b.rank,.fsl 2 (b.cuts.map eCut)]) (opn:=none) (z:=eAtom b) (cap:= .ex 1) (by rw [Heap.get_new,if_pos rfl]) rfl rfl
 obtain ⟨x',τ,g1,g2,g3,g4⟩:=own_app (bytes:=64) (h.new (.cells [.str b.text,.int .i64 b.rev,.int .i64 b.group,.int .i64 b.rank,.fsl 2 (b.cuts.map eCut)] none)) (Nat.le_succ_of_le hB) hsrc.1 hsrc.2 (by intro y hy;simp at hy;subst hy;rfl) rfl (by omega) (by omega) (by unfold maxRoom;simp;omega)
 refine ⟨x',τ,g1,by rw [List.map_append];exact g2,g3.1,g3.2.1,by have:=g3.2.2.1;simp at this;omega,fun q hq=>?_⟩
 rw [g3.2.2.2 q hq,Heap.get_new,if_neg (by omega)]
theorem restL_left {gs u:List Int} {l:List Atom} {i:Nat} (h:i<l.length):restL gs u (l.take (i+1))=restL gs u (l.take i) ++ (if (leftA gs u l[i]).2 then [(leftA gs u l[i]).1] else []):=by
 rw [List.take_succ_eq_append_getElem h,restL,List.filterMap_append,List.filterMap_cons,leftA_rest]
 cases (leftA gs u l[i]).2 <;> rfl
set_option maxHeartbeats 4000000 in
theorem rforgetE_at {σ:Heap} {k:Nat} {E:Eng} {fp:List Nat} {gs:List Int} (h0:IsRefE σ k E fp) (hg:gs.length≤1000000) (hokz:(forgetR E.R gs).2=0→Eng.Ok ⟨restL gs (E.R.undone (E.R.head:Nat)) E.l,(forgetR E.R gs).1⟩):
  MSpec Tryz.prog n_palinoderef20_Engine_Forget [.ptr (.new k) 0,ints gs] σ fun v τ=>v= .int .i64 (forgetR E.R gs).2∧∃ fp',IsRefE τ k (if (forgetR E.R gs).2≠0 then E else ⟨restL gs (E.R.undone (E.R.head:Nat)) E.l,(forgetR E.R gs).1⟩) fp'∧Keep fp σ τ∧Fresh fp σ fp':=by
 obtain ⟨x,kr,fpr,h,rfl⟩:=id h0
 obtain ⟨P,u0,els,hRA,hfpr⟩:=id h.revs
 refine spec_of_xwp c_palinoderef20_Engine_Forget (tl rfl) ?_
 unfold f_palinoderef20_Engine_Forget
 have hbk:=h.blk
 have hbr:=hRA.blk
 have hr0:=rc_0 (a:=E.R.head) (b:=E.R.floor) (P:=P) (u:=u0)
 have hun:=rundone_call hRA (E.R.head:Nat)
 have huf:=undone_few h.revs.ok (E.R.head:Nat)
 simp only [ints] at hun
 generalize E.R.undone (E.R.head:Nat)=u at hun huf hokz ⊢
 refine x_seq mixed ?_
 simp +decide only [↓evd,evw,evz,reduceCtorEq]
 refine x_seq mixed ?_
 simp +decide only [↓evd]
 with_reducible refine draw_of_grow (fun _=>True) (ms:=[false,false,false,false,false,false,false,false,false,false,false,false,false]) (by kernel_rfl) ?_
 simp +decide only [↓evd,evw,↓reduceIte,hbk,hbr,hr0]
 refine MSpec.of hun ⟨.inr Keeps.rfl,?_⟩
 simp +decide only [↓evd,evw,↓reduceIte]
 refine x_seq mixed ?_
 simp +decide only [↓evd,evw,reduceCtorEq,↓reduceIte]
 simp +decide only [↓evd,evw,↓reduceIte,hbk]
 refine (rrcopy_at h.revs).mono ?_
 rintro v τ ⟨kr2,fp2,rfl,hR2,hf2,hK⟩
 simp +decide only [↓evd,evw,reduceCtorEq,↓reduceIte]
 refine x_seq mixed ?_
 simp +decide only [↓evd,evw,reduceCtorEq,↓reduceIte]
 refine (rforget_spec hR2 gs hg).mono ?_
 rintro v τ1 ⟨rfl,fp3,hR3,hK3,hF3⟩
 have hf3:∀ x∈fp3,σ.next≤x:=fun x hx=>by
  rcases hF3 x hx with h | h
  ·exact hf2 x h
  ·have:=hK.2.2.1;omega
 have hK1:Keep [] σ τ1:=hK.trans hK3 (fun x hx=>.inr (hf2 x hx))
 rcases hfr:forgetR E.R gs with ⟨R',c⟩
 rw [hfr] at hR3 hokz
 simp only at hR3 hokz ⊢
 simp +decide only [↓evd,evw,reduceCtorEq,↓reduceIte]
 refine x_seq mixed ?_
 simp +decide only [↓evd,evw,reduceCtorEq,↓reduceIte]
 by_cases hc:c=0
 case neg=>
  have hb:(c != 0)=true:=by simpa using hc
  simp +decide only [↓evd,evw,reduceCtorEq,↓reduceIte,hb]
  rw [if_pos hc]
  exact ⟨_,h0.keep hK1 (fun x _=>by simp),hK1.mono (fun x hx=>nomatch hx),fun x hx=>.inl hx⟩
 subst hc
 have hb:((0:Int) != 0)=false:=rfl
 have hok':=hokz rfl
 rw [if_neg (by simp)]
 have hbk1:τ1.get k=some (.cells [.ptr (.new kr) 0,x] none):=by rw [hK1.get h.low];exact h.blk
 have hkl:k<τ1.next:=Nat.lt_of_lt_of_le h.low hK1.2.2.1
 have hcl:∀ a∈E.l,a.cuts.length≤1000000:=(h.ok.fits h.revs.ok).2.1
 have hll:=h.ok.len
 simp +decide only [↓evd,evw,hb]
 refine x_seq mixed ?_
 simp +decide only [↓evd,evw,reduceCtorEq]
 refine x_seq mixed ?_
 simp +decide only [↓evd,evw,reduceCtorEq]
 refine awp_loop (fun m fr ρ=>∃ (i:Nat),m+i=E.l.length∧fr.get 0= .ptr (.new k) 0∧fr.get 1=ints gs∧fr.get 5=ints u∧fr.get 6= .ptr (.new kr2) 0∧fr.get 9= .int .i64 (i:Nat)∧Own τ1.next ρ t_Atom 5 (fr.get 8) ((restL gs u (E.l.take i)).map eAtom)∧(restL gs u (E.l.take i)).length≤i∧Keep [] τ1 ρ) ?_ (m:=E.l.length) ?_
 ·rintro m fr ρ ⟨i,hi,e0,e1,e5,e6,e9,hO,hol,hKr⟩
  generalize hx:fr.get 8=y at hO
  have hbk2:ρ.get k=some (.cells [.ptr (.new kr) 0,x] none):=by rw [hKr.get hkl];exact hbk1
  by_cases hlt:i<E.l.length
  ·have hlt':(i:Int)<(E.l.length:Int):=by omega
   have hw:=wrap_succ (i:=i) (by omega)
   have hga:=map_get eAtom E.l i hlt
   have hrt:=restL_left (gs:=gs) (u:=u) hlt
   have hca:=hcl _ (List.getElem_mem hlt)
   obtain rfl:x=eAtoms E.l:=by
    rcases h.lst with h1 | ⟨_,h1⟩
    ·exact h1
    ·rw [h1] at hlt;simp at hlt
   generalize E.l[i]=a at hga hrt hca
   have hlf:=rleft_call ρ a gs u hg huf hca
   simp only [eAtom,ints] at hlf
   generalize leftA gs u a=q at hlf hrt
   obtain ⟨b,ok⟩:=q
   have hkj:=hKr.junk (.cells [.str [],.int .i64 0,.int .i64 0,.int .i64 0,.nils] none) (.cells [.str b.text,.int .i64 b.rev,.int .i64 b.group,.int .i64 b.rank,.fsl 2 (b.cuts.map eCut)] none)
   have hOj:=Own.var2 hO (.cells [.str [],.int .i64 0,.int .i64 0,.int .i64 0,.nils] none) (.cells [.str b.text,.int .i64 b.rev,.int .i64 b.group,.int .i64 b.rank,.fsl 2 (b.cuts.map eCut)] none)
   simp +decide only [↓evd,evw,evz,reduceCtorEq,↓reduceIte,e0,e1,e5,e9,hbk2,hlt',eAtoms,hga,eAtom]
   refine MSpec.of hlf ?_
   cases ok
   ·simp only [Bool.false_eq_true,if_false,List.append_nil] at hrt
    simp +decide only [↓evd,evw,evz,reduceCtorEq,↓reduceIte,e0,e1,e5,e6,e9,hx,hw]
    exact ⟨m - 1,by omega,i+1,by omega,rfl,by rw [hrt];exact hOj,by rw [hrt];omega,hkj⟩
   ·simp only [if_true] at hrt
    obtain ⟨x',τ',g1,g2,g3⟩:=own_atom hOj hkj.2.2.1 b (by omega)
    simp only [Heap.set_next,Heap.new_next] at g1
    simp +decide only [↓evd,evw,evz,reduceCtorEq,↓reduceIte,e0,e1,e5,e6,e9,hx,g1,hw]
    refine ⟨m - 1,by omega,i+1,by omega,rfl,by rw [hrt];exact g2,by rw [hrt,List.length_append,List.length_singleton];omega,?_⟩
    exact ⟨g3.1.trans hkj.1,g3.2.1.trans hkj.2.1,Nat.le_trans hkj.2.2.1 g3.2.2.1,fun q hq _=>by rw [g3.2.2.2 q hq];exact hkj.get hq⟩
  ·have hlt':¬(i:Int)<(E.l.length:Int):=by omega
   have hti:E.l.take i=E.l:=List.take_of_length_le (by omega)
   rw [hti] at hO
   obtain ⟨τ3,s1,s2,s3,s4,s5⟩:=own_atoms_sees hO
   have hK3:Keep [] τ1 τ3:=⟨s2.trans hKr.1,s3.trans hKr.2.1,by rw [s4];exact hKr.2.2.1,fun q hq _=>by rw [s5 q hq];exact hKr.get hq⟩
   have hbk3:τ3.get k=some (.cells [.ptr (.new kr) 0,x] none):=by rw [hK3.get hkl];exact hbk1
   have fin:∃ fp',IsRefE ((τ3.set k (.cells [.ptr (.new kr2) 0,x] none)).set k (.cells [.ptr (.new kr2) 0,eAtoms (restL gs u E.l)] none)) k ⟨restL gs u E.l,R'⟩ fp'∧Keep (k::fpr) σ ((τ3.set k (.cells [.ptr (.new kr2) 0,x] none)).set k (.cells [.ptr (.new kr2) 0,eAtoms (restL gs u E.l)] none))∧Fresh (k::fpr) σ fp':=by
    have hks:=(((Keep.refl [k] τ3).set (j:=k) (.inl (by simp)) (.cells [.ptr (.new kr2) 0,x] none)).set (j:=k) (.inl (by simp)) (.cells [.ptr (.new kr2) 0,eAtoms (restL gs u E.l)] none))
    have hkn:∀ y∈fp3,y∉[k]:=fun y hy hm=>by
     have:=hf3 y hy
     have:=h.low
     rw [List.mem_singleton] at hm;omega
    have hR4:=hR3.keep hK3 (fun y _=>by simp)
    have hK4:Keep [] σ τ3:=hK1.trans hK3 (fun x hx=>nomatch hx)
    refine ⟨k::fp3,⟨eAtoms (restL gs u E.l),kr2,fp3,⟨by rw [Heap.get_set,if_pos rfl],.inl rfl,hR4.keep hks hkn,Nat.lt_of_lt_of_le h.low (by simpa using hK4.2.2.1),fun hm=>hkn k hm (by simp),hok'⟩,rfl⟩,?_,?_⟩
    ·exact ((hK4.mono (fun x hx=>nomatch hx)).set (.inl (by simp)) _).set (.inl (by simp)) _
    ·intro y hy
     rcases List.mem_cons.1 hy with rfl | hy
     ·exact .inl (by simp)
     ·exact .inr (hf3 y hy)
   simp only [eAtoms] at fin
   rcases h.lst with rfl | ⟨rfl,hnil⟩
   ·simp only [eAtoms] at fin hbk2 hbk3
    simp +decide only [↓evd,evw,evz,reduceCtorEq,↓reduceIte,e0,e9,hbk2,hlt']
    refine x_freeze (FSees.reg (t:=8) (by decide) (by simp +decide only [evw,↓reduceIte,hx]) s1) ?_
    refine x_of_awp mixed ?_
    simp +decide only [↓evd,evw,reduceCtorEq,↓reduceIte,e0,e6,hbk3,eAtoms]
    exact fin
   ·have hlt0:¬(i:Int)<0:=by omega
    simp +decide only [↓evd,evw,evz,reduceCtorEq,↓reduceIte,e0,e9,hbk2,hlt0]
    refine x_freeze (FSees.reg (t:=8) (by decide) (by simp +decide only [evw,↓reduceIte,hx]) s1) ?_
    refine x_of_awp mixed ?_
    simp +decide only [↓evd,evw,reduceCtorEq,↓reduceIte,e0,e6,hbk3,eAtoms]
    exact fin
 ·refine ⟨0,by omega,?_⟩
  simp +decide only [evw,evz,↓reduceIte]
  exact ⟨Own.nil _ _ _ _,Nat.le_refl _,Keep.refl _ _⟩
def doB (E:Eng) (x:Step):Eng:=if x.what≤4 then (editE E x.base x.group x.rank x.c).1 else if x.what≤6 then (toggleE E x.group).1 else (forgetE E x.groups).1
structure TwoE (σ τ:Heap) (k1 k2:Nat) (E:Eng) (fp1 fp2:List Nat):Prop where
 eng:IsEng τ k1 E fp1
 ref:IsRefE τ k2 E fp2
 dis:∀ x∈fp1,x∉fp2
 f1:∀ x∈fp1,σ.next≤x
 f2:∀ x∈fp2,σ.next≤x
 keep:Keep [] σ τ
theorem TwoE.step {σ τ τ1 τ2:Heap} {k1 k2:Nat} {E E':Eng} {fp1 fp2 fp1' fp2':List Nat} (h:TwoE σ τ k1 k2 E fp1 fp2) (h1:IsEng τ1 k1 E' fp1') (kk1:Keep fp1 τ τ1) (q1:Fresh fp1 τ fp1') (h2:IsRefE τ2 k2 E' fp2') (kk2:Keep fp2 τ1 τ2) (q2:Fresh fp2 τ1 fp2'):TwoE σ τ2 k1 k2 E' fp1' fp2':=by
 have hn:=h.keep.2.2.1
 have hl1:=h.eng.low
 have hl2:=h.ref.low
 have hn1:=kk1.2.2.1
 have d1:∀ x∈fp1',x∉fp2:=fun x hx hm=>by
  rcases q1 x hx with h3 | h3
  ·exact h.dis x h3 hm
  ·have:=hl2 x hm;omega
 refine ⟨h1.keep kk2 d1,h2,fun x hx hm=>?_,fun x hx=>?_,fun x hx=>?_,?_⟩
 ·rcases q2 x hm with h3 | h3
  ·exact d1 x hx h3
  ·have:=h1.low x hx;omega
 ·rcases q1 x hx with h3 | h3
  ·exact h.f1 x h3
  ·omega
 ·rcases q2 x hx with h3 | h3
  ·exact h.f2 x h3
  ·omega
 ·exact (h.keep.trans kk1 (fun x hx=>.inr (h.f1 x hx))).trans kk2 (fun x hx=>.inr (h.f2 x hx))
def fewB20 (l:List Step):Bool:=l.all fewOne && decide (l.length≤20)
theorem keep_call {f:FuncId} {args:List AVal} {v:AVal} {σ:Heap} (hv:v.pure=true) (h:MSpec Tryz.prog f args σ fun u τ=>u=v∧Keep [] σ τ):ACall Tryz.prog f args σ v σ:=
 gc_call hv (h.mono fun u τ ⟨h1,h2⟩=>⟨h1,h2.1,h2.2.1,fun q hq=>h2.2.2.2 q hq (by simp)⟩)
theorem RefEAt.raw {σ:Heap} {k:Nat} {E:Eng} {x:AVal} {kr:Nat} {fpr:List Nat} (h:RefEAt σ k E x kr fpr):x.isRaw=false:=by
 rcases h.lst with rfl | ⟨rfl,_⟩ <;> rfl
theorem sees_steps2 {σ:Heap} {A B K:Nat} (c1 c2:Chg) (w1 b1 g1 r1 w2 b2 g2 r2:Int) (hA:σ.get A=some (.cells [.int .i64 c1.frm,.int .i64 c1.to,.str c1.text] none)) (hB:σ.get B=some (.cells [.int .i64 c2.frm,.int .i64 c2.to,.str c2.text] none))
  (hK:σ.get K=some (.cells [.int .i64 w1,.int .i64 b1,.int .i64 g1,.int .i64 r1,.slc (.new A) 0 1 (.ex 1),.nils,.int .i64 w2,.int .i64 b2,.int .i64 g2,.int .i64 r2,.slc (.new B) 0 1 (.ex 1),.nils] none)) (hAB:A≠B) (hAK:A≠K) (hBK:B≠K):
  ∃ τ,Sees σ (.slc (.new K) 0 2 (.ex 2)) τ (eSteps [⟨w1,b1,g1,r1,[c1],[]⟩,⟨w2,b2,g2,r2,[c2],[]⟩])∧τ.W=σ.W∧τ.F0=σ.F0∧τ.next=σ.next∧∀ q,q≠A→q≠B→q≠K→τ.get q=σ.get q:=by
 have s1:Sees σ (.slc (.new A) 0 1 (.ex 1)) (σ.set A .dead) (eChgs [c1]):=sees_chgs rfl hA
 have t1:=Sees.cell (j:=4) (off:=0) (n:=2) (cap:= .ex 2) hK rfl s1 (by rw [Heap.get_set,if_neg hAK];exact hK)
 simp only [List.set_cons_succ,List.set_cons_zero] at t1
 obtain ⟨σ1,h1⟩:∃ σ1,σ1=(σ.set A .dead).set K (.cells [.int .i64 w1,.int .i64 b1,.int .i64 g1,.int .i64 r1,eChgs [c1],.nils,.int .i64 w2,.int .i64 b2,.int .i64 g2,.int .i64 r2,.slc (.new B) 0 1 (.ex 1),.nils] none):=⟨_,rfl⟩
 rw [← h1] at t1
 have hK1:σ1.get K=some (.cells [.int .i64 w1,.int .i64 b1,.int .i64 g1,.int .i64 r1,eChgs [c1],.nils,.int .i64 w2,.int .i64 b2,.int .i64 g2,.int .i64 r2,.slc (.new B) 0 1 (.ex 1),.nils] none):=by rw [h1,Heap.get_set,if_pos rfl]
 have t2:=Sees.cell (j:=5) (off:=0) (n:=2) (cap:= .ex 2) hK1 rfl (Sees.nils σ1 1) hK1
 simp only [List.set_cons_succ,List.set_cons_zero] at t2
 obtain ⟨σ2,h2⟩:∃ σ2,σ2=σ1.set K (.cells [.int .i64 w1,.int .i64 b1,.int .i64 g1,.int .i64 r1,eChgs [c1],.fsl 1 [],.int .i64 w2,.int .i64 b2,.int .i64 g2,.int .i64 r2,.slc (.new B) 0 1 (.ex 1),.nils] none):=⟨_,rfl⟩
 rw [← h2] at t2
 have hK2:σ2.get K=some (.cells [.int .i64 w1,.int .i64 b1,.int .i64 g1,.int .i64 r1,eChgs [c1],.fsl 1 [],.int .i64 w2,.int .i64 b2,.int .i64 g2,.int .i64 r2,.slc (.new B) 0 1 (.ex 1),.nils] none):=by rw [h2,Heap.get_set,if_pos rfl]
 have hB2:σ2.get B=some (.cells [.int .i64 c2.frm,.int .i64 c2.to,.str c2.text] none):=by
  rw [h2,Heap.get_set,if_neg (Ne.symm hBK),h1,Heap.get_set,if_neg (Ne.symm hBK),Heap.get_set,if_neg hAB];exact hB
 have s3:Sees σ2 (.slc (.new B) 0 1 (.ex 1)) (σ2.set B .dead) (eChgs [c2]):=sees_chgs rfl hB2
 have t3:=Sees.cell (j:=10) (off:=0) (n:=2) (cap:= .ex 2) hK2 rfl s3 (by rw [Heap.get_set,if_neg hBK];exact hK2)
 simp only [List.set_cons_succ,List.set_cons_zero] at t3
 obtain ⟨σ3,h3⟩:∃ σ3,σ3=(σ2.set B .dead).set K (.cells [.int .i64 w1,.int .i64 b1,.int .i64 g1,.int .i64 r1,eChgs [c1],.fsl 1 [],.int .i64 w2,.int .i64 b2,.int .i64 g2,.int .i64 r2,eChgs [c2],.nils] none):=⟨_,rfl⟩
 rw [← h3] at t3
 have hK3:σ3.get K=some (.cells [.int .i64 w1,.int .i64 b1,.int .i64 g1,.int .i64 r1,eChgs [c1],.fsl 1 [],.int .i64 w2,.int .i64 b2,.int .i64 g2,.int .i64 r2,eChgs [c2],.nils] none):=by rw [h3,Heap.get_set,if_pos rfl]
 have t4:=Sees.cell (j:=11) (off:=0) (n:=2) (cap:= .ex 2) hK3 rfl (Sees.nils σ3 1) hK3
 simp only [List.set_cons_succ,List.set_cons_zero] at t4
 obtain ⟨σ4,h4⟩:∃ σ4,σ4=σ3.set K (.cells [.int .i64 w1,.int .i64 b1,.int .i64 g1,.int .i64 r1,eChgs [c1],.fsl 1 [],.int .i64 w2,.int .i64 b2,.int .i64 g2,.int .i64 r2,eChgs [c2],.fsl 1 []] none):=⟨_,rfl⟩
 rw [← h4] at t4
 have hK4:σ4.get K=some (.cells [.int .i64 w1,.int .i64 b1,.int .i64 g1,.int .i64 r1,eChgs [c1],.fsl 1 [],.int .i64 w2,.int .i64 b2,.int .i64 g2,.int .i64 r2,eChgs [c2],.fsl 1 []] none):=by rw [h4,Heap.get_set,if_pos rfl]
 have t5:Sees σ4 (.slc (.new K) 0 2 (.ex 2)) (σ4.set K .dead) (eSteps [⟨w1,b1,g1,r1,[c1],[]⟩,⟨w2,b2,g2,r2,[c2],[]⟩]):=
  Sees.own (k:=6) hK4 rfl (by intro e he;simp only [List.map_cons,List.map_nil,List.mem_cons,List.not_mem_nil,or_false] at he;rcases he with rfl | rfl <;> rfl) rfl (fun c hc=>by cases hc;exact Nat.le_refl _)
 refine ⟨_,(((t1.trans t2).trans t3).trans t4).trans t5,?_,?_,?_,fun q q1 q2 q3=>?_⟩
 ·rw [Heap.set_W,h4,Heap.set_W,h3,Heap.set_W,Heap.set_W,h2,Heap.set_W,h1,Heap.set_W,Heap.set_W]
 ·rw [Heap.set_F0,h4,Heap.set_F0,h3,Heap.set_F0,Heap.set_F0,h2,Heap.set_F0,h1,Heap.set_F0,Heap.set_F0]
 ·rw [Heap.set_next,h4,Heap.set_next,h3,Heap.set_next,Heap.set_next,h2,Heap.set_next,h1,Heap.set_next,Heap.set_next]
 ·rw [Heap.get_set,if_neg (Ne.symm q3),h4,Heap.get_set,if_neg (Ne.symm q3),h3,Heap.get_set,if_neg (Ne.symm q3),Heap.get_set,if_neg (Ne.symm q2),h2,Heap.get_set,if_neg (Ne.symm q3),h1,Heap.get_set,if_neg (Ne.symm q3),Heap.get_set,if_neg (Ne.symm q1)]
structure Dlt where
 base:Int
 els:List Chg
def eDelta (d:Dlt):AVal:= .agg [.int .i64 d.base,eChgs d.els]
theorem eDelta_pure (d:Dlt):(eDelta d).pure=true:=by simp only [eDelta,AVal.pure,AVal.pures,eChgs_pure];rfl
def isCp (x:Chg):Bool:=x.text==[]
def toR:List Chg→Int
 | x::r=>if isCp x then x.to else toR r
 | []=>0
def copR:List Chg→Bool
 | x::_=>isCp x
 | []=>false
def elemOk (base:Int) (x:Chg) (to:Int) (ahead copied:Bool):Bool:=
 if isCp x then decide (to≤x.frm) && (decide (to<x.frm) || !copied) && decide (x.frm<x.to) && decide (x.to≤base)
 else decide (x.frm=0) && decide (x.to=0) && (!ahead || copied) && decide (x.text.length≤20000) && valid x.text
def WFr (base:Int):List Chg→Prop
 | []=>True
 | x::r=>WFr base r∧elemOk base x (toR r) (!r.isEmpty) (copR r)=true
def keptL (l:List Chg):Int:=(l.map fun x=>x.to - x.frm).sum
def putL (l:List Chg):Nat:=(l.map fun x=>x.text.length).sum
structure DOk (d:Dlt):Prop where
 b0:0≤d.base
 b1:d.base≤20000
 few:d.els.length≤60
 wf:WFr d.base d.els.reverse
 size:keptL d.els+(putL d.els:Nat)≤20000
theorem keptL_app (l m:List Chg):keptL (l ++ m)=keptL l+keptL m:=by simp [keptL]
theorem putL_app (l m:List Chg):putL (l ++ m)=putL l+putL m:=by simp [putL]
theorem keptL_one (x:Chg):keptL [x]=x.to - x.frm:=by simp [keptL]
theorem putL_one (x:Chg):putL [x]=x.text.length:=by simp [putL]
theorem WFr.tail {base:Int}:∀ {l m:List Chg},WFr base (l ++ m)→WFr base m
 | [],m,h=>h
 | x::l,m,h=>WFr.tail (l:=l) h.1
theorem elemOk_facts {base:Int} {x:Chg} {to:Int} {a c:Bool} (h:elemOk base x to a c=true):(x.text=[]∧to≤x.frm∧x.frm<x.to∧x.to≤base)∨(x.text≠[]∧x.frm=0∧x.to=0∧x.text.length≤20000):=by
 unfold elemOk at h
 split at h
 ·rename_i hc
  simp only [Bool.and_eq_true,decide_eq_true_eq] at h
  exact .inl ⟨by simpa [isCp] using hc,h.1.1.1,h.1.2,h.2⟩
 ·rename_i hc
  simp only [Bool.and_eq_true,decide_eq_true_eq] at h
  exact .inr ⟨by simpa [isCp] using hc,h.1.1.1.1,h.1.1.1.2,h.1.2⟩
theorem toR_nonneg {base:Int}:∀ {r:List Chg},WFr base r→0≤toR r
 | [],_=>by simp [toR]
 | x::r,h=>by
  have ih:=toR_nonneg h.1
  unfold toR
  split
  ·rename_i hc
   rcases elemOk_facts h.2 with ⟨_,h1,h2,_⟩ | ⟨h1,_⟩
   ·omega
   ·exact absurd (by simpa [isCp] using hc) h1
  ·exact ih
theorem DOk.at {d:Dlt} (h:DOk d) {i:Nat} (hi:i<d.els.length):elemOk d.base d.els[i] (toR (d.els.take i).reverse) (!(d.els.take i).reverse.isEmpty) (copR (d.els.take i).reverse)=true∧0≤toR (d.els.take i).reverse:=by
 have h1:=h.wf
 have e:d.els.reverse=(d.els.drop (i+1)).reverse ++ (d.els[i]::(d.els.take i).reverse):=by
  conv=>lhs;rw [← List.take_append_drop (i+1) d.els]
  rw [List.reverse_append,List.take_succ_eq_append_getElem hi,List.reverse_append];rfl
 rw [e] at h1
 have h2:=WFr.tail h1
 exact ⟨h2.2,toR_nonneg h2.1⟩
theorem take_snoc {l:List Chg} {i:Nat} (h:i<l.length):(l.take (i+1)).reverse=l[i]::(l.take i).reverse:=by
 rw [List.take_succ_eq_append_getElem h,List.reverse_append];rfl
theorem DOk.prefix {d:Dlt} (h:DOk d):∀ i,i≤d.els.length→0≤keptL (d.els.take i)∧keptL (d.els.take i)+(putL (d.els.take i):Nat)≤20000∧0≤keptL d.els - keptL (d.els.take i):=by
 have hpos:∀ m:List Chg,(∀ x∈m,0≤x.to - x.frm)→0≤keptL m:=by
  intro m
  induction m with
  | nil=>intro _;simp [keptL]
  | cons x m ih=>
   intro hm
   have h1:=hm x (by simp)
   have h2:=ih fun y hy=>hm y (List.mem_cons_of_mem _ hy)
   simp only [keptL,List.map_cons,List.sum_cons] at h2 ⊢;omega
 have hall:∀ x∈d.els,0≤x.to - x.frm:=by
  intro x hx
  obtain ⟨i,hi,rfl⟩:=List.getElem_of_mem hx
  rcases elemOk_facts (h.at hi).1 with ⟨_,_,h2,_⟩ | ⟨_,h1,h2,_⟩ <;> omega
 intro i hi
 have e1:=keptL_app (d.els.take i) (d.els.drop i)
 have e2:=putL_app (d.els.take i) (d.els.drop i)
 rw [List.take_append_drop] at e1 e2
 have p1:=hpos (d.els.take i) fun x hx=>hall x (List.mem_of_mem_take hx)
 have p2:=hpos (d.els.drop i) fun x hx=>hall x (List.mem_of_mem_drop hx)
 have:=h.size
 omega
theorem isCopy_call (σ:Heap) (x:Chg):ACall Tryz.prog n_delta_IsCopy [eChg x] σ (.bool (isCp x)) σ:=by
 refine keep_call rfl (spec_of_awp mixed c_delta_IsCopy (tl rfl) ?_)
 unfold f_delta_IsCopy
 simp +decide only [↓evd,evw,reduceCtorEq,↓reduceIte,eChg,aStr]
 first | exact ⟨rfl,(Keep.refl _ _).new _⟩ | exact (Keep.refl _ _).new _
theorem elem_call (σ:Heap) (base:Int) (x:Chg) (to:Int) (a c:Bool) (hl:x.text.length≤maxRoom) (h:elemOk base x to a c=true):ACall Tryz.prog n_delta_elem [eChg x,.int .i64 base,.int .i64 to,.bool a,.bool c] σ (.bool true) σ:=by
 refine keep_call rfl (spec_of_awp mixed c_delta_elem (tl rfl) ?_)
 unfold f_delta_elem
 have hic:=fun ρ=>isCopy_call ρ x
 have hv:=fun ρ=>valid_call ρ x.text hl
 have hk:Keep [] σ (σ.new (.cells [.int .i64 x.frm,.int .i64 x.to,.str x.text] none)):=(Keep.refl _ _).new _
 have hk2:Keep [] σ (((σ.new (.cells [.int .i64 x.frm,.int .i64 x.to,.str x.text] none)).new (.cells [.int .i64 0,.int .i64 0,.str []] none)).set (σ.next+1) (.cells [.int .i64 0,.int .i64 0,.str x.text] none)):=((hk.new _).set (.inr (by omega)) _)
 have ne1:(σ.next+1=σ.next)=False:=eq_false (by omega)
 simp only [eChg] at hic
 unfold elemOk at h
 cases hc:isCp x
 ·rw [hc] at h
  rw [hc] at hic
  simp only [Bool.false_eq_true,if_false,Bool.and_eq_true,decide_eq_true_eq] at h
  obtain ⟨⟨⟨⟨h1,h2⟩,h3⟩,h4⟩,h5⟩:=h
  rw [h5] at hv
  rw [h1,h2] at hk2
  have h4':(x.text.length:Int)≤20000:=by omega
  have b0:((0:Int)==0)=true:=rfl
  simp +decide only [↓evd,evw,reduceCtorEq,↓reduceIte,eChg]
  refine MSpec.of (hic _) ?_
  simp +decide only [↓evd,evw,reduceCtorEq,↓reduceIte,h1,h2,ne1]
  cases a <;> cases c <;> simp only [Bool.not_false,Bool.not_true,Bool.or_true,Bool.or_false,Bool.false_eq_true] at h3
  all_goals
   simp +decide only [↓evd,evw,reduceCtorEq,↓reduceIte,ne1,h4']
   refine MSpec.of (hv _) ?_
   simp +decide only [↓evd,evw,reduceCtorEq,↓reduceIte]
   first | exact hk2 | exact ⟨rfl,hk2⟩
 ·rw [hc] at h
  rw [hc] at hic
  simp only [if_true,Bool.and_eq_true,decide_eq_true_eq] at h
  obtain ⟨⟨⟨h1,h2⟩,h3⟩,h4⟩:=h
  simp +decide only [↓evd,evw,reduceCtorEq,↓reduceIte,eChg]
  refine MSpec.of (hic _) ?_
  by_cases hlt:to<x.frm
  ·simp +decide only [↓evd,evw,reduceCtorEq,↓reduceIte,h1,h3,h4,hlt]
   first | exact hk | exact ⟨rfl,hk⟩
  ·have hcf:c=false:=by simpa [hlt] using h2
   subst hcf
   simp +decide only [↓evd,evw,reduceCtorEq,↓reduceIte,h1,h3,h4,hlt]
   first | exact hk | exact ⟨rfl,hk⟩
def szI (l:List Chg):Int:=keptL l+(putL l:Nat)
theorem szI_take {l:List Chg} {i:Nat} (h:i<l.length):szI (l.take (i+1))=szI (l.take i)+((l[i].to - l[i].frm)+(l[i].text.length:Nat)):=by
 simp only [szI,List.take_succ_eq_append_getElem h,keptL_app,putL_app,keptL_one,putL_one];omega
theorem DOk.nums {d:Dlt} (h:DOk d) {i:Nat} (hi:i<d.els.length):0≤d.els[i].to - d.els[i].frm∧0≤d.els[i].frm∧d.els[i].to≤20000∧d.els[i].text.length≤20000:=by
 obtain ⟨h1,h2⟩:=h.at hi
 have hb:=h.b1
 have hb0:=h.b0
 rcases elemOk_facts h1 with ⟨e,_,_,_⟩ | ⟨_,_,_,_⟩
 ·rw [e];simp only [List.length_nil];omega
 ·omega
set_option maxHeartbeats 4000000 in
theorem isD_call (σ:Heap) (d:Dlt) (h:DOk d):ACall Tryz.prog n_delta_Is [eDelta d] σ (.bool true) σ:=by
 refine keep_call rfl (spec_of_awp mixed c_delta_Is (tl rfl) ?_)
 unfold f_delta_Is
 have hb0:=h.b0
 have hb1:=h.b1
 have hfew:=h.few
 have n0:¬d.base<0:=by omega
 have n1:¬(20000:Int)<d.base:=by omega
 have n2:¬(60:Int)<(d.els.length:Int):=by omega
 obtain ⟨σ1,hσ1⟩:∃ σ1,σ1=σ.new (.cells [.int .i64 d.base,.fsl 3 (d.els.map eChg)] none):=⟨_,rfl⟩
 have hk1:Keep [] σ σ1:=by rw [hσ1];exact (Keep.refl _ _).new _
 have hg1:σ1.get σ.next=some (.cells [.int .i64 d.base,.fsl 3 (d.els.map eChg)] none):=by rw [hσ1,Heap.get_new,if_pos rfl]
 have hn1:σ.next<σ1.next:=by rw [hσ1];simp
 simp +decide only [↓evd,evw,evz,reduceCtorEq,↓reduceIte,eDelta,eChgs,n0,n1,n2]
 rw [← hσ1]
 generalize σ.next=K at hg1 hn1 ⊢
 refine awp_loop (fun m fr τ=>∃ (i:Nat),m+i=d.els.length∧fr.get 1= .ptr (.new K) 0∧fr.get 3= .int .i64 (szI (d.els.take i))∧fr.get 4= .int .i64 (toR (d.els.take i).reverse)∧fr.get 23= .fsl 3 (d.els.map eChg)∧fr.get 24= .int .i64 (d.els.length:Nat)∧fr.get 25= .int .i64 (i:Nat)∧Keep [] σ1 τ) ?_ (m:=d.els.length) ?_
 ·rintro m fr τ ⟨i,hi,e1,e3,e4,e23,e24,e25,hK⟩
  by_cases hlt:i<d.els.length
  ·have hlt':(i:Int)<(d.els.length:Int):=by omega
   have hw:=wrap_succ (i:=i) (by omega)
   have hg:=map_get eChg d.els i hlt
   have hg2:τ.get K=some (.cells [.int .i64 d.base,.fsl 3 (d.els.map eChg)] none):=by rw [hK.get hn1];exact hg1
   have hat:=h.at hlt
   have hnum:=h.nums hlt
   have hsz:=szI_take hlt
   have hts:=take_snoc hlt
   have hp:=(h.prefix (i+1) (by omega)).2.1
   have hp1:=(h.prefix i (by omega)).1
   have hp0:0≤szI (d.els.take i):=by simp only [szI];omega
   have hsz2:szI (d.els.take (i+1))≤20000:=hp
   have hprev:∀ hi0:0<i,(d.els.take i).reverse=d.els[i - 1]::(d.els.take (i - 1)).reverse:=fun hi0=>by
    have:=take_snoc (l:=d.els) (i:=i - 1) (by omega)
    rwa [show i - 1+1=i by omega] at this
   have hgp:∀ hi0:0<i,(d.els.map eChg)[i - 1]? =some (eChg (d.els[i - 1]'(by omega))):=fun hi0=>map_get eChg d.els (i - 1) (by omega)
   generalize d.els[i]=x at hg hat hnum hsz hts
   have hkn:Keep [] τ ((τ.new (.cells [.int .i64 0,.int .i64 0,.str []] none)).set τ.next (.cells [.int .i64 x.frm,.int .i64 x.to,.str x.text] none)):=(Keep.refl _ _).junk _ _
   have hK':=hK.junk (.cells [.int .i64 0,.int .i64 0,.str []] none) (.cells [.int .i64 x.frm,.int .i64 x.to,.str x.text] none)
   have hneK:(τ.next=K)=False:=eq_false (by have:=hK.2.2.1;omega)
   have hto:toR (d.els.take (i+1)).reverse=if isCp x then x.to else toR (d.els.take i).reverse:=by rw [hts];rfl
   have w1:IntKind.i64.wrap (x.to - x.frm)=x.to - x.frm:=wrap_id (by omega) (by omega)
   have w2:IntKind.i64.wrap ((x.to - x.frm)+(x.text.length:Int))=(x.to - x.frm)+(x.text.length:Int):=wrap_id (by omega) (by omega)
   have w3:IntKind.i64.wrap (szI (d.els.take i)+((x.to - x.frm)+(x.text.length:Int)))=szI (d.els.take (i+1)):=by rw [wrap_id (by omega) (by omega),hsz]
   have n3:¬(20000:Int)<szI (d.els.take (i+1)):=by omega
   have hic:=fun ρ=>isCopy_call ρ x
   have hel:=fun ρ=>elem_call ρ d.base x (toR (d.els.take i).reverse) (!(d.els.take i).reverse.isEmpty) (copR (d.els.take i).reverse) (by unfold maxRoom;omega) hat.1
   simp only [eChg] at hic hel
   have main:∀ fr2:Mini.Frame,True:=fun _=>trivial
   rcases Nat.eq_zero_or_pos i with h0 | h0
   case' inl=>
    have hgt:¬(0:Int)<(i:Int):=by omega
    have hnon:(!(d.els.take i).reverse.isEmpty)=false:=by rw [h0];rfl
    have hcop:copR (d.els.take i).reverse=false:=by rw [h0];rfl
    rw [hnon,hcop] at hel
    simp +decide only [↓evd,evw,reduceCtorEq,↓reduceIte,e1,e4,e23,e24,e25,hlt',hg,eChg,hg2,hneK,hgt]
    refine MSpec.of (hel _) ?_
   case' inr=>
    have hgt:(0:Int)<(i:Int):=by omega
    have wp:IntKind.i64.wrap ((i:Int) - 1)=((i - 1:Nat):Int):=by rw [wrap_id (by omega) (by omega)];omega
    have hgp':=hgp h0
    have hpr:=hprev h0
    have hnon:(!(d.els.take i).reverse.isEmpty)=true:=by rw [hpr];rfl
    have hcop:copR (d.els.take i).reverse=isCp (d.els[i - 1]'(by omega)):=by rw [hpr];rfl
    rw [hnon,hcop] at hel
    generalize (d.els[i - 1]'(by omega))=y at hgp' hel
    have hiy:=fun ρ=>isCopy_call ρ y
    simp only [eChg] at hiy hgp'
    simp +decide only [↓evd,evw,reduceCtorEq,↓reduceIte,e1,e23,e24,e25,hlt',hg,eChg,hg2,hneK,hgt,wp,hgp']
    refine MSpec.of (hiy _) ?_
    simp +decide only [↓evd,evw,reduceCtorEq,↓reduceIte,e1,e4,hg2,hneK,hgt]
    refine MSpec.of (hel _) ?_
   all_goals
    simp +decide only [↓evd,evw,reduceCtorEq,↓reduceIte]
    refine MSpec.of (hic _) ?_
    cases hc:isCp x
    ·rw [hc] at hto
     simp only [Bool.false_eq_true,if_false] at hto
     simp +decide only [↓evd,evw,reduceCtorEq,↓reduceIte,e1,e3,e4,e23,e24,e25,w1,w2,w3,n3,hw]
     exact ⟨m - 1,by omega,_,by omega,rfl,by rw [hto],rfl,hK'⟩
    ·rw [hc] at hto
     simp only [if_true] at hto
     simp +decide only [↓evd,evw,reduceCtorEq,↓reduceIte,e1,e3,e23,e24,e25,w1,w2,w3,n3,hw]
     exact ⟨m - 1,by omega,_,by omega,rfl,by rw [hto],rfl,hK'⟩
  ·have hlt':¬(i:Int)<(d.els.length:Int):=by omega
   simp +decide only [↓evd,evw,reduceCtorEq,↓reduceIte,e24,e25,hlt']
   first | exact hk1.trans hK (fun x hx=>nomatch hx) | exact ⟨rfl,hk1.trans hK (fun x hx=>nomatch hx)⟩
 ·refine ⟨0,by omega,?_⟩
  simp +decide only [evw,↓reduceIte]
  first | exact ⟨rfl,rfl,Keep.refl _ _⟩ | exact Keep.refl _ _
theorem kept_take {l:List Chg} {i:Nat} (h:i<l.length):keptL (l.take (i+1))=keptL (l.take i)+(l[i].to - l[i].frm):=by
 simp only [List.take_succ_eq_append_getElem h,keptL_app,keptL_one]
theorem put_take {l:List Chg} {i:Nat} (h:i<l.length):putL (l.take (i+1))=putL (l.take i)+l[i].text.length:=by
 simp only [List.take_succ_eq_append_getElem h,putL_app,putL_one]
theorem DOk.kept0 {d:Dlt} (h:DOk d):0≤keptL d.els∧keptL d.els+(putL d.els:Nat)≤20000:=by
 have:=h.prefix d.els.length (Nat.le_refl _)
 rw [List.take_length] at this
 exact ⟨this.1,this.2.1⟩
theorem sums_call (σ:Heap) (d:Dlt) (h:DOk d):ACall Tryz.prog n_delta_sums [eDelta d] σ (.tup [.int .i64 (keptL d.els),.int .i64 (putL d.els:Nat)]) σ:=by
 refine keep_call rfl (spec_of_awp mixed c_delta_sums (tl rfl) ?_)
 unfold f_delta_sums
 have hfew:=h.few
 have his:=fun ρ=>isD_call ρ d h
 obtain ⟨σ1,hσ1⟩:∃ σ1,σ1=σ.new (.cells [.int .i64 d.base,.fsl 3 (d.els.map eChg)] none):=⟨_,rfl⟩
 have hk1:Keep [] σ σ1:=by rw [hσ1];exact (Keep.refl _ _).new _
 simp only [eDelta,eChgs] at his
 simp +decide only [↓evd,evw,reduceCtorEq,↓reduceIte,eDelta,eChgs]
 rw [← hσ1]
 refine MSpec.of (his _) ?_
 have hg1:σ1.get σ.next=some (.cells [.int .i64 d.base,.fsl 3 (d.els.map eChg)] none):=by rw [hσ1,Heap.get_new,if_pos rfl]
 simp +decide only [↓evd,evw,evz,reduceCtorEq,↓reduceIte,hg1]
 refine awp_loop (fun m fr τ=>∃ (i:Nat),m+i=d.els.length∧fr.get 4= .int .i64 (keptL (d.els.take i))∧fr.get 5= .int .i64 (putL (d.els.take i):Nat)∧fr.get 12= .fsl 3 (d.els.map eChg)∧fr.get 13= .int .i64 (d.els.length:Nat)∧fr.get 14= .int .i64 (i:Nat)∧Keep [] σ1 τ) ?_ (m:=d.els.length) ?_
 ·rintro m fr τ ⟨i,hi,e4,e5,e12,e13,e14,hK⟩
  by_cases hlt:i<d.els.length
  ·have hlt':(i:Int)<(d.els.length:Int):=by omega
   have hw:=wrap_succ (i:=i) (by omega)
   have hg:=map_get eChg d.els i hlt
   have hnum:=h.nums hlt
   have hkt:=kept_take hlt
   have hpt:=put_take hlt
   have hp0:=h.prefix i (by omega)
   have hp1:=h.prefix (i+1) (by omega)
   generalize d.els[i]=x at hg hnum hkt hpt
   have w1:IntKind.i64.wrap (x.to - x.frm)=x.to - x.frm:=wrap_id (by omega) (by omega)
   have w2:IntKind.i64.wrap (keptL (d.els.take i)+(x.to - x.frm))=keptL (d.els.take (i+1)):=by rw [wrap_id (by omega) (by omega),hkt]
   have w3:IntKind.i64.wrap (((putL (d.els.take i):Nat):Int)+(x.text.length:Int))=((putL (d.els.take (i+1)):Nat):Int):=by rw [wrap_id (by omega) (by omega),hpt];omega
   have hK':=hK.junk (.cells [.int .i64 0,.int .i64 0,.str []] none) (.cells [.int .i64 x.frm,.int .i64 x.to,.str x.text] none)
   simp +decide only [↓evd,evw,reduceCtorEq,↓reduceIte,e4,e5,e12,e13,e14,hlt',hg,eChg,w1,w2,w3,hw]
   exact ⟨m - 1,by omega,i+1,by omega,rfl,rfl,rfl,hK'⟩
  ·have hlt':¬(i:Int)<(d.els.length:Int):=by omega
   have hti:d.els.take i=d.els:=List.take_of_length_le (by omega)
   rw [hti] at e4 e5
   simp +decide only [↓evd,evw,reduceCtorEq,↓reduceIte,e4,e5,e13,e14,hlt']
   first | exact hk1.trans hK (fun x hx=>nomatch hx) | exact ⟨rfl,hk1.trans hK (fun x hx=>nomatch hx)⟩
 ·refine ⟨0,by omega,?_⟩
  simp +decide only [evw,↓reduceIte]
  first | exact ⟨rfl,rfl,Keep.refl _ _⟩ | exact Keep.refl _ _
theorem dsize_call (σ:Heap) (d:Dlt) (h:DOk d):ACall Tryz.prog n_delta_Size [eDelta d] σ (.int .i64 (keptL d.els+(putL d.els:Nat))) σ:=by
 refine keep_call rfl (spec_of_awp mixed c_delta_Size (tl rfl) ?_)
 unfold f_delta_Size
 have hsu:=fun ρ=>sums_call ρ d h
 have hz:=h.kept0
 have hw:IntKind.i64.wrap (keptL d.els+((putL d.els:Nat):Int))=keptL d.els+((putL d.els:Nat):Int):=wrap_id (by omega) (by omega)
 simp only [eDelta,eChgs] at hsu
 simp +decide only [↓evd,evw,reduceCtorEq,↓reduceIte,eDelta,eChgs]
 refine MSpec.of (hsu _) ?_
 simp +decide only [↓evd,evw,reduceCtorEq,↓reduceIte,hw]
 exact (Keep.refl _ _).new _
theorem adds_call (σ:Heap) (d:Dlt) (h:DOk d):ACall Tryz.prog n_delta_Adds [eDelta d] σ (.int .i64 (putL d.els:Nat)) σ:=by
 refine keep_call rfl (spec_of_awp mixed c_delta_Adds (tl rfl) ?_)
 unfold f_delta_Adds
 have hsu:=fun ρ=>sums_call ρ d h
 simp only [eDelta,eChgs] at hsu
 simp +decide only [↓evd,evw,reduceCtorEq,↓reduceIte,eDelta,eChgs]
 refine MSpec.of (hsu _) ?_
 simp +decide only [↓evd,evw,reduceCtorEq,↓reduceIte]
 exact (Keep.refl _ _).new _
theorem drops_call (σ:Heap) (d:Dlt) (h:DOk d):ACall Tryz.prog n_delta_Drops [eDelta d] σ (.int .i64 (d.base - keptL d.els)) σ:=by
 refine keep_call rfl (spec_of_awp mixed c_delta_Drops (tl rfl) ?_)
 unfold f_delta_Drops
 have hsu:=fun ρ=>sums_call ρ d h
 have his:=fun ρ=>isD_call ρ d h
 have hz:=h.kept0
 have hb0:=h.b0
 have hb1:=h.b1
 have hw:IntKind.i64.wrap (d.base - keptL d.els)=d.base - keptL d.els:=wrap_id (by omega) (by omega)
 simp only [eDelta,eChgs] at hsu his
 simp +decide only [↓evd,evw,reduceCtorEq,↓reduceIte,eDelta,eChgs]
 refine MSpec.of (his _) ?_
 simp +decide only [↓evd,evw,reduceCtorEq,↓reduceIte]
 refine MSpec.of (hsu _) ?_
 simp +decide only [↓evd,evw,reduceCtorEq,↓reduceIte,hw]
 exact (Keep.refl _ _).new _
theorem slc_from {K N n:Nat} (h:n≤N):aSlc 1 (.slc (.new K) 0 N (.ex N)) (some (.int .i64 (n:Nat))) none none=some (.slc (.new K) (if N=n then 0 else n) (N - n) (.ex (N - n))):=by
 have b3:aBound none N N=some N:=rfl
 have b2:aBound (some (.int .i64 (n:Nat))) 0 N=some n:=by simp only [aBound];rw [if_pos (by simp;omega)];rfl
 simp only [aSlc,b3,b2,Option.isSome_none,Bool.false_and,Bool.false_eq_true,if_false,Nat.zero_add,Nat.mul_one]
def applyE (s:List UInt8) (x:Chg):List UInt8:=(s.take x.to.toNat).drop x.frm.toNat ++ x.text
def applyL (s:List UInt8) (l:List Chg):List UInt8:=(l.map (applyE s)).flatten
theorem apply_take {s:List UInt8} {l:List Chg} {i:Nat} (h:i<l.length):applyL s (l.take (i+1))=applyL s (l.take i) ++ applyE s l[i]:=by
 simp only [applyL]
 rw [List.take_succ_eq_append_getElem h,List.map_append,List.flatten_append]
 simp
theorem applyE_len {s:List UInt8} {x:Chg} (h0:0≤x.frm) (h1:x.frm≤x.to) (h2:x.to≤s.length):((applyE s x).length:Int)=(x.to - x.frm)+(x.text.length:Nat):=by
 simp only [applyE,List.length_append,List.length_drop,List.length_take];omega
theorem byteCells_app2 (s t:List UInt8):byteCells (s ++ t)=byteCells s ++ byteCells t:=by simp [byteCells]
theorem byteCells_len2 (s:List UInt8):(byteCells s).length=s.length:=by simp [byteCells]
theorem byteCells_cells (s:List UInt8):(byteCells s).all AVal.isCell=true:=by
 rw [List.all_eq_true];intro z hz;rw [byteCells,List.mem_map] at hz;obtain ⟨_,_,rfl⟩:=hz;rfl
theorem copy_str {σ:Heap} {K n N:Nat} {F t:List UInt8} {r:List AVal} {cap:Cap} (hK:σ.get K=some (.cells (byteCells F ++ r) none)) (hF:F.length=n) (hr:r.length=N - n) (ht:t.length≤N - n) {off:Nat} (ho:off=n∨N - n=0):
  ∃ σ',aCopy 1 (.slc (.new K) off (N - n) cap) (.str t) σ=some (.int .i64 (t.length:Nat),σ')∧σ'.get K=some (.cells (byteCells (F ++ t) ++ r.drop t.length) none)∧σ'.W=σ.W∧σ'.F0=σ.F0∧σ'.next=σ.next∧∀ q,q≠K→σ'.get q=σ.get q:=by
 have hm:min t.length (N - n)=t.length:=by omega
 simp only [aCopy,aSLen,aLenOf,hm,srcCells]
 by_cases h0:t.length=0
 ·have:t=[]:=List.eq_nil_of_length_eq_zero h0
  subst this
  refine ⟨σ,?_,by simpa using hK,rfl,rfl,rfl,fun _ _=>rfl⟩
  simp
 ·have hoe:off=n:=ho.resolve_right (by omega)
  rw [hoe]
  refine ⟨σ.set K (.cells (byteCells (F ++ t) ++ r.drop t.length) none),?_,by rw [Heap.get_set,if_pos rfl],rfl,rfl,rfl,fun q hq=>by rw [Heap.get_set,if_neg (Ne.symm hq)]⟩
  have hall:=byteCells_cells t
  have hsz:n+t.length≤(byteCells F ++ r).length:=by rw [List.length_append,byteCells_len2];omega
  have hov:over (byteCells F ++ r) n (byteCells t)=byteCells (F ++ t) ++ r.drop t.length:=by
   have h1:(byteCells F).length=n:=by rw [byteCells_len2];exact hF
   have e1:(byteCells F ++ r).take n=byteCells F:=by rw [List.take_append_of_le_length (by omega),List.take_of_length_le (by omega)]
   have e2:(byteCells F ++ r).drop (n+t.length)=r.drop t.length:=by
    rw [List.drop_append,List.drop_eq_nil_of_le (by omega),List.nil_append,h1,Nat.add_sub_cancel_left]
   simp only [over,byteCells_len2,e1,e2,byteCells_app2]
  have hst:storeAt σ K n (byteCells t)=some (σ.set K (.cells (byteCells (F ++ t) ++ r.drop t.length) none)):=by
   simp only [storeAt,hK]
   rw [if_pos (by simp only [byteCells_cells,Bool.and_true,decide_eq_true_eq,byteCells_len2];exact hsz),hov]
  simp only [Nat.le_refl,decide_true,Bool.and_true,if_true,List.take_length,if_neg h0,hst,Option.map_some]
theorem applyL_len {s:List UInt8} {d:Dlt} (h:DOk d) (hs:(s.length:Int)=d.base):∀ i,i≤d.els.length→((applyL s (d.els.take i)).length:Int)=keptL (d.els.take i)+(putL (d.els.take i):Nat):=by
 intro i
 induction i with
 | zero=>intro _;simp [applyL,keptL,putL]
 | succ i ih=>
  intro hi
  have h1:=ih (by omega)
  have h2:=h.nums (i:=i) (by omega)
  have h3:=h.at (i:=i) (by omega)
  rw [apply_take (by omega),kept_take (by omega),put_take (by omega),List.length_append]
  have hle:d.els[i].to≤(s.length:Int):=by
   rw [hs]
   have hb:=h.b0
   rcases elemOk_facts h3.1 with ⟨_,_,_,q⟩ | ⟨_,_,q,_⟩ <;> omega
  have:=applyE_len (s:=s) (x:=d.els[i]) (by omega) (by omega) hle
  omega
theorem slcS_of {s:List UInt8} {a b:Int} (h0:0≤a) (h1:a≤b) (h2:b≤s.length):aSlcS (.str s) (some (.int .i64 a)) (some (.int .i64 b))=some (.str ((s.take b.toNat).drop a.toNat)):=by
 have b1:aBound (some (.int .i64 b)) s.length s.length=some b.toNat:=by simp only [aBound];rw [if_pos (by simp;omega)]
 have b2:aBound (some (.int .i64 a)) 0 b.toNat=some a.toNat:=by simp only [aBound];rw [if_pos (by simp;omega)]
 simp only [aSlcS,b1,b2]
set_option maxHeartbeats 4000000 in
theorem apply_call (σ:Heap) (d:Dlt) (s:List UInt8) (h:DOk d) (hs:(s.length:Int)=d.base):ACall Tryz.prog n_delta_Apply [eDelta d,.str s] σ (.tup [.str (applyL s d.els),.int .i64 0]) σ:=by
 refine keep_call rfl (spec_of_awp mixed c_delta_Apply (tl rfl) ?_)
 unfold f_delta_Apply
 have hfew:=h.few
 have his:=fun ρ=>isD_call ρ d h
 have hsz:=fun ρ=>dsize_call ρ d h
 have hz:=h.kept0
 obtain ⟨N,hN⟩:∃ N:Nat,keptL d.els+((putL d.els:Nat):Int)=(N:Int):=⟨(keptL d.els+((putL d.els:Nat):Int)).toNat,by omega⟩
 rw [hN] at hsz
 have hNb:N≤20000:=by omega
 obtain ⟨σ1,hσ1⟩:∃ σ1,σ1=σ.new (.cells [.int .i64 d.base,.fsl 3 (d.els.map eChg)] none):=⟨_,rfl⟩
 have hk1:Keep [] σ σ1:=by rw [hσ1];exact (Keep.refl _ _).new _
 have hg1:σ1.get σ.next=some (.cells [.int .i64 d.base,.fsl 3 (d.els.map eChg)] none):=by rw [hσ1,Heap.get_new,if_pos rfl]
 have hn1:σ.next<σ1.next:=by rw [hσ1];simp
 have hbn:((s.length:Int) != d.base)=false:=by simp [hs]
 have z0:(0:Int)≤(N:Int):=by omega
 have z1:N≤maxRoom:=by unfold maxRoom;omega
 have z2:(N:Int)≤2 ^ 62:=by omega
 simp only [eDelta,eChgs] at his hsz
 simp +decide only [↓evd,evw,reduceCtorEq,↓reduceIte,eDelta,eChgs]
 rw [← hσ1]
 refine MSpec.of (his _) ?_
 simp +decide only [↓evd,evw,reduceCtorEq,↓reduceIte,hg1,hbn]
 refine MSpec.of (hsz _) ?_
 generalize σ.next=K at hg1 hn1 ⊢
 have hneq:(σ1.next=K)=False:=eq_false (by omega)
 simp +decide only [↓evd,evw,reduceCtorEq,↓reduceIte,z0,z1,z2]
 simp +decide only [↓evd,evw,evz,reduceCtorEq,↓reduceIte,hneq,hg1]
 have hz0:((List.replicate N [AVal.int IntKind.u8 0]).flatten).length=N:=by simp
 obtain ⟨zs,hzs⟩:∃ zs,zs=(List.replicate N [AVal.int IntKind.u8 0]).flatten:=⟨_,rfl⟩
 rw [← hzs] at hz0
 rw [← hzs]
 obtain ⟨σ2,hσ2⟩:∃ σ2,σ2=σ1.new (.cells zs none):=⟨_,rfl⟩
 have hk2:Keep [] σ σ2:=by rw [hσ2];exact hk1.new _
 have hg2:σ2.get σ1.next=some (.cells zs none):=by rw [hσ2,Heap.get_new,if_pos rfl]
 have hn2:σ1.next<σ2.next:=by rw [hσ2];simp
 have hlow:σ.next≤σ1.next:=hk1.2.2.1
 rw [← hσ2]
 generalize σ1.next=O at hg2 hn2 hlow ⊢
 clear hσ2 hσ1 hg1 hn1 hneq hzs
 refine awp_loop (fun m fr τ=>∃ (i:Nat) (r:List AVal),m+i=d.els.length∧fr.get 1= .str s∧fr.get 6= .slc (.new O) 0 N (.ex N)∧fr.get 7= .int .i64 ((applyL s (d.els.take i)).length:Nat)∧fr.get 24= .fsl 3 (d.els.map eChg)∧fr.get 25= .int .i64 (d.els.length:Nat)∧fr.get 26= .int .i64 (i:Nat)∧
  τ.get O=some (.cells (byteCells (applyL s (d.els.take i)) ++ r) none)∧r.length=N - (applyL s (d.els.take i)).length∧O<τ.next∧Keep [] σ τ) ?_ (m:=d.els.length) ?_
 ·rintro m fr τ ⟨i,r,hi,e1,e6,e7,e24,e25,e26,hO,hr,hOn,hK⟩
  by_cases hlt:i<d.els.length
  ·have hlt':(i:Int)<(d.els.length:Int):=by omega
   have hw:=wrap_succ (i:=i) (by omega)
   have hg:=map_get eChg d.els i hlt
   have hnum:=h.nums hlt
   have hat:=(h.at hlt).1
   have hal:=apply_take (s:=s) hlt
   have hl0:=applyL_len h hs i (by omega)
   have hl1:=applyL_len h hs (i+1) (by omega)
   have hp1:=h.prefix (i+1) (by omega)
   have hpn:keptL (d.els.take (i+1))+((putL (d.els.take (i+1)):Nat):Int)≤(N:Int):=by
    have e2:=putL_app (d.els.take (i+1)) (d.els.drop (i+1))
    rw [List.take_append_drop] at e2
    omega
   have hle:d.els[i].to≤(s.length:Int):=by
    rw [hs]
    have hb:=h.b0
    rcases elemOk_facts hat with ⟨_,_,_,q⟩ | ⟨_,_,q,_⟩ <;> omega
   generalize d.els[i]=x at hg hnum hat hal hle
   have hsl:=slcS_of (s:=s) (a:=x.frm) (b:=x.to) (by omega) (by omega) hle
   generalize applyL s (d.els.take i)=F at e7 hO hr hl0 hal
   rw [hal,applyE,← List.append_assoc] at hl1
   have hae:applyL s (d.els.take (i+1))=(F ++ (s.take x.to.toNat).drop x.frm.toNat) ++ x.text:=by rw [hal,applyE,List.append_assoc]
   generalize (s.take x.to.toNat).drop x.frm.toNat=t1 at hsl hl1 hae
   rw [List.length_append,List.length_append] at hl1
   obtain ⟨A,hA⟩:∃ A,τ.next=A:=⟨_,rfl⟩
   obtain ⟨τ1,hτ1⟩:∃ τ1,τ1=(τ.new (.cells [.int .i64 0,.int .i64 0,.str []] none)).set τ.next (.cells [.int .i64 x.frm,.int .i64 x.to,.str x.text] none):=⟨_,rfl⟩
   have hK1:Keep [] σ τ1:=by rw [hτ1];exact hK.junk _ _
   have hA1:τ1.get A=some (.cells [.int .i64 x.frm,.int .i64 x.to,.str x.text] none):=by rw [hτ1,Heap.get_set,if_pos hA]
   have hO1:τ1.get O=some (.cells (byteCells F ++ r) none):=by rw [hτ1,Heap.get_set,if_neg (by omega),Heap.get_new,if_neg (by omega)];exact hO
   have hnx:τ1.next=τ.next+1:=by rw [hτ1];simp
   have hsf:=slc_from (K:=O) (n:=F.length) (N:=N) (by omega)
   obtain ⟨τ2,c1,c2,c3,c4,c5,c6⟩:=copy_str (N:=N) (n:=F.length) (cap:= .ex (N - F.length)) (off:=if N=F.length then 0 else F.length) hO1 rfl hr (t:=t1) (by omega) (by by_cases hq:N=F.length <;> simp [hq])
   have hA2:τ2.get A=some (.cells [.int .i64 x.frm,.int .i64 x.to,.str x.text] none):=by rw [c6 A (by omega)];exact hA1
   have w1:IntKind.i64.wrap ((F.length:Int)+(t1.length:Int))=((F.length+t1.length:Nat):Int):=by rw [wrap_id (by omega) (by omega)];omega
   have hsf2:=slc_from (K:=O) (n:=F.length+t1.length) (N:=N) (by omega)
   obtain ⟨τ3,d1,d2,d3,d4,d5,d6⟩:=copy_str (N:=N) (n:=F.length+t1.length) (cap:= .ex (N - (F.length+t1.length))) (off:=if N=F.length+t1.length then 0 else F.length+t1.length) c2 (by rw [List.length_append]) (by rw [List.length_drop,hr];omega) (t:=x.text) (by omega) (by by_cases hq:N=F.length+t1.length <;> simp [hq])
   have w2:IntKind.i64.wrap (((F.length+t1.length:Nat):Int)+(x.text.length:Int))=(((F ++ t1) ++ x.text).length:Nat):=by rw [wrap_id (by omega) (by omega),List.length_append,List.length_append];omega
   have hK3:Keep [] σ τ3:=⟨d3.trans (c3.trans hK1.1),d4.trans (c4.trans hK1.2.1),by rw [d5,c5];exact hK1.2.2.1,fun q hq _=>by rw [d6 q (by omega),c6 q (by omega)];exact hK1.get hq⟩
   simp +decide only [↓evd,evw,reduceCtorEq,↓reduceIte,e24,e25,e26,hlt',hg,eChg]
   rw [← hτ1]
   simp only [hA]
   with_reducible refine draw_of_grow (fun q=>q=A) (ms:=[false,false,false,false,false,false,false,false,false,false,false,false,false]) (by kernel_rfl) ?_
   simp +decide only [↓evd,evw,reduceCtorEq,↓reduceIte,e1,e6,e7,hsf,hA1,hsl,c1]
   refine ⟨.inr ⟨c3,fun q hq=>by subst hq;rw [c6 _ (by omega)]⟩,?_⟩
   simp +decide only [↓evd,evw,↓reduceIte,w1]
   with_reducible refine draw_of_grow (fun q=>q=A) (ms:=[false,false,false,false,false,false,false,false,false]) (by kernel_rfl) ?_
   simp +decide only [↓evd,evw,reduceCtorEq,↓reduceIte,e6,hsf2,hA2,d1]
   refine ⟨.inr ⟨d3,fun q hq=>by subst hq;rw [d6 _ (by omega)]⟩,?_⟩
   simp +decide only [↓evd,evw,reduceCtorEq,↓reduceIte,e1,e6,e24,e25,e26,w2,hw]
   refine ⟨m - 1,by omega,i+1,(r.drop t1.length).drop x.text.length,by omega,by rw [hae],rfl,by rw [hae];exact d2,?_,?_,hK3⟩
   ·rw [hae,List.length_drop,List.length_drop,hr,List.length_append,List.length_append];omega
   ·rw [d5,c5,hnx];omega
  ·have hlt':¬(i:Int)<(d.els.length:Int):=by omega
   have hti:d.els.take i=d.els:=List.take_of_length_le (by omega)
   have hl0:=applyL_len h hs d.els.length (Nat.le_refl _)
   rw [List.take_length] at hl0
   rw [hti] at hO hr
   have hrn:r=[]:=List.eq_nil_of_length_eq_zero (by omega)
   subst hrn
   rw [List.append_nil] at hO
   have hlen:N=(applyL s d.els).length:=by omega
   have hbs:aBstr (.slc (.new O) 0 N (.ex N)) τ=some (.str (applyL s d.els)):=by
    have hc:=cellsFrom_whole hO
    rw [byteCells_len2] at hc
    simp only [aBstr,slcCells,Nat.le_refl,if_true,Nat.mul_one,hlen,hc,asBytes_app,Option.map_some]
   simp +decide only [↓evd,evw,reduceCtorEq,↓reduceIte,e6,e25,e26,hlt',hbs]
   first | exact hK | exact ⟨rfl,hK⟩
 ·refine ⟨0,zs,by omega,?_⟩
  simp +decide only [evw,↓reduceIte]
  have e0:applyL s (List.take 0 d.els)=[]:=rfl
  simp only [byteCells]
  first | exact ⟨rfl,hg2,hz0,hn2,hk2⟩ | exact ⟨hg2,hz0,hn2,hk2⟩
abbrev t_Elem:TypeId:=131
def mkC (r:List Chg) (f t:Int):List Chg:=if f=t then r else
 match r with
 | e::r'=>if isCp e=true∧e.to=f then ⟨e.frm,t,e.text⟩::r' else ⟨f,t,[]⟩::e::r'
 | []=>[⟨f,t,[]⟩]
def mkP (r:List Chg) (s:List UInt8):List Chg:=if s=[] then r else
 match r with
 | e::r'=>if isCp e=true then ⟨0,0,s⟩::e::r' else ⟨e.frm,e.to,e.text ++ s⟩::r'
 | []=>[⟨0,0,s⟩]
def IsMk (σ:Heap) (k:Nat) (base:Int) (r:List Chg) (fp:List Nat):Prop:=∃ x,σ.get k=some (.cells [.int .i64 base,x] none)∧Own 0 σ t_Elem 3 x (r.reverse.map eChg)∧k∉uid x∧k<σ.next∧fp=k::uid x
theorem IsMk.keep {σ τ:Heap} {k:Nat} {base:Int} {r:List Chg} {fp fp':List Nat} (h:IsMk σ k base r fp) (hk:Keep fp' σ τ) (hd:∀ y∈fp,y∉fp'):IsMk τ k base r fp:=by
 obtain ⟨x,h1,h2,h3,h4,rfl⟩:=h
 refine ⟨x,by rw [hk.2.2.2 k h4 (hd k (by simp))];exact h1,Own.move h2 hk.2.2.1 (fun K o n c e=>?_),h3,Nat.lt_of_lt_of_le h4 hk.2.2.1,rfl⟩
 exact hk.2.2.2 K (h2.low e).2 (hd K (List.mem_cons_of_mem _ (mem_uid.2 ⟨_,_,_,e⟩)))
theorem IsMk.low {σ:Heap} {k:Nat} {base:Int} {r:List Chg} {fp:List Nat} (h:IsMk σ k base r fp):∀ y∈fp,y<σ.next:=by
 obtain ⟨x,h1,h2,h3,h4,rfl⟩:=h
 intro y hy
 rcases List.mem_cons.1 hy with rfl | hy
 ·exact h4
 ·exact (own_low h2 y hy).2
theorem newMaker_at (σ:Heap) (base:Int):MSpec Tryz.prog n_delta_NewMaker [.int .i64 base] σ fun v τ=>v= .ptr (.new σ.next) 0∧IsMk τ σ.next base [] [σ.next]∧Keep [] σ τ:=by
 refine spec_of_awp mixed c_delta_NewMaker (tl rfl) ?_
 unfold f_delta_NewMaker
 simp +decide only [↓evd,evw,reduceCtorEq,↓reduceIte]
 exact ⟨⟨.nils,by rw [Heap.get_new,if_pos rfl],Own.nil _ _ _ _,by simp [uid],by simp,rfl⟩,(Keep.refl _ _).new _⟩
theorem flat3 (l:List Chg) (e:Chg):((l ++ [e]).map eChg).flatMap AVal.cells=(l.map eChg).flatMap AVal.cells ++ [.int .i64 e.frm,.int .i64 e.to,.str e.text]:=by
 rw [List.map_append,List.flatMap_append];rfl
theorem flat3_len (l:List Chg):((l.map eChg).flatMap AVal.cells).length=l.length * 3:=by
 have:=flat_len (chgs_row l)
 rwa [List.length_map] at this
theorem own_elem {B:Nat} {σ:Heap} {x:AVal} {l:List Chg} (h:Own B σ t_Elem 3 x (l.map eChg)) (hB:B≤σ.next) (b:Chg) (hr:l.length≤900000):
  ∃ x' τ,aApp t_Elem 3 32 x (.slc (.new σ.next) 0 1 (.ex 1)) (σ.new (.cells [.int .i64 b.frm,.int .i64 b.to,.str b.text] none))=some (x',τ)∧Own B τ t_Elem 3 x' ((l ++ [b]).map eChg)∧Ext B σ τ∧(∀ q,q<σ.next→q∉uid x→τ.get q=σ.get q)∧(∀ q∈uid x',σ.next≤q∨q∈uid x):=by
 have hsrc:=src_one (σ:=σ.new (.cells [.int .i64 b.frm,.int .i64 b.to,.str b.text] none)) (K:=σ.next) (k:=3) (cs:=[.int .i64 b.frm,.int .i64 b.to,.str b.text]) (opn:=none) (z:=eChg b) (cap:= .ex 1) (by rw [Heap.get_new,if_pos rfl]) rfl rfl
 obtain ⟨x',τ,g1,g2,g3,g4,g5⟩:=own_app2 (bytes:=32) (h.new (.cells [.int .i64 b.frm,.int .i64 b.to,.str b.text] none)) (Nat.le_succ_of_le hB) hsrc.1 hsrc.2 (by intro y hy;simp at hy;subst hy;rfl) rfl (by omega) (by omega) (by unfold maxRoom;simp;omega)
 refine ⟨x',τ,g1,by rw [List.map_append];exact g2,⟨g3.1,g3.2.1,by have:=g3.2.2.1;simp at this;omega,fun q hq=>?_⟩,fun q hq hn=>?_,fun q hq=>?_⟩
 ·rw [g3.2.2.2 q hq,Heap.get_new,if_neg (by omega)]
 ·rw [g4 q (by simp;omega) (fun K o n c e hqK=>hn (mem_uid.2 ⟨o,n,c,by rw [hqK];exact e⟩)),Heap.get_new,if_neg (by omega)]
 ·obtain ⟨o,n,c,e⟩:=mem_uid.1 hq
  rcases g5 q o n c e with h1 | ⟨o',n',c',h1⟩
  ·left;simp at h1;omega
  ·exact .inr (mem_uid.2 ⟨o',n',c',h1⟩)
theorem mcopy_at {σ:Heap} {k:Nat} {base f t:Int} {r:List Chg} {fp:List Nat} (h:IsMk σ k base r fp) (hl:r.length≤900000):MSpec Tryz.prog n_delta_Maker_Copy [.ptr (.new k) 0,.int .i64 f,.int .i64 t] σ fun v τ=>∃ fp',IsMk τ k base (mkC r f t) fp'∧Keep fp σ τ∧Fresh fp σ fp':=by
 obtain ⟨x,hb,hO,hkx,hkn,rfl⟩:=id h
 refine spec_of_awp mixed c_delta_Maker_Copy (tl rfl) ?_
 unfold f_delta_Maker_Copy
 by_cases hft:f=t
 ·have hbt:(f==t)=true:=by simpa using hft
  have e:mkC r f t=r:=by simp [mkC,hft]
  rw [e]
  simp +decide only [↓evd,evw,reduceCtorEq,↓reduceIte,hbt]
  exact ⟨_,h,Keep.refl _ _,fun y hy=>.inl hy⟩
 have hbt:(f==t)=false:=by simpa using hft
 have hxl:=hO.len
 rw [List.length_map,List.length_reverse] at hxl
 have hw:IntKind.i64.wrap ((r.length:Int) - 1)=(r.length:Int) - 1:=wrap_id (by omega) (by omega)
 have hxr:x.isRaw=false:=by rcases hO.2 with ⟨rfl,_⟩ | ⟨K,rfl,_⟩ <;> rfl
 have app:∀ b:Chg,∃ x' τ,aApp t_Elem 3 32 x (.slc (.new σ.next) 0 1 (.ex 1)) (σ.new (.cells [.int .i64 b.frm,.int .i64 b.to,.str b.text] none))=some (x',τ)∧τ.get k=some (.cells [.int .i64 base,x] none)∧x'.isCell=true∧x'.isRaw=false∧x'.cells=[x']∧∃ fp',IsMk (τ.set k (.cells [.int .i64 base,x'] none)) k base (b::r) fp'∧Keep (k::uid x) σ (τ.set k (.cells [.int .i64 base,x'] none))∧Fresh (k::uid x) σ fp':=by
  intro b
  obtain ⟨x',τ,g1,g2,g3,g4,g5⟩:=own_elem hO (Nat.zero_le _) b (by rw [List.length_reverse];omega)
  have hk':k∉uid x':=fun hm=>by
   rcases g5 k hm with h1 | h1
   ·omega
   ·exact hkx h1
  have hkp:Keep (k::uid x) σ τ:=⟨g3.1,g3.2.1,g3.2.2.1,fun q hq hn=>g4 q hq (fun hm=>hn (List.mem_cons_of_mem _ hm))⟩
  refine ⟨x',τ,g1,by rw [g4 k hkn hkx];exact hb,own_kind g2,by rcases g2.2 with ⟨rfl,_⟩ | ⟨K,rfl,_⟩ <;> rfl,by rcases g2.2 with ⟨rfl,_⟩ | ⟨K,rfl,_⟩ <;> rfl,k::uid x',⟨x',by rw [Heap.get_set,if_pos rfl],?_,hk',by rw [Heap.set_next];have:=g3.2.2.1;omega,rfl⟩,hkp.set (.inl (by simp)) _,fun y hy=>?_⟩
  ·rw [List.reverse_cons]
   exact Own.set g2 (fun K o n c e hj=>hk' (mem_uid.2 ⟨o,n,c,by rw [hj];exact e⟩)) _
  ·rcases List.mem_cons.1 hy with rfl | hy
   ·exact .inl (by simp)
   ·rcases g5 y hy with h1 | h1
    ·exact .inr h1
    ·exact .inl (List.mem_cons_of_mem _ h1)
 obtain ⟨x1,τ1,a1,a2,a3,a6,a4,a5⟩:=app ⟨f,t,[]⟩
 cases r with
 | nil=>
  have e:mkC [] f t=[⟨f,t,[]⟩]:=by simp [mkC,hft]
  have hxl0:aLen x=some (.int .i64 0):=hxl
  have hw0:IntKind.i64.wrap (0 - 1)= -1:=by decide
  have hn0:¬(0:Int)≤ -1:=by decide
  simp only at a1
  rw [e]
  simp +decide only [↓evd,evw,reduceCtorEq,↓reduceIte,hbt,hb,hxl0,hw0,a1,a2,a3,a4,a6]
  exact a5
 | cons e r'=>
  rw [List.reverse_cons] at hO
  have hel:(List.map eChg (r'.reverse ++ [e])).length=r'.length+1:=by simp
  obtain ⟨K,rfl,hgK,hKn⟩:∃ K,x= .slc (.new K) 0 (r'.length+1) (.gr 3)∧σ.get K=some (.cells ((r'.reverse.map eChg).flatMap AVal.cells ++ [.int .i64 e.frm,.int .i64 e.to,.str e.text]) (some t_Elem))∧K<σ.next:=by
   rcases hO.2 with ⟨_,h0⟩ | ⟨K,h1,h2,_,h3⟩
   ·simp at h0
   ·rw [hel] at h1;rw [flat3] at h2;exact ⟨K,h1,h2,h3⟩
  have hAl:((r'.reverse.map eChg).flatMap AVal.cells).length=r'.length * 3:=by rw [flat3_len,List.length_reverse]
  generalize hAe:(r'.reverse.map eChg).flatMap AVal.cells=A at hgK hAl
  have hcl:(A ++ [AVal.int .i64 e.frm,.int .i64 e.to,.str e.text]).length=r'.length * 3+3:=by rw [List.length_append,hAl];rfl
  have hld:cellsFrom σ (.new K) (r'.length * 3) 3=some [.int .i64 e.frm,.int .i64 e.to,.str e.text]:=by
   rw [cellsFrom_get hgK _ _ (by omega),← hAl,List.drop_left];rfl
  have hc1:σ.cell (.new K) (r'.length * 3+1)=some (.int .i64 e.to):=by
   simp only [Heap.cell,hgK]
   rw [← hAl,List.getElem?_append_right (by omega),Nat.add_sub_cancel_left];rfl
  have hw1:IntKind.i64.wrap (((r'.length+1:Nat):Int) - 1)=(r'.length:Int):=by rw [wrap_id (by simp at hl;omega) (by simp at hl;omega)];omega
  have hge:(0:Int)≤(r'.length:Int):=by omega
  have hlt:((r'.length:Nat):Int)<((r'.length+1:Nat):Int):=by omega
  have hic:=isCopy_call σ e
  simp only [eChg] at hic
  simp only at a1
  simp +decide only [↓evd,evw,reduceCtorEq,↓reduceIte,hbt,hb,hxl,hw1,hge,hlt,↓hld]
  refine MSpec.of hic ?_
  have hKk:K≠k:=fun e=>hkx (by simp [uid,e])
  have wr:∀ (c:Chg) (cs2:List AVal),cs2=A ++ [.int .i64 c.frm,.int .i64 c.to,.str c.text]→A=(r'.reverse.map eChg).flatMap AVal.cells→∃ fp',IsMk (σ.set K (.cells cs2 (some t_Elem))) k base (c::r') fp'∧Keep (k::uid (.slc (.new K) 0 (r'.length+1) (.gr 3))) σ (σ.set K (.cells cs2 (some t_Elem)))∧Fresh (k::uid (.slc (.new K) 0 (r'.length+1) (.gr 3))) σ fp':=by
   intro c cs2 h1 h2
   refine ⟨k::uid (.slc (.new K) 0 (r'.length+1) (.gr 3)),⟨.slc (.new K) 0 (r'.length+1) (.gr 3),by rw [Heap.get_set,if_neg hKk];exact hb,⟨chgs_row _,.inr ⟨K,by simp,?_,Nat.zero_le _,by simpa using hKn⟩⟩,hkx,by simpa using hkn,rfl⟩,(Keep.refl _ _).set (.inl (by simp [uid])) _,fun y hy=>.inl hy⟩
   rw [Heap.get_set,if_pos rfl,List.reverse_cons,flat3,h1,h2]
  cases hc:isCp e
  ·have em:mkC (e::r') f t=⟨f,t,[]⟩::e::r':=by simp [mkC,hft,hc]
   rw [em]
   simp +decide only [↓evd,evw,reduceCtorEq,↓reduceIte,hb,a1,a2,a3,a4,a6]
   exact a5
  ·by_cases he:e.to=f
   ·have hbe:(e.to==f)=true:=by simpa using he
    have em:mkC (e::r') f t=⟨e.frm,t,e.text⟩::r':=by simp [mkC,hft,hc,he]
    rw [em]
    have hle:decide (r'.length * 3+1+1≤(A ++ [AVal.int .i64 e.frm,.int .i64 e.to,.str e.text]).length)=true:=by rw [hcl];simp
    have hset:(A ++ [AVal.int .i64 e.frm,.int .i64 e.to,.str e.text]).take (r'.length * 3+1) ++ [AVal.int .i64 t] ++ (A ++ [AVal.int .i64 e.frm,.int .i64 e.to,.str e.text]).drop (r'.length * 3+1+1)=A ++ [.int .i64 e.frm,.int .i64 t,.str e.text]:=by
     rw [← hAl,List.take_append,List.take_of_length_le (by omega),Nat.add_sub_cancel_left,Nat.add_assoc,List.drop_append,List.drop_eq_nil_of_le (by omega),Nat.add_sub_cancel_left]
     simp
    generalize A ++ [AVal.int .i64 e.frm,.int .i64 e.to,.str e.text]=cs at hgK hle hset
    simp +decide only [↓evd,evw,reduceCtorEq,↓reduceIte,hb,hge,hlt,hc1,hbe,hgK,hle,hset]
    exact wr ⟨e.frm,t,e.text⟩ _ rfl hAe.symm
   ·have hbe:(e.to==f)=false:=by simpa using he
    have em:mkC (e::r') f t=⟨f,t,[]⟩::e::r':=by simp [mkC,hft,hc,he]
    rw [em]
    simp +decide only [↓evd,evw,reduceCtorEq,↓reduceIte,hb,hge,hlt,hc1,hbe,a1,a2,a3,a4,a6]
    exact a5
set_option maxHeartbeats 1000000 in
theorem mput_at {σ:Heap} {k:Nat} {base:Int} {s:List UInt8} {r:List Chg} {fp:List Nat} (h:IsMk σ k base r fp) (hl:r.length≤900000) (hs:s.length≤1000000) (hrs:∀ e∈r,e.text.length≤1000000):MSpec Tryz.prog n_delta_Maker_Put [.ptr (.new k) 0,.str s] σ fun v τ=>∃ fp',IsMk τ k base (mkP r s) fp'∧Keep fp σ τ∧Fresh fp σ fp':=by
 obtain ⟨x,hb,hO,hkx,hkn,rfl⟩:=id h
 refine spec_of_awp mixed c_delta_Maker_Put (tl rfl) ?_
 unfold f_delta_Maker_Put
 by_cases hft:s=[]
 ·have hbt:(s==[])=true:=by simpa using hft
  have e:mkP r s=r:=by simp [mkP,hft]
  rw [e]
  simp +decide only [↓evd,evw,reduceCtorEq,↓reduceIte,aStr,hbt]
  exact ⟨_,h,Keep.refl _ _,fun y hy=>.inl hy⟩
 have hbt:(s==[])=false:=by simpa using hft
 have hxl:=hO.len
 rw [List.length_map,List.length_reverse] at hxl
 have hw:IntKind.i64.wrap ((r.length:Int) - 1)=(r.length:Int) - 1:=wrap_id (by omega) (by omega)
 have hxr:x.isRaw=false:=by rcases hO.2 with ⟨rfl,_⟩ | ⟨K,rfl,_⟩ <;> rfl
 have app:∀ b:Chg,∃ x' τ,aApp t_Elem 3 32 x (.slc (.new σ.next) 0 1 (.ex 1)) (σ.new (.cells [.int .i64 b.frm,.int .i64 b.to,.str b.text] none))=some (x',τ)∧τ.get k=some (.cells [.int .i64 base,x] none)∧x'.isCell=true∧x'.isRaw=false∧x'.cells=[x']∧∃ fp',IsMk (τ.set k (.cells [.int .i64 base,x'] none)) k base (b::r) fp'∧Keep (k::uid x) σ (τ.set k (.cells [.int .i64 base,x'] none))∧Fresh (k::uid x) σ fp':=by
  intro b
  obtain ⟨x',τ,g1,g2,g3,g4,g5⟩:=own_elem hO (Nat.zero_le _) b (by rw [List.length_reverse];omega)
  have hk':k∉uid x':=fun hm=>by
   rcases g5 k hm with h1 | h1
   ·omega
   ·exact hkx h1
  have hkp:Keep (k::uid x) σ τ:=⟨g3.1,g3.2.1,g3.2.2.1,fun q hq hn=>g4 q hq (fun hm=>hn (List.mem_cons_of_mem _ hm))⟩
  refine ⟨x',τ,g1,by rw [g4 k hkn hkx];exact hb,own_kind g2,by rcases g2.2 with ⟨rfl,_⟩ | ⟨K,rfl,_⟩ <;> rfl,by rcases g2.2 with ⟨rfl,_⟩ | ⟨K,rfl,_⟩ <;> rfl,k::uid x',⟨x',by rw [Heap.get_set,if_pos rfl],?_,hk',by rw [Heap.set_next];have:=g3.2.2.1;omega,rfl⟩,hkp.set (.inl (by simp)) _,fun y hy=>?_⟩
  ·rw [List.reverse_cons]
   exact Own.set g2 (fun K o n c e hj=>hk' (mem_uid.2 ⟨o,n,c,by rw [hj];exact e⟩)) _
  ·rcases List.mem_cons.1 hy with rfl | hy
   ·exact .inl (by simp)
   ·rcases g5 y hy with h1 | h1
    ·exact .inr h1
    ·exact .inl (List.mem_cons_of_mem _ h1)
 obtain ⟨x1,τ1,a1,a2,a3,a6,a4,a5⟩:=app ⟨0,0,s⟩
 cases r with
 | nil=>
  have e:mkP [] s=[⟨0,0,s⟩]:=by simp [mkP,hft]
  have hxl0:aLen x=some (.int .i64 0):=hxl
  have hw0:IntKind.i64.wrap (0 - 1)= -1:=by decide
  have hn0:¬(0:Int)≤ -1:=by decide
  simp only at a1
  rw [e]
  simp +decide only [↓evd,evw,reduceCtorEq,↓reduceIte,aStr,hbt,hb,hxl0,hw0,a1,a2,a3,a4,a6]
  exact a5
 | cons e r'=>
  rw [List.reverse_cons] at hO
  have hel:(List.map eChg (r'.reverse ++ [e])).length=r'.length+1:=by simp
  obtain ⟨K,rfl,hgK,hKn⟩:∃ K,x= .slc (.new K) 0 (r'.length+1) (.gr 3)∧σ.get K=some (.cells ((r'.reverse.map eChg).flatMap AVal.cells ++ [.int .i64 e.frm,.int .i64 e.to,.str e.text]) (some t_Elem))∧K<σ.next:=by
   rcases hO.2 with ⟨_,h0⟩ | ⟨K,h1,h2,_,h3⟩
   ·simp at h0
   ·rw [hel] at h1;rw [flat3] at h2;exact ⟨K,h1,h2,h3⟩
  have hAl:((r'.reverse.map eChg).flatMap AVal.cells).length=r'.length * 3:=by rw [flat3_len,List.length_reverse]
  generalize hAe:(r'.reverse.map eChg).flatMap AVal.cells=A at hgK hAl
  have hcl:(A ++ [AVal.int .i64 e.frm,.int .i64 e.to,.str e.text]).length=r'.length * 3+3:=by rw [List.length_append,hAl];rfl
  have hld:cellsFrom σ (.new K) (r'.length * 3) 3=some [.int .i64 e.frm,.int .i64 e.to,.str e.text]:=by
   rw [cellsFrom_get hgK _ _ (by omega),← hAl,List.drop_left];rfl
  have hc1:σ.cell (.new K) (r'.length * 3+1)=some (.int .i64 e.to):=by
   simp only [Heap.cell,hgK]
   rw [← hAl,List.getElem?_append_right (by omega),Nat.add_sub_cancel_left];rfl
  have hw1:IntKind.i64.wrap (((r'.length+1:Nat):Int) - 1)=(r'.length:Int):=by rw [wrap_id (by simp at hl;omega) (by simp at hl;omega)];omega
  have hge:(0:Int)≤(r'.length:Int):=by omega
  have hlt:((r'.length:Nat):Int)<((r'.length+1:Nat):Int):=by omega
  have hic:=isCopy_call σ e
  simp only [eChg] at hic
  simp only at a1
  simp +decide only [↓evd,evw,reduceCtorEq,↓reduceIte,aStr,hbt,hb,hxl,hw1,hge,hlt,↓hld]
  refine MSpec.of hic ?_
  have hKk:K≠k:=fun e=>hkx (by simp [uid,e])
  have wr:∀ (c:Chg) (cs2:List AVal),cs2=A ++ [.int .i64 c.frm,.int .i64 c.to,.str c.text]→A=(r'.reverse.map eChg).flatMap AVal.cells→∃ fp',IsMk (σ.set K (.cells cs2 (some t_Elem))) k base (c::r') fp'∧Keep (k::uid (.slc (.new K) 0 (r'.length+1) (.gr 3))) σ (σ.set K (.cells cs2 (some t_Elem)))∧Fresh (k::uid (.slc (.new K) 0 (r'.length+1) (.gr 3))) σ fp':=by
   intro c cs2 h1 h2
   refine ⟨k::uid (.slc (.new K) 0 (r'.length+1) (.gr 3)),⟨.slc (.new K) 0 (r'.length+1) (.gr 3),by rw [Heap.get_set,if_neg hKk];exact hb,⟨chgs_row _,.inr ⟨K,by simp,?_,Nat.zero_le _,by simpa using hKn⟩⟩,hkx,by simpa using hkn,rfl⟩,(Keep.refl _ _).set (.inl (by simp [uid])) _,fun y hy=>.inl hy⟩
   rw [Heap.get_set,if_pos rfl,List.reverse_cons,flat3,h1,h2]
  cases hc:isCp e
  ·have em:mkP (e::r') s=⟨e.frm,e.to,e.text ++ s⟩::r':=by simp [mkP,hft,hc]
   rw [em]
   have hc2:σ.cell (.new K) (r'.length * 3+2)=some (.str e.text):=by
    simp only [Heap.cell,hgK]
    rw [← hAl,List.getElem?_append_right (by omega),Nat.add_sub_cancel_left];rfl
   have hle:decide (r'.length * 3+2+1≤(A ++ [AVal.int .i64 e.frm,.int .i64 e.to,.str e.text]).length)=true:=by rw [hcl];simp
   have hset:(A ++ [AVal.int .i64 e.frm,.int .i64 e.to,.str e.text]).take (r'.length * 3+2) ++ [AVal.str (e.text ++ s)] ++ (A ++ [AVal.int .i64 e.frm,.int .i64 e.to,.str e.text]).drop (r'.length * 3+2+1)=A ++ [.int .i64 e.frm,.int .i64 e.to,.str (e.text ++ s)]:=by
    rw [← hAl,List.take_append,List.take_of_length_le (by omega),Nat.add_sub_cancel_left,Nat.add_assoc,List.drop_append,List.drop_eq_nil_of_le (by omega),Nat.add_sub_cancel_left]
    simp
   have hadd:aStr .add e.text s=some (.str (e.text ++ s)):=by
    have:=hrs e (by simp)
    simp only [aStr];rw [if_pos (by omega)]
   generalize A ++ [AVal.int .i64 e.frm,.int .i64 e.to,.str e.text]=cs at hgK hle hset
   simp +decide only [↓evd,evw,reduceCtorEq,↓reduceIte,hb,hge,hlt,hc2,hadd,hgK,hle,hset]
   exact wr ⟨e.frm,e.to,e.text ++ s⟩ _ rfl hAe.symm
  ·have em:mkP (e::r') s=⟨0,0,s⟩::e::r':=by simp [mkP,hft,hc]
   rw [em]
   simp +decide only [↓evd,evw,reduceCtorEq,↓reduceIte,hb,a1,a2,a3,a4,a6]
   exact a5
theorem seen_call {f:FuncId} {args:List AVal} {v:AVal} {σ:Heap} (hv:v.pure=true) (h:MSpec Tryz.prog f args σ fun u τ=>Keep [] σ τ∧∃ ρ,Sees τ u ρ v∧ρ.W=τ.W∧ρ.F0=τ.F0∧∀ q,q<σ.next→ρ.get q=τ.get q):ACall Tryz.prog f args σ v σ:=by
 obtain ⟨u,τ,ha,hK,ρ,s1,s2,s3,s4⟩:=h
 exact acall_gc (acall_see ha s1) hv (s2.trans hK.1) (s3.trans hK.2.1) fun q hq=>by rw [s4 q hq];exact hK.get hq
theorem sees_delta {B:Nat} {σ:Heap} {x:AVal} {base:Int} {l:List Chg} (h:Own B σ t_Elem 3 x (l.map eChg)):∃ ρ,Sees σ (.agg [.int .i64 base,x]) ρ (eDelta ⟨base,l⟩)∧ρ.W=σ.W∧ρ.F0=σ.F0∧ρ.next=σ.next∧∀ q,q<B→ρ.get q=σ.get q:=by
 obtain ⟨ρ,s1,s2,s3,s4,s5⟩:=Own.sees h
 exact ⟨ρ,SeesL.agg (.cons (Sees.refl _ _) (.cons s1 (.nil _))),s2,s3,s4,s5⟩
theorem Own.raise {B k:Nat} {e:TypeId} {σ:Heap} {x:AVal} {els:List AVal} (h:Own 0 σ e k x els) (hB:∀ q∈uid x,B≤q):Own B σ e k x els:=
 ⟨h.1,h.2.imp id fun ⟨K,h1,h2,_,h4⟩=>⟨K,h1,h2,hB K (mem_uid.2 ⟨_,_,_,h1⟩),h4⟩⟩
theorem mdelta_at {σ:Heap} {k:Nat} {base:Int} {r:List Chg} {fp:List Nat} (h:IsMk σ k base r fp) (hl:r.length≤900000):MSpec Tryz.prog n_delta_Maker_Delta [.ptr (.new k) 0] σ fun v τ=>Keep [] σ τ∧
  ((r.length≤60∧∃ x,σ.get k=some (.cells [.int .i64 base,x] none)∧v= .tup [.agg [.int .i64 base,x],.int .i64 0])∨(60<r.length∧v= .tup [.agg [.int .i64 0,.nils],.int .i64 70])):=by
 obtain ⟨x,hb,hO,hkx,hkn,rfl⟩:=id h
 refine spec_of_awp mixed c_delta_Maker_Delta (tl rfl) ?_
 unfold f_delta_Maker_Delta
 have hxl:=hO.len
 rw [List.length_map,List.length_reverse] at hxl
 have hxr:x.isRaw=false:=by rcases hO.2 with ⟨rfl,_⟩ | ⟨K,rfl,_⟩ <;> rfl
 have hxc:x.isCell=true:=own_kind hO
 have hxx:x.cells=[x]:=by rcases hO.2 with ⟨rfl,_⟩ | ⟨K,rfl,_⟩ <;> rfl
 have hne:(σ.next=k)=False:=eq_false (by omega)
 by_cases h60:(60:Int)<(r.length:Int)
 ·simp +decide only [↓evd,evw,reduceCtorEq,↓reduceIte,hb,hxl,hne,h60]
  exact ⟨((Keep.refl [] σ).new _).set (.inr (Nat.le_refl _)) _,.inr (by omega)⟩
 ·simp +decide only [↓evd,evw,reduceCtorEq,↓reduceIte,hb,hxl,hxc,hne,h60]
  refine ⟨((Keep.refl [] σ).new _).set (.inr (Nat.le_refl _)) _,.inl ⟨by omega,?_⟩⟩
  first | exact ⟨x,rfl,rfl⟩ | trivial
theorem eql_call (σ:Heap) (l:List Chg) (hl:l.length≤1000000):ACall Tryz.prog n_slices_Equal_api_Elem_api_Elem [eChgs l,eChgs l] σ (.bool true) σ:=by
 refine bare_call (by simp only [AVal.pures,eChgs_pure];rfl) rfl (fun W F=>spec_of_awp mixed c_slices_Equal_api_Elem_api_Elem (tl rfl) ?_) σ
 unfold f_slices_Equal_api_Elem_api_Elem
 have bb:∀ x:Int,(x != x)=false:=by intro x;simp
 simp +decide only [↓evd,evw,evz,reduceCtorEq,↓reduceIte,bb]
 refine awp_loop (fun m fr τ=>∃ (i:Nat),m+i=l.length∧fr.get 0=eChgs l∧fr.get 1=eChgs l∧fr.get 12= .int .i64 (l.length:Nat)∧fr.get 13= .int .i64 (i:Nat)∧τ.W=W∧τ.F0=F) ?_ (m:=l.length) ?_
 ·rintro m fr τ ⟨i,hi,e0,e1,e12,e13,hW,hF⟩
  by_cases hlt:i<l.length
  ·have hlt':(i:Int)<(l.length:Int):=by omega
   have hw:=wrap_succ (i:=i) (by omega)
   have hg:=map_get eChg l i hlt
   generalize l[i]=a at hg
   simp +decide only [↓evd,evw,evz,reduceCtorEq,↓reduceIte,e12,e13,hlt']
   with_reducible refine draw_of_grow (fun _=>True) (ms:=[false,false,false,false,false,false,false,false,false]) (by kernel_rfl) ?_
   simp +decide only [↓evd,evw,evz,reduceCtorEq,↓reduceIte,e0,e1,e12,e13,hg,eChg,hw]
   exact ⟨m - 1,by omega,i+1,by omega,rfl,hW,hF⟩
  ·have hlt':¬(i:Int)<(l.length:Int):=by omega
   simp +decide only [↓evd,evw,reduceCtorEq,↓reduceIte,e12,e13,hlt']
   exact seen rfl hW hF
 ·refine ⟨0,by omega,?_⟩
  simp +decide only [evw,evz,↓reduceIte]
theorem dsame_call (σ:Heap) (d:Dlt) (hl:d.els.length≤1000000):ACall Tryz.prog n_delta_Same [eDelta d,eDelta d] σ (.bool true) σ:=by
 refine keep_call rfl (spec_of_awp mixed c_delta_Same (tl rfl) ?_)
 unfold f_delta_Same
 have he:=fun ρ=>eql_call ρ d.els hl
 simp only [eChgs] at he
 have ne1:(σ.next+1=σ.next)=False:=eq_false (by omega)
 simp +decide only [↓evd,evw,reduceCtorEq,↓reduceIte,eDelta,eChgs,ne1]
 refine MSpec.of (he _) ?_
 simp +decide only [↓evd,evw,reduceCtorEq,↓reduceIte]
 exact ((Keep.refl _ _).new _).new _
theorem keepD_call (σ:Heap) (n:Nat) (hn:n≤20000):ACall Tryz.prog n_delta_Keep [.int .i64 (n:Nat)] σ (eDelta ⟨n,(mkC [] 0 n).reverse⟩) σ:=by
 refine seen_call (eDelta_pure _) (spec_of_awp mixed c_delta_Keep (tl rfl) ?_)
 unfold f_delta_Keep
 have m1:(if (0:Int)<((n:Nat):Int) then (0:Int) else 0)=0:=by split <;> rfl
 have m2:¬((n:Nat):Int)<0:=by omega
 have m3:¬(20000:Int)<((n:Nat):Int):=by omega
 simp +decide only [↓evd,evw,reduceCtorEq,↓reduceIte,m2,m3]
 refine (newMaker_at _ (n:Nat)).mono ?_
 rintro v τ ⟨rfl,hM,hK⟩
 simp only [Heap.new_next] at hM
 obtain ⟨x,hb,_⟩:=id hM
 have hn0:=hK.2.2.1
 have hg0:τ.get σ.next=some (.cells [.int .i64 0,.nils] none):=by rw [hK.get (by simp),Heap.get_new,if_pos rfl]
 have hK0:Keep [] σ τ:=((Keep.refl [] σ).new _).trans hK (fun x hx=>nomatch hx)
 simp +decide only [↓evd,evw,reduceCtorEq,↓reduceIte,hb]
 refine (mcopy_at hM (by simp)).mono ?_
 rintro v τ1 ⟨fp1,hM1,hK1,hF1⟩
 obtain ⟨x1,hb1,hO1,hkx,hkn,rfl⟩:=hM1
 have hg1:τ1.get σ.next=some (.cells [.int .i64 0,.nils] none):=by rw [hK1.2.2.2 _ (by simp at hn0;omega) (by simp)];exact hg0
 have hxr:x1.isRaw=false:=by rcases hO1.2 with ⟨rfl,_⟩ | ⟨K,rfl,_⟩ <;> rfl
 have hxc:x1.isCell=true:=own_kind hO1
 have hxx:x1.cells=[x1]:=by rcases hO1.2 with ⟨rfl,_⟩ | ⟨K,rfl,_⟩ <;> rfl
 have hK2:Keep [] σ τ1:=⟨hK1.1.trans hK0.1,hK1.2.1.trans hK0.2.1,Nat.le_trans hK0.2.2.1 hK1.2.2.1,fun q hq _=>by rw [hK1.2.2.2 q (by have:=hK0.2.2.1;omega) (by simp;omega)];exact hK0.get hq⟩
 simp +decide only [↓evd,evw,reduceCtorEq,↓reduceIte,hb1,hg1,hxc]
 have hlow:∀ q∈uid x1,σ.next+1≤q:=fun q hq=>by
  rcases hF1 q (List.mem_cons_of_mem _ hq) with h1 | h1
  ·simp at h1;omega
  ·have:=hn0;simp only [Heap.new_next] at this;omega
 have hO2:Own (σ.next+1) (τ1.set σ.next (.cells [.int .i64 (n:Nat),x1] none)) t_Elem 3 x1 ((mkC [] 0 n).reverse.map eChg):=
  Own.set (Own.raise hO1 hlow) (fun K o m c e hj=>by have:=hlow K (mem_uid.2 ⟨_,_,_,e⟩);omega) _
 obtain ⟨ρ,s1,s2,s3,s4,s5⟩:=sees_delta (base:=(n:Nat)) hO2
 refine ⟨hK2.set (.inr (Nat.le_refl _)) _,ρ,s1,s2,s3,fun q hq=>?_⟩
 rw [s5 q (by omega),Heap.get_set]
theorem each_spec {σ:Heap} {k:Nat} {E:Eng} {fp:List Nat} (h:IsEng σ k E fp) (frm to:Int) (f:FuncId) (caps:List AVal) (Inv:Nat→Heap→Prop) (stab:∀ i τ b c,Inv i τ→Inv i ((τ.new b).set τ.next c))
  (step:∀ (i:Nat) (a:Atom) (τ:Heap),E.l[i]? =some a→Inv i τ→(visible frm (E.R.undone frm) a=false→visible to (E.R.undone to) a=false→Inv (i+1) τ)∧
   ((visible frm (E.R.undone frm) a || visible to (E.R.undone to) a)=true→MSpec Tryz.prog f (.str a.text::.bool (visible frm (E.R.undone frm) a)::.bool (visible to (E.R.undone to) a)::caps) τ fun v τ'=>Inv (i+1) τ')) (h0:Inv 0 σ):
  MSpec Tryz.prog n_diff_each [.ptr (.new k) 0,.int .i64 frm,.int .i64 to,.fn f caps] σ fun v τ=>(E.R.live frm=true∧E.R.live to=true∧v= .int .i64 0∧Inv E.l.length τ)∨((E.R.live frm && E.R.live to)=false∧v= .int .i64 190∧τ=σ):=by
 refine spec_of_awp mixed c_diff_each (tl rfl) ?_
 unfold f_diff_each
 obtain ⟨hok,hRok⟩:=h.ok
 have hll:=hok.len
 have hhd:=head_le hRok
 have l1:=elive_at h frm
 have l2:=elive_at h to
 have hat:=eatoms_at h
 have u1:ACall Tryz.prog n_engine_Engine_UndoneAt [.ptr (.new k) 0,.int .i64 frm] σ (ints (E.R.undone frm)) σ:=by obtain ⟨_,_,_,hA,_⟩:=h;exact hA.undoneAt frm
 have u2:ACall Tryz.prog n_engine_Engine_UndoneAt [.ptr (.new k) 0,.int .i64 to] σ (ints (E.R.undone to)) σ:=by obtain ⟨_,_,_,hA,_⟩:=h;exact hA.undoneAt to
 have f1:=undone_few hRok frm
 have f2:=undone_few hRok to
 simp only [eAtoms] at hat
 simp only [ints] at u1 u2
 generalize E.R.undone frm=uf at u1 f1 step
 generalize E.R.undone to=ut at u2 f2 step
 simp +decide only [↓evd,evw,reduceCtorEq,↓reduceIte]
 refine MSpec.of l1 ?_
 cases h1:E.R.live frm
 ·simp +decide only [↓evd,evw,reduceCtorEq,↓reduceIte]
 simp +decide only [↓evd,evw,reduceCtorEq,↓reduceIte]
 refine MSpec.of l2 ?_
 cases h2:E.R.live to
 ·simp +decide only [↓evd,evw,reduceCtorEq,↓reduceIte]
 simp +decide only [↓evd,evw,reduceCtorEq,↓reduceIte]
 refine MSpec.of u1 ?_
 simp +decide only [↓evd,evw,reduceCtorEq,↓reduceIte]
 refine MSpec.of u2 ?_
 simp +decide only [↓evd,evw,reduceCtorEq,↓reduceIte]
 refine MSpec.of hat ?_
 simp +decide only [↓evd,evw,evz,reduceCtorEq,↓reduceIte]
 refine awp_loop (fun m fr τ=>∃ (i:Nat),m+i=E.l.length∧fr.get 1= .int .i64 frm∧fr.get 2= .int .i64 to∧fr.get 3= .fn f caps∧fr.get 9=ints uf∧fr.get 10=ints ut∧fr.get 32=eAtoms E.l∧fr.get 33= .int .i64 (E.l.length:Nat)∧fr.get 34= .int .i64 (i:Nat)∧Inv i τ) ?_ (m:=E.l.length) ?_
 ·rintro m fr τ ⟨i,hi,e1,e2,e3,e9,e10,e32,e33,e34,hI⟩
  by_cases hlt:i<E.l.length
  ·have hlt':(i:Int)<(E.l.length:Int):=by omega
   have hw:=wrap_succ (i:=i) (by omega)
   have hg:=map_get eAtom E.l i hlt
   have hge:=List.getElem?_eq_getElem hlt
   have hcl:=hok.cuts _ (List.getElem_mem hlt)
   generalize E.l[i]=a at hg hge hcl
   have hI1:=stab i τ (.cells [.str [],.int .i64 0,.int .i64 0,.int .i64 0,.nils] none) (.cells [.str a.text,.int .i64 a.rev,.int .i64 a.group,.int .i64 a.rank,.fsl 2 (a.cuts.map eCut)] none) hI
   obtain ⟨A,hA⟩:∃ A,τ.next=A:=⟨_,rfl⟩
   obtain ⟨τ1,hτ1⟩:∃ τ1,τ1=(τ.new (.cells [.str [],.int .i64 0,.int .i64 0,.int .i64 0,.nils] none)).set τ.next (.cells [.str a.text,.int .i64 a.rev,.int .i64 a.group,.int .i64 a.rank,.fsl 2 (a.cuts.map eCut)] none):=⟨_,rfl⟩
   have hA1:τ1.get A=some (.cells [.str a.text,.int .i64 a.rev,.int .i64 a.group,.int .i64 a.rank,.fsl 2 (a.cuts.map eCut)] none):=by rw [hτ1,Heap.get_set,if_pos hA]
   rw [← hτ1] at hI1
   obtain ⟨s1,s2⟩:=step i a τ1 hge hI1
   have v1:=visible_call τ1 a frm uf (by omega) (by omega)
   have v2:=visible_call τ1 a to ut (by omega) (by omega)
   simp only [eAtom,ints] at v1 v2
   simp +decide only [↓evd,evw,evz,reduceCtorEq,↓reduceIte,e32,e33,e34,hlt',hg,eAtom]
   rw [← hτ1]
   simp only [hA]
   with_reducible refine draw_of_grow (fun _=>True) (ms:=[false,false,false,false,false,false,false,false,false,false]) (by kernel_rfl) ?_
   simp +decide only [↓evd,evw,evz,↓reduceIte,e1,e9,hA1]
   refine MSpec.of v1 ⟨.inr Keeps.rfl,?_⟩
   simp +decide only [↓evd,evw,evz,↓reduceIte,e2,e10,hA1]
   refine MSpec.of v2 ⟨.inr Keeps.rfl,?_⟩
   cases hv1:visible frm uf a <;> cases hv2:visible to ut a <;> rw [hv1,hv2] at s1 s2
   ·simp +decide only [↓evd,evw,evz,reduceCtorEq,↓reduceIte,e1,e2,e3,e9,e10,e32,e33,e34,hw]
    exact ⟨m - 1,by omega,i+1,by omega,rfl,s1 rfl rfl⟩
   all_goals
    simp +decide only [↓evd,evw,reduceCtorEq,↓reduceIte,e3,hA1]
    refine (s2 rfl).mono ?_
    rintro v τ2 hI2
    simp +decide only [↓evd,evw,evz,reduceCtorEq,↓reduceIte,e1,e2,e3,e9,e10,e32,e33,e34,hw]
    exact ⟨m - 1,by omega,i+1,by omega,rfl,hI2⟩
  ·have hlt':¬(i:Int)<(E.l.length:Int):=by omega
   have:i=E.l.length:=by omega
   subst this
   simp +decide only [↓evd,evw,reduceCtorEq,↓reduceIte,e33,e34,hlt']
   first | exact .inl ⟨rfl,rfl,rfl,hI⟩ | simpa using hI
 ·refine ⟨0,by omega,?_⟩
  simp +decide only [evw,evz,↓reduceIte]
  first | exact h0 | exact ⟨rfl,h0⟩
def bStep (w is:Bool) (t:List UInt8) (st:List Chg × Nat):List Chg × Nat:=
 (if w && is then mkC st.1 st.2 ((st.2+t.length:Nat):Int) else if is then mkP st.1 t else st.1,if w then st.2+t.length else st.2)
def bFold (frm to:Int) (uf ut:List Int) (l:List Atom):List Chg × Nat:=l.foldl (fun st a=>bStep (visible frm uf a) (visible to ut a) a.text st) ([],0)
theorem bFold_take {frm to:Int} {uf ut:List Int} {l:List Atom} {i:Nat} {a:Atom} (h:l[i]? =some a):bFold frm to uf ut (l.take (i+1))=bStep (visible frm uf a) (visible to ut a) a.text (bFold frm to uf ut (l.take i)):=by
 obtain ⟨hi,rfl⟩:=List.getElem?_eq_some_iff.1 h
 rw [bFold,List.take_succ_eq_append_getElem hi,List.foldl_append];rfl
theorem mkC_len (r:List Chg) (f t:Int):(mkC r f t).length≤r.length+1:=by
 unfold mkC;split
 ·omega
 ·split
  ·split <;> simp
  ·simp
theorem mkP_len (r:List Chg) (s:List UInt8):(mkP r s).length≤r.length+1:=by
 unfold mkP;split
 ·omega
 ·split
  ·split <;> simp
  ·simp
theorem mkC_txt {r:List Chg} {f t:Int} {n:Nat} (h:∀ e∈r,e.text.length≤n):∀ e∈mkC r f t,e.text.length≤n:=by
 unfold mkC;split
 ·exact h
 ·split
  ·rename_i e r'
   split
   ·intro x hx;rcases List.mem_cons.1 hx with rfl | hx
    ·exact h e (by simp)
    ·exact h x (by simp [hx])
   ·intro x hx;rcases List.mem_cons.1 hx with rfl | hx
    ·simp
    ·exact h x hx
  ·intro x hx;simp at hx;subst hx;simp
theorem mkP_txt {r:List Chg} {s:List UInt8} {n:Nat} (h:∀ e∈r,e.text.length≤n):∀ e∈mkP r s,e.text.length≤n+s.length:=by
 unfold mkP;split
 ·intro x hx;have:=h x hx;omega
 ·split
  ·rename_i e r'
   split
   ·intro x hx;rcases List.mem_cons.1 hx with rfl | hx
    ·simp
    ·have:=h x hx;omega
   ·intro x hx;rcases List.mem_cons.1 hx with rfl | hx
    ·have:=h e (by simp);simp only [List.length_append];omega
    ·have:=h x (by simp [hx]);omega
  ·intro x hx;simp at hx;subst hx;simp
structure BSmall (i:Nat) (st:List Chg × Nat):Prop where
 few:st.1.length≤i
 at_:st.2≤i * 4
 txt:∀ e∈st.1,e.text.length≤i * 4
theorem BSmall.step {i:Nat} {st:List Chg × Nat} (h:BSmall i st) {t:List UInt8} (ht:t.length≤4) (w is:Bool):BSmall (i+1) (bStep w is t st):=by
 obtain ⟨h1,h2,h3⟩:=h
 refine ⟨?_,?_,?_⟩
 ·simp only [bStep]
  split
  ·have:=mkC_len st.1 st.2 ((st.2+t.length:Nat):Int);omega
  ·split
   ·have:=mkP_len st.1 t;omega
   ·omega
 ·simp only [bStep];split <;> omega
 ·simp only [bStep]
  split
  ·intro e he;have:=mkC_txt h3 e he;omega
  ·split
   ·intro e he;have:=mkP_txt h3 e he;omega
   ·intro e he;have:=h3 e he;omega
structure BInv (σ:Heap) (M P Q:Nat) (base:Int) (st:List Chg × Nat) (τ:Heap):Prop where
 p:τ.get P=some (.cells [.ptr (.new M) 0] none)
 q:τ.get Q=some (.cells [.int .i64 (st.2:Nat)] none)
 maker:∃ fp,IsMk τ M base st.1 fp∧P∉fp∧Q∉fp∧∀ y∈fp,σ.next<y
 pl:P<τ.next
 ql:Q<τ.next
 keep:Keep [] σ τ
 rr:τ.get σ.next=some (.cells [.int .i64 0,.nils] none)
theorem BInv.junk {σ:Heap} {M P Q:Nat} {base:Int} {st:List Chg × Nat} {τ:Heap} (hn:σ.next<τ.next) (h:BInv σ M P Q base st τ) (b c:ABlk):BInv σ M P Q base st ((τ.new b).set τ.next c):=by
 have hk:Keep [] τ ((τ.new b).set τ.next c):=(Keep.refl _ _).junk _ _
 obtain ⟨fp,hM,h1,h2,h3⟩:=h.maker
 exact ⟨by rw [hk.get h.pl];exact h.p,by rw [hk.get h.ql];exact h.q,⟨fp,hM.keep hk (fun y _=>by simp),h1,h2,h3⟩,Nat.lt_of_lt_of_le h.pl hk.2.2.1,Nat.lt_of_lt_of_le h.ql hk.2.2.1,h.keep.trans hk (fun x hx=>nomatch hx),by rw [hk.get hn];exact h.rr⟩
theorem between1_at {σ:Heap} {M P Q:Nat} {base:Int} {st:List Chg × Nat} {τ:Heap} {t:List UInt8} {w is:Bool} {i:Nat} (hPQ:P≠Q) (hP:σ.next<P) (hQ:σ.next<Q) (h:BInv σ M P Q base st τ) (hs:BSmall i st) (hi:i≤4000) (ht:t.length≤4) (hwi:(w || is)=true):
  MSpec Tryz.prog n_diff_Between_1 [.str t,.bool w,.bool is,.ptr (.new P) 0,.ptr (.new Q) 0] τ fun v τ'=>BInv σ M P Q base (bStep w is t st) τ':=by
 refine spec_of_awp mixed c_diff_Between_1 (tl rfl) ?_
 unfold f_diff_Between_1
 obtain ⟨fp,hM,h1,h2,h3⟩:=h.maker
 obtain ⟨s1,s2,s3⟩:=hs
 have hp:=h.p
 have hq:=h.q
 have hpl:=h.pl
 have hql:=h.ql
 have hnl:σ.next<τ.next:=by omega
 have hw:IntKind.i64.wrap ((st.2:Int)+(t.length:Int))=((st.2+t.length:Nat):Int):=by rw [wrap_id (by omega) (by omega)];omega
 have hqp:(Q=P)=False:=eq_false (Ne.symm hPQ)
 cases w
 ·cases is
  ·simp at hwi
  ·-- put
   simp +decide only [↓evd,evw,reduceCtorEq,↓reduceIte,hp]
   refine (mput_at hM (by omega) (by omega) (fun e he=>by have:=s3 e he;omega)).mono ?_
   rintro v τ1 ⟨fp1,hM1,hK1,hF1⟩
   have hP1:P∉fp1:=fun hm=>by rcases hF1 P hm with h | h;exact h1 h;omega
   have hQ1:Q∉fp1:=fun hm=>by rcases hF1 Q hm with h | h;exact h2 h;omega
   have hn1:=hK1.2.2.1
   simp +decide only [↓evd,evw,reduceCtorEq,↓reduceIte]
   refine ⟨by rw [hK1.2.2.2 _ hpl h1];exact hp,by rw [hK1.2.2.2 _ hql h2];exact hq,⟨fp1,hM1,hP1,hQ1,fun y hy=>?_⟩,by omega,by omega,h.keep.trans (hK1) (fun y hy=>.inr (Nat.le_of_lt (h3 y hy))),?_⟩
   ·rcases hF1 y hy with h | h
    ·exact h3 y h
    ·omega
   ·rw [hK1.2.2.2 _ hnl (fun hm=>by have:=h3 _ hm;omega)];exact h.rr
 ·cases is
  ·-- gone
   simp +decide only [↓evd,evw,reduceCtorEq,↓reduceIte,hq,hw]
   have hk:Keep [Q] τ (τ.set Q (.cells [.int .i64 ((st.2+t.length:Nat):Int)] none)):=(Keep.refl _ _).set (.inl (by simp)) _
   refine ⟨by rw [Heap.get_set,if_neg (Ne.symm hPQ)];exact hp,by rw [Heap.get_set,if_pos rfl];rfl,⟨fp,hM.keep hk (fun y hy hm=>h2 (by simp at hm;exact hm ▸ hy)),h1,h2,h3⟩,by simpa using hpl,by simpa using hql,h.keep.trans hk (fun y hy=>.inr (by simp at hy;omega)),?_⟩
   rw [Heap.get_set,if_neg (by omega)];exact h.rr
  ·-- kept
   simp +decide only [↓evd,evw,reduceCtorEq,↓reduceIte,hp,hq,hw]
   refine (mcopy_at hM (by omega)).mono ?_
   rintro v τ1 ⟨fp1,hM1,hK1,hF1⟩
   have hP1:P∉fp1:=fun hm=>by rcases hF1 P hm with h | h;exact h1 h;omega
   have hQ1:Q∉fp1:=fun hm=>by rcases hF1 Q hm with h | h;exact h2 h;omega
   have hn1:=hK1.2.2.1
   have hq1:τ1.get Q=some (.cells [.int .i64 (st.2:Nat)] none):=by rw [hK1.2.2.2 _ hql h2];exact hq
   have hk:Keep [Q] τ1 (τ1.set Q (.cells [.int .i64 ((st.2+t.length:Nat):Int)] none)):=(Keep.refl _ _).set (.inl (by simp)) _
   simp +decide only [↓evd,evw,reduceCtorEq,↓reduceIte,hq1,hw]
   refine ⟨by rw [Heap.get_set,if_neg (Ne.symm hPQ),hK1.2.2.2 _ hpl h1];exact hp,by rw [Heap.get_set,if_pos rfl];rfl,⟨fp1,hM1.keep hk (fun y hy hm=>hQ1 (by simp at hm;exact hm ▸ hy)),hP1,hQ1,fun y hy=>?_⟩,by simp;omega,by simp;omega,(h.keep.trans hK1 (fun y hy=>.inr (Nat.le_of_lt (h3 y hy)))).trans hk (fun y hy=>.inr (by simp at hy;omega)),?_⟩
   ·rcases hF1 y hy with h | h
    ·exact h3 y h
    ·omega
   ·rw [Heap.get_set,if_neg (by omega),hK1.2.2.2 _ hnl (fun hm=>by have:=h3 _ hm;omega)];exact h.rr
theorem bFold_small {frm to:Int} {uf ut:List Int} {l:List Atom} (h:∀ a∈l,a.text.length≤4):∀ i,i≤l.length→BSmall i (bFold frm to uf ut (l.take i))
 | 0,_=>⟨by simp [bFold],by simp [bFold],by simp [bFold]⟩
 | i+1,hi=>by
  rw [bFold_take (List.getElem?_eq_getElem (show i<l.length by omega))]
  exact (bFold_small h i (by omega)).step (h _ (List.getElem_mem _)) _ _
def Eng.bst (E:Eng) (frm to:Int):List Chg × Nat:=bFold frm to (E.R.undone frm) (E.R.undone to) E.l
def betwE (E:Eng) (frm to:Int):Dlt × Int:=
 if (E.R.live frm && E.R.live to)=true then
  if (E.bst frm to).1.length≤60 then (⟨((E.text frm).length:Nat),(E.bst frm to).1.reverse⟩,0) else (⟨0,[]⟩,70)
 else (⟨0,[]⟩,190)
set_option maxHeartbeats 1000000 in
theorem between_call {σ:Heap} {k:Nat} {E:Eng} {fp:List Nat} (h:IsEng σ k E fp) (frm to:Int):ACall Tryz.prog n_diff_Between [.ptr (.new k) 0,.int .i64 frm,.int .i64 to] σ (.tup [eDelta (betwE E frm to).1,.int .i64 (betwE E frm to).2]) σ:=by
 refine seen_call (by simp only [AVal.pure,AVal.pures,eDelta_pure];rfl) (spec_of_awp mixed c_diff_Between (tl rfl) ?_)
 unfold f_diff_Between
 obtain ⟨hok,hRok⟩:=h.ok
 have hll:=hok.len
 have h4:∀ a∈E.l,a.text.length≤4:=fun a ha=>(cp_len (hok.txt a ha)).2
 have hkR:Keep [] σ (σ.new (.cells [.int .i64 0,.nils] none)):=(Keep.refl _ _).new _
 have hER:=h.keep hkR (fun y _=>by simp)
 have htx:=etext_at hER frm
 obtain ⟨s,c,hs,hsl⟩:∃ s c,textV E frm= .tup [.str s,.int .i64 c]∧(E.R.live frm=true→s=E.text frm):=by
  unfold textV
  cases hl:E.R.live frm
  ·exact ⟨_,_,rfl,fun e=>nomatch e⟩
  ·exact ⟨_,_,rfl,fun _=>rfl⟩
 rw [hs] at htx
 simp +decide only [↓evd,evw,reduceCtorEq,↓reduceIte]
 refine MSpec.of htx ?_
 simp +decide only [↓evd,evw,reduceCtorEq,↓reduceIte]
 refine (newMaker_at _ (s.length:Nat)).mono ?_
 rintro v τ ⟨rfl,hM,hK⟩
 simp only [Heap.new_next] at hM
 obtain ⟨τ2,hτ2⟩:∃ τ2,τ2=(((τ.new (.cells [.nilp] none)).set τ.next (.cells [.ptr (.new (σ.next+1)) 0] none)).new (.cells [.int .i64 0] none)).set (τ.next+1) (.cells [.int .i64 0] none):=⟨_,rfl⟩
 have hKn:=hK.2.2.1
 simp only [Heap.new_next] at hKn
 have hk2:Keep [] τ τ2:=by rw [hτ2];exact (((Keep.refl [] τ).junk _ _).new _).set (.inr (by omega)) _
 have hKa:Keep [] σ τ2:=(hkR.trans hK (fun x hx=>nomatch hx)).trans hk2 (fun x hx=>nomatch hx)
 have hMl:=hM.low _ (List.mem_singleton.2 rfl)
 have hB0:BInv σ (σ.next+1) τ.next (τ.next+1) (s.length:Nat) ([],0) τ2:=by
  refine ⟨by rw [hτ2,Heap.get_set,if_neg (by omega),Heap.get_new,if_neg (by simp),Heap.get_set,if_pos rfl],by rw [hτ2,Heap.get_set,if_pos rfl];rfl,⟨[σ.next+1],hM.keep hk2 (fun y _=>by simp),by simp;omega,by simp;omega,by simp⟩,by rw [hτ2];simp;omega,by rw [hτ2];simp,hKa,?_⟩
  rw [hk2.get (by omega),hK.get (by simp),Heap.get_new,if_pos rfl]
 have hE2:=h.keep hKa (fun y _=>by simp)
 have hn2:τ2.next=τ.next+2:=by rw [hτ2];rfl
 have heach:=each_spec hE2 frm to n_diff_Between_1 [.ptr (.new τ.next) 0,.ptr (.new (τ.next+1)) 0] (fun i ρ=>σ.next<ρ.next∧BInv σ (σ.next+1) τ.next (τ.next+1) (s.length:Nat) (bFold frm to (E.R.undone frm) (E.R.undone to) (E.l.take i)) ρ)
  (fun i ρ b c ⟨g1,g2⟩=>⟨by simp;omega,g2.junk g1 b c⟩)
  (fun i a ρ ha ⟨g1,g2⟩=>⟨fun v1 v2=>⟨g1,by rw [bFold_take ha,v1,v2];exact g2⟩,fun hv=>by
   have hi:=(List.getElem?_eq_some_iff.1 ha).1
   refine (between1_at (i:=i) (by omega) (by omega) (by omega) g2 (bFold_small h4 i (by omega)) (by omega) (h4 a (List.mem_of_getElem? ha)) hv).mono fun v ρ' g3=>?_
   refine ⟨by have:=g3.ql;omega,?_⟩
   rw [bFold_take ha];exact g3⟩)
  ⟨by omega,hB0⟩
 have hneP:(τ.next+1=τ.next)=False:=eq_false (by omega)
 simp +decide only [↓evd,evw,reduceCtorEq,↓reduceIte]
 rw [← hτ2]
 refine heach.mono ?_
 rintro v τ3 (⟨l1,l2,rfl,g1,g2⟩ | ⟨l1,rfl,rfl⟩)
 ·rw [List.take_length] at g2
  have hst:bFold frm to (E.R.undone frm) (E.R.undone to) E.l=E.bst frm to:=rfl
  rw [hst] at g2
  have hp:=g2.p
  have hrr:=g2.rr
  obtain ⟨fpm,hMk,_,_,hfl⟩:=g2.maker
  have hsm:=bFold_small (frm:=frm) (to:=to) (uf:=E.R.undone frm) (ut:=E.R.undone to) h4 E.l.length (Nat.le_refl _)
  rw [List.take_length,hst] at hsm
  have hlen:=hsm.few
  rw [hsl l1] at hMk
  have b0:((0:Int) != 0)=false:=rfl
  simp +decide only [↓evd,evw,reduceCtorEq,↓reduceIte,b0,hp]
  refine (mdelta_at hMk (by omega)).mono ?_
  obtain ⟨x,hb,hO,hkx,hkn,rfl⟩:=id hMk
  rintro v τ4 ⟨hK4,⟨h60,x',hx',rfl⟩ | ⟨h60,rfl⟩⟩
  ·rw [hb] at hx'
   simp only [Option.some.injEq,ABlk.cells.injEq,List.cons.injEq,and_true,true_and] at hx'
   subst hx'
   have hbe:betwE E frm to=(⟨((E.text frm).length:Nat),(E.bst frm to).1.reverse⟩,0):=by rw [betwE,if_pos (by simp [l1,l2]),if_pos h60]
   have hr4:τ4.get σ.next=some (.cells [.int .i64 0,.nils] none):=by rw [hK4.get g1];exact hrr
   have hxr:x.isRaw=false:=by rcases hO.2 with ⟨rfl,_⟩ | ⟨K,rfl,_⟩ <;> rfl
   have hxc:x.isCell=true:=own_kind hO
   have hxx:x.cells=[x]:=by rcases hO.2 with ⟨rfl,_⟩ | ⟨K,rfl,_⟩ <;> rfl
   have hxl:∀ q∈uid x,σ.next<q:=fun q hq=>hfl q (List.mem_cons_of_mem _ hq)
   rw [hbe]
   simp +decide only [↓evd,evw,reduceCtorEq,↓reduceIte,hr4,hxc]
   have hO4:Own (σ.next+1) (τ4.set σ.next (.cells [.int .i64 ((E.text frm).length:Nat),x] none)) t_Elem 3 x ((E.bst frm to).1.reverse.map eChg):=
    Own.set (Own.raise (Own.move hO hK4.2.2.1 (fun K o n c e=>hK4.get (hO.low e).2)) hxl) (fun K o m c e hj=>by have:=hxl K (mem_uid.2 ⟨_,_,_,e⟩);omega) _
   obtain ⟨ρ,s1,s2,s3,s4,s5⟩:=sees_delta (base:=((E.text frm).length:Nat)) hO4
   refine ⟨(g2.keep.trans hK4 (fun x hx=>nomatch hx)).set (.inr (Nat.le_refl _)) _,ρ,SeesL.tup (.cons s1 (.cons (Sees.refl _ _) (.nil _))),s2,s3,fun q hq=>?_⟩
   rw [s5 q (by omega),Heap.get_set]
  ·have hbe:betwE E frm to=(⟨0,[]⟩,70):=by rw [betwE,if_pos (by simp [l1,l2]),if_neg (by omega)]
   have hr4:τ4.get σ.next=some (.cells [.int .i64 0,.nils] none):=by rw [hK4.get g1];exact hrr
   rw [hbe]
   simp +decide only [↓evd,evw,reduceCtorEq,↓reduceIte,hr4]
   refine ⟨(g2.keep.trans hK4 (fun x hx=>nomatch hx)).set (.inr (Nat.le_refl _)) _,_,SeesL.tup (.cons (SeesL.agg (.cons (Sees.refl _ _) (.cons (Sees.nils _ 3) (.nil _)))) (.cons (Sees.refl _ _) (.nil _))),rfl,rfl,fun q hq=>?_⟩
   rw [Heap.get_set]
 ·have hbe:betwE E frm to=(⟨0,[]⟩,190):=by rw [betwE,if_neg (by simp [l1])]
  have b0:((190:Int) != 0)=true:=rfl
  have hr:=hB0.rr
  rw [hbe]
  simp +decide only [↓evd,evw,reduceCtorEq,↓reduceIte,b0,hr]
  refine ⟨hKa.set (.inr (Nat.le_refl _)) _,_,SeesL.tup (.cons (SeesL.agg (.cons (Sees.refl _ _) (.cons (Sees.nils _ 3) (.nil _)))) (.cons (Sees.refl _ _) (.nil _))),rfl,rfl,fun q hq=>?_⟩
  rw [Heap.get_set]
def sumIf (p:Atom→Bool) (l:List Atom):Nat:=(l.map fun a=>if p a then a.text.length else 0).sum
theorem sumIf_take {p:Atom→Bool} {l:List Atom} {i:Nat} {a:Atom} (h:l[i]? =some a):sumIf p (l.take (i+1))=sumIf p (l.take i)+if p a then a.text.length else 0:=by
 obtain ⟨hi,rfl⟩:=List.getElem?_eq_some_iff.1 h
 simp [sumIf,List.take_succ_eq_append_getElem hi,-List.take_append_getElem]
theorem sumIf_le {p:Atom→Bool}:∀ {l:List Atom},(∀ a∈l,a.text.length≤4)→sumIf p l≤l.length * 4
 | [],_=>by simp [sumIf]
 | a::l,h=>by
  have h1:=h a (by simp)
  have h2:=sumIf_le (p:=p) fun b hb=>h b (List.mem_cons_of_mem _ hb)
  simp only [sumIf,List.map_cons,List.sum_cons,List.length_cons] at h2 ⊢
  split <;> omega
def cameB (frm to:Int) (uf ut:List Int) (a:Atom):Bool:= !visible frm uf a && visible to ut a
def wentB (frm to:Int) (uf ut:List Int) (a:Atom):Bool:=visible frm uf a && !visible to ut a
def sinceE (E:Eng) (frm:Int):Nat × Nat × Int:=
 if E.R.live frm=true then (sumIf (cameB frm (E.R.head:Nat) (E.R.undone frm) (E.R.undone (E.R.head:Nat))) E.l,sumIf (wentB frm (E.R.head:Nat) (E.R.undone frm) (E.R.undone (E.R.head:Nat))) E.l,0) else (0,0,190)
structure S1Post (τ τ':Heap) (P Q a b:Nat):Prop where
 p:τ'.get P=some (.cells [.int .i64 (a:Nat)] none)
 q:τ'.get Q=some (.cells [.int .i64 (b:Nat)] none)
 k:Keep [P,Q] τ τ'
theorem since1_at {τ:Heap} {P Q a b:Nat} {t:List UInt8} {w is:Bool} (hPQ:P≠Q) (hp:τ.get P=some (.cells [.int .i64 (a:Nat)] none)) (hq:τ.get Q=some (.cells [.int .i64 (b:Nat)] none)) (ha:a≤1000000) (hb:b≤1000000) (ht:t.length≤4):
  MSpec Tryz.prog n_diff_Since_1 [.str t,.bool w,.bool is,.ptr (.new P) 0,.ptr (.new Q) 0] τ fun v τ'=>S1Post τ τ' P Q (a+if !w then t.length else 0) (b+if w && !is then t.length else 0):=by
 refine spec_of_awp mixed c_diff_Since_1 (tl rfl) ?_
 unfold f_diff_Since_1
 have w1:IntKind.i64.wrap ((a:Int)+(t.length:Int))=((a+t.length:Nat):Int):=by rw [wrap_id (by omega) (by omega)];omega
 have w2:IntKind.i64.wrap ((b:Int)+(t.length:Int))=((b+t.length:Nat):Int):=by rw [wrap_id (by omega) (by omega)];omega
 cases w
 ·simp +decide only [↓evd,evw,reduceCtorEq,↓reduceIte,hp,w1]
  exact ⟨by rw [Heap.get_set,if_pos rfl];first | done | rfl,by rw [Heap.get_set,if_neg hPQ];exact hq,(Keep.refl _ _).set (.inl (by simp)) _⟩
 ·cases is
  ·simp +decide only [↓evd,evw,reduceCtorEq,↓reduceIte,hq,w2]
   exact ⟨by rw [Heap.get_set,if_neg (Ne.symm hPQ)];exact hp,by rw [Heap.get_set,if_pos rfl];first | done | rfl,(Keep.refl _ _).set (.inl (by simp)) _⟩
  ·simp +decide only [↓evd,evw,reduceCtorEq,↓reduceIte]
   exact ⟨hp,hq,Keep.refl _ _⟩
theorem since_call {σ:Heap} {k:Nat} {E:Eng} {fp:List Nat} (h:IsEng σ k E fp) (frm:Int):ACall Tryz.prog n_diff_Since [.ptr (.new k) 0,.int .i64 frm] σ (.tup [.int .i64 ((sinceE E frm).1:Nat),.int .i64 ((sinceE E frm).2.1:Nat),.int .i64 (sinceE E frm).2.2]) σ:=by
 refine keep_call rfl (spec_of_awp mixed c_diff_Since (tl rfl) ?_)
 unfold f_diff_Since
 obtain ⟨hok,hRok⟩:=h.ok
 have hll:=hok.len
 have h4:∀ a∈E.l,a.text.length≤4:=fun a ha=>(cp_len (hok.txt a ha)).2
 obtain ⟨τ2,hτ2⟩:∃ τ2,τ2=(((σ.new (.cells [.int .i64 0] none)).new (.cells [.int .i64 0] none)).set σ.next (.cells [.int .i64 0] none)).set (σ.next+1) (.cells [.int .i64 0] none):=⟨_,rfl⟩
 have hk2:Keep [] σ τ2:=by rw [hτ2];exact ((((Keep.refl [] σ).new _).new _).set (.inr (Nat.le_refl _)) _).set (.inr (by omega)) _
 have hp0:τ2.get σ.next=some (.cells [.int .i64 0] none):=by rw [hτ2,Heap.get_set,if_neg (by omega),Heap.get_set,if_pos rfl]
 have hq0:τ2.get (σ.next+1)=some (.cells [.int .i64 0] none):=by rw [hτ2,Heap.get_set,if_pos rfl]
 have hn2:τ2.next=σ.next+2:=by rw [hτ2];rfl
 have hE2:=h.keep hk2 (fun y _=>by simp)
 have hhd:=ehead_at hE2
 have heach:=each_spec hE2 frm (E.R.head:Nat) n_diff_Since_1 [.ptr (.new σ.next) 0,.ptr (.new (σ.next+1)) 0] (fun i ρ=>ρ.get σ.next=some (.cells [.int .i64 (sumIf (cameB frm (E.R.head:Nat) (E.R.undone frm) (E.R.undone (E.R.head:Nat))) (E.l.take i):Nat)] none)∧ρ.get (σ.next+1)=some (.cells [.int .i64 (sumIf (wentB frm (E.R.head:Nat) (E.R.undone frm) (E.R.undone (E.R.head:Nat))) (E.l.take i):Nat)] none)∧σ.next+2≤ρ.next∧Keep [] σ ρ)
  (fun i ρ b c ⟨g1,g2,g3,g4⟩=>⟨by rw [Heap.get_set,if_neg (by omega),Heap.get_new,if_neg (by omega)];exact g1,by rw [Heap.get_set,if_neg (by omega),Heap.get_new,if_neg (by omega)];exact g2,by simp;omega,g4.junk _ _⟩)
  (fun i a ρ ha ⟨g1,g2,g3,g4⟩=>⟨fun v1 v2=>⟨by rw [sumIf_take ha];simp only [cameB,v1,v2,Bool.and_false,Bool.false_eq_true,if_false,Nat.add_zero];exact g1,by rw [sumIf_take ha];simp only [wentB,v1,v2,Bool.false_and,Bool.false_eq_true,if_false,Nat.add_zero];exact g2,g3,g4⟩,fun hv=>by
   have hi:=(List.getElem?_eq_some_iff.1 ha).1
   have b1:=sumIf_le (p:=cameB frm (E.R.head:Nat) (E.R.undone frm) (E.R.undone (E.R.head:Nat))) (l:=E.l.take i) fun a ha=>h4 a (List.mem_of_mem_take ha)
   have b2:=sumIf_le (p:=wentB frm (E.R.head:Nat) (E.R.undone frm) (E.R.undone (E.R.head:Nat))) (l:=E.l.take i) fun a ha=>h4 a (List.mem_of_mem_take ha)
   rw [List.length_take] at b1 b2
   refine (since1_at (by omega) g1 g2 (by omega) (by omega) (h4 a (List.mem_of_getElem? ha))).mono fun v ρ' ⟨q1,q2,q3⟩=>?_
   have e1:(!visible frm (E.R.undone frm) a)=cameB frm (E.R.head:Nat) (E.R.undone frm) (E.R.undone (E.R.head:Nat)) a:=by
    simp only [cameB];revert hv;cases visible frm (E.R.undone frm) a <;> cases visible (E.R.head:Nat) (E.R.undone (E.R.head:Nat)) a <;> simp
   rw [e1] at q1
   refine ⟨by rw [q1,sumIf_take ha],by rw [q2,sumIf_take ha];rfl,Nat.le_trans g3 q3.2.2.1,g4.trans q3 (fun x hx=>.inr (by simp at hx;omega))⟩⟩)
  ⟨by simpa [sumIf] using hp0,by simpa [sumIf] using hq0,by omega,hk2⟩
 have ne1:(σ.next+1=σ.next)=False:=eq_false (by omega)
 have ne2:(σ.next=σ.next+1)=False:=eq_false (by omega)
 simp +decide only [↓evd,evw,reduceCtorEq,↓reduceIte,ne1,ne2]
 rw [← hτ2]
 refine MSpec.of hhd ?_
 simp +decide only [↓evd,evw,reduceCtorEq,↓reduceIte]
 refine heach.mono ?_
 have hlh:=Eng.live_head hRok
 rintro v τ3 (⟨l1,l2,rfl,g1,g2,g3,g4⟩ | ⟨l1,rfl,rfl⟩)
 ·rw [List.take_length] at g1 g2
  simp +decide only [↓evd,evw,reduceCtorEq,↓reduceIte]
  with_reducible refine draw_of_grow (fun _=>True) (ms:=[false,false,false,false,false,false]) (by kernel_rfl) ?_
  simp +decide only [↓evd,evw,↓reduceIte,g1,g2]
  rw [sinceE,if_pos l1]
  first | exact ⟨rfl,g4⟩ | exact g4
 ·have hl:E.R.live frm=false:=by rw [hlh,Bool.and_true] at l1;exact l1
  simp +decide only [↓evd,evw,reduceCtorEq,↓reduceIte]
  with_reducible refine draw_of_grow (fun _=>True) (ms:=[false,false,false,false,false,false]) (by kernel_rfl) ?_
  simp +decide only [↓evd,evw,↓reduceIte,hp0,hq0]
  rw [sinceE,if_neg (by simp [hl])]
  first | exact ⟨rfl,hk2⟩ | exact hk2
end Go.Proofs.YtioampofolilnaaGreat.M
namespace Go.Proofs.YtioampofolilnaaGreat.M
open Go Go.Mini
attribute [local congr] go1_congr goM_congr goG_congr goV_congr drawwp_congr Xwp_congr
set_option maxHeartbeats 4000000 in
theorem both22_at (σ:Heap) (hd:σ.F0.dr=false) (l:List Step) (hll:l.length≤1000000) (hx:∀ x∈l,fewOne x=true):
  MSpec Tryz.prog n_palinodelaw22_both [eSteps l] σ fun v τ=>∃ k1 k2 fp1 fp2,v= .tup [.ptr (.new k1) 0,.ptr (.new k2) 0]∧TwoE σ τ k1 k2 (l.foldl doB Eng.new) fp1 fp2:=by
 refine spec_of_awp mixed c_palinodelaw22_both (tl rfl) ?_
 unfold f_palinodelaw22_both
 simp +decide only [↓evd,evw,reduceCtorEq]
 refine (enew_at σ hd).mono ?_
 rintro v τ0 ⟨k1,fp10,rfl,h0,hf0,k0⟩
 simp +decide only [↓evd,evw]
 refine (rnewE_at τ0).mono ?_
 rintro v τ1 ⟨k2,fp20,rfl,h1,hf1,kk1⟩
 have hT0:TwoE σ τ1 k1 k2 Eng.new fp10 fp20:=⟨h0.keep kk1 (fun x _=>by simp),h1,fun x hx hm=>by have:=h0.low x hx;have:=hf1 x hm;omega,hf0,fun x hx=>by have:=hf1 x hx;have:=k0.2.2.1;omega,k0.trans kk1 (fun x hx=>nomatch hx)⟩
 clear h0 h1 hf0 hf1 k0 kk1
 simp +decide only [↓evd,evw,reduceCtorEq,↓reduceIte]
 refine awp_loop (fun m fr τ=>∃ (i:Nat) (E:Eng) (fp1 fp2:List Nat),m+i=l.length∧fr.get 0=eSteps l∧fr.get 4= .ptr (.new k1) 0∧fr.get 5= .ptr (.new k2) 0∧fr.get 6= .int .i64 (i:Nat)∧TwoE σ τ k1 k2 E fp1 fp2∧(l.drop i).foldl doB E=l.foldl doB Eng.new) ?_ (m:=l.length) ?_
 ·rintro m fr τ ⟨i,E,fp1,fp2,hi,e0,e4,e5,e6,hT,hfo⟩
  by_cases hlt:i<l.length
  ·have hlt':(i:Int)<(l.length:Int):=by omega
   have hw:=wrap_succ (i:=i) (by omega)
   have hg:=map_get eStep l i hlt
   have hfx:=hx _ (List.getElem_mem hlt)
   rw [List.drop_eq_getElem_cons hlt,List.foldl_cons] at hfo
   generalize l[i]=x at hg hfo hfx
   simp only [fewOne,Bool.and_eq_true,List.all_eq_true,decide_eq_true_eq] at hfx
   obtain ⟨⟨hx1,hx2⟩,hx3⟩:=hfx
   have hcell:∀ τ2:Heap,True:=fun _=>trivial
   obtain ⟨τa,hτa⟩:∃ τa,τa=(τ.new (.cells [.int .i64 0,.int .i64 0,.int .i64 0,.int .i64 0,.nils,.nils] none)).set τ.next (.cells [.int .i64 x.what,.int .i64 x.base,.int .i64 x.group,.int .i64 x.rank,eChgs x.c,ints x.groups] none):=⟨_,rfl⟩
   have hka:Keep [] τ τa:=by rw [hτa];exact (Keep.refl _ _).junk _ _
   have hTa:TwoE σ τa k1 k2 E fp1 fp2:=⟨hT.eng.keep hka (fun x _=>by simp),hT.ref.keep hka (fun x _=>by simp),hT.dis,hT.f1,hT.f2,hT.keep.trans hka (fun x hx=>nomatch hx)⟩
   have hA:τa.get τ.next=some (.cells [.int .i64 x.what,.int .i64 x.base,.int .i64 x.group,.int .i64 x.rank,eChgs x.c,ints x.groups] none):=by rw [hτa,Heap.get_set,if_pos rfl]
   have hAn:τ.next<τa.next:=by rw [hτa];simp
   have hA1:τ.next∉fp1:=fun hm=>by have:=hT.eng.low _ hm;omega
   have hkeepA:∀ {τ2:Heap},Keep fp1 τa τ2→τ2.get τ.next=some (.cells [.int .i64 x.what,.int .i64 x.base,.int .i64 x.group,.int .i64 x.rank,eChgs x.c,ints x.groups] none):=fun hk=>by rw [hk.2.2.2 _ hAn hA1];exact hA
   have href:=fun {τ2:Heap} (hk:Keep fp1 τa τ2)=>hTa.ref.keep hk (fun y hy hm=>hTa.dis y hm hy)
   simp only [eChgs,ints] at hτa hA hkeepA
   by_cases w4:x.what≤4
   ·rcases he:editE E x.base x.group x.rank x.c with ⟨E',n,c⟩
    have hdb:doB E x=E':=by rw [doB,if_pos w4,he]
    rw [hdb] at hfo
    have q1:=eedit_at hTa.eng (by omega) (fun c hc=>by have:=hx1 c hc;omega) he
    have q2:=fun {τ2:Heap} (hk:Keep fp1 τa τ2)=>redit_at (href hk) (by omega) (fun c hc=>by have:=hx1 c hc;omega) he
    simp only [eChgs] at q1 q2
    simp +decide only [↓evd,evw,evz,reduceCtorEq,↓reduceIte,e0,e4,e6,hlt',eSteps,hg,eStep,eChgs,ints,w4]
    rw [← hτa]
    refine q1.mono ?_
    rintro v τ2 ⟨rfl,fp1',h1,kk1,f1⟩
    have hA2:=hkeepA kk1
    simp +decide only [↓evd,evw,reduceCtorEq,↓reduceIte,e5,hA2]
    refine (q2 kk1).mono ?_
    rintro v τ3 ⟨rfl,fp2',h2,kk2,f2⟩
    simp +decide only [↓evd,evw,reduceCtorEq,↓reduceIte,e0,e4,e5,e6,hw]
    exact ⟨m - 1,by omega,i+1,E',fp1',fp2',by omega,rfl,rfl,hTa.step h1 kk1 f1 h2 kk2 f2,hfo⟩
   ·by_cases w6:x.what≤6
    ·rcases he:toggleE E x.group with ⟨E',n,c⟩
     have hdb:doB E x=E':=by rw [doB,if_neg w4,if_pos w6,he]
     rw [hdb] at hfo
     have q1:=etoggle_at hTa.eng he
     have q2:=fun {τ2:Heap} (hk:Keep fp1 τa τ2)=>rtoggleE_at (href hk) he
     simp +decide only [↓evd,evw,evz,reduceCtorEq,↓reduceIte,e0,e4,e6,hlt',eSteps,hg,eStep,eChgs,ints,w4,w6]
     rw [← hτa]
     refine q1.mono ?_
     rintro v τ2 ⟨rfl,fp1',h1,kk1,f1⟩
     have hA2:=hkeepA kk1
     simp +decide only [↓evd,evw,reduceCtorEq,↓reduceIte,e5,hA2]
     refine (q2 kk1).mono ?_
     rintro v τ3 ⟨rfl,fp2',h2,kk2,f2⟩
     simp +decide only [↓evd,evw,reduceCtorEq,↓reduceIte,e0,e4,e5,e6,hw]
     exact ⟨m - 1,by omega,i+1,E',fp1',fp2',by omega,rfl,rfl,hTa.step h1 kk1 f1 h2 kk2 f2,hfo⟩
    ·rcases he:forgetE E x.groups with ⟨E',c⟩
     have hdb:doB E x=E':=by rw [doB,if_neg w4,if_neg w6,he]
     rw [hdb] at hfo
     have hE':(if (forgetR E.R x.groups).2≠0 then E else (⟨restL x.groups (E.R.undone (E.R.head:Nat)) E.l,(forgetR E.R x.groups).1⟩:Eng))=E':=by
      rw [forgetE] at he
      split at he
      ·rename_i hz;rw [if_pos hz];cases he;rfl
      ·rename_i hz;rw [if_neg hz];cases he;rfl
     have q1:=eforget_at hTa.eng (gs:=x.groups) (by omega) he
     have q2:=fun {τ2:Heap} (hk:Keep fp1 τa τ2)=>rforgetE_at (gs:=x.groups) (href hk) (by omega) (fun hz=>forget_ok hTa.eng.ok.1 hz)
     rw [hE'] at q2
     simp only [ints] at q1 q2
     simp +decide only [↓evd,evw,evz,reduceCtorEq,↓reduceIte,e0,e4,e6,hlt',eSteps,hg,eStep,eChgs,ints,w4,w6]
     rw [← hτa]
     refine q1.mono ?_
     rintro v τ2 ⟨rfl,fp1',h1,kk1,f1⟩
     have hA2:=hkeepA kk1
     simp +decide only [↓evd,evw,reduceCtorEq,↓reduceIte,e5,hA2]
     refine (q2 kk1).mono ?_
     rintro v τ3 ⟨rfl,fp2',h2,kk2,f2⟩
     simp +decide only [↓evd,evw,reduceCtorEq,↓reduceIte,e0,e4,e5,e6,hw]
     exact ⟨m - 1,by omega,i+1,E',fp1',fp2',by omega,rfl,rfl,hTa.step h1 kk1 f1 h2 kk2 f2,hfo⟩
  ·have hlt':¬(i:Int)<(l.length:Int):=by omega
   rw [List.drop_eq_nil_of_le (by omega)] at hfo
   simp only [List.foldl_nil] at hfo
   subst hfo
   simp +decide only [↓evd,evw,evz,reduceCtorEq,↓reduceIte,e0,e4,e5,e6,hlt',eSteps]
   exact ⟨k1,k2,fp1,fp2,rfl,hT⟩
 ·refine ⟨0,Eng.new,fp10,fp20,by omega,?_⟩
  simp +decide only [evw,↓reduceIte,eSteps]
  first | exact ⟨hT0,rfl⟩ | exact hT0
set_option maxHeartbeats 2000000 in
theorem few22_call (σ:Heap) (l:List Step) (hl:l.length≤9223372036854775807) (hx:∀ x∈l,StepFits x):ACall Tryz.prog n_palinodelaw22_few [eSteps l] σ (.bool (fewB20 l)) σ:=by
 refine bare_call (by simp only [AVal.pures,eSteps_pure];rfl) rfl (fun W F=>spec_of_awp mixed c_palinodelaw22_few (tl rfl) ?_) σ
 unfold f_palinodelaw22_few
 simp +decide only [↓evd,evw,reduceCtorEq]
 refine awp_loop (fun m fr τ=>∃ i,m+i=l.length∧fr.get 0=eSteps l∧fr.get 3= .int .i64 (i:Nat)∧(l.take i).all fewOne=true∧τ.W=W∧τ.F0=F) ?_ (m:=l.length) ?_
 ·rintro m fr τ ⟨i,hi,e0,e3,ha,hW,hF⟩
  by_cases hlt:i<l.length
  ·have hlt':(i:Int)<(l.length:Int):=by omega
   have hs:=wrap_suc (i:=i) (by omega)
   have hgt:=map_get eStep l i hlt
   have htk:=List.take_succ_eq_append_getElem hlt
   have hmem:=List.getElem_mem hlt
   have hfx:=hx _ hmem
   have hbad:fewOne l[i]=false→fewB20 l=false:=fun h=>by
    simp only [fewB20,Bool.and_eq_false_iff,List.all_eq_false]
    exact .inl ⟨_,hmem,by simp [h]⟩
   generalize l[i]=x at hgt htk hmem hfx hbad
   simp +decide only [↓evd,evw,evz,reduceCtorEq,↓reduceIte,e0,e3,eSteps,hlt']
   refine awp_loop (fun m' fr ρ=>∃ j,m'+j=x.c.length∧fr.get 0=eSteps l∧fr.get 3= .int .i64 (i:Nat)∧fr.get 4= .int .i64 (j:Nat)∧(x.c.take j).all (fun c=>decide (c.text.length≤60))=true∧ρ.W=W∧ρ.F0=F) ?_ (m:=x.c.length) ?_
   ·clear e0 e3 hW hF
    rintro m' fr ρ ⟨j,hj,e0,e3,e4,hja,hW,hF⟩
    by_cases hjt:j<x.c.length
    ·have hjt':(j:Int)<(x.c.length:Int):=by omega
     have hsj:=wrap_suc (i:=j) (by have:=hfx.1;omega)
     have hgj:=map_get eChg x.c j hjt
     have htj:=List.take_succ_eq_append_getElem hjt
     have hmj:=List.getElem_mem hjt
     generalize x.c[j]=c at hgj htj hmj
     by_cases h60:(60:Int)<(c.text.length:Int)
     ·have hf:fewB20 l=false:=hbad (by
       simp only [fewOne,Bool.and_eq_false_iff,List.all_eq_false]
       exact .inl (.inl ⟨c,hmj,by simp;omega⟩))
      simp +decide only [↓evd,evw,evz,reduceCtorEq,↓reduceIte,e0,e3,e4,eSteps,eStep,hgt,hjt',hgj,h60]
      rw [hf]
      exact seen rfl hW hF
     ·simp +decide only [↓evd,evw,evz,reduceCtorEq,↓reduceIte,e0,e3,e4,eSteps,eStep,hgt,hjt',hgj,h60,hsj]
      refine ⟨m' - 1,by omega,j+1,by omega,rfl,?_,hW,hF⟩
      rw [htj,List.all_append,hja]
      simp;omega
    ·have hjt':¬(j:Int)<(x.c.length:Int):=by omega
     rw [List.take_of_length_le (by omega)] at hja
     have hjl:j=x.c.length:=by omega
     subst hjl
     by_cases h12:(12:Int)<(x.c.length:Int)
     ·have hf:fewB20 l=false:=hbad (by
       simp only [fewOne,Bool.and_eq_false_iff,decide_eq_false_iff_not]
       exact .inl (.inr (by omega)))
      simp +decide only [↓evd,evw,evz,reduceCtorEq,↓reduceIte,e0,e3,e4,eSteps,eStep,hgt,hjt',h12]
      rw [hf]
      exact seen rfl hW hF
     ·by_cases h20:(20:Int)<(x.groups.length:Int)
      ·have hf:fewB20 l=false:=hbad (by
        simp only [fewOne,Bool.and_eq_false_iff,decide_eq_false_iff_not]
        exact .inr (by omega))
       simp +decide only [↓evd,evw,evz,reduceCtorEq,↓reduceIte,e0,e3,e4,eSteps,eStep,hgt,hjt',h12,h20]
       rw [hf]
       exact seen rfl hW hF
      ·simp +decide only [↓evd,evw,evz,reduceCtorEq,↓reduceIte,e0,e3,e4,eSteps,eStep,hgt,hjt',h12,h20,hs]
       refine ⟨m - 1,by omega,i+1,by omega,rfl,?_,hW,hF⟩
       rw [htk,List.all_append,ha]
       simp only [List.all_cons,List.all_nil,fewOne,hja,Bool.true_and,Bool.and_true,Bool.and_eq_true,decide_eq_true_eq]
       omega
   ·refine ⟨0,by omega,?_⟩
    simp +decide only [evw,↓reduceIte,e0,e3,eSteps]
    simp [hW,hF]
  ·have hlt':¬(i:Int)<(l.length:Int):=by omega
   rw [List.take_of_length_le (by omega)] at ha
   have hf:fewB20 l=decide ((l.length:Int)≤20):=by
    simp only [fewB20,ha,Bool.true_and]
    exact decide_eq_decide.2 (by omega)
   simp +decide only [↓evd,evw,evz,reduceCtorEq,↓reduceIte,e0,e3,eSteps,hlt']
   rw [hf]
   exact seen rfl hW hF
 ·refine ⟨0,by omega,?_⟩
  simp +decide only [evw,↓reduceIte,eSteps]
end Go.Proofs.YtioampofolilnaaGreat.M
namespace Go.Proofs.YtioampofolilnaaGreat.M
open Go Go.Mini
attribute [local congr] go1_congr goM_congr goG_congr goV_congr drawwp_congr Xwp_congr
def hS:List Step:=[⟨0,0,1,0,[⟨0,0,[97,98,99]⟩],[]⟩,⟨0,1,2,0,[⟨1,2,[88]⟩],[]⟩]
def hE:Eng:=⟨[at1 97 [],⟨[88],2,2,0,[]⟩,at1 98 [⟨2,2⟩],at1 99 []],⟨[[],[],[]],0,[1,2],[]⟩⟩
def hD1:Dlt:=⟨3,[⟨0,1,[]⟩,⟨0,0,[88]⟩,⟨2,3,[]⟩]⟩
theorem hk1:hS.foldl doB Eng.new=hE:=by kernel_rfl
theorem hk2:betwE hE 1 2=(hD1,0):=by kernel_rfl
theorem hk3:betwE hE 2 1=(⟨3,[⟨0,1,[]⟩,⟨0,0,[98]⟩,⟨2,3,[]⟩]⟩,0):=by kernel_rfl
theorem hk4:sinceE hE 1=(1,1,0):=by kernel_rfl
theorem hk5:betwE hE 0 9=(⟨0,[]⟩,190):=by kernel_rfl
theorem hD_ok (b:UInt8) (hb:elemOk 3 ⟨0,0,[b]⟩ 1 true true=true):DOk ⟨3,[⟨0,1,[]⟩,⟨0,0,[b]⟩,⟨2,3,[]⟩]⟩ where
 b0:=show (0:Int)≤3 by decide
 b1:=show (3:Int)≤20000 by decide
 few:=by simp
 wf:=⟨⟨⟨trivial,rfl⟩,hb⟩,rfl⟩
 size:=by simp [keptL,putL]
theorem hk6:applyL [97,98,99] hD1.els=[97,88,99]:=by kernel_rfl
theorem hk7:applyL [97,88,99] [⟨0,1,[]⟩,⟨0,0,[98]⟩,⟨2,3,[]⟩]=[97,98,99]:=by kernel_rfl
set_option maxHeartbeats 2000000 in
theorem known22_call (σ:Heap) (hd:σ.F0.dr=false):ACall Tryz.prog n_palinodelaw22_known [] σ (.bool true) σ:=by
 refine gc_call rfl (spec_of_awp mixed c_palinodelaw22_known (tl rfl) ?_)
 unfold f_palinodelaw22_known
 obtain ⟨σ0,hσ0⟩:∃ σ0,σ0=((σ.new (.cells [.int .i64 0,.int .i64 0,.str [97,98,99]] none)).new (.cells [.int .i64 1,.int .i64 2,.str [88]] none)).new (.cells [.int .i64 0,.int .i64 0,.int .i64 1,.int .i64 0,.slc (.new σ.next) 0 1 (.ex 1),.nils,.int .i64 0,.int .i64 1,.int .i64 2,.int .i64 0,.slc (.new (σ.next+1)) 0 1 (.ex 1),.nils] none):=⟨_,rfl⟩
 obtain ⟨τ0,hsee,s1,s2,s3,s4⟩:=sees_steps2 (σ:=σ0) (A:=σ.next) (B:=σ.next+1) (K:=σ.next+2) ⟨0,0,[97,98,99]⟩ ⟨1,2,[88]⟩ 0 0 1 0 0 1 2 0
  (by rw [hσ0,Heap.get_new,if_neg (by simp only [Heap.new_next];omega),Heap.get_new,if_neg (by simp only [Heap.new_next];omega),Heap.get_new,if_pos rfl])
  (by rw [hσ0,Heap.get_new,if_neg (by simp only [Heap.new_next];omega),Heap.get_new,if_pos (by simp only [Heap.new_next])])
  (by rw [hσ0,Heap.get_new,if_pos (by simp only [Heap.new_next])]) (by omega) (by omega) (by omega)
 have hk0:Keep [] σ τ0:=⟨by rw [s1,hσ0];rfl,by rw [s2,hσ0];rfl,by rw [s3,hσ0];simp only [Heap.new_next];omega,fun q hq _=>by
  rw [s4 q (by omega) (by omega) (by omega),hσ0,Heap.get_new,if_neg (by simp only [Heap.new_next];omega),Heap.get_new,if_neg (by simp only [Heap.new_next];omega),Heap.get_new,if_neg (by omega)]⟩
 have hbo:=both22_at τ0 (by rw [hk0.2.1];exact hd) hS (by decide) (by decide)
 rw [hk1] at hbo
 simp +decide only [↓evd,evw,reduceCtorEq,↓reduceIte]
 rw [← hσ0]
 refine mspec_seen (.cons hsee (.nil _)) ?_
 refine hbo.mono ?_
 rintro v τ ⟨k1,k2,fp1,fp2,rfl,hT⟩
 have hE0:=hT.eng
 have hkτ:=hk0.trans hT.keep (fun x hx=>nomatch hx)
 clear hT hk0 s4 hsee hσ0
 have q1:=fun ρ (h:IsEng ρ k1 hE fp1)=>between_call h 1 2
 have q2:=fun ρ (h:IsEng ρ k1 hE fp1)=>between_call h 2 1
 have q3:=fun ρ (h:IsEng ρ k1 hE fp1)=>since_call h 1
 have q4:=fun ρ (h:IsEng ρ k1 hE fp1)=>between_call h 0 9
 simp only [hk2,hk3,hk4,hk5,eDelta,eChgs] at q1 q2 q3 q4
 have a1:=fun ρ=>apply_call ρ hD1 [97,98,99] (hD_ok 88 (by kernel_rfl)) rfl
 have a2:=fun ρ=>apply_call ρ ⟨3,[⟨0,1,[]⟩,⟨0,0,[98]⟩,⟨2,3,[]⟩]⟩ [97,88,99] (hD_ok 98 (by kernel_rfl)) rfl
 simp only [hk6,hk7,eDelta,eChgs] at a1 a2
 have b0:((0:Int)==0)=true:=rfl
 have b1:(((1:Nat):Int)==1)=true:=rfl
 have b1':((1:Int)==1)=true:=rfl
 have b2:((190:Int)==190)=true:=rfl
 generalize hm1:List.map eChg hD1.els=m1 at q1 a1
 generalize hm2:List.map eChg [⟨0,1,[]⟩,⟨0,0,[98]⟩,⟨2,3,[]⟩]=m2 at q2 a2
 have hb3:hD1.base=3:=rfl
 rw [hb3] at q1
 simp only [hb3] at a1
 simp +decide only [↓evd,evw,reduceCtorEq,↓reduceIte]
 refine MSpec.of (q1 _ hE0) ?_
 have e1:=hE0.keep ((Keep.refl [] _).junk (.cells [.int .i64 0,.nils] none) (.cells [.int .i64 3,.fsl 3 m1] none)) (fun y _=>by simp)
 simp +decide only [↓evd,evw,reduceCtorEq,↓reduceIte]
 refine MSpec.of (q2 _ e1) ?_
 have e2:=e1.keep ((Keep.refl [] _).junk (.cells [.int .i64 0,.nils] none) (.cells [.int .i64 3,.fsl 3 m2] none)) (fun y _=>by simp)
 simp +decide only [↓evd,evw,reduceCtorEq,↓reduceIte]
 refine MSpec.of (q3 _ e2) ?_
 simp +decide only [↓evd,evw,reduceCtorEq,↓reduceIte]
 refine MSpec.of (q4 _ e2) ?_
 have n1:(τ.next+1=τ.next)=False:=eq_false (by omega)
 have n2:(τ.next+1+1=τ.next)=False:=eq_false (by omega)
 have n3:(τ.next+1+1=τ.next+1)=False:=eq_false (by omega)
 have n4:(τ.next=τ.next+1)=False:=eq_false (by omega)
 simp +decide only [↓evd,evw,reduceCtorEq,↓reduceIte,n1,n2]
 refine MSpec.of (a1 _) ?_
 simp +decide only [↓evd,evw,reduceCtorEq,↓reduceIte,n3]
 refine MSpec.of (a2 _) ?_
 simp +decide only [↓evd,evw,reduceCtorEq,↓reduceIte,aStr_self]
 have hnn:=hkτ.2.2.1
 exact ⟨hkτ.1,hkτ.2.1,fun q hq=>by rw [if_neg (by omega),if_neg (by omega),if_neg (by omega),if_neg (by omega),if_neg (by omega),if_neg (by omega)];exact hkτ.2.2.2 q hq (by simp)⟩
end Go.Proofs.YtioampofolilnaaGreat.M
namespace Go.Proofs.YtioampofolilnaaGreat.M
open Go Go.Mini
theorem mem_delL {s ks:List Int} {x:Int}:x∈delAll s ks↔x∈s∧x∉ks:=by simp [delAll]
structure Eng.Known (E:Eng):Prop where
 old:E.Old
 grp:∀ a∈E.l,(a.group∈E.R.grp∨a.group= -1)∧∀ c∈a.cuts,c.group∈E.R.grp
structure Eng.Whole (E:Eng):Prop where
 ok:E.Ok
 rok:E.R.Ok
 known:E.Known
theorem Eng.Known.new:Eng.new.Known:=⟨Eng.new_old,fun a h=>by cases h⟩
theorem Eng.Known.edit {E E':Eng} {base group rank n c:Int} {cs:List Chg} (hR:E.R.Ok) (h:E.Known) (e:editE E base group rank cs=(E',n,c)):E'.Known:=by
 by_cases hc:c=0
 case neg=>rw [(edit_fail e hc).1];exact h
 subst hc
 refine ⟨edit_old hR h.old e,?_⟩
 obtain ⟨_,_,_,_,_,_,_,_,_,he,_⟩:=edit_shape hR e
 intro a ha
 rw [he] at ha ⊢
 have hm:∀ g,g∈E.R.grp→g∈insS group E.R.grp:=fun g hg=>mem_insS.2 (.inr hg)
 rcases mem_upon ha with ⟨b,hb,rfl | rfl⟩ | ⟨b,_,rfl⟩
 ·exact ⟨(h.grp a hb).1.imp (hm _) id,fun c hc=>hm _ ((h.grp a hb).2 c hc)⟩
 ·refine ⟨(h.grp b hb).1.imp (hm _) id,fun c hc=>?_⟩
  simp only [List.mem_append,List.mem_singleton] at hc
  rcases hc with hc | rfl
  ·exact hm _ ((h.grp b hb).2 c hc)
  ·exact mem_insS.2 (.inl rfl)
 ·exact ⟨.inl (mem_insS.2 (.inl rfl)),fun c hc=>by cases hc⟩
theorem Eng.Known.toggle {E E':Eng} {g n c:Int} (hR:E.R.Ok) (h:E.Known) (e:toggleE E g=(E',n,c)):E'.Known:=by
 by_cases hc:c=0
 case neg=>rw [(toggle_fail e hc).1];exact h
 subst hc
 refine ⟨toggle_old hR h.old e,?_⟩
 obtain ⟨_,_,_,he,_⟩:=toggle_shape hR e
 intro a ha
 rw [he] at ha ⊢
 exact h.grp a ha
theorem forget_shape {E E':Eng} {gs:List Int} (e:forgetE E gs=(E',0)):Good E.R gs∧E'=⟨restL gs (E.R.undone (E.R.head:Nat)) E.l,⟨[delAll E.R.top gs],E.R.head,delAll E.R.grp gs,goneAll E.R.gone gs⟩⟩:=by
 unfold forgetE at e
 split at e
 ·rename_i h;simp only [Prod.mk.injEq] at e;exact absurd e.2 h
 ·rename_i h
  obtain ⟨hg,he,_⟩:=forgetR_ok (by simpa using h)
  rw [he] at e
  cases e
  exact ⟨hg,rfl⟩
theorem forget_fail {E E':Eng} {gs:List Int} {c:Int} (e:forgetE E gs=(E',c)) (hc:c≠0):E'=E:=by
 unfold forgetE at e
 split at e
 ·cases e;rfl
 ·cases e;exact absurd rfl hc
theorem Eng.Known.forget {E E':Eng} {gs:List Int} {c:Int} (h:E.Known) (e:forgetE E gs=(E',c)):E'.Known:=by
 by_cases hc:c=0
 case neg=>rw [forget_fail e hc];exact h
 subst hc
 obtain ⟨hg,he⟩:=forget_shape e
 have hhead:E'.R.head=E.R.head:=by rw [he];simp [Revs.head]
 constructor
 ·intro b hb
  rw [hhead]
  rw [he] at hb
  simp only [restL,List.mem_filterMap] at hb
  obtain ⟨a,ha,hb⟩:=hb
  have ho:=h.old a ha
  rw [(restA_some hb).1]
  exact ⟨ho.1,fun c hc=>ho.2 c (List.mem_filter.1 hc).1⟩
 ·intro b hb
  rw [he] at hb ⊢
  simp only [restL,List.mem_filterMap] at hb
  obtain ⟨a,ha,hb⟩:=hb
  have hk:=h.grp a ha
  obtain ⟨hbe,hgone,hstay⟩:=restA_some hb
  constructor
  ·rw [hbe]
   by_cases hin:a.group∈gs
   ·right;simp only [if_pos hin]
   ·simp only [if_neg hin]
    exact hk.1.imp (fun h=>mem_delL.2 ⟨h,hin⟩) id
  ·intro c hc
   rw [hbe] at hc
   simp only [List.mem_filter] at hc
   refine mem_delL.2 ⟨hk.2 c hc.1,fun hin=>?_⟩
   have h1:staysG gs (E.R.undone (E.R.head:Nat)) c.group=false:=by
    rw [List.any_eq_false] at hstay
    simpa using hstay c hc.1
   have h2:goneG gs (E.R.undone (E.R.head:Nat)) c.group=false:=by simpa using hc.2
   simp [staysG,goneG,hin] at h1 h2
   exact h2 h1
theorem rok_edit {R:Revs} (h:R.Ok) (hh:R.head<200) {g:Int} (h0:0≤g) (h1:g<60):Revs.Ok {R.push R.top with grp:=insS g R.grp}:=by
 have p:=h.push hh h.top.2.1
 exact ⟨p.one,p.few,p.rise,h.grp.ins h0 h1,p.gone⟩
theorem rok_forget {R:Revs} (h:R.Ok) {gs:List Int} (hg:Good R gs):Revs.Ok ⟨[delAll R.top gs],R.head,delAll R.grp gs,goneAll R.gone gs⟩:=by
 have hf:=h.few
 have h1:=List.length_pos_iff.2 h.one
 refine ⟨by simp,by simp only [Revs.head,List.length_cons,List.length_nil];omega,fun s hs=>?_,h.grp.delAll gs,h.gone.goneAll fun g hm=>h.grp.2 g (hg.2 g hm)⟩
 rw [List.mem_singleton] at hs;subst hs
 exact h.top.2.1.delAll gs
theorem rise_flip {s:List Int} (hs:Rise s) {g:Int} (h0:0≤g) (h1:g<60):Rise (flip g s):=by
 unfold flip
 split
 ·exact hs.erase g
 ·exact hs.ins h0 h1
theorem Eng.Whole.new:Eng.new.Whole:=⟨Eng.new_ok,⟨by simp [Eng.new,Revs.new],by simp [Eng.new,Revs.new],fun s hs=>by simp [Eng.new,Revs.new] at hs;subst hs;exact Rise.nil,Rise.nil,Rise.nil⟩,Eng.Known.new⟩
theorem Eng.Whole.edit {E E':Eng} {base group rank n c:Int} {cs:List Chg} (h:E.Whole) (e:editE E base group rank cs=(E',n,c)):E'.Whole:=by
 have h1:=editE_ok h.ok h.rok base group rank cs
 rw [e] at h1
 refine ⟨h1,?_,h.known.edit h.rok e⟩
 by_cases hc:c=0
 case neg=>rw [(edit_fail e hc).1];exact h.rok
 subst hc
 obtain ⟨_,g0,g1,hh,_,_,_,_,_,he,_⟩:=edit_shape h.rok e
 rw [he];exact rok_edit h.rok hh g0 g1
theorem Eng.Whole.toggle {E E':Eng} {g n c:Int} (h:E.Whole) (e:toggleE E g=(E',n,c)):E'.Whole:=by
 have h1:=toggleE_ok h.ok h.rok g
 rw [e] at h1
 refine ⟨h1,?_,h.known.toggle h.rok e⟩
 by_cases hc:c=0
 case neg=>rw [(toggle_fail e hc).1];exact h.rok
 subst hc
 obtain ⟨hg,hh,_,he,_⟩:=toggle_shape h.rok e
 have hb:=h.rok.grp.2 g hg
 rw [he];exact h.rok.push hh (rise_flip h.rok.top.2.1 hb.1 hb.2)
theorem Eng.Whole.forget {E E':Eng} {gs:List Int} {c:Int} (h:E.Whole) (e:forgetE E gs=(E',c)):E'.Whole:=by
 refine ⟨?_,?_,h.known.forget e⟩ <;> by_cases hc:c=0
 case neg=>rw [forget_fail e hc];exact h.ok
 case neg=>rw [forget_fail e hc];exact h.rok
 ·subst hc
  obtain ⟨hg,he⟩:=forget_shape e
  have:=forget_ok h.ok (gs:=gs) (by rw [forget_good hg])
  rw [forget_good hg] at this
  rw [he];exact this
 ·subst hc
  obtain ⟨hg,he⟩:=forget_shape e
  rw [he];exact rok_forget h.rok hg
theorem Eng.Whole.doB {E:Eng} (h:E.Whole) (x:Step):(doB E x).Whole:=by
 unfold Go.Proofs.YtioampofolilnaaGreat.M.doB
 split
 ·exact h.edit (Prod.ext rfl rfl)
 ·split
  ·exact h.toggle (Prod.ext rfl rfl)
  ·exact h.forget (Prod.ext rfl rfl)
theorem Eng.Whole.run:∀ {l:List Step} {E:Eng},E.Whole→(l.foldl Go.Proofs.YtioampofolilnaaGreat.M.doB E).Whole
 | [],_,h=>h
 | x::l,_,h=>Eng.Whole.run (l:=l) (h.doB x)
theorem sumIf_cons (p:Atom→Bool) (a:Atom) (l:List Atom):sumIf p (a::l)=(if p a then a.text.length else 0)+sumIf p l:=by simp [sumIf]
theorem sumIf_app (p:Atom→Bool) (l m:List Atom):sumIf p (l ++ m)=sumIf p l+sumIf p m:=by simp [sumIf]
theorem text_sum (r:Int) (u:List Int):∀ l:List Atom,(atomsText r u l).length=sumIf (visible r u) l
 | []=>rfl
 | a::l=>by
  rw [sumIf_cons,atomsText,List.length_append,text_sum r u l]
  split <;> simp
theorem sumIf_congr {p q:Atom→Bool} {l:List Atom} (h:∀ a∈l,p a=q a):sumIf p l=sumIf q l:=by
 simp only [sumIf];congr 1;apply List.map_congr_left;intro a ha;rw [h a ha]
theorem sumIf_add {p q r:Atom→Bool} {l:List Atom} (h:∀ a∈l,(if p a then a.text.length else 0)=(if q a then a.text.length else 0)+if r a then a.text.length else 0):sumIf p l=sumIf q l+sumIf r l:=by
 induction l with
 | nil=>rfl
 | cons a l ih=>
  have:=h a (by simp)
  have:=ih fun b hb=>h b (List.mem_cons_of_mem _ hb)
  rw [sumIf_cons,sumIf_cons,sumIf_cons];omega
theorem take_mid {s:List UInt8} {f p n:Nat} (h:f≤p) (hp:p≤s.length):(s.take (p+n)).drop f=(s.take p).drop f ++ (s.take (p+n)).drop p:=by
 have e1:s.take (p+n)=s.take p ++ (s.take (p+n)).drop p:=by
  have h1:=(List.take_append_drop p (s.take (p+n))).symm
  rw [List.take_take,Nat.min_eq_left (by omega)] at h1
  exact h1
 have e2:=congrArg (List.drop f) e1
 rw [List.drop_append_of_le_length (by rw [List.length_take];omega)] at e2
 exact e2
structure BOk (base:Nat) (s:List UInt8) (tt:List UInt8) (st:List Chg × Nat) (kp pt:Nat):Prop where
 wf:WFr base st.1
 to:toR st.1≤(st.2:Nat)
 app:applyL s st.1.reverse=tt
 kept:keptL st.1.reverse=(kp:Nat)
 put:putL st.1.reverse=pt
theorem keptL_rev (e:Chg) (r:List Chg):keptL (e::r).reverse=keptL r.reverse+(e.to - e.frm):=by rw [List.reverse_cons,keptL_app,keptL_one]
theorem putL_rev (e:Chg) (r:List Chg):putL (e::r).reverse=putL r.reverse+e.text.length:=by rw [List.reverse_cons,putL_app,putL_one]
theorem applyL_rev (s:List UInt8) (e:Chg) (r:List Chg):applyL s (e::r).reverse=applyL s r.reverse ++ applyE s e:=by
 rw [List.reverse_cons,applyL,List.map_append,List.flatten_append];simp [applyL]
theorem isCp_iff {e:Chg}:isCp e=true↔e.text=[]:=by simp [isCp]
theorem BOk.copy {base:Nat} {s tt:List UInt8} {st:List Chg × Nat} {kp pt:Nat} (h:BOk base s tt st kp pt) {t:List UInt8} (ht:t≠[]) (hb:st.2+t.length≤base) (hs:(s.take (st.2+t.length)).drop st.2=t):BOk base s (tt ++ t) (mkC st.1 st.2 ((st.2+t.length:Nat):Int),st.2+t.length) (kp+t.length) pt:=by
 obtain ⟨r,p⟩:=st
 obtain ⟨h1,h2,h3,h4,h5⟩:=h
 simp only at h1 h2 h3 h4 h5 hb hs ⊢
 have htl:0<t.length:=List.length_pos_iff.2 ht
 have hne:¬(p:Int)=((p+t.length:Nat):Int):=by omega
 have new:BOk base s (tt ++ t) (⟨p,((p+t.length:Nat):Int),[]⟩::r,p+t.length) (kp+t.length) pt↔(decide (toR r<(p:Int)) || !copR r)=true:=by
  constructor
  ·intro h
   have:=h.wf.2
   unfold elemOk at this
   rw [if_pos (by rfl)] at this
   simp only [Bool.and_eq_true] at this
   exact this.1.1.2
  ·intro hc
   refine ⟨⟨h1,?_⟩,by simp only [toR];rw [if_pos (by rfl)];exact Int.le_refl _,?_,by rw [keptL_rev,h4];simp only;omega,by rw [putL_rev,h5];rfl⟩
   ·unfold elemOk
    rw [if_pos (by rfl),hc]
    simp only [Bool.and_true,Bool.and_eq_true,decide_eq_true_eq]
    omega
   ·rw [applyL_rev,h3,applyE]
    simp only [Int.toNat_natCast,hs,List.append_nil]
 cases r with
 | nil=>
  have:mkC [] (p:Int) ((p+t.length:Nat):Int)=[⟨p,((p+t.length:Nat):Int),[]⟩]:=by simp only [mkC,if_neg hne]
  rw [this]
  exact new.2 (by simp [copR])
 | cons e r'=>
  by_cases hc:isCp e=true∧e.to=(p:Int)
  ·have:mkC (e::r') (p:Int) ((p+t.length:Nat):Int)=⟨e.frm,((p+t.length:Nat):Int),e.text⟩::r':=by simp only [mkC,if_neg hne,if_pos hc]
   rw [this]
   obtain ⟨hcp,heto⟩:=hc
   have het:=isCp_iff.1 hcp
   have hok:=h1.2
   unfold elemOk at hok
   rw [if_pos hcp] at hok
   simp only [Bool.and_eq_true,decide_eq_true_eq] at hok
   obtain ⟨⟨⟨o1,o2⟩,o3⟩,o4⟩:=hok
   have hcp2:isCp ⟨e.frm,((p+t.length:Nat):Int),e.text⟩=true:=hcp
   have hn:=toR_nonneg h1.1
   refine ⟨⟨h1.1,?_⟩,by simp only [toR];rw [if_pos hcp2];exact Int.le_refl _,?_,?_,?_⟩
   ·unfold elemOk
    rw [if_pos hcp2]
    simp only [Bool.and_eq_true,decide_eq_true_eq]
    exact ⟨⟨⟨o1,o2⟩,by omega⟩,by omega⟩
   ·rw [applyL_rev] at h3 ⊢
    rw [← h3,List.append_assoc]
    congr 1
    simp only [applyE,het,List.append_nil,heto,Int.toNat_natCast]
    obtain ⟨f,hf⟩:∃ f:Nat,e.frm=(f:Int):=⟨e.frm.toNat,by omega⟩
    rw [hf,Int.toNat_natCast]
    have hlen:p≤s.length:=by
     have:=congrArg List.length hs
     rw [List.length_drop,List.length_take] at this;omega
    rw [take_mid (by omega) hlen,hs]
   ·rw [keptL_rev] at h4 ⊢;simp only;omega
   ·rw [putL_rev] at h5 ⊢;exact h5
  ·have:mkC (e::r') (p:Int) ((p+t.length:Nat):Int)=⟨p,((p+t.length:Nat):Int),[]⟩::e::r':=by simp only [mkC,if_neg hne,if_neg hc]
   rw [this]
   refine new.2 ?_
   by_cases hcp:isCp e=true
   ·have h6:toR (e::r')=e.to:=by simp only [toR,if_pos hcp]
    rw [h6] at h2 ⊢
    have:e.to≠(p:Int):=fun h=>hc ⟨hcp,h⟩
    rw [decide_eq_true (by omega),Bool.true_or]
   ·simp only [copR]
    rw [Bool.not_eq_true] at hcp
    rw [hcp];simp
theorem BOk.puts {base:Nat} {s tt:List UInt8} {st:List Chg × Nat} {kp pt:Nat} (h:BOk base s tt st kp pt) {t:List UInt8} (ht:valid t=true) (hl:pt+t.length≤20000):BOk base s (tt ++ t) (mkP st.1 t,st.2) kp (pt+t.length):=by
 obtain ⟨r,p⟩:=st
 obtain ⟨h1,h2,h3,h4,h5⟩:=h
 simp only at h1 h2 h3 h4 h5 ⊢
 by_cases ht0:t=[]
 ·subst ht0
  have:mkP r []=r:=by simp [mkP]
  rw [this]
  simpa using ⟨h1,h2,h3,h4,h5⟩
 have hcp2:isCp ⟨0,0,t⟩=false:=by rw [← Bool.not_eq_true];exact fun h=>ht0 (isCp_iff.1 h)
 have new:(r=[]∨copR r=true)→BOk base s (tt ++ t) (⟨0,0,t⟩::r,p) kp (pt+t.length):=by
  intro hc
  refine ⟨⟨h1,?_⟩,by simp only [toR];rw [if_neg (by simp [hcp2])];exact h2,?_,by rw [keptL_rev,h4];simp,by rw [putL_rev,h5]⟩
  ·unfold elemOk
   rw [if_neg (by simp [hcp2])]
   have:(!(!r.isEmpty) || copR r)=true:=by
    rcases hc with rfl | hc
    ·rfl
    ·rw [hc];simp
   rw [this,ht]
   simp only [Bool.and_true,decide_true,Bool.true_and,decide_eq_true_eq]
   omega
  ·rw [applyL_rev,h3,applyE];simp
 cases r with
 | nil=>
  have:mkP [] t=[⟨0,0,t⟩]:=by simp [mkP,ht0]
  rw [this];exact new (.inl rfl)
 | cons e r'=>
  cases hcp:isCp e
  ·have:mkP (e::r') t=⟨e.frm,e.to,e.text ++ t⟩::r':=by simp [mkP,ht0,hcp]
   rw [this]
   have hok:=h1.2
   unfold elemOk at hok
   rw [if_neg (by simp [hcp])] at hok
   simp only [Bool.and_eq_true,decide_eq_true_eq] at hok
   obtain ⟨⟨⟨⟨o1,o2⟩,o3⟩,o4⟩,o5⟩:=hok
   have hcp3:isCp ⟨e.frm,e.to,e.text ++ t⟩=false:=by
    rw [← Bool.not_eq_true];exact fun h=>ht0 (List.append_eq_nil_iff.1 (isCp_iff.1 h)).2
   rw [putL_rev] at h5
   refine ⟨⟨h1.1,?_⟩,?_,?_,?_,?_⟩
   ·unfold elemOk
    rw [if_neg (by simp [hcp3])]
    have hv:valid (e.text ++ t)=true:=by
     obtain ⟨ps,e1,q1⟩:=valid_iff.1 o5
     obtain ⟨qs,e2,q2⟩:=valid_iff.1 ht
     exact valid_iff.2 ⟨ps ++ qs,by rw [e1,e2,List.flatten_append],fun p hp=>(List.mem_append.1 hp).elim (q1 p) (q2 p)⟩
    simp only [Bool.and_eq_true,decide_eq_true_eq,List.length_append]
    exact ⟨⟨⟨⟨o1,o2⟩,o3⟩,by omega⟩,hv⟩
   ·simp only [toR] at h2 ⊢
    rw [if_neg (by simp [hcp])] at h2
    rw [if_neg (by simp [hcp3])];exact h2
   ·rw [applyL_rev] at h3 ⊢
    rw [← h3,List.append_assoc]
    simp only [applyE,List.append_assoc]
   ·rw [keptL_rev] at h4 ⊢;exact h4
   ·rw [putL_rev];simp only [List.length_append];omega
  ·have:mkP (e::r') t=⟨0,0,t⟩::e::r':=by simp [mkP,ht0,hcp]
   rw [this];exact new (.inr hcp)
theorem BOk.gone {base:Nat} {s tt:List UInt8} {r:List Chg} {p n kp pt:Nat} (h:BOk base s tt (r,p) kp pt) (hn:p≤n):BOk base s tt (r,n) kp pt:=
 ⟨h.wf,by have:=h.to;simp only at this ⊢;omega,h.app,h.kept,h.put⟩
def keptB (frm to:Int) (uf ut:List Int) (a:Atom):Bool:=visible frm uf a && visible to ut a
theorem bst_ok {l:List Atom} (hcp:∀ a∈l,IsCP a.text) (hl:l.length≤4000) (frm to:Int) (uf ut:List Int):∀ i,i≤l.length→
  BOk (atomsText frm uf l).length (atomsText frm uf l) (atomsText to ut (l.take i)) (bFold frm to uf ut (l.take i)) (sumIf (keptB frm to uf ut) (l.take i)) (sumIf (cameB frm to uf ut) (l.take i))∧(bFold frm to uf ut (l.take i)).2=(atomsText frm uf (l.take i)).length
 | 0,_=>⟨⟨trivial,by simp [bFold,toR],rfl,by simp [bFold,keptL,sumIf],by simp [bFold,putL,sumIf]⟩,rfl⟩
 | i+1,hi=>by
  have hlt:i<l.length:=by omega
  obtain ⟨ih,ip⟩:=bst_ok hcp hl frm to uf ut i (by omega)
  have hge:=List.getElem?_eq_getElem hlt
  have ha:=hcp _ (List.getElem_mem hlt)
  have t1:=take_text (r:=frm) (u:=uf) hlt
  have t2:=take_text (r:=to) (u:=ut) hlt
  have hsum:=sumIf_le (p:=cameB frm to uf ut) (l:=l.take (i+1)) fun a hm=>(cp_len (hcp a (List.mem_of_mem_take hm))).2
  rw [List.length_take] at hsum
  have hsp:atomsText frm uf l=atomsText frm uf (l.take (i+1)) ++ atomsText frm uf (l.drop (i+1)):=by
   rw [← atomsText_append,List.take_append_drop]
  rw [bFold_take hge,sumIf_take hge,sumIf_take hge,t1,t2]
  rw [sumIf_take hge] at hsum
  rw [t1] at hsp
  generalize l[i]=a at ha hsp hsum
  generalize hst:bFold frm to uf ut (l.take i)=st at ih ip
  obtain ⟨r,p⟩:=st
  simp only at ip
  have hla:=cp_len ha
  have hva:valid a.text=true:=valid_iff.2 ⟨[a.text],by simp,by simpa using ha⟩
  cases w:visible frm uf a <;> cases is:visible to ut a
  ·simp only [w,is,keptB,cameB,bStep,Bool.and_self,Bool.not_false,Bool.and_false,Bool.false_eq_true,if_false,Nat.add_zero,List.append_nil]
   exact ⟨ih,ip⟩
  ·simp only [w,is,cameB,Bool.not_false,Bool.and_self,if_true] at hsum
   simp only [w,is,keptB,cameB,bStep,Bool.false_and,Bool.not_false,Bool.and_self,Bool.false_eq_true,if_false,if_true,Nat.add_zero,List.append_nil]
   exact ⟨ih.puts hva (by omega),ip⟩
  ·simp only [w,is,keptB,cameB,bStep,Bool.and_false,Bool.not_true,Bool.false_eq_true,if_false,if_true,Nat.add_zero,List.append_nil,List.length_append]
   exact ⟨ih.gone (by omega),by omega⟩
  ·rw [w] at hsp
   simp only [if_true] at hsp
   simp only [w,is,keptB,cameB,bStep,Bool.and_self,Bool.not_true,Bool.false_and,Bool.false_eq_true,if_false,if_true,Nat.add_zero,List.length_append]
   refine ⟨ih.copy ha.1 ?_ ?_,by omega⟩
   ·rw [hsp,List.length_append,List.length_append,ip];omega
   ·show ((atomsText frm uf l).take (p+a.text.length)).drop p=a.text
    rw [hsp,ip,← List.length_append,List.take_left,List.drop_left]
theorem Eng.bst_ok {E:Eng} (h:E.Ok) (frm to:Int):BOk (E.text frm).length (E.text frm) (E.text to) (E.bst frm to) (sumIf (keptB frm to (E.R.undone frm) (E.R.undone to)) E.l) (sumIf (cameB frm to (E.R.undone frm) (E.R.undone to)) E.l):=by
 have:=(Go.Proofs.YtioampofolilnaaGreat.M.bst_ok h.txt h.len frm to (E.R.undone frm) (E.R.undone to) E.l.length (Nat.le_refl _)).1
 rw [List.take_length] at this
 exact this
theorem kept_came (E:Eng) (frm to:Int):(E.text to).length=sumIf (keptB frm to (E.R.undone frm) (E.R.undone to)) E.l+sumIf (cameB frm to (E.R.undone frm) (E.R.undone to)) E.l:=by
 rw [Eng.text,text_sum]
 refine sumIf_add fun a ha=>?_
 simp only [keptB,cameB]
 by_cases h1:visible frm (E.R.undone frm) a=true <;> by_cases h2:visible to (E.R.undone to) a=true <;> simp [h1,h2]
theorem kept_went (E:Eng) (frm to:Int):(E.text frm).length=sumIf (keptB frm to (E.R.undone frm) (E.R.undone to)) E.l+sumIf (wentB frm to (E.R.undone frm) (E.R.undone to)) E.l:=by
 rw [Eng.text,text_sum]
 refine sumIf_add fun a ha=>?_
 simp only [keptB,wentB]
 by_cases h1:visible frm (E.R.undone frm) a=true <;> by_cases h2:visible to (E.R.undone to) a=true <;> simp [h1,h2]
theorem came_went (E:Eng) (frm to:Int):sumIf (cameB frm to (E.R.undone frm) (E.R.undone to)) E.l=sumIf (wentB to frm (E.R.undone to) (E.R.undone frm)) E.l:=
 sumIf_congr fun a _=>by simp only [cameB,wentB];rw [Bool.and_comm]
theorem kept_kept (E:Eng) (frm to:Int):sumIf (keptB frm to (E.R.undone frm) (E.R.undone to)) E.l=sumIf (keptB to frm (E.R.undone to) (E.R.undone frm)) E.l:=
 sumIf_congr fun a _=>by simp only [keptB];rw [Bool.and_comm]
structure Btw (E:Eng) (frm to:Int) (d:Dlt):Prop where
 ok:DOk d
 base:d.base=((E.text frm).length:Nat)
 app:applyL (E.text frm) d.els=E.text to
 kept:keptL d.els=(sumIf (keptB frm to (E.R.undone frm) (E.R.undone to)) E.l:Nat)
 put:putL d.els=sumIf (cameB frm to (E.R.undone frm) (E.R.undone to)) E.l
 l1:E.R.live frm=true
 l2:E.R.live to=true
theorem betw_ok {E:Eng} (h:E.Ok) {frm to:Int} {d:Dlt} (e:betwE E frm to=(d,0)):Btw E frm to d:=by
 unfold betwE at e
 split at e
 ·rename_i hlv
  rw [Bool.and_eq_true] at hlv
  split at e
  ·rename_i h60
   cases e
   have hb:=E.bst_ok h frm to
   have hk:=kept_came E frm to
   have l1:=atomsText_le frm (E.R.undone frm) h.txt
   have l2:=atomsText_le to (E.R.undone to) h.txt
   have hl:=h.len
   simp only [Eng.text] at hk
   refine ⟨⟨by simp,by simp only [Eng.text];omega,by simpa using h60,by rw [List.reverse_reverse];exact hb.wf,?_⟩,rfl,hb.app,hb.kept,hb.put,hlv.1,hlv.2⟩
   show keptL (E.bst frm to).1.reverse+((putL (E.bst frm to).1.reverse:Nat):Int)≤20000
   rw [hb.kept,hb.put];omega
  ·simp only [Prod.mk.injEq] at e;exact absurd e.2 (by decide)
 ·simp only [Prod.mk.injEq] at e;exact absurd e.2 (by decide)
theorem betw_err {E:Eng} {frm to:Int} {d:Dlt} {c:Int} (e:betwE E frm to=(d,c)):(c=0∨(c=70∧d=⟨0,[]⟩)∨(c=190∧d=⟨0,[]⟩))∧(c=190↔(E.R.live frm && E.R.live to)=false):=by
 unfold betwE at e
 split at e
 ·rename_i hlv
  split at e
  ·cases e;refine ⟨.inl rfl,?_⟩;rw [hlv];simp
  ·cases e;refine ⟨.inr (.inl ⟨rfl,rfl⟩),?_⟩;rw [hlv];simp
 ·rename_i hlv
  cases e
  refine ⟨.inr (.inr ⟨rfl,rfl⟩),?_⟩
  simp only [Bool.not_eq_true] at hlv
  simp [hlv]
def Asc (s:List UInt8):Prop:=∀ b∈s,b.toNat<128
theorem asc_pts {s:List UInt8} (h:Asc s):pts s=some (s.map fun b=>[b]):=by
 have hc:∀ p∈s.map (fun b=>[b]),IsCP p:=by
  intro p hp;rw [List.mem_map] at hp;obtain ⟨b,hb,rfl⟩:=hp;exact cp_ascii (h b hb)
 have hf:(s.map fun b=>[b]).flatten=s:=by induction s with
  | nil=>rfl
  | cons b s ih=>simp only [List.map_cons,List.flatten_cons,List.singleton_append];rw [ih fun x hx=>h x (List.mem_cons_of_mem _ hx)];intro p hp;exact hc p (by simp only [List.map_cons];exact List.mem_cons_of_mem _ hp)
 have:=pts_flat hc
 rw [hf] at this;exact this
theorem asc_ptsOf {s:List UInt8} (h:Asc s):ptsOf s=s.map fun b=>[b]:=by rw [ptsOf,asc_pts h];rfl
theorem asc_valid {s:List UInt8} (h:Asc s):valid s=true:=by rw [valid,asc_pts h];rfl
theorem asc_edge {s:List UInt8} (h:Asc s) {i:Int} (h0:0≤i) (h1:i≤s.length):isEdge s i=true:=by
 simp only [isEdge,asc_valid h,Bool.and_true,Bool.and_eq_true,decide_eq_true_eq,Bool.or_eq_true]
 refine ⟨⟨h0,h1⟩,?_⟩
 by_cases e:i=s.length
 ·exact .inl e
 ·right
  have hl:i.toNat<s.length:=by omega
  rw [List.getElem?_eq_getElem hl]
  have:=h _ (List.getElem_mem hl)
  simp;omega
def atomsA (rev group:Int) (s:List UInt8):List Atom:=s.map fun b=>⟨[b],rev,group,0,[]⟩
theorem new_asc {s:List UInt8} (h:Asc s) (rev group:Int):newAtoms rev group 0 (ptsOf s)=atomsA rev group s:=by
 rw [asc_ptsOf h,newAtoms,List.map_map];rfl
theorem atomsA_len (rev group:Int) (s:List UInt8):(atomsA rev group s).length=s.length:=by simp [atomsA]
theorem edit_front_t {E:Eng} (h:E.Ok) (hR:E.R.Ok) (hrev:∀ a∈E.l,a.rev≤(E.R.head:Nat)) {g rank:Int} {t:List UInt8} (ht:Asc t) (hg0:0≤g) (hg1:g<60) (hgo:g∉E.R.gone) (hh:E.R.head<200) (hr0:0≤rank) (hr1:rank≤1000000) (hlen:E.l.length+t.length≤4000):
  editE E (E.R.head:Nat) g rank [⟨0,0,t⟩]=(⟨newAtoms ((E.R.head:Int)+1) g rank (ptsOf t) ++ E.l,{E.R.push E.R.top with grp:=insS g E.R.grp}⟩,(E.R.head:Int)+1,0):=by
 have hv:=atoms_valid h.txt (E.R.head:Nat) (E.R.undone (E.R.head:Nat))
 have hle:=atomsText_le (E.R.head:Nat) (E.R.undone (E.R.head:Nat)) h.txt
 have hck:check (E.text (E.R.head:Nat)) [⟨0,0,t⟩]=0:=check_front hv (asc_valid ht) (by omega)
 have hck':check (atomsText (E.R.head:Nat) (E.R.undone (E.R.head:Nat)) E.l) [⟨0,0,t⟩]=0:=hck
 have hadd:=add_good (R:=E.R) hgo hg0 hg1 hh
 have hspot:spot E.l (places (E.R.head:Nat) (E.R.undone (E.R.head:Nat)) E.l 0) (E.R.head:Nat) (E.R.undone (E.R.head:Nat)) 0 rank=0:=by
  unfold spot
  rw [spotF_low _ _ _ _ _ _ _ (places_nonneg _ _ _ _)]
  simp only [List.drop_zero]
  cases hE:E.l with
  | nil=>rfl
  | cons a l=>
   have:=hrev a (by rw [hE];simp)
   rw [spotG,if_neg (by omega)]
 have hup:upon E.l (E.R.head:Nat) (E.R.undone (E.R.head:Nat)) [⟨0,0,t⟩] ((E.R.head:Int)+1) g rank=newAtoms ((E.R.head:Int)+1) g rank (ptsOf t) ++ E.l:=by
  rw [upon,if_pos hck']
  have hct:cuts E.l (E.R.head:Nat) (E.R.undone (E.R.head:Nat)) [⟨0,0,t⟩]=[]:=by
   rw [cuts,if_pos hck']
   refine cutsF_none _ _ _ (fun p=>?_) _ _ _
   simp only [cutHit,List.any_cons,List.any_nil,Bool.or_false,Bool.and_eq_false_iff,decide_eq_false_iff_not]
   omega
  rw [hct,marked_nil]
  simp only [spotsN,List.map_cons,List.map_nil,hspot,List.zip_cons_cons,List.zip_nil_left,merged,List.take_zero,List.drop_nil,List.nil_append,List.drop_zero]
 have hlv:=Eng.live_head hR
 have hnl:(newAtoms ((E.R.head:Int)+1) g rank (ptsOf t) ++ E.l).length≤4000:=by
  rw [List.length_append,newAtoms,List.length_map,asc_ptsOf ht,List.length_map];omega
 have hcp:∀ a∈newAtoms ((E.R.head:Int)+1) g rank (ptsOf t) ++ E.l,IsCP a.text:=by
  intro a ha
  rcases List.mem_append.1 ha with ha | ha
  ·rw [asc_ptsOf ht,newAtoms,List.map_map,List.mem_map] at ha
   obtain ⟨b,hb,rfl⟩:=ha
   exact cp_ascii (ht b hb)
  ·exact h.txt a ha
 rw [editE,if_neg (by simp [hlv]),if_neg (by simp [hck]),hadd,if_neg (by simp),if_neg (by omega),hup,if_neg (by omega),if_neg (by simp only [Eng.text];exact Nat.not_lt.2 (short_text hnl hcp _ _))]
theorem textA {s:List UInt8} (r:Int) (u:List Int) (g:Int) (rv:Int) (hv:visible r u ⟨[],rv,g,0,[]⟩=true):atomsText r u (atomsA rv g s)=s:=by
 induction s with
 | nil=>rfl
 | cons b s ih=>
  simp only [atomsA,List.map_cons,atomsText] at ih ⊢
  have:visible r u ⟨[b],rv,g,0,[]⟩=true:=hv
  rw [this,if_pos rfl,ih];rfl
theorem check_mid {s t:List UInt8} (hs:Asc s) (ht:Asc t) {a b:Nat} (hab:a≤b) (hb:b≤s.length) (hl:s.length+t.length≤20000):check s [⟨a,b,t⟩]=0:=by
 have hv:=asc_valid hs
 have e1:isEdge s a=true:=asc_edge hs (by omega) (by omega)
 have e2:isEdge s b=true:=asc_edge hs (by omega) (by omega)
 have hg:=gain_le s.length ⟨a,b,t⟩
 have hlong:longI s [⟨a,b,t⟩]=0:=by
  simp only [longI,gains,List.map_cons,List.map_nil,List.sum_cons,List.sum_nil,longR]
  rw [if_neg (by omega),if_neg (by omega)]
 have n1:¬((a:Int)<0):=by omega
 have n2:¬((b:Int)<(a:Int)):=by omega
 have n3:¬((s.length:Int)<(b:Int)):=by omega
 unfold check
 rw [if_neg (by rw [hv];simp),if_neg (by simp)]
 simp only [errs,List.any_cons,List.any_nil,Bool.or_false,chgOut,chgIn,e1,e2,disorder,asc_valid ht,hlong,decide_eq_false n1,decide_eq_false n2,decide_eq_false n3]
 rfl
def cutA (c:Cut) (a:Atom):Atom:={a with cuts:=a.cuts ++ [c]}
theorem marked_part {ct:List Int} {c:Cut} {l:List Atom} {a b:Nat} (hab:a≤b) (hb:b≤l.length) (h:∀ j:Nat,j<l.length→((j:Int)∈ct↔a≤j∧j<b)):marked ct c l 0=l.take a ++ ((l.drop a).take (b - a)).map (cutA c) ++ l.drop b:=by
 apply List.ext_getElem?
 intro j
 rw [marked_get,Nat.zero_add]
 rcases Nat.lt_or_ge j l.length with hj | hj
 case inr=>
  rw [List.getElem?_eq_none hj,List.getElem?_eq_none]
  ·rfl
  ·simp;omega
 rw [List.getElem?_eq_getElem hj,Option.map_some]
 have hm:=h j hj
 rcases Nat.lt_or_ge j a with h1 | h1
 ·rw [if_neg (fun hc=>by have:=hm.1 hc;omega),List.append_assoc,List.getElem?_append_left (by rw [List.length_take];omega),List.getElem?_take,if_pos h1,List.getElem?_eq_getElem hj]
 ·rcases Nat.lt_or_ge j b with h2 | h2
  ·rw [if_pos (hm.2 ⟨h1,h2⟩),List.append_assoc,List.getElem?_append_right (by rw [List.length_take];omega),List.getElem?_append_left (by simp;omega),List.length_take,List.getElem?_map,List.getElem?_take,if_pos (by omega),List.getElem?_drop,List.getElem?_eq_getElem (by omega)]
   have e:a+(j - min a l.length)=j:=by omega
   simp only [Option.map_some,cutA,e]
  ·have hlen:(l.take a ++ ((l.drop a).take (b - a)).map (cutA c)).length=b:=by simp;omega
   rw [if_neg (fun hc=>by have:=hm.1 hc;omega),List.getElem?_append_right (by rw [hlen];exact h2),hlen,List.getElem?_drop,show b+(j - b)=j by omega,List.getElem?_eq_getElem hj]
def asR1:Revs:=⟨[[],[]],0,[1],[]⟩
def asR2:Revs:=⟨[[],[],[]],0,[1,2],[]⟩
def asE1 (s:List UInt8):Eng:=⟨atomsA 1 1 s,asR1⟩
def asL2 (s:List UInt8) (a b:Nat) (t:List UInt8):List Atom:=(atomsA 1 1 s).take a ++ atomsA 2 2 t ++ (((atomsA 1 1 s).drop a).take (b - a)).map (cutA ⟨2,2⟩) ++ (atomsA 1 1 s).drop b
def asE2 (s:List UInt8) (a b:Nat) (t:List UInt8):Eng:=⟨asL2 s a b t,asR2⟩
theorem as_edit1 {s:List UInt8} (hs:Asc s) (hl:s.length≤4000):editE Eng.new 0 1 0 [⟨0,0,s⟩]=(asE1 s,1,0):=by
 have h:=edit_front_t (E:=Eng.new) Eng.new_ok Eng.Whole.new.rok (fun a ha=>by cases ha) (g:=1) (rank:=0) hs (by decide) (by decide) (by simp [Eng.new,Revs.new]) (by decide) (by decide) (by decide) (by simp [Eng.new];exact hl)
 have e:((Eng.new.R.head:Nat):Int)=0:=rfl
 rw [e] at h
 rw [h,show (0:Int)+1=1 from rfl,new_asc hs]
 simp only [Eng.new,List.append_nil]
 rfl
theorem atomsA_take (rv g:Int) (s:List UInt8) (j:Nat):(atomsA rv g s).take j=atomsA rv g (s.take j):=by simp [atomsA,List.map_take]
theorem vis11 {r:Int} (h:1≤r) (t:List UInt8):visible r [] ⟨t,1,1,0,[]⟩=true:=by simp [visible,holds,h]
theorem posA {s:List UInt8} {j:Nat} (hj:j≤s.length):posT 1 [] (atomsA 1 1 s) j=j:=by
 rw [posT,atomsA_take,textA 1 [] 1 1 (vis11 (by decide) _),List.length_take];omega
theorem as_edit2 {s t:List UInt8} (hs:Asc s) (ht:Asc t) {a b:Nat} (hab:a≤b) (hb:b≤s.length) (hl:s.length+t.length≤4000):editE (asE1 s) 1 2 0 [⟨a,b,t⟩]=(asE2 s a b t,2,0):=by
 have hun:(asE1 s).R.undone 1=[]:=rfl
 have htx:(asE1 s).text 1=s:=by rw [Eng.text,hun];exact textA 1 [] 1 1 (vis11 (by decide) _)
 have hck:check s [⟨a,b,t⟩]=0:=check_mid hs ht hab hb (by omega)
 have hck':check (atomsText 1 [] (atomsA 1 1 s)) [⟨a,b,t⟩]=0:=by rw [textA 1 [] 1 1 (vis11 (by decide) _)];exact hck
 have hlen:=atomsA_len 1 1 s
 have hsK:spotK 1 [] (atomsA 1 1 s) a=a:=by
  have hle:=spotK_le (r:=1) (u:=[]) (atomsA 1 1 s) (a:Int)
  rcases Nat.lt_trichotomy (spotK 1 [] (atomsA 1 1 s) a) a with h1 | h1 | h1
  ·have hj:spotK 1 [] (atomsA 1 1 s) a<(atomsA 1 1 s).length:=by omega
   have:=spotK_ge (r:=1) (u:=[]) hj (Nat.le_refl _) (by simp only [atomsA,List.getElem_map];exact vis11 (by decide) _)
   rw [posA (by omega)] at this;omega
  ·exact h1
  ·have:=spotK_lt (r:=1) (u:=[]) (l:=atomsA 1 1 s) (x:=(a:Int)) h1
   rw [posA (by omega)] at this;omega
 have hspot:spot (atomsA 1 1 s) (places 1 [] (atomsA 1 1 s) 0) 1 [] a 0=a:=by
  rw [spot,show spotF 1 [] (a:Int) (atomsA 1 1 s) (places 1 [] (atomsA 1 1 s) 0) 0 0=a from hsK]
  cases hd:(atomsA 1 1 s).drop a with
  | nil=>rfl
  | cons x r=>
   have hx:x∈atomsA 1 1 s:=List.mem_of_mem_drop (by rw [hd];simp)
   rw [atomsA,List.mem_map] at hx
   obtain ⟨y,_,rfl⟩:=hx
   rw [spotG,if_neg (by simp)]
 have hmk:marked (cuts (atomsA 1 1 s) 1 [] [⟨a,b,t⟩]) ⟨2,2⟩ (atomsA 1 1 s) 0=(atomsA 1 1 s).take a ++ (((atomsA 1 1 s).drop a).take (b - a)).map (cutA ⟨2,2⟩) ++ (atomsA 1 1 s).drop b:=by
  refine marked_part hab (by omega) fun j hj=>?_
  rw [cuts,if_pos hck',mem_cutsF]
  have hp:=places_at (r:=1) (u:=[]) (atomsA 1 1 s) 0 j (by omega)
  rw [posA (by omega)] at hp
  constructor
  ·rintro ⟨i,x,p,h1,h2,h3,h4,h5⟩
   obtain rfl:i=j:=by omega
   rw [hp] at h2
   cases h2
   simp only [cutHit,List.any_cons,List.any_nil,Bool.or_false,Bool.and_eq_true,decide_eq_true_eq] at h5
   omega
  ·rintro ⟨h1,h2⟩
   refine ⟨j,_,_,List.getElem?_eq_getElem hj,hp,by omega,by simp only [atomsA,List.getElem_map];exact vis11 (by decide) _,?_⟩
   simp only [cutHit,List.any_cons,List.any_nil,Bool.or_false,Bool.and_eq_true,decide_eq_true_eq]
   omega
 have hup:upon (asE1 s).l 1 [] [⟨a,b,t⟩] 2 2 0=asL2 s a b t:=by
  show upon (atomsA 1 1 s) 1 [] [⟨a,b,t⟩] 2 2 0=asL2 s a b t
  rw [upon,if_pos hck',hmk]
  simp only [spotsN,List.map_cons,List.map_nil,hspot,List.zip_cons_cons,List.zip_nil_left,merged,List.drop_zero,new_asc ht,asL2]
  have h1:((atomsA 1 1 s).take a).length=a:=by rw [List.length_take];omega
  rw [List.append_assoc,List.append_assoc,List.take_append_of_le_length (by omega),List.take_of_length_le (by omega),List.drop_append_of_le_length (by omega),List.drop_of_length_le (by omega),List.nil_append]
  simp only [List.append_assoc]
 have hl2:(asL2 s a b t).length=s.length+t.length:=by
  simp only [asL2,List.length_append,List.length_map,List.length_take,List.length_drop,atomsA_len];omega
 have hcp:∀ x∈asL2 s a b t,IsCP x.text:=by
  have h1:∀ x∈atomsA 1 1 s,IsCP x.text:=fun x hx=>by rw [atomsA,List.mem_map] at hx;obtain ⟨y,hy,rfl⟩:=hx;exact cp_ascii (hs y hy)
  have h2:∀ x∈atomsA 2 2 t,IsCP x.text:=fun x hx=>by rw [atomsA,List.mem_map] at hx;obtain ⟨y,hy,rfl⟩:=hx;exact cp_ascii (ht y hy)
  intro x hx
  simp only [asL2,List.mem_append] at hx
  rcases hx with ((hx | hx) | hx) | hx
  ·exact h1 x (List.mem_of_mem_take hx)
  ·exact h2 x hx
  ·rw [List.mem_map] at hx
   obtain ⟨y,hy,rfl⟩:=hx
   exact h1 y (List.mem_of_mem_drop (List.mem_of_mem_take hy))
  ·exact h1 x (List.mem_of_mem_drop hx)
 have hadd:addR (asE1 s).R 2=(asR2,2,0):=by show addR asR1 2=_;kernel_rfl
 have hlv:(asE1 s).R.live 1=true:=rfl
 rw [editE,if_neg (by simp [hlv]),htx,if_neg (by simp [hck])]
 rw [hun,hadd,if_neg (by simp),if_neg (by decide),hup,if_neg (by omega),if_neg (by simp only [Eng.text];exact Nat.not_lt.2 (short_text (by omega) hcp _ _))]
 rfl
end Go.Proofs.YtioampofolilnaaGreat.M
namespace Go.Proofs.YtioampofolilnaaGreat.M
open Go Go.Mini
attribute [local congr] go1_congr goM_congr goG_congr goV_congr drawwp_congr Xwp_congr
set_option maxHeartbeats 2000000 in
theorem dordered_call (σ:Heap) (l:List Chg) (hl:l.length≤1000000) (hd:disorder l=false):ACall Tryz.prog n_delta_Ordered [eChgs l] σ (.bool true) σ:=by
 refine gc_call rfl (spec_of_awp mixed c_delta_Ordered (tl rfl) ?_)
 unfold f_delta_Ordered
 simp +decide only [↓evd,evw,evz,reduceCtorEq]
 refine awp_loop (fun m fr τ=>∃ i,m+i=l.length+1∧1≤i∧fr.get 0=eChgs l∧fr.get 3= .int .i64 (i:Nat)∧disorder (l.drop (i - 1))=false∧Keep [] σ τ) ?_ (m:=l.length) ?_
 ·rintro m fr τ ⟨i,hi,h1,e0,e3,hs,hK⟩
  by_cases hlt:i<l.length
  ·have hlt':(i:Int)<(l.length:Int):=by omega
   have hw:=wrap_succ (i:=i) (by omega)
   have hwm:IntKind.i64.wrap ((i:Int) - 1)=((i - 1:Nat):Int):=by rw [wrap_id (by omega) (by omega)];omega
   have hg:=map_get eChg l i hlt
   have hg1:=map_get eChg l (i - 1) (by omega)
   rw [List.drop_eq_getElem_cons (show i - 1<l.length by omega),show i - 1+1=i by omega,List.drop_eq_getElem_cons hlt,disorder,Bool.or_eq_false_iff] at hs
   have hs2:disorder (l[i]::l.drop (i+1))=disorder (l.drop i):=by rw [← List.drop_eq_getElem_cons hlt]
   rw [hs2] at hs
   obtain ⟨hb,hs⟩:=hs
   generalize l[i]=y at hg hb
   generalize l[i - 1]=x at hg1 hb
   simp only [chgBad,Bool.or_eq_false_iff,Bool.and_eq_false_iff,decide_eq_false_iff_not] at hb
   obtain ⟨c1,c2⟩:=hb
   simp +decide only [↓evd,evw,evz,reduceCtorEq,↓reduceIte,e0,e3,hlt']
   with_reducible refine draw_of_grow (fun _=>False) (ms:=[false,false,false,false,false,false,false,false,false,true,true,false,true]) (by kernel_rfl) ?_
   have ne1:(τ.next+1=τ.next)=False:=eq_false (by omega)
   have ne2:(τ.next=τ.next+1)=False:=eq_false (by omega)
   have hK2:Keep [] σ ((((τ.new (.cells [.int .i64 0,.int .i64 0,.str []] none)).new (.cells [.int .i64 0,.int .i64 0,.str []] none)).set τ.next (.cells [.int .i64 x.frm,.int .i64 x.to,.str x.text] none)).set (τ.next+1) (.cells [.int .i64 y.frm,.int .i64 y.to,.str y.text] none)):=
    (((hK.new _).new _).set (.inr hK.2.2.1) _).set (.inr (Nat.le_succ_of_le hK.2.2.1)) _
   simp +decide only [↓evd,evw,evz,reduceCtorEq,↓reduceIte,e0,e3,hwm,hg,hg1,Nat.add_zero,ne1]
   refine ⟨.inr ⟨rfl,fun _ h=>h.elim⟩,?_⟩
   by_cases c3:x.frm=y.frm
   ·have b2:(x.frm==y.frm)=true:=by simpa using c3
    have c4:¬x.to=y.frm:=c2.resolve_left (fun h=>h c3)
    have b3:(x.to==y.frm)=false:=by simpa using c4
    simp +decide only [↓evd,evw,evz,reduceCtorEq,↓reduceIte,e0,e3,Nat.add_zero,ne1,ne2,c1,b2,b3,hw]
    exact ⟨m - 1,by omega,i+1,by omega,by omega,rfl,hs,hK2⟩
   ·have b2:(x.frm==y.frm)=false:=by simpa using c3
    simp +decide only [↓evd,evw,evz,reduceCtorEq,↓reduceIte,e0,e3,Nat.add_zero,ne1,ne2,c1,b2,hw]
    exact ⟨m - 1,by omega,i+1,by omega,by omega,rfl,hs,hK2⟩
  ·have hlt':¬(i:Int)<(l.length:Int):=by omega
   simp +decide only [↓evd,evw,evz,reduceCtorEq,↓reduceIte,e0,e3,hlt']
   first | exact ⟨hK.1,hK.2.1,fun k hk=>hK.get hk⟩ | exact ⟨rfl,hK.1,hK.2.1,fun k hk=>hK.get hk⟩
 ·refine ⟨1,by omega,Nat.le_refl _,?_⟩
  simp +decide only [evw,evz,↓reduceIte]
  first | exact ⟨rfl,hd,Keep.refl _ _⟩ | exact ⟨hd,Keep.refl _ _⟩
theorem longR_drop {l:List Chg} {r:Int} {i:Nat} (hi:i<l.length):longR (l.drop i) r=if r<l[i].text.length then 13 else longR (l.drop (i+1)) (r - l[i].text.length):=by
 rw [List.drop_eq_getElem_cons hi,longR]
set_option maxHeartbeats 2000000 in
theorem dlong_call (σ:Heap) (base:Int) (l:List Chg) (hb:0≤base∧base≤20000) (hl:l.length≤8) (ho:∀ c∈l,0≤c.to - c.frm∧c.to - c.frm≤20000∧ -100000≤c.frm∧c.frm≤100000) (ht:∀ c∈l,c.text.length≤1000000):ACall Tryz.prog n_delta_long [.int .i64 base,eChgs l] σ (.int .i64 (longR l (20000 - base+keptL l))) σ:=by
 refine keep_call rfl (spec_of_awp mixed c_delta_long (tl rfl) ?_)
 unfold f_delta_long
 have w0:IntKind.i64.wrap (20000 - base)=20000 - base:=wrap_id (by omega) (by omega)
 have hkb:∀ i,i≤l.length→0≤keptL (l.take i)∧keptL (l.take i)≤i * 20000:=by
  intro i
  induction i with
  | zero=>intro _;simp [keptL]
  | succ i ih=>
   intro hi
   have h1:=ih (by omega)
   have h2:=ho _ (List.getElem_mem (show i<l.length by omega))
   have h3:keptL (l.take (i+1))=keptL (l.take i)+(l[i].to - l[i].frm):=by rw [List.take_succ_eq_append_getElem (by omega),keptL_app,keptL_one]
   rw [h3];omega
 simp +decide only [↓evd,evw,evz,reduceCtorEq,↓reduceIte,w0]
 refine awp_loop (fun m fr τ=>∃ (i:Nat),m+i=l.length∧fr.get 1=eChgs l∧fr.get 5= .int .i64 (20000 - base+keptL (l.take i))∧fr.get 12=eChgs l∧fr.get 13= .int .i64 (l.length:Nat)∧fr.get 14= .int .i64 (i:Nat)∧Keep [] σ τ) ?_ (m:=l.length) ?_
 ·rintro m fr τ ⟨i,hi,e1,e5,e12,e13,e14,hK⟩
  have hki:=hkb i (by omega)
  by_cases hlt:i<l.length
  ·have hlt':(i:Int)<(l.length:Int):=by omega
   have hw:=wrap_succ (i:=i) (by omega)
   have hg:=map_get eChg l i hlt
   have hoi:=ho _ (List.getElem_mem hlt)
   have h3:keptL (l.take (i+1))=keptL (l.take i)+(l[i].to - l[i].frm):=by rw [List.take_succ_eq_append_getElem (by omega),keptL_app,keptL_one]
   generalize l[i]=c at hg hoi h3
   have w1:IntKind.i64.wrap (c.to - c.frm)=c.to - c.frm:=wrap_id (by omega) (by omega)
   have w2:IntKind.i64.wrap (20000 - base+keptL (l.take i)+(c.to - c.frm))=20000 - base+keptL (l.take (i+1)):=by rw [wrap_id (by omega) (by omega),h3];omega
   have hK':=hK.junk (.cells [.int .i64 0,.int .i64 0,.str []] none) (.cells [.int .i64 c.frm,.int .i64 c.to,.str c.text] none)
   simp +decide only [↓evd,evw,evz,reduceCtorEq,↓reduceIte,e1,e5,e12,e13,e14,hlt',hg,eChg,w1,w2,hw]
   exact ⟨m - 1,by omega,i+1,by omega,rfl,rfl,hK'⟩
  ·have hlt':¬(i:Int)<(l.length:Int):=by omega
   rw [List.take_of_length_le (by omega)] at e5 hki
   simp +decide only [↓evd,evw,evz,reduceCtorEq,↓reduceIte,e1,e13,e14,hlt']
   refine awp_loop (fun m fr τ=>∃ (i:Nat) (r:Int),m+i=l.length∧fr.get 5= .int .i64 r∧fr.get 26=eChgs l∧fr.get 27= .int .i64 (l.length:Nat)∧fr.get 28= .int .i64 (i:Nat)∧longR (l.drop i) r=longR l (20000 - base+keptL l)∧r≤1000000∧0≤r∧Keep [] σ τ) ?_ (m:=l.length) ?_
   ·clear e1 e5 e12 e13 e14 hK hlt hlt' hi hki
    rintro m fr τ ⟨i,r,hi,e5,e26,e27,e28,hlr,hr1,hr2,hK⟩
    by_cases hlt:i<l.length
    ·have hlt':(i:Int)<(l.length:Int):=by omega
     have hw:=wrap_succ (i:=i) (by omega)
     have hg:=map_get eChg l i hlt
     have hti:=ht _ (List.getElem_mem hlt)
     rw [longR_drop hlt] at hlr
     generalize l[i]=c at hg hti hlr
     have hK':=hK.junk (.cells [.int .i64 0,.int .i64 0,.str []] none) (.cells [.int .i64 c.frm,.int .i64 c.to,.str c.text] none)
     by_cases hlc:r<(c.text.length:Int)
     ·rw [if_pos hlc] at hlr
      rw [← hlr]
      simp +decide only [↓evd,evw,evz,reduceCtorEq,↓reduceIte,e5,e26,e27,e28,hlt',hg,eChg,hlc]
      first | exact hK' | exact ⟨rfl,hK'⟩
     ·rw [if_neg hlc] at hlr
      have w1:IntKind.i64.wrap (r - (c.text.length:Int))=r - (c.text.length:Int):=wrap_id (by omega) (by omega)
      simp +decide only [↓evd,evw,evz,reduceCtorEq,↓reduceIte,e5,e26,e27,e28,hlt',hg,eChg,hlc,w1,hw]
      exact ⟨m - 1,by omega,i+1,r - (c.text.length:Int),by omega,rfl,rfl,hlr,by omega,by omega,hK'⟩
    ·have hlt':¬(i:Int)<(l.length:Int):=by omega
     rw [List.drop_eq_nil_of_le (by omega)] at hlr
     have hl0:longR [] r=0:=by
      simp only [longR];rw [if_neg (by omega)]
     rw [← hlr,hl0]
     simp +decide only [↓evd,evw,reduceCtorEq,↓reduceIte,e27,e28,hlt']
     first | exact hK | exact ⟨rfl,hK⟩
   ·refine ⟨0,20000 - base+keptL l,by omega,?_⟩
    simp +decide only [evw,evz,↓reduceIte,e5]
    first | exact ⟨rfl,by omega,by omega,hK⟩ | exact ⟨by omega,by omega,hK⟩ | exact ⟨rfl,rfl,by omega,by omega,hK⟩
 ·refine ⟨0,by omega,?_⟩
  simp +decide only [evw,evz,↓reduceIte]
  exact ⟨by simp [keptL],Keep.refl _ _⟩
end Go.Proofs.YtioampofolilnaaGreat.M
namespace Go.Proofs.YtioampofolilnaaGreat.M
open Go Go.Mini
attribute [local congr] go1_congr goM_congr goG_congr goV_congr drawwp_congr Xwp_congr
structure ChgsOk (base:Nat) (l:List Chg):Prop where
 low:base≤20000
 few:l.length≤8
 rng:∀ c∈l,0≤c.frm∧c.frm≤c.to∧c.to≤(base:Nat)
 ord:disorder l=false
 val:∀ c∈l,valid c.text=true
 txt:∀ c∈l,c.text.length≤60
set_option maxHeartbeats 2000000 in
theorem dcheck_call (σ:Heap) (base:Nat) (l:List Chg) (h:ChgsOk base l):ACall Tryz.prog n_delta_check [.int .i64 (base:Nat),eChgs l] σ (.int .i64 (longR l (20000 - (base:Nat)+keptL l))) σ:=by
 refine keep_call rfl (spec_of_awp mixed c_delta_check (tl rfl) ?_)
 unfold f_delta_check
 obtain ⟨hb,hl,hr,ho,hv,ht⟩:=h
 have n1:¬((base:Nat):Int)<0:=by omega
 have n2:¬(20000:Int)<((base:Nat):Int):=by omega
 simp +decide only [↓evd,evw,evz,reduceCtorEq,↓reduceIte,n1,n2]
 refine awp_loop (fun m fr τ=>∃ (i:Nat),m+i=l.length∧fr.get 0= .int .i64 (base:Nat)∧fr.get 1=eChgs l∧fr.get 15=eChgs l∧fr.get 16= .int .i64 (l.length:Nat)∧fr.get 17= .int .i64 (i:Nat)∧Keep [] σ τ) ?_ (m:=l.length) ?_
 ·rintro m fr τ ⟨i,hi,e0,e1,e15,e16,e17,hK⟩
  by_cases hlt:i<l.length
  ·have hlt':(i:Int)<(l.length:Int):=by omega
   have hw:=wrap_succ (i:=i) (by omega)
   have hg:=map_get eChg l i hlt
   have hri:=hr _ (List.getElem_mem hlt)
   generalize l[i]=c at hg hri
   have hK':=hK.junk (.cells [.int .i64 0,.int .i64 0,.str []] none) (.cells [.int .i64 c.frm,.int .i64 c.to,.str c.text] none)
   have m1:¬c.frm<0:=by omega
   have m2:¬c.to<c.frm:=by omega
   have m3:¬((base:Nat):Int)<c.to:=by omega
   simp +decide only [↓evd,evw,evz,reduceCtorEq,↓reduceIte,e0,e1,e15,e16,e17,hlt',hg,eChg,m1,m2,m3,hw]
   exact ⟨m - 1,by omega,i+1,by omega,rfl,hK'⟩
  ·have hlt':¬(i:Int)<(l.length:Int):=by omega
   have hod:=dordered_call τ l (by omega) ho
   simp only [eChgs] at hod
   simp +decide only [↓evd,evw,evz,reduceCtorEq,↓reduceIte,e1,e16,e17,hlt']
   refine MSpec.of hod ?_
   simp +decide only [↓evd,evw,evz,reduceCtorEq,↓reduceIte,e1]
   refine awp_loop (fun m fr τ=>∃ (i:Nat),m+i=l.length∧fr.get 0= .int .i64 (base:Nat)∧fr.get 1=eChgs l∧fr.get 41=eChgs l∧fr.get 42= .int .i64 (l.length:Nat)∧fr.get 43= .int .i64 (i:Nat)∧Keep [] σ τ) ?_ (m:=l.length) ?_
   ·clear e0 e1 e15 e16 e17 hK hlt hlt' hi hod
    rintro m fr τ ⟨i,hi,e0,e1,e41,e42,e43,hK⟩
    by_cases hlt:i<l.length
    ·have hlt':(i:Int)<(l.length:Int):=by omega
     have hw:=wrap_succ (i:=i) (by omega)
     have hg:=map_get eChg l i hlt
     have hvi:=hv _ (List.getElem_mem hlt)
     have hti:=ht _ (List.getElem_mem hlt)
     generalize l[i]=c at hg hvi hti
     have hK':=hK.junk (.cells [.int .i64 0,.int .i64 0,.str []] none) (.cells [.int .i64 c.frm,.int .i64 c.to,.str c.text] none)
     have hvc:=fun ρ=>valid_call ρ c.text (by unfold maxRoom;omega)
     rw [hvi] at hvc
     simp +decide only [↓evd,evw,evz,reduceCtorEq,↓reduceIte,e41,e42,e43,hlt',hg,eChg]
     refine MSpec.of (hvc _) ?_
     simp +decide only [↓evd,evw,evz,reduceCtorEq,↓reduceIte,e0,e1,e41,e42,e43,hw]
     exact ⟨m - 1,by omega,i+1,by omega,rfl,hK'⟩
    ·have hlt':¬(i:Int)<(l.length:Int):=by omega
     have hlo:=dlong_call τ (base:Nat) l (by omega) hl (fun c hc=>by have:=hr c hc;omega) (fun c hc=>by have:=ht c hc;omega)
     simp only [eChgs] at hlo
     simp +decide only [↓evd,evw,evz,reduceCtorEq,↓reduceIte,e0,e1,e42,e43,hlt']
     refine MSpec.of hlo ?_
     simp +decide only [↓evd,evw,reduceCtorEq,↓reduceIte]
     first | exact hK | exact ⟨rfl,hK⟩
   ·refine ⟨0,by omega,?_⟩
    simp +decide only [evw,evz,↓reduceIte,e0,e1]
    first | exact hK | exact ⟨rfl,hK⟩
 ·refine ⟨0,by omega,?_⟩
  simp +decide only [evw,evz,↓reduceIte]
  first | exact Keep.refl _ _ | exact ⟨rfl,Keep.refl _ _⟩
def bdS (st:List Chg × Int) (c:Chg):List Chg × Int:=(mkP (mkC st.1 st.2 c.frm) c.text,c.to)
def bd (l:List Chg):List Chg × Int:=l.foldl bdS ([],0)
theorem bd_take {l:List Chg} {i:Nat} (h:i<l.length):bd (l.take (i+1))=bdS (bd (l.take i)) l[i]:=by
 rw [bd,List.take_succ_eq_append_getElem h,List.foldl_append];rfl
theorem bd_small {l:List Chg} (h:∀ c∈l,c.text.length≤60):∀ i,i≤l.length→(bd (l.take i)).1.length≤2 * i∧∀ e∈(bd (l.take i)).1,e.text.length≤60 * i
 | 0,_=>by simp [bd]
 | i+1,hi=>by
  obtain ⟨h1,h2⟩:=bd_small h i (by omega)
  have hi':i<l.length:=by omega
  have ht:=h _ (List.getElem_mem hi')
  rw [bd_take hi']
  generalize l[i]=c at ht
  generalize bd (l.take i)=st at h1 h2
  have k1:=mkC_len st.1 st.2 c.frm
  have k2:=mkP_len (mkC st.1 st.2 c.frm) c.text
  refine ⟨by simp only [bdS];omega,fun e he=>?_⟩
  have:=mkP_txt (s:=c.text) (mkC_txt (f:=st.2) (t:=c.frm) h2) e he
  omega
def buildE (base:Nat) (l:List Chg):Dlt × Int:=
 if longR l (20000 - (base:Nat)+keptL l)=0 then (⟨(base:Nat),(mkC (bd l).1 (bd l).2 (base:Nat)).reverse⟩,0) else (⟨0,[]⟩,longR l (20000 - (base:Nat)+keptL l))
set_option maxHeartbeats 2000000 in
theorem build_call (σ:Heap) (base:Nat) (l:List Chg) (h:ChgsOk base l):ACall Tryz.prog n_delta_Build [.int .i64 (base:Nat),eChgs l] σ (.tup [eDelta (buildE base l).1,.int .i64 (buildE base l).2]) σ:=by
 refine seen_call (by simp only [AVal.pure,AVal.pures,eDelta_pure];rfl) (spec_of_awp mixed c_delta_Build (tl rfl) ?_)
 unfold f_delta_Build
 have hck:=fun ρ=>dcheck_call ρ base l h
 obtain ⟨hb,hl,hr,ho,hv,ht⟩:=h
 simp only [eChgs] at hck
 obtain ⟨k,hk⟩:∃ k,k=longR l (20000 - (base:Nat)+keptL l):=⟨_,rfl⟩
 rw [← hk] at hck
 have hkR:Keep [] σ (σ.new (.cells [.int .i64 0,.nils] none)):=(Keep.refl _ _).new _
 simp +decide only [↓evd,evw,reduceCtorEq,↓reduceIte,eChgs]
 refine MSpec.of (hck _) ?_
 by_cases hk0:k=0
 case neg=>
  have hbk:(k != 0)=true:=by simpa using hk0
  have hbe:buildE base l=(⟨0,[]⟩,k):=by rw [buildE,← hk,if_neg hk0]
  rw [hbe]
  simp +decide only [↓evd,evw,reduceCtorEq,↓reduceIte,hbk]
  refine ⟨hkR.set (.inr (Nat.le_refl _)) _,_,SeesL.tup (.cons (SeesL.agg (.cons (Sees.refl _ _) (.cons (Sees.nils _ 3) (.nil _)))) (.cons (Sees.refl _ _) (.nil _))),rfl,rfl,fun q hq=>?_⟩
  first | rfl | (rw [Heap.get_set,Heap.get_new])
 have hbk:(k != 0)=false:=by simpa using hk0
 have hbe:buildE base l=(⟨(base:Nat),(mkC (bd l).1 (bd l).2 (base:Nat)).reverse⟩,0):=by rw [buildE,← hk,if_pos hk0]
 rw [hbe]
 simp +decide only [↓evd,evw,reduceCtorEq,↓reduceIte,hbk]
 refine (newMaker_at _ (base:Nat)).mono ?_
 rintro v τ ⟨rfl,hM,hK⟩
 simp only [Heap.new_next] at hM
 have hKn:=hK.2.2.1
 simp only [Heap.new_next] at hKn
 have hr0:τ.get σ.next=some (.cells [.int .i64 0,.nils] none):=by rw [hK.get (by simp),Heap.get_new,if_pos rfl]
 have hKa:Keep [] σ τ:=hkR.trans hK (fun x hx=>nomatch hx)
 simp +decide only [↓evd,evw,evz,reduceCtorEq,↓reduceIte]
 refine awp_loop (fun m fr ρ=>∃ (i:Nat) (fp:List Nat),m+i=l.length∧fr.get 0= .int .i64 (base:Nat)∧fr.get 7= .ptr (.new (σ.next+1)) 0∧fr.get 8= .int .i64 (bd (l.take i)).2∧fr.get 20=eChgs l∧fr.get 21= .int .i64 (l.length:Nat)∧fr.get 22= .int .i64 (i:Nat)∧fr.get 4= .ptr (.new σ.next) 0∧
  IsMk ρ (σ.next+1) (base:Nat) (bd (l.take i)).1 fp∧(∀ y∈fp,σ.next<y)∧ρ.get σ.next=some (.cells [.int .i64 0,.nils] none)∧Keep [] σ ρ) ?_ (m:=l.length) ?_
 ·rintro m fr ρ ⟨i,fp,hi,e0,e7,e8,e20,e21,e22,e4,hMk,hfp,hrr,hKr⟩
  have hsm:=bd_small ht i (by omega)
  have hnr:σ.next+1<ρ.next:=by obtain ⟨_,_,_,_,h,_⟩:=hMk;exact h
  by_cases hlt:i<l.length
  ·have hlt':(i:Int)<(l.length:Int):=by omega
   have hw:=wrap_succ (i:=i) (by omega)
   have hg:=map_get eChg l i hlt
   have hbt:=bd_take hlt
   have hti:=ht _ (List.getElem_mem hlt)
   generalize l[i]=c at hg hbt hti
   generalize bd (l.take i)=st at hbt e8 hMk hsm
   obtain ⟨A,hA⟩:∃ A,ρ.next=A:=⟨_,rfl⟩
   obtain ⟨ρ1,hρ1⟩:∃ ρ1,ρ1=(ρ.new (.cells [.int .i64 0,.int .i64 0,.str []] none)).set ρ.next (.cells [.int .i64 c.frm,.int .i64 c.to,.str c.text] none):=⟨_,rfl⟩
   have hkj:Keep [] ρ ρ1:=by rw [hρ1];exact (Keep.refl _ _).junk _ _
   have hg1:ρ1.get A=some (.cells [.int .i64 c.frm,.int .i64 c.to,.str c.text] none):=by rw [hρ1,Heap.get_set,if_pos hA]
   have hn1:ρ1.next=ρ.next+1:=by rw [hρ1];simp
   have hM1:=hMk.keep hkj (fun y _=>by simp)
   have hAf:A∉fp:=fun hm=>by have:=hMk.low A hm;omega
   simp +decide only [↓evd,evw,evz,reduceCtorEq,↓reduceIte,e7,e8,e20,e21,e22,hlt',hg,eChg]
   rw [← hρ1]
   simp +decide only [hA]
   refine (mcopy_at hM1 (by omega)).mono ?_
   rintro v ρ2 ⟨fp2,hM2,hK2,hF2⟩
   have hg2:ρ2.get A=some (.cells [.int .i64 c.frm,.int .i64 c.to,.str c.text] none):=by rw [hK2.2.2.2 A (by omega) hAf];exact hg1
   have hlen2:=mkC_len st.1 st.2 c.frm
   have hAf2:A∉fp2:=fun hm=>by
    rcases hF2 A hm with h | h
    ·exact hAf h
    ·omega
   simp +decide only [↓evd,evw,reduceCtorEq,↓reduceIte,e7,hg2]
   refine (mput_at hM2 (by omega) (by omega) (fun e he=>by have:=mkC_txt (f:=st.2) (t:=c.frm) hsm.2 e he;omega)).mono ?_
   rintro v ρ3 ⟨fp3,hM3,hK3,hF3⟩
   have hn2:=hK2.2.2.1
   have hg3:ρ3.get A=some (.cells [.int .i64 c.frm,.int .i64 c.to,.str c.text] none):=by rw [hK3.2.2.2 A (by omega) hAf2];exact hg2
   have hfp2:∀ y∈fp2,σ.next<y:=fun y hy=>by
    rcases hF2 y hy with h | h
    ·exact hfp y h
    ·have:=hkj.2.2.1;omega
   have hfp3:∀ y∈fp3,σ.next<y:=fun y hy=>by
    rcases hF3 y hy with h | h
    ·exact hfp2 y h
    ·omega
   have hkall:Keep [] σ ρ3:=((hKr.trans hkj (fun x hx=>nomatch hx)).trans hK2 (fun x hx=>.inr (Nat.le_of_lt (hfp x hx)))).trans hK3 (fun x hx=>.inr (Nat.le_of_lt (hfp2 x hx)))
   have hrr3:ρ3.get σ.next=some (.cells [.int .i64 0,.nils] none):=by
    rw [hK3.2.2.2 _ (by omega) (fun hm=>by have:=hfp2 _ hm;omega),hK2.2.2.2 _ (by omega) (fun hm=>by have:=hfp _ hm;omega),hkj.get (by omega)];exact hrr
   simp +decide only [↓evd,evw,evz,reduceCtorEq,↓reduceIte,e0,e7,e20,e21,e22,hg3,hw]
   exact ⟨m - 1,by omega,i+1,fp3,by omega,by rw [hbt];rfl,rfl,e4,by rw [hbt];exact hM3,hfp3,hrr3,hkall⟩
  ·have hlt':¬(i:Int)<(l.length:Int):=by omega
   have hti:l.take i=l:=List.take_of_length_le (by omega)
   rw [hti] at e8 hMk hsm
   have hcl:=mkC_len (bd l).1 (bd l).2 (base:Nat)
   simp +decide only [↓evd,evw,reduceCtorEq,↓reduceIte,e0,e7,e8,e21,e22,hlt']
   refine (mcopy_at hMk (by omega)).mono ?_
   rintro v ρ2 ⟨fp2,hM2,hK2,hF2⟩
   have hfp2:∀ y∈fp2,σ.next<y:=fun y hy=>by
    rcases hF2 y hy with h | h
    ·exact hfp y h
    ·omega
   have hk2:Keep [] σ ρ2:=hKr.trans hK2 (fun x hx=>.inr (Nat.le_of_lt (hfp x hx)))
   have hrr2:ρ2.get σ.next=some (.cells [.int .i64 0,.nils] none):=by rw [hK2.2.2.2 _ (by omega) (fun hm=>by have:=hfp _ hm;omega)];exact hrr
   have hn2:=hK2.2.2.1
   simp +decide only [↓evd,evw,reduceCtorEq,↓reduceIte,e7]
   refine (mdelta_at hM2 (by omega)).mono ?_
   obtain ⟨x,hb2,hO,hkx,hkn,rfl⟩:=id hM2
   rintro v τ4 ⟨hK4,⟨h60,x',hx',rfl⟩ | ⟨h60,rfl⟩⟩
   case inr=>omega
   rw [hb2] at hx'
   simp only [Option.some.injEq,ABlk.cells.injEq,List.cons.injEq,and_true,true_and] at hx'
   subst hx'
   have hr4:τ4.get σ.next=some (.cells [.int .i64 0,.nils] none):=by rw [hK4.get (by omega)];exact hrr2
   have hxr:x.isRaw=false:=by rcases hO.2 with ⟨rfl,_⟩ | ⟨K,rfl,_⟩ <;> rfl
   have hxc:x.isCell=true:=own_kind hO
   have hxx:x.cells=[x]:=by rcases hO.2 with ⟨rfl,_⟩ | ⟨K,rfl,_⟩ <;> rfl
   have hxl:∀ q∈uid x,σ.next<q:=fun q hq=>hfp2 q (List.mem_cons_of_mem _ hq)
   have hO4:Own (σ.next+1) (τ4.set σ.next (.cells [.int .i64 (base:Nat),x] none)) t_Elem 3 x ((mkC (bd l).1 (bd l).2 (base:Nat)).reverse.map eChg):=
    Own.set (Own.raise (Own.move hO hK4.2.2.1 (fun K o n c e=>hK4.get (hO.low e).2)) hxl) (fun K o m c e hj=>by have:=hxl K (mem_uid.2 ⟨_,_,_,e⟩);omega) _
   obtain ⟨ρ5,s1,s2,s3,s4,s5⟩:=sees_delta (base:=(base:Nat)) hO4
   simp +decide only [↓evd,evw,reduceCtorEq,↓reduceIte,e4,hr4,hxc]
   refine ⟨(hk2.trans hK4 (fun x hx=>nomatch hx)).set (.inr (Nat.le_refl _)) _,ρ5,SeesL.tup (.cons s1 (.cons (Sees.refl _ _) (.nil _))),s2,s3,fun q hq=>?_⟩
   rw [s5 q (by omega),Heap.get_set]
 ·refine ⟨0,[σ.next+1],by omega,?_⟩
  simp +decide only [evw,evz,↓reduceIte]
  exact ⟨rfl,hM,by simp,hr0,hKa⟩
end Go.Proofs.YtioampofolilnaaGreat.M


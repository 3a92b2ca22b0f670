/- A part of the seat's proofs over the abstract machine. No condition. -/
import Derived.Test.YtioampofolilnaaGreatWB
set_option linter.unusedSimpArgs false
set_option linter.unusedVariables false
set_option maxRecDepth 100000
namespace Go.Proofs.YtioampofolilnaaGreat.M
open Go Go.Mini
attribute [local congr] go1_congr goM_congr goG_congr goV_congr drawwp_congr Xwp_congr
def leftA (gs u:List Int) (a:Atom):Atom × Bool:=
 if a.group∈gs∧a.group∈u then (a,false) else
 if (a.cuts.any fun c=>staysG gs u c.group)=true then ({a with group:=if a.group∈gs then -1 else a.group},false) else
 ({a with cuts:=a.cuts.filter (fun c=>!goneG gs u c.group),group:=if a.group∈gs then -1 else a.group},true)
theorem leftA_rest (gs u:List Int) (a:Atom):restA gs u a=if (leftA gs u a).2 then some (leftA gs u a).1 else none:=by
 unfold restA leftA
 by_cases h:a.group∈gs∧a.group∈u
 ·rw [if_pos h,if_pos (by simp [goneG,h.1,h.2])];rfl
 ·have hg:goneG gs u a.group=false:=by
   simp only [goneG]
   by_cases h1:a.group∈gs
   ·have h2:a.group∉u:=fun h2=>h ⟨h1,h2⟩
    simp [h1,h2]
   ·simp [h1]
  rw [if_neg h,hg,Bool.false_or]
  by_cases hs:(a.cuts.any fun c=>staysG gs u c.group)=true
  ·rw [if_pos hs,if_pos hs];rfl
  ·rw [if_neg hs,if_neg hs];rfl
set_option maxHeartbeats 4000000 in
theorem rleft_call (σ:Heap) (a:Atom) (gs u:List Int) (hg:gs.length≤1000000) (hu:u.length≤1000000) (hc:a.cuts.length≤1000000):
  ACall Tryz.prog n_palinoderef20_left [eAtom a,ints gs,ints u] σ (.tup [eAtom (leftA gs u a).1,.bool (leftA gs u a).2]) σ:=by
 refine bare_call (by simp only [AVal.pures,ints_pure,eAtom_pure];rfl) (by simp only [AVal.pure,AVal.pures,eAtom_pure];rfl) (fun W F=>spec_of_awp mixed c_palinoderef20_left (tl rfl) ?_) σ
 unfold f_palinoderef20_left
 have hin:=fun (τ:Heap) (g:Int)=>in_call τ gs g hg
 have hinu:=fun (τ:Heap) (g:Int)=>in_call τ u g hu
 simp only [ints] at hin hinu
 obtain ⟨a1,ha1⟩:∃ a1:Atom,a1={a with group:=if a.group∈gs then -1 else a.group}:=⟨_,rfl⟩
 have b1:a1.cuts=a.cuts:=by rw [ha1]
 have b2:a1.text=a.text:=by rw [ha1]
 have b3:a1.rev=a.rev:=by rw [ha1]
 have b4:a1.rank=a.rank:=by rw [ha1]
 simp +decide only [↓evd,evw,evz,reduceCtorEq,↓reduceIte,eAtom]
 refine MSpec.of (hin _ _) ?_
 by_cases h1:a.group∈gs∧a.group∈u
 ·simp +decide only [↓evd,evw,evz,reduceCtorEq,↓reduceIte,mem_bool h1.1]
  refine MSpec.of (hinu _ _) ?_
  simp +decide only [↓evd,evw,evz,reduceCtorEq,↓reduceIte,mem_bool h1.2]
  exact seen (by rw [leftA,if_pos h1]) rfl rfl
 by_cases h2:a.group∈gs
 ·have h3:a.group∉u:=fun h=>h1 ⟨h2,h⟩
  simp +decide only [↓evd,evw,evz,reduceCtorEq,↓reduceIte,mem_bool h2]
  refine MSpec.of (hinu _ _) ?_
  simp +decide only [↓evd,evw,evz,reduceCtorEq,↓reduceIte,not_mem_bool h3]
  refine awp_loop (fun m fr τ=>∃ (i:Nat),m+i=a.cuts.length∧fr.get 1=ints gs∧fr.get 2=ints u∧fr.get 3= .ptr (.new 0) 0∧fr.get 6= .ptr (.new 1) 0∧fr.get 7= .bool false∧fr.get 9= .int .i64 (i:Nat)∧((a.cuts.take i).any fun c=>staysG gs u c.group)=false∧Own 2 τ t_Cut 2 (fr.get 8) (((a.cuts.take i).filter (fun c=>!goneG gs u c.group)).map eCut)∧τ.get 0=some (.cells [.str a.text,.int .i64 a.rev,.int .i64 (-1),.int .i64 a.rank,.fsl 2 (a.cuts.map eCut)] none)∧τ.get 1=some (.cells [.str [],.int .i64 0,.int .i64 0,.int .i64 0,.nils] none)∧2≤τ.next∧τ.W=W∧τ.F0=F) ?_ (m:=a.cuts.length) ?_
  ·rintro m fr τ ⟨i,hi,e1,e2,e3,e6,e7,e9,hst,hO,q0,q1,hn,hW,hF⟩
   generalize hx:fr.get 8=x at hO
   by_cases hlt:i<a.cuts.length
   ·have hlt':(i:Int)<(a.cuts.length:Int):=by omega
    have hw:=wrap_succ (i:=i) (by omega)
    have hgc:=map_get eCut a.cuts i hlt
    have htk:=List.take_succ_eq_append_getElem hlt
    have hmem:=List.getElem_mem hlt
    generalize a.cuts[i]=c at hgc htk hmem
    have n0:(τ.next=0)=False:=eq_false (by omega)
    have n1:(τ.next=1)=False:=eq_false (by omega)
    have hO2:Own 2 ((τ.new (.cells [.int .i64 0,.int .i64 0] none)).set τ.next (.cells [.int .i64 c.rev,.int .i64 c.group] none)) t_Cut 2 x (((a.cuts.take i).filter (fun c=>!goneG gs u c.group)).map eCut):=Own.var2 hO _ _
    have hfl:((a.cuts.take i).filter (fun c=>!goneG gs u c.group)).length≤1000000:=by
     have:=List.length_filter_le (fun c:Cut=>!goneG gs u c.group) (a.cuts.take i)
     rw [List.length_take] at this;omega
    obtain ⟨x',σ',g1,g2,g3,g4,g5,g6,g7⟩:=own_cut hO2 (by simp;omega) hfl c
    simp only [Heap.set_next,Heap.new_next] at g1 g5 g6
    have k0:σ'.get 0=some (.cells [.str a.text,.int .i64 a.rev,.int .i64 (-1),.int .i64 a.rank,.fsl 2 (a.cuts.map eCut)] none):=by
     rw [g6 0 (by omega) (fun hm=>by have:=(own_low hO 0 hm).1;omega),Heap.get_set,if_neg (by omega),Heap.get_new,if_neg (by omega)];exact q0
    have k1:σ'.get 1=some (.cells [.str [],.int .i64 0,.int .i64 0,.int .i64 0,.nils] none):=by
     rw [g6 1 (by omega) (fun hm=>by have:=(own_low hO 1 hm).1;omega),Heap.get_set,if_neg (by omega),Heap.get_new,if_neg (by omega)];exact q1
    simp +decide only [↓evd,evw,evz,reduceCtorEq,↓reduceIte,e1,e3,e9,q0,hlt',hgc,eCut]
    refine MSpec.of (hin _ _) ?_
    by_cases m1:c.group∈gs
    ·simp +decide only [↓evd,evw,evz,reduceCtorEq,↓reduceIte,e2,mem_bool m1]
     refine MSpec.of (hinu _ _) ?_
     by_cases m2:c.group∈u
     ·simp +decide only [↓evd,evw,evz,reduceCtorEq,↓reduceIte,e1,e2,e3,e6,e7,e9,hx,mem_bool m2,hw]
      refine ⟨m - 1,by omega,i+1,by omega,rfl,?_,?_,?_⟩
      ·rw [htk,List.any_append,hst];simp [staysG,m1,m2]
      ·rw [htk,List.filter_append,List.filter_cons]
       have:(!goneG gs u c.group)=false:=by simp [goneG,m1,m2]
       rw [this]
       simpa using hO2
      ·exact ⟨by rw [if_neg (by omega),if_neg (by omega)];exact q0,by rw [if_neg (by omega),if_neg (by omega)];exact q1,by omega,hW,hF⟩
     ·have hany:(a.cuts.any fun c=>staysG gs u c.group)=true:=List.any_eq_true.2 ⟨c,hmem,by simp [staysG,m1,m2]⟩
      simp +decide only [↓evd,evw,reduceCtorEq,↓reduceIte,e3,e6,not_mem_bool m2,q0,q1,n0,n1]
      refine seen ?_ hW hF
      rw [leftA,if_neg h1,if_pos hany]
      rw [if_pos h2]
    ·simp +decide only [↓evd,evw,evz,reduceCtorEq,↓reduceIte,e1,e2,e3,e6,e7,e9,hx,not_mem_bool m1,g1,hw]
     refine ⟨m - 1,by omega,i+1,by omega,rfl,?_,?_,?_⟩
     ·rw [htk,List.any_append,hst];simp [staysG,m1]
     ·rw [htk,List.filter_append,List.filter_cons]
      have:(!goneG gs u c.group)=true:=by simp [goneG,m1]
      rw [this]
      exact g2
     ·exact ⟨k0,k1,by omega,g3.trans hW,g4.trans hF⟩
   ·have hlt':¬(i:Int)<(a.cuts.length:Int):=by omega
    rw [List.take_of_length_le (by omega)] at hO hst
    obtain ⟨τ3,s1,d1⟩:=Own.sees2 hO
    have hL:leftA gs u a=({a with cuts:=a.cuts.filter (fun c=>!goneG gs u c.group),group:=(-1)},true):=by
     rw [leftA,if_neg h1,if_neg (by rw [hst];simp)]
     rw [if_pos h2]
    rw [hL]
    have fin:∀ ρ:Heap,Own 2 ρ t_Cut 2 x ((a.cuts.filter (fun c=>!goneG gs u c.group)).map eCut)→ρ.W=W→ρ.F0=F→∃ τ',Sees ρ (.tup [.agg [.str a.text,.int .i64 a.rev,.int .i64 (-1),.int .i64 a.rank,x],.bool true]) τ' (.tup [.agg [.str a.text,.int .i64 a.rev,.int .i64 (-1),.int .i64 a.rank,.fsl 2 ((a.cuts.filter (fun c=>!goneG gs u c.group)).map eCut)],.bool true])∧τ'.W=W∧τ'.F0=F:=by
     intro ρ ho hw1 hf1
     obtain ⟨τ4,s2,d2⟩:=Own.sees2 ho
     refine ⟨τ4,SeesL.tup (.cons (SeesL.agg (.cons (Sees.refl _ _) (.cons (Sees.refl _ _) (.cons (Sees.refl _ _) (.cons (Sees.refl _ _) (.cons s2 (.nil _))))))) (.cons (Sees.refl _ _) (.nil _))),?_⟩
     rcases d2 with rfl | ⟨K,_,rfl,hK2⟩ <;> exact ⟨hw1,hf1⟩
    have hset:∀ (j:Nat) (b:ABlk) (ρ:Heap),j<2→Own 2 ρ t_Cut 2 x ((a.cuts.filter (fun c=>!goneG gs u c.group)).map eCut)→Own 2 (ρ.set j b) t_Cut 2 x ((a.cuts.filter (fun c=>!goneG gs u c.group)).map eCut):=fun j b ρ hj ho=>
     Own.set ho (fun K o n c e hk=>by have:=(ho.low e).1;omega) _
    rcases (show x= .nils∨∃ K n,x= .slc (.new K) 0 n (.gr 2) from by
     rcases hO.2 with ⟨h,_⟩ | ⟨K,h,_⟩
     ·exact .inl h
     ·exact .inr ⟨K,_,h⟩) with rfl | ⟨K,n,rfl⟩
    all_goals
     simp +decide only [↓evd,evw,evz,reduceCtorEq,↓reduceIte,e3,e6,e9,hx,q0,q1,hlt']
     exact fin _ (hset _ _ _ (by omega) (hset _ _ _ (by omega) hO)) hW hF
  ·refine ⟨0,by omega,?_⟩
   simp +decide only [evw,evz,↓reduceIte]
   exact ⟨rfl,Own.nil _ _ _ _⟩
 ·simp +decide only [↓evd,evw,reduceCtorEq,↓reduceIte,not_mem_bool h2]
  refine awp_loop (fun m fr τ=>∃ (i:Nat),m+i=a.cuts.length∧fr.get 1=ints gs∧fr.get 2=ints u∧fr.get 3= .ptr (.new 0) 0∧fr.get 6= .ptr (.new 1) 0∧fr.get 7= .bool false∧fr.get 9= .int .i64 (i:Nat)∧((a.cuts.take i).any fun c=>staysG gs u c.group)=false∧Own 2 τ t_Cut 2 (fr.get 8) (((a.cuts.take i).filter (fun c=>!goneG gs u c.group)).map eCut)∧τ.get 0=some (.cells [.str a.text,.int .i64 a.rev,.int .i64 a.group,.int .i64 a.rank,.fsl 2 (a.cuts.map eCut)] none)∧τ.get 1=some (.cells [.str [],.int .i64 0,.int .i64 0,.int .i64 0,.nils] none)∧2≤τ.next∧τ.W=W∧τ.F0=F) ?_ (m:=a.cuts.length) ?_
  ·rintro m fr τ ⟨i,hi,e1,e2,e3,e6,e7,e9,hst,hO,q0,q1,hn,hW,hF⟩
   generalize hx:fr.get 8=x at hO
   by_cases hlt:i<a.cuts.length
   ·have hlt':(i:Int)<(a.cuts.length:Int):=by omega
    have hw:=wrap_succ (i:=i) (by omega)
    have hgc:=map_get eCut a.cuts i hlt
    have htk:=List.take_succ_eq_append_getElem hlt
    have hmem:=List.getElem_mem hlt
    generalize a.cuts[i]=c at hgc htk hmem
    have n0:(τ.next=0)=False:=eq_false (by omega)
    have n1:(τ.next=1)=False:=eq_false (by omega)
    have hO2:Own 2 ((τ.new (.cells [.int .i64 0,.int .i64 0] none)).set τ.next (.cells [.int .i64 c.rev,.int .i64 c.group] none)) t_Cut 2 x (((a.cuts.take i).filter (fun c=>!goneG gs u c.group)).map eCut):=Own.var2 hO _ _
    have hfl:((a.cuts.take i).filter (fun c=>!goneG gs u c.group)).length≤1000000:=by
     have:=List.length_filter_le (fun c:Cut=>!goneG gs u c.group) (a.cuts.take i)
     rw [List.length_take] at this;omega
    obtain ⟨x',σ',g1,g2,g3,g4,g5,g6,g7⟩:=own_cut hO2 (by simp;omega) hfl c
    simp only [Heap.set_next,Heap.new_next] at g1 g5 g6
    have k0:σ'.get 0=some (.cells [.str a.text,.int .i64 a.rev,.int .i64 a.group,.int .i64 a.rank,.fsl 2 (a.cuts.map eCut)] none):=by
     rw [g6 0 (by omega) (fun hm=>by have:=(own_low hO 0 hm).1;omega),Heap.get_set,if_neg (by omega),Heap.get_new,if_neg (by omega)];exact q0
    have k1:σ'.get 1=some (.cells [.str [],.int .i64 0,.int .i64 0,.int .i64 0,.nils] none):=by
     rw [g6 1 (by omega) (fun hm=>by have:=(own_low hO 1 hm).1;omega),Heap.get_set,if_neg (by omega),Heap.get_new,if_neg (by omega)];exact q1
    simp +decide only [↓evd,evw,evz,reduceCtorEq,↓reduceIte,e1,e3,e9,q0,hlt',hgc,eCut]
    refine MSpec.of (hin _ _) ?_
    by_cases m1:c.group∈gs
    ·simp +decide only [↓evd,evw,evz,reduceCtorEq,↓reduceIte,e2,mem_bool m1]
     refine MSpec.of (hinu _ _) ?_
     by_cases m2:c.group∈u
     ·simp +decide only [↓evd,evw,evz,reduceCtorEq,↓reduceIte,e1,e2,e3,e6,e7,e9,hx,mem_bool m2,hw]
      refine ⟨m - 1,by omega,i+1,by omega,rfl,?_,?_,?_⟩
      ·rw [htk,List.any_append,hst];simp [staysG,m1,m2]
      ·rw [htk,List.filter_append,List.filter_cons]
       have:(!goneG gs u c.group)=false:=by simp [goneG,m1,m2]
       rw [this]
       simpa using hO2
      ·exact ⟨by rw [if_neg (by omega),if_neg (by omega)];exact q0,by rw [if_neg (by omega),if_neg (by omega)];exact q1,by omega,hW,hF⟩
     ·have hany:(a.cuts.any fun c=>staysG gs u c.group)=true:=List.any_eq_true.2 ⟨c,hmem,by simp [staysG,m1,m2]⟩
      simp +decide only [↓evd,evw,reduceCtorEq,↓reduceIte,e3,e6,not_mem_bool m2,q0,q1,n0,n1]
      refine seen ?_ hW hF
      rw [leftA,if_neg h1,if_pos hany]
      rw [if_neg h2]
    ·simp +decide only [↓evd,evw,evz,reduceCtorEq,↓reduceIte,e1,e2,e3,e6,e7,e9,hx,not_mem_bool m1,g1,hw]
     refine ⟨m - 1,by omega,i+1,by omega,rfl,?_,?_,?_⟩
     ·rw [htk,List.any_append,hst];simp [staysG,m1]
     ·rw [htk,List.filter_append,List.filter_cons]
      have:(!goneG gs u c.group)=true:=by simp [goneG,m1]
      rw [this]
      exact g2
     ·exact ⟨k0,k1,by omega,g3.trans hW,g4.trans hF⟩
   ·have hlt':¬(i:Int)<(a.cuts.length:Int):=by omega
    rw [List.take_of_length_le (by omega)] at hO hst
    obtain ⟨τ3,s1,d1⟩:=Own.sees2 hO
    have hL:leftA gs u a=({a with cuts:=a.cuts.filter (fun c=>!goneG gs u c.group),group:=a.group},true):=by
     rw [leftA,if_neg h1,if_neg (by rw [hst];simp)]
     rw [if_neg h2]
    rw [hL]
    have fin:∀ ρ:Heap,Own 2 ρ t_Cut 2 x ((a.cuts.filter (fun c=>!goneG gs u c.group)).map eCut)→ρ.W=W→ρ.F0=F→∃ τ',Sees ρ (.tup [.agg [.str a.text,.int .i64 a.rev,.int .i64 a.group,.int .i64 a.rank,x],.bool true]) τ' (.tup [.agg [.str a.text,.int .i64 a.rev,.int .i64 a.group,.int .i64 a.rank,.fsl 2 ((a.cuts.filter (fun c=>!goneG gs u c.group)).map eCut)],.bool true])∧τ'.W=W∧τ'.F0=F:=by
     intro ρ ho hw1 hf1
     obtain ⟨τ4,s2,d2⟩:=Own.sees2 ho
     refine ⟨τ4,SeesL.tup (.cons (SeesL.agg (.cons (Sees.refl _ _) (.cons (Sees.refl _ _) (.cons (Sees.refl _ _) (.cons (Sees.refl _ _) (.cons s2 (.nil _))))))) (.cons (Sees.refl _ _) (.nil _))),?_⟩
     rcases d2 with rfl | ⟨K,_,rfl,hK2⟩ <;> exact ⟨hw1,hf1⟩
    have hset:∀ (j:Nat) (b:ABlk) (ρ:Heap),j<2→Own 2 ρ t_Cut 2 x ((a.cuts.filter (fun c=>!goneG gs u c.group)).map eCut)→Own 2 (ρ.set j b) t_Cut 2 x ((a.cuts.filter (fun c=>!goneG gs u c.group)).map eCut):=fun j b ρ hj ho=>
     Own.set ho (fun K o n c e hk=>by have:=(ho.low e).1;omega) _
    rcases (show x= .nils∨∃ K n,x= .slc (.new K) 0 n (.gr 2) from by
     rcases hO.2 with ⟨h,_⟩ | ⟨K,h,_⟩
     ·exact .inl h
     ·exact .inr ⟨K,_,h⟩) with rfl | ⟨K,n,rfl⟩
    all_goals
     simp +decide only [↓evd,evw,evz,reduceCtorEq,↓reduceIte,e3,e6,e9,hx,q0,q1,hlt']
     exact fin _ (hset _ _ _ (by omega) (hset _ _ _ (by omega) hO)) hW hF
  ·refine ⟨0,by omega,?_⟩
   simp +decide only [evw,evz,↓reduceIte]
   exact ⟨rfl,Own.nil _ _ _ _⟩
theorem own_atoms_sees {B:Nat} {σ:Heap} {x:AVal} {l:List Atom} (h:Own B σ t_Atom 5 x (l.map eAtom)):∃ ρ,Sees σ x ρ (eAtoms l)∧ρ.W=σ.W∧ρ.F0=σ.F0∧ρ.next=σ.next∧∀ q,q<B→ρ.get q=σ.get q:=
 Own.sees h
theorem own_atom {B:Nat} {σ:Heap} {x:AVal} {l:List Atom} (h:Own B σ t_Atom 5 x (l.map eAtom)) (hB:B≤σ.next) (b:Atom) (hr:l.length≤900000):
  ∃ x' τ,aApp t_Atom 5 64 x (.slc (.new σ.next) 0 1 (.ex 1)) (σ.new (.cells [.str b.text,.int .i64 b.rev,.int .i64 b.group,.int .i64 b.rank,.fsl 2 (b.cuts.map eCut)] none))=some (x',τ)∧Own B τ t_Atom 5 x' ((l ++ [b]).map eAtom)∧Ext B σ τ:=by
 have hsrc:=src_one (σ:=σ.new (.cells [.str b.text,.int .i64 b.rev,.int .i64 b.group,.int .i64 b.rank,.fsl 2 (b.cuts.map eCut)] none)) (K:=σ.next) (k:=5) (cs:=[.str b.text,.int .i64 b.rev,.int .i64 b.group,.int .i64 b.rank,.fsl 2 (b.cuts.map eCut)]) (opn:=none) (z:=eAtom b) (cap:= .ex 1) (by rw [Heap.get_new,if_pos rfl]) rfl rfl
 obtain ⟨x',τ,g1,g2,g3,g4⟩:=own_app (bytes:=64) (h.new (.cells [.str b.text,.int .i64 b.rev,.int .i64 b.group,.int .i64 b.rank,.fsl 2 (b.cuts.map eCut)] none)) (Nat.le_succ_of_le hB) hsrc.1 hsrc.2 (by intro y hy;simp at hy;subst hy;rfl) rfl (by omega) (by omega) (by unfold maxRoom;simp;omega)
 refine ⟨x',τ,g1,by rw [List.map_append];exact g2,g3.1,g3.2.1,by have:=g3.2.2.1;simp at this;omega,fun q hq=>?_⟩
 rw [g3.2.2.2 q hq,Heap.get_new,if_neg (by omega)]
theorem restL_left {gs u:List Int} {l:List Atom} {i:Nat} (h:i<l.length):restL gs u (l.take (i+1))=restL gs u (l.take i) ++ (if (leftA gs u l[i]).2 then [(leftA gs u l[i]).1] else []):=by
 rw [List.take_succ_eq_append_getElem h,restL,List.filterMap_append,List.filterMap_cons,leftA_rest]
 cases (leftA gs u l[i]).2 <;> rfl
set_option maxHeartbeats 4000000 in
theorem rforgetE_at {σ:Heap} {k:Nat} {E:Eng} {fp:List Nat} {gs:List Int} (h0:IsRefE σ k E fp) (hg:gs.length≤1000000) (hokz:(forgetR E.R gs).2=0→Eng.Ok ⟨restL gs (E.R.undone (E.R.head:Nat)) E.l,(forgetR E.R gs).1⟩):
  MSpec Tryz.prog n_palinoderef20_Engine_Forget [.ptr (.new k) 0,ints gs] σ fun v τ=>v= .int .i64 (forgetR E.R gs).2∧∃ fp',IsRefE τ k (if (forgetR E.R gs).2≠0 then E else ⟨restL gs (E.R.undone (E.R.head:Nat)) E.l,(forgetR E.R gs).1⟩) fp'∧Keep fp σ τ∧Fresh fp σ fp':=by
 obtain ⟨x,kr,fpr,h,rfl⟩:=id h0
 obtain ⟨P,u0,els,hRA,hfpr⟩:=id h.revs
 refine spec_of_xwp c_palinoderef20_Engine_Forget (tl rfl) ?_
 unfold f_palinoderef20_Engine_Forget
 have hbk:=h.blk
 have hbr:=hRA.blk
 have hr0:=rc_0 (a:=E.R.head) (b:=E.R.floor) (P:=P) (u:=u0)
 have hun:=rundone_call hRA (E.R.head:Nat)
 have huf:=undone_few h.revs.ok (E.R.head:Nat)
 simp only [ints] at hun
 generalize E.R.undone (E.R.head:Nat)=u at hun huf hokz ⊢
 refine x_seq mixed ?_
 simp +decide only [↓evd,evw,evz,reduceCtorEq]
 refine x_seq mixed ?_
 simp +decide only [↓evd]
 with_reducible refine draw_of_grow (fun _=>True) (ms:=[false,false,false,false,false,false,false,false,false,false,false,false,false]) (by kernel_rfl) ?_
 simp +decide only [↓evd,evw,↓reduceIte,hbk,hbr,hr0]
 refine MSpec.of hun ⟨.inr Keeps.rfl,?_⟩
 simp +decide only [↓evd,evw,↓reduceIte]
 refine x_seq mixed ?_
 simp +decide only [↓evd,evw,reduceCtorEq,↓reduceIte]
 simp +decide only [↓evd,evw,↓reduceIte,hbk]
 refine (rrcopy_at h.revs).mono ?_
 rintro v τ ⟨kr2,fp2,rfl,hR2,hf2,hK⟩
 simp +decide only [↓evd,evw,reduceCtorEq,↓reduceIte]
 refine x_seq mixed ?_
 simp +decide only [↓evd,evw,reduceCtorEq,↓reduceIte]
 refine (rforget_spec hR2 gs hg).mono ?_
 rintro v τ1 ⟨rfl,fp3,hR3,hK3,hF3⟩
 have hf3:∀ x∈fp3,σ.next≤x:=fun x hx=>by
  rcases hF3 x hx with h | h
  ·exact hf2 x h
  ·have:=hK.2.2.1;omega
 have hK1:Keep [] σ τ1:=hK.trans hK3 (fun x hx=>.inr (hf2 x hx))
 rcases hfr:forgetR E.R gs with ⟨R',c⟩
 rw [hfr] at hR3 hokz
 simp only at hR3 hokz ⊢
 simp +decide only [↓evd,evw,reduceCtorEq,↓reduceIte]
 refine x_seq mixed ?_
 simp +decide only [↓evd,evw,reduceCtorEq,↓reduceIte]
 by_cases hc:c=0
 case neg=>
  have hb:(c != 0)=true:=by simpa using hc
  simp +decide only [↓evd,evw,reduceCtorEq,↓reduceIte,hb]
  rw [if_pos hc]
  exact ⟨_,h0.keep hK1 (fun x _=>by simp),hK1.mono (fun x hx=>nomatch hx),fun x hx=>.inl hx⟩
 subst hc
 have hb:((0:Int) != 0)=false:=rfl
 have hok':=hokz rfl
 rw [if_neg (by simp)]
 have hbk1:τ1.get k=some (.cells [.ptr (.new kr) 0,x] none):=by rw [hK1.get h.low];exact h.blk
 have hkl:k<τ1.next:=Nat.lt_of_lt_of_le h.low hK1.2.2.1
 have hcl:∀ a∈E.l,a.cuts.length≤1000000:=(h.ok.fits h.revs.ok).2.1
 have hll:=h.ok.len
 simp +decide only [↓evd,evw,hb]
 refine x_seq mixed ?_
 simp +decide only [↓evd,evw,reduceCtorEq]
 refine x_seq mixed ?_
 simp +decide only [↓evd,evw,reduceCtorEq]
 refine awp_loop (fun m fr ρ=>∃ (i:Nat),m+i=E.l.length∧fr.get 0= .ptr (.new k) 0∧fr.get 1=ints gs∧fr.get 5=ints u∧fr.get 6= .ptr (.new kr2) 0∧fr.get 9= .int .i64 (i:Nat)∧Own τ1.next ρ t_Atom 5 (fr.get 8) ((restL gs u (E.l.take i)).map eAtom)∧(restL gs u (E.l.take i)).length≤i∧Keep [] τ1 ρ) ?_ (m:=E.l.length) ?_
 ·rintro m fr ρ ⟨i,hi,e0,e1,e5,e6,e9,hO,hol,hKr⟩
  generalize hx:fr.get 8=y at hO
  have hbk2:ρ.get k=some (.cells [.ptr (.new kr) 0,x] none):=by rw [hKr.get hkl];exact hbk1
  by_cases hlt:i<E.l.length
  ·have hlt':(i:Int)<(E.l.length:Int):=by omega
   have hw:=wrap_succ (i:=i) (by omega)
   have hga:=map_get eAtom E.l i hlt
   have hrt:=restL_left (gs:=gs) (u:=u) hlt
   have hca:=hcl _ (List.getElem_mem hlt)
   obtain rfl:x=eAtoms E.l:=by
    rcases h.lst with h1 | ⟨_,h1⟩
    ·exact h1
    ·rw [h1] at hlt;simp at hlt
   generalize E.l[i]=a at hga hrt hca
   have hlf:=rleft_call ρ a gs u hg huf hca
   simp only [eAtom,ints] at hlf
   generalize leftA gs u a=q at hlf hrt
   obtain ⟨b,ok⟩:=q
   have hkj:=hKr.junk (.cells [.str [],.int .i64 0,.int .i64 0,.int .i64 0,.nils] none) (.cells [.str b.text,.int .i64 b.rev,.int .i64 b.group,.int .i64 b.rank,.fsl 2 (b.cuts.map eCut)] none)
   have hOj:=Own.var2 hO (.cells [.str [],.int .i64 0,.int .i64 0,.int .i64 0,.nils] none) (.cells [.str b.text,.int .i64 b.rev,.int .i64 b.group,.int .i64 b.rank,.fsl 2 (b.cuts.map eCut)] none)
   simp +decide only [↓evd,evw,evz,reduceCtorEq,↓reduceIte,e0,e1,e5,e9,hbk2,hlt',eAtoms,hga,eAtom]
   refine MSpec.of hlf ?_
   cases ok
   ·simp only [Bool.false_eq_true,if_false,List.append_nil] at hrt
    simp +decide only [↓evd,evw,evz,reduceCtorEq,↓reduceIte,e0,e1,e5,e6,e9,hx,hw]
    exact ⟨m - 1,by omega,i+1,by omega,rfl,by rw [hrt];exact hOj,by rw [hrt];omega,hkj⟩
   ·simp only [if_true] at hrt
    obtain ⟨x',τ',g1,g2,g3⟩:=own_atom hOj hkj.2.2.1 b (by omega)
    simp only [Heap.set_next,Heap.new_next] at g1
    simp +decide only [↓evd,evw,evz,reduceCtorEq,↓reduceIte,e0,e1,e5,e6,e9,hx,g1,hw]
    refine ⟨m - 1,by omega,i+1,by omega,rfl,by rw [hrt];exact g2,by rw [hrt,List.length_append,List.length_singleton];omega,?_⟩
    exact ⟨g3.1.trans hkj.1,g3.2.1.trans hkj.2.1,Nat.le_trans hkj.2.2.1 g3.2.2.1,fun q hq _=>by rw [g3.2.2.2 q hq];exact hkj.get hq⟩
  ·have hlt':¬(i:Int)<(E.l.length:Int):=by omega
   have hti:E.l.take i=E.l:=List.take_of_length_le (by omega)
   rw [hti] at hO
   obtain ⟨τ3,s1,s2,s3,s4,s5⟩:=own_atoms_sees hO
   have hK3:Keep [] τ1 τ3:=⟨s2.trans hKr.1,s3.trans hKr.2.1,by rw [s4];exact hKr.2.2.1,fun q hq _=>by rw [s5 q hq];exact hKr.get hq⟩
   have hbk3:τ3.get k=some (.cells [.ptr (.new kr) 0,x] none):=by rw [hK3.get hkl];exact hbk1
   have fin:∃ fp',IsRefE ((τ3.set k (.cells [.ptr (.new kr2) 0,x] none)).set k (.cells [.ptr (.new kr2) 0,eAtoms (restL gs u E.l)] none)) k ⟨restL gs u E.l,R'⟩ fp'∧Keep (k::fpr) σ ((τ3.set k (.cells [.ptr (.new kr2) 0,x] none)).set k (.cells [.ptr (.new kr2) 0,eAtoms (restL gs u E.l)] none))∧Fresh (k::fpr) σ fp':=by
    have hks:=(((Keep.refl [k] τ3).set (j:=k) (.inl (by simp)) (.cells [.ptr (.new kr2) 0,x] none)).set (j:=k) (.inl (by simp)) (.cells [.ptr (.new kr2) 0,eAtoms (restL gs u E.l)] none))
    have hkn:∀ y∈fp3,y∉[k]:=fun y hy hm=>by
     have:=hf3 y hy
     have:=h.low
     rw [List.mem_singleton] at hm;omega
    have hR4:=hR3.keep hK3 (fun y _=>by simp)
    have hK4:Keep [] σ τ3:=hK1.trans hK3 (fun x hx=>nomatch hx)
    refine ⟨k::fp3,⟨eAtoms (restL gs u E.l),kr2,fp3,⟨by rw [Heap.get_set,if_pos rfl],.inl rfl,hR4.keep hks hkn,Nat.lt_of_lt_of_le h.low (by simpa using hK4.2.2.1),fun hm=>hkn k hm (by simp),hok'⟩,rfl⟩,?_,?_⟩
    ·exact ((hK4.mono (fun x hx=>nomatch hx)).set (.inl (by simp)) _).set (.inl (by simp)) _
    ·intro y hy
     rcases List.mem_cons.1 hy with rfl | hy
     ·exact .inl (by simp)
     ·exact .inr (hf3 y hy)
   simp only [eAtoms] at fin
   rcases h.lst with rfl | ⟨rfl,hnil⟩
   ·simp only [eAtoms] at fin hbk2 hbk3
    simp +decide only [↓evd,evw,evz,reduceCtorEq,↓reduceIte,e0,e9,hbk2,hlt']
    refine x_freeze (FSees.reg (t:=8) (by decide) (by simp +decide only [evw,↓reduceIte,hx]) s1) ?_
    refine x_of_awp mixed ?_
    simp +decide only [↓evd,evw,reduceCtorEq,↓reduceIte,e0,e6,hbk3,eAtoms]
    exact fin
   ·have hlt0:¬(i:Int)<0:=by omega
    simp +decide only [↓evd,evw,evz,reduceCtorEq,↓reduceIte,e0,e9,hbk2,hlt0]
    refine x_freeze (FSees.reg (t:=8) (by decide) (by simp +decide only [evw,↓reduceIte,hx]) s1) ?_
    refine x_of_awp mixed ?_
    simp +decide only [↓evd,evw,reduceCtorEq,↓reduceIte,e0,e6,hbk3,eAtoms]
    exact fin
 ·refine ⟨0,by omega,?_⟩
  simp +decide only [evw,evz,↓reduceIte]
  exact ⟨Own.nil _ _ _ _,Nat.le_refl _,Keep.refl _ _⟩
def doB (E:Eng) (x:Step):Eng:=if x.what≤4 then (editE E x.base x.group x.rank x.c).1 else if x.what≤6 then (toggleE E x.group).1 else (forgetE E x.groups).1
structure TwoE (σ τ:Heap) (k1 k2:Nat) (E:Eng) (fp1 fp2:List Nat):Prop where
 eng:IsEng τ k1 E fp1
 ref:IsRefE τ k2 E fp2
 dis:∀ x∈fp1,x∉fp2
 f1:∀ x∈fp1,σ.next≤x
 f2:∀ x∈fp2,σ.next≤x
 keep:Keep [] σ τ
theorem TwoE.step {σ τ τ1 τ2:Heap} {k1 k2:Nat} {E E':Eng} {fp1 fp2 fp1' fp2':List Nat} (h:TwoE σ τ k1 k2 E fp1 fp2) (h1:IsEng τ1 k1 E' fp1') (kk1:Keep fp1 τ τ1) (q1:Fresh fp1 τ fp1') (h2:IsRefE τ2 k2 E' fp2') (kk2:Keep fp2 τ1 τ2) (q2:Fresh fp2 τ1 fp2'):TwoE σ τ2 k1 k2 E' fp1' fp2':=by
 have hn:=h.keep.2.2.1
 have hl1:=h.eng.low
 have hl2:=h.ref.low
 have hn1:=kk1.2.2.1
 have d1:∀ x∈fp1',x∉fp2:=fun x hx hm=>by
  rcases q1 x hx with h3 | h3
  ·exact h.dis x h3 hm
  ·have:=hl2 x hm;omega
 refine ⟨h1.keep kk2 d1,h2,fun x hx hm=>?_,fun x hx=>?_,fun x hx=>?_,?_⟩
 ·rcases q2 x hm with h3 | h3
  ·exact d1 x hx h3
  ·have:=h1.low x hx;omega
 ·rcases q1 x hx with h3 | h3
  ·exact h.f1 x h3
  ·omega
 ·rcases q2 x hx with h3 | h3
  ·exact h.f2 x h3
  ·omega
 ·exact (h.keep.trans kk1 (fun x hx=>.inr (h.f1 x hx))).trans kk2 (fun x hx=>.inr (h.f2 x hx))
def fewB20 (l:List Step):Bool:=l.all fewOne && decide (l.length≤20)
theorem keep_call {f:FuncId} {args:List AVal} {v:AVal} {σ:Heap} (hv:v.pure=true) (h:MSpec Tryz.prog f args σ fun u τ=>u=v∧Keep [] σ τ):ACall Tryz.prog f args σ v σ:=
 gc_call hv (h.mono fun u τ ⟨h1,h2⟩=>⟨h1,h2.1,h2.2.1,fun q hq=>h2.2.2.2 q hq (by simp)⟩)
theorem RefEAt.alen {σ:Heap} {k:Nat} {E:Eng} {x:AVal} {kr:Nat} {fpr:List Nat} (h:RefEAt σ k E x kr fpr):aLen x=some (.int .i64 (E.l.length:Nat)):=by
 rcases h.lst with rfl | ⟨rfl,e⟩
 ·simp only [eAtoms,aLen_fsl,List.length_map]
 ·rw [e];rfl
theorem RefEAt.raw {σ:Heap} {k:Nat} {E:Eng} {x:AVal} {kr:Nat} {fpr:List Nat} (h:RefEAt σ k E x kr fpr):x.isRaw=false:=by
 rcases h.lst with rfl | ⟨rfl,_⟩ <;> rfl
theorem sees_steps2 {σ:Heap} {A B K:Nat} (c1 c2:Chg) (w1 b1 g1 r1 w2 b2 g2 r2:Int) (hA:σ.get A=some (.cells [.int .i64 c1.frm,.int .i64 c1.to,.str c1.text] none)) (hB:σ.get B=some (.cells [.int .i64 c2.frm,.int .i64 c2.to,.str c2.text] none))
  (hK:σ.get K=some (.cells [.int .i64 w1,.int .i64 b1,.int .i64 g1,.int .i64 r1,.slc (.new A) 0 1 (.ex 1),.nils,.int .i64 w2,.int .i64 b2,.int .i64 g2,.int .i64 r2,.slc (.new B) 0 1 (.ex 1),.nils] none)) (hAB:A≠B) (hAK:A≠K) (hBK:B≠K):
  ∃ τ,Sees σ (.slc (.new K) 0 2 (.ex 2)) τ (eSteps [⟨w1,b1,g1,r1,[c1],[]⟩,⟨w2,b2,g2,r2,[c2],[]⟩])∧τ.W=σ.W∧τ.F0=σ.F0∧τ.next=σ.next∧∀ q,q≠A→q≠B→q≠K→τ.get q=σ.get q:=by
 have s1:Sees σ (.slc (.new A) 0 1 (.ex 1)) (σ.set A .dead) (eChgs [c1]):=sees_chgs rfl hA
 have t1:=Sees.cell (j:=4) (off:=0) (n:=2) (cap:= .ex 2) hK rfl s1 (by rw [Heap.get_set,if_neg hAK];exact hK)
 simp only [List.set_cons_succ,List.set_cons_zero] at t1
 obtain ⟨σ1,h1⟩:∃ σ1,σ1=(σ.set A .dead).set K (.cells [.int .i64 w1,.int .i64 b1,.int .i64 g1,.int .i64 r1,eChgs [c1],.nils,.int .i64 w2,.int .i64 b2,.int .i64 g2,.int .i64 r2,.slc (.new B) 0 1 (.ex 1),.nils] none):=⟨_,rfl⟩
 rw [← h1] at t1
 have hK1:σ1.get K=some (.cells [.int .i64 w1,.int .i64 b1,.int .i64 g1,.int .i64 r1,eChgs [c1],.nils,.int .i64 w2,.int .i64 b2,.int .i64 g2,.int .i64 r2,.slc (.new B) 0 1 (.ex 1),.nils] none):=by rw [h1,Heap.get_set,if_pos rfl]
 have t2:=Sees.cell (j:=5) (off:=0) (n:=2) (cap:= .ex 2) hK1 rfl (Sees.nils σ1 1) hK1
 simp only [List.set_cons_succ,List.set_cons_zero] at t2
 obtain ⟨σ2,h2⟩:∃ σ2,σ2=σ1.set K (.cells [.int .i64 w1,.int .i64 b1,.int .i64 g1,.int .i64 r1,eChgs [c1],.fsl 1 [],.int .i64 w2,.int .i64 b2,.int .i64 g2,.int .i64 r2,.slc (.new B) 0 1 (.ex 1),.nils] none):=⟨_,rfl⟩
 rw [← h2] at t2
 have hK2:σ2.get K=some (.cells [.int .i64 w1,.int .i64 b1,.int .i64 g1,.int .i64 r1,eChgs [c1],.fsl 1 [],.int .i64 w2,.int .i64 b2,.int .i64 g2,.int .i64 r2,.slc (.new B) 0 1 (.ex 1),.nils] none):=by rw [h2,Heap.get_set,if_pos rfl]
 have hB2:σ2.get B=some (.cells [.int .i64 c2.frm,.int .i64 c2.to,.str c2.text] none):=by
  rw [h2,Heap.get_set,if_neg (Ne.symm hBK),h1,Heap.get_set,if_neg (Ne.symm hBK),Heap.get_set,if_neg hAB];exact hB
 have s3:Sees σ2 (.slc (.new B) 0 1 (.ex 1)) (σ2.set B .dead) (eChgs [c2]):=sees_chgs rfl hB2
 have t3:=Sees.cell (j:=10) (off:=0) (n:=2) (cap:= .ex 2) hK2 rfl s3 (by rw [Heap.get_set,if_neg hBK];exact hK2)
 simp only [List.set_cons_succ,List.set_cons_zero] at t3
 obtain ⟨σ3,h3⟩:∃ σ3,σ3=(σ2.set B .dead).set K (.cells [.int .i64 w1,.int .i64 b1,.int .i64 g1,.int .i64 r1,eChgs [c1],.fsl 1 [],.int .i64 w2,.int .i64 b2,.int .i64 g2,.int .i64 r2,eChgs [c2],.nils] none):=⟨_,rfl⟩
 rw [← h3] at t3
 have hK3:σ3.get K=some (.cells [.int .i64 w1,.int .i64 b1,.int .i64 g1,.int .i64 r1,eChgs [c1],.fsl 1 [],.int .i64 w2,.int .i64 b2,.int .i64 g2,.int .i64 r2,eChgs [c2],.nils] none):=by rw [h3,Heap.get_set,if_pos rfl]
 have t4:=Sees.cell (j:=11) (off:=0) (n:=2) (cap:= .ex 2) hK3 rfl (Sees.nils σ3 1) hK3
 simp only [List.set_cons_succ,List.set_cons_zero] at t4
 obtain ⟨σ4,h4⟩:∃ σ4,σ4=σ3.set K (.cells [.int .i64 w1,.int .i64 b1,.int .i64 g1,.int .i64 r1,eChgs [c1],.fsl 1 [],.int .i64 w2,.int .i64 b2,.int .i64 g2,.int .i64 r2,eChgs [c2],.fsl 1 []] none):=⟨_,rfl⟩
 rw [← h4] at t4
 have hK4:σ4.get K=some (.cells [.int .i64 w1,.int .i64 b1,.int .i64 g1,.int .i64 r1,eChgs [c1],.fsl 1 [],.int .i64 w2,.int .i64 b2,.int .i64 g2,.int .i64 r2,eChgs [c2],.fsl 1 []] none):=by rw [h4,Heap.get_set,if_pos rfl]
 have t5:Sees σ4 (.slc (.new K) 0 2 (.ex 2)) (σ4.set K .dead) (eSteps [⟨w1,b1,g1,r1,[c1],[]⟩,⟨w2,b2,g2,r2,[c2],[]⟩]):=
  Sees.own (k:=6) hK4 rfl (by intro e he;simp only [List.map_cons,List.map_nil,List.mem_cons,List.not_mem_nil,or_false] at he;rcases he with rfl | rfl <;> rfl) rfl (fun c hc=>by cases hc;exact Nat.le_refl _)
 refine ⟨_,(((t1.trans t2).trans t3).trans t4).trans t5,?_,?_,?_,fun q q1 q2 q3=>?_⟩
 ·rw [Heap.set_W,h4,Heap.set_W,h3,Heap.set_W,Heap.set_W,h2,Heap.set_W,h1,Heap.set_W,Heap.set_W]
 ·rw [Heap.set_F0,h4,Heap.set_F0,h3,Heap.set_F0,Heap.set_F0,h2,Heap.set_F0,h1,Heap.set_F0,Heap.set_F0]
 ·rw [Heap.set_next,h4,Heap.set_next,h3,Heap.set_next,Heap.set_next,h2,Heap.set_next,h1,Heap.set_next,Heap.set_next]
 ·rw [Heap.get_set,if_neg (Ne.symm q3),h4,Heap.get_set,if_neg (Ne.symm q3),h3,Heap.get_set,if_neg (Ne.symm q3),Heap.get_set,if_neg (Ne.symm q2),h2,Heap.get_set,if_neg (Ne.symm q3),h1,Heap.get_set,if_neg (Ne.symm q3),Heap.get_set,if_neg (Ne.symm q1)]
structure Dlt where
 base:Int
 els:List Chg
def eDelta (d:Dlt):AVal:= .agg [.int .i64 d.base,eChgs d.els]
theorem eDelta_pure (d:Dlt):(eDelta d).pure=true:=by simp only [eDelta,AVal.pure,AVal.pures,eChgs_pure];rfl
def isCp (x:Chg):Bool:=x.text==[]
def toR:List Chg→Int
 | x::r=>if isCp x then x.to else toR r
 | []=>0
def copR:List Chg→Bool
 | x::_=>isCp x
 | []=>false
def elemOk (base:Int) (x:Chg) (to:Int) (ahead copied:Bool):Bool:=
 if isCp x then decide (to≤x.frm) && (decide (to<x.frm) || !copied) && decide (x.frm<x.to) && decide (x.to≤base)
 else decide (x.frm=0) && decide (x.to=0) && (!ahead || copied) && decide (x.text.length≤20000) && valid x.text
def WFr (base:Int):List Chg→Prop
 | []=>True
 | x::r=>WFr base r∧elemOk base x (toR r) (!r.isEmpty) (copR r)=true
def keptL (l:List Chg):Int:=(l.map fun x=>x.to - x.frm).sum
def putL (l:List Chg):Nat:=(l.map fun x=>x.text.length).sum
structure DOk (d:Dlt):Prop where
 b0:0≤d.base
 b1:d.base≤20000
 few:d.els.length≤60
 wf:WFr d.base d.els.reverse
 size:keptL d.els+(putL d.els:Nat)≤20000
theorem keptL_app (l m:List Chg):keptL (l ++ m)=keptL l+keptL m:=by simp [keptL]
theorem putL_app (l m:List Chg):putL (l ++ m)=putL l+putL m:=by simp [putL]
theorem keptL_one (x:Chg):keptL [x]=x.to - x.frm:=by simp [keptL]
theorem putL_one (x:Chg):putL [x]=x.text.length:=by simp [putL]
theorem WFr.tail {base:Int}:∀ {l m:List Chg},WFr base (l ++ m)→WFr base m
 | [],m,h=>h
 | x::l,m,h=>WFr.tail (l:=l) h.1
theorem elemOk_facts {base:Int} {x:Chg} {to:Int} {a c:Bool} (h:elemOk base x to a c=true):(x.text=[]∧to≤x.frm∧x.frm<x.to∧x.to≤base)∨(x.text≠[]∧x.frm=0∧x.to=0∧x.text.length≤20000):=by
 unfold elemOk at h
 split at h
 ·rename_i hc
  simp only [Bool.and_eq_true,decide_eq_true_eq] at h
  exact .inl ⟨by simpa [isCp] using hc,h.1.1.1,h.1.2,h.2⟩
 ·rename_i hc
  simp only [Bool.and_eq_true,decide_eq_true_eq] at h
  exact .inr ⟨by simpa [isCp] using hc,h.1.1.1.1,h.1.1.1.2,h.1.2⟩
theorem toR_nonneg {base:Int}:∀ {r:List Chg},WFr base r→0≤toR r
 | [],_=>by simp [toR]
 | x::r,h=>by
  have ih:=toR_nonneg h.1
  unfold toR
  split
  ·rename_i hc
   rcases elemOk_facts h.2 with ⟨_,h1,h2,_⟩ | ⟨h1,_⟩
   ·omega
   ·exact absurd (by simpa [isCp] using hc) h1
  ·exact ih
theorem DOk.at {d:Dlt} (h:DOk d) {i:Nat} (hi:i<d.els.length):elemOk d.base d.els[i] (toR (d.els.take i).reverse) (!(d.els.take i).reverse.isEmpty) (copR (d.els.take i).reverse)=true∧0≤toR (d.els.take i).reverse:=by
 have h1:=h.wf
 have e:d.els.reverse=(d.els.drop (i+1)).reverse ++ (d.els[i]::(d.els.take i).reverse):=by
  conv=>lhs;rw [← List.take_append_drop (i+1) d.els]
  rw [List.reverse_append,List.take_succ_eq_append_getElem hi,List.reverse_append];rfl
 rw [e] at h1
 have h2:=WFr.tail h1
 exact ⟨h2.2,toR_nonneg h2.1⟩
theorem take_snoc {l:List Chg} {i:Nat} (h:i<l.length):(l.take (i+1)).reverse=l[i]::(l.take i).reverse:=by
 rw [List.take_succ_eq_append_getElem h,List.reverse_append];rfl
theorem DOk.prefix {d:Dlt} (h:DOk d):∀ i,i≤d.els.length→0≤keptL (d.els.take i)∧keptL (d.els.take i)+(putL (d.els.take i):Nat)≤20000∧0≤keptL d.els - keptL (d.els.take i):=by
 have hpos:∀ m:List Chg,(∀ x∈m,0≤x.to - x.frm)→0≤keptL m:=by
  intro m
  induction m with
  | nil=>intro _;simp [keptL]
  | cons x m ih=>
   intro hm
   have h1:=hm x (by simp)
   have h2:=ih fun y hy=>hm y (List.mem_cons_of_mem _ hy)
   simp only [keptL,List.map_cons,List.sum_cons] at h2 ⊢;omega
 have hall:∀ x∈d.els,0≤x.to - x.frm:=by
  intro x hx
  obtain ⟨i,hi,rfl⟩:=List.getElem_of_mem hx
  rcases elemOk_facts (h.at hi).1 with ⟨_,_,h2,_⟩ | ⟨_,h1,h2,_⟩ <;> omega
 intro i hi
 have e1:=keptL_app (d.els.take i) (d.els.drop i)
 have e2:=putL_app (d.els.take i) (d.els.drop i)
 rw [List.take_append_drop] at e1 e2
 have p1:=hpos (d.els.take i) fun x hx=>hall x (List.mem_of_mem_take hx)
 have p2:=hpos (d.els.drop i) fun x hx=>hall x (List.mem_of_mem_drop hx)
 have:=h.size
 omega
theorem isCopy_call (σ:Heap) (x:Chg):ACall Tryz.prog n_delta_IsCopy [eChg x] σ (.bool (isCp x)) σ:=by
 refine keep_call rfl (spec_of_awp mixed c_delta_IsCopy (tl rfl) ?_)
 unfold f_delta_IsCopy
 simp +decide only [↓evd,evw,reduceCtorEq,↓reduceIte,eChg,aStr]
 first | exact ⟨rfl,(Keep.refl _ _).new _⟩ | exact (Keep.refl _ _).new _
theorem elem_call (σ:Heap) (base:Int) (x:Chg) (to:Int) (a c:Bool) (hl:x.text.length≤maxRoom) (h:elemOk base x to a c=true):ACall Tryz.prog n_delta_elem [eChg x,.int .i64 base,.int .i64 to,.bool a,.bool c] σ (.bool true) σ:=by
 refine keep_call rfl (spec_of_awp mixed c_delta_elem (tl rfl) ?_)
 unfold f_delta_elem
 have hic:=fun ρ=>isCopy_call ρ x
 have hv:=fun ρ=>valid_call ρ x.text hl
 have hk:Keep [] σ (σ.new (.cells [.int .i64 x.frm,.int .i64 x.to,.str x.text] none)):=(Keep.refl _ _).new _
 have hk2:Keep [] σ (((σ.new (.cells [.int .i64 x.frm,.int .i64 x.to,.str x.text] none)).new (.cells [.int .i64 0,.int .i64 0,.str []] none)).set (σ.next+1) (.cells [.int .i64 0,.int .i64 0,.str x.text] none)):=((hk.new _).set (.inr (by omega)) _)
 have ne1:(σ.next+1=σ.next)=False:=eq_false (by omega)
 simp only [eChg] at hic
 unfold elemOk at h
 cases hc:isCp x
 ·rw [hc] at h
  rw [hc] at hic
  simp only [Bool.false_eq_true,if_false,Bool.and_eq_true,decide_eq_true_eq] at h
  obtain ⟨⟨⟨⟨h1,h2⟩,h3⟩,h4⟩,h5⟩:=h
  rw [h5] at hv
  rw [h1,h2] at hk2
  have h4':(x.text.length:Int)≤20000:=by omega
  have b0:((0:Int)==0)=true:=rfl
  simp +decide only [↓evd,evw,reduceCtorEq,↓reduceIte,eChg]
  refine MSpec.of (hic _) ?_
  simp +decide only [↓evd,evw,reduceCtorEq,↓reduceIte,h1,h2,ne1]
  cases a <;> cases c <;> simp only [Bool.not_false,Bool.not_true,Bool.or_true,Bool.or_false,Bool.false_eq_true] at h3
  all_goals
   simp +decide only [↓evd,evw,reduceCtorEq,↓reduceIte,ne1,h4']
   refine MSpec.of (hv _) ?_
   simp +decide only [↓evd,evw,reduceCtorEq,↓reduceIte]
   first | exact hk2 | exact ⟨rfl,hk2⟩
 ·rw [hc] at h
  rw [hc] at hic
  simp only [if_true,Bool.and_eq_true,decide_eq_true_eq] at h
  obtain ⟨⟨⟨h1,h2⟩,h3⟩,h4⟩:=h
  simp +decide only [↓evd,evw,reduceCtorEq,↓reduceIte,eChg]
  refine MSpec.of (hic _) ?_
  by_cases hlt:to<x.frm
  ·simp +decide only [↓evd,evw,reduceCtorEq,↓reduceIte,h1,h3,h4,hlt]
   first | exact hk | exact ⟨rfl,hk⟩
  ·have hcf:c=false:=by simpa [hlt] using h2
   subst hcf
   simp +decide only [↓evd,evw,reduceCtorEq,↓reduceIte,h1,h3,h4,hlt]
   first | exact hk | exact ⟨rfl,hk⟩
def szI (l:List Chg):Int:=keptL l+(putL l:Nat)
theorem szI_take {l:List Chg} {i:Nat} (h:i<l.length):szI (l.take (i+1))=szI (l.take i)+((l[i].to - l[i].frm)+(l[i].text.length:Nat)):=by
 simp only [szI,List.take_succ_eq_append_getElem h,keptL_app,putL_app,keptL_one,putL_one];omega
theorem DOk.nums {d:Dlt} (h:DOk d) {i:Nat} (hi:i<d.els.length):0≤d.els[i].to - d.els[i].frm∧0≤d.els[i].frm∧d.els[i].to≤20000∧d.els[i].text.length≤20000:=by
 obtain ⟨h1,h2⟩:=h.at hi
 have hb:=h.b1
 have hb0:=h.b0
 rcases elemOk_facts h1 with ⟨e,_,_,_⟩ | ⟨_,_,_,_⟩
 ·rw [e];simp only [List.length_nil];omega
 ·omega
set_option maxHeartbeats 4000000 in
theorem isD_call (σ:Heap) (d:Dlt) (h:DOk d):ACall Tryz.prog n_delta_Is [eDelta d] σ (.bool true) σ:=by
 refine keep_call rfl (spec_of_awp mixed c_delta_Is (tl rfl) ?_)
 unfold f_delta_Is
 have hb0:=h.b0
 have hb1:=h.b1
 have hfew:=h.few
 have n0:¬d.base<0:=by omega
 have n1:¬(20000:Int)<d.base:=by omega
 have n2:¬(60:Int)<(d.els.length:Int):=by omega
 obtain ⟨σ1,hσ1⟩:∃ σ1,σ1=σ.new (.cells [.int .i64 d.base,.fsl 3 (d.els.map eChg)] none):=⟨_,rfl⟩
 have hk1:Keep [] σ σ1:=by rw [hσ1];exact (Keep.refl _ _).new _
 have hg1:σ1.get σ.next=some (.cells [.int .i64 d.base,.fsl 3 (d.els.map eChg)] none):=by rw [hσ1,Heap.get_new,if_pos rfl]
 have hn1:σ.next<σ1.next:=by rw [hσ1];simp
 simp +decide only [↓evd,evw,evz,reduceCtorEq,↓reduceIte,eDelta,eChgs,n0,n1,n2]
 rw [← hσ1]
 generalize σ.next=K at hg1 hn1 ⊢
 refine awp_loop (fun m fr τ=>∃ (i:Nat),m+i=d.els.length∧fr.get 1= .ptr (.new K) 0∧fr.get 3= .int .i64 (szI (d.els.take i))∧fr.get 4= .int .i64 (toR (d.els.take i).reverse)∧fr.get 23= .fsl 3 (d.els.map eChg)∧fr.get 24= .int .i64 (d.els.length:Nat)∧fr.get 25= .int .i64 (i:Nat)∧Keep [] σ1 τ) ?_ (m:=d.els.length) ?_
 ·rintro m fr τ ⟨i,hi,e1,e3,e4,e23,e24,e25,hK⟩
  by_cases hlt:i<d.els.length
  ·have hlt':(i:Int)<(d.els.length:Int):=by omega
   have hw:=wrap_succ (i:=i) (by omega)
   have hg:=map_get eChg d.els i hlt
   have hg2:τ.get K=some (.cells [.int .i64 d.base,.fsl 3 (d.els.map eChg)] none):=by rw [hK.get hn1];exact hg1
   have hat:=h.at hlt
   have hnum:=h.nums hlt
   have hsz:=szI_take hlt
   have hts:=take_snoc hlt
   have hp:=(h.prefix (i+1) (by omega)).2.1
   have hp1:=(h.prefix i (by omega)).1
   have hp0:0≤szI (d.els.take i):=by simp only [szI];omega
   have hsz2:szI (d.els.take (i+1))≤20000:=hp
   have hprev:∀ hi0:0<i,(d.els.take i).reverse=d.els[i - 1]::(d.els.take (i - 1)).reverse:=fun hi0=>by
    have:=take_snoc (l:=d.els) (i:=i - 1) (by omega)
    rwa [show i - 1+1=i by omega] at this
   have hgp:∀ hi0:0<i,(d.els.map eChg)[i - 1]? =some (eChg (d.els[i - 1]'(by omega))):=fun hi0=>map_get eChg d.els (i - 1) (by omega)
   generalize d.els[i]=x at hg hat hnum hsz hts
   have hkn:Keep [] τ ((τ.new (.cells [.int .i64 0,.int .i64 0,.str []] none)).set τ.next (.cells [.int .i64 x.frm,.int .i64 x.to,.str x.text] none)):=(Keep.refl _ _).junk _ _
   have hK':=hK.junk (.cells [.int .i64 0,.int .i64 0,.str []] none) (.cells [.int .i64 x.frm,.int .i64 x.to,.str x.text] none)
   have hneK:(τ.next=K)=False:=eq_false (by have:=hK.2.2.1;omega)
   have hto:toR (d.els.take (i+1)).reverse=if isCp x then x.to else toR (d.els.take i).reverse:=by rw [hts];rfl
   have w1:IntKind.i64.wrap (x.to - x.frm)=x.to - x.frm:=wrap_id (by omega) (by omega)
   have w2:IntKind.i64.wrap ((x.to - x.frm)+(x.text.length:Int))=(x.to - x.frm)+(x.text.length:Int):=wrap_id (by omega) (by omega)
   have w3:IntKind.i64.wrap (szI (d.els.take i)+((x.to - x.frm)+(x.text.length:Int)))=szI (d.els.take (i+1)):=by rw [wrap_id (by omega) (by omega),hsz]
   have n3:¬(20000:Int)<szI (d.els.take (i+1)):=by omega
   have hic:=fun ρ=>isCopy_call ρ x
   have hel:=fun ρ=>elem_call ρ d.base x (toR (d.els.take i).reverse) (!(d.els.take i).reverse.isEmpty) (copR (d.els.take i).reverse) (by unfold maxRoom;omega) hat.1
   simp only [eChg] at hic hel
   have main:∀ fr2:Mini.Frame,True:=fun _=>trivial
   rcases Nat.eq_zero_or_pos i with h0 | h0
   case' inl=>
    have hgt:¬(0:Int)<(i:Int):=by omega
    have hnon:(!(d.els.take i).reverse.isEmpty)=false:=by rw [h0];rfl
    have hcop:copR (d.els.take i).reverse=false:=by rw [h0];rfl
    rw [hnon,hcop] at hel
    simp +decide only [↓evd,evw,reduceCtorEq,↓reduceIte,e1,e4,e23,e24,e25,hlt',hg,eChg,hg2,hneK,hgt]
    refine MSpec.of (hel _) ?_
   case' inr=>
    have hgt:(0:Int)<(i:Int):=by omega
    have wp:IntKind.i64.wrap ((i:Int) - 1)=((i - 1:Nat):Int):=by rw [wrap_id (by omega) (by omega)];omega
    have hgp':=hgp h0
    have hpr:=hprev h0
    have hnon:(!(d.els.take i).reverse.isEmpty)=true:=by rw [hpr];rfl
    have hcop:copR (d.els.take i).reverse=isCp (d.els[i - 1]'(by omega)):=by rw [hpr];rfl
    rw [hnon,hcop] at hel
    generalize (d.els[i - 1]'(by omega))=y at hgp' hel
    have hiy:=fun ρ=>isCopy_call ρ y
    simp only [eChg] at hiy hgp'
    simp +decide only [↓evd,evw,reduceCtorEq,↓reduceIte,e1,e23,e24,e25,hlt',hg,eChg,hg2,hneK,hgt,wp,hgp']
    refine MSpec.of (hiy _) ?_
    simp +decide only [↓evd,evw,reduceCtorEq,↓reduceIte,e1,e4,hg2,hneK,hgt]
    refine MSpec.of (hel _) ?_
   all_goals
    simp +decide only [↓evd,evw,reduceCtorEq,↓reduceIte]
    refine MSpec.of (hic _) ?_
    cases hc:isCp x
    ·rw [hc] at hto
     simp only [Bool.false_eq_true,if_false] at hto
     simp +decide only [↓evd,evw,reduceCtorEq,↓reduceIte,e1,e3,e4,e23,e24,e25,w1,w2,w3,n3,hw]
     exact ⟨m - 1,by omega,_,by omega,rfl,by rw [hto],rfl,hK'⟩
    ·rw [hc] at hto
     simp only [if_true] at hto
     simp +decide only [↓evd,evw,reduceCtorEq,↓reduceIte,e1,e3,e23,e24,e25,w1,w2,w3,n3,hw]
     exact ⟨m - 1,by omega,_,by omega,rfl,by rw [hto],rfl,hK'⟩
  ·have hlt':¬(i:Int)<(d.els.length:Int):=by omega
   simp +decide only [↓evd,evw,reduceCtorEq,↓reduceIte,e24,e25,hlt']
   first | exact hk1.trans hK (fun x hx=>nomatch hx) | exact ⟨rfl,hk1.trans hK (fun x hx=>nomatch hx)⟩
 ·refine ⟨0,by omega,?_⟩
  simp +decide only [evw,↓reduceIte]
  first | exact ⟨rfl,rfl,Keep.refl _ _⟩ | exact Keep.refl _ _
theorem kept_take {l:List Chg} {i:Nat} (h:i<l.length):keptL (l.take (i+1))=keptL (l.take i)+(l[i].to - l[i].frm):=by
 simp only [List.take_succ_eq_append_getElem h,keptL_app,keptL_one]
theorem put_take {l:List Chg} {i:Nat} (h:i<l.length):putL (l.take (i+1))=putL (l.take i)+l[i].text.length:=by
 simp only [List.take_succ_eq_append_getElem h,putL_app,putL_one]
theorem DOk.kept0 {d:Dlt} (h:DOk d):0≤keptL d.els∧keptL d.els+(putL d.els:Nat)≤20000:=by
 have:=h.prefix d.els.length (Nat.le_refl _)
 rw [List.take_length] at this
 exact ⟨this.1,this.2.1⟩
theorem sums_call (σ:Heap) (d:Dlt) (h:DOk d):ACall Tryz.prog n_delta_sums [eDelta d] σ (.tup [.int .i64 (keptL d.els),.int .i64 (putL d.els:Nat)]) σ:=by
 refine keep_call rfl (spec_of_awp mixed c_delta_sums (tl rfl) ?_)
 unfold f_delta_sums
 have hfew:=h.few
 have his:=fun ρ=>isD_call ρ d h
 obtain ⟨σ1,hσ1⟩:∃ σ1,σ1=σ.new (.cells [.int .i64 d.base,.fsl 3 (d.els.map eChg)] none):=⟨_,rfl⟩
 have hk1:Keep [] σ σ1:=by rw [hσ1];exact (Keep.refl _ _).new _
 simp only [eDelta,eChgs] at his
 simp +decide only [↓evd,evw,reduceCtorEq,↓reduceIte,eDelta,eChgs]
 rw [← hσ1]
 refine MSpec.of (his _) ?_
 have hg1:σ1.get σ.next=some (.cells [.int .i64 d.base,.fsl 3 (d.els.map eChg)] none):=by rw [hσ1,Heap.get_new,if_pos rfl]
 simp +decide only [↓evd,evw,evz,reduceCtorEq,↓reduceIte,hg1]
 refine awp_loop (fun m fr τ=>∃ (i:Nat),m+i=d.els.length∧fr.get 4= .int .i64 (keptL (d.els.take i))∧fr.get 5= .int .i64 (putL (d.els.take i):Nat)∧fr.get 12= .fsl 3 (d.els.map eChg)∧fr.get 13= .int .i64 (d.els.length:Nat)∧fr.get 14= .int .i64 (i:Nat)∧Keep [] σ1 τ) ?_ (m:=d.els.length) ?_
 ·rintro m fr τ ⟨i,hi,e4,e5,e12,e13,e14,hK⟩
  by_cases hlt:i<d.els.length
  ·have hlt':(i:Int)<(d.els.length:Int):=by omega
   have hw:=wrap_succ (i:=i) (by omega)
   have hg:=map_get eChg d.els i hlt
   have hnum:=h.nums hlt
   have hkt:=kept_take hlt
   have hpt:=put_take hlt
   have hp0:=h.prefix i (by omega)
   have hp1:=h.prefix (i+1) (by omega)
   generalize d.els[i]=x at hg hnum hkt hpt
   have w1:IntKind.i64.wrap (x.to - x.frm)=x.to - x.frm:=wrap_id (by omega) (by omega)
   have w2:IntKind.i64.wrap (keptL (d.els.take i)+(x.to - x.frm))=keptL (d.els.take (i+1)):=by rw [wrap_id (by omega) (by omega),hkt]
   have w3:IntKind.i64.wrap (((putL (d.els.take i):Nat):Int)+(x.text.length:Int))=((putL (d.els.take (i+1)):Nat):Int):=by rw [wrap_id (by omega) (by omega),hpt];omega
   have hK':=hK.junk (.cells [.int .i64 0,.int .i64 0,.str []] none) (.cells [.int .i64 x.frm,.int .i64 x.to,.str x.text] none)
   simp +decide only [↓evd,evw,reduceCtorEq,↓reduceIte,e4,e5,e12,e13,e14,hlt',hg,eChg,w1,w2,w3,hw]
   exact ⟨m - 1,by omega,i+1,by omega,rfl,rfl,rfl,hK'⟩
  ·have hlt':¬(i:Int)<(d.els.length:Int):=by omega
   have hti:d.els.take i=d.els:=List.take_of_length_le (by omega)
   rw [hti] at e4 e5
   simp +decide only [↓evd,evw,reduceCtorEq,↓reduceIte,e4,e5,e13,e14,hlt']
   first | exact hk1.trans hK (fun x hx=>nomatch hx) | exact ⟨rfl,hk1.trans hK (fun x hx=>nomatch hx)⟩
 ·refine ⟨0,by omega,?_⟩
  simp +decide only [evw,↓reduceIte]
  first | exact ⟨rfl,rfl,Keep.refl _ _⟩ | exact Keep.refl _ _
theorem dsize_call (σ:Heap) (d:Dlt) (h:DOk d):ACall Tryz.prog n_delta_Size [eDelta d] σ (.int .i64 (keptL d.els+(putL d.els:Nat))) σ:=by
 refine keep_call rfl (spec_of_awp mixed c_delta_Size (tl rfl) ?_)
 unfold f_delta_Size
 have hsu:=fun ρ=>sums_call ρ d h
 have hz:=h.kept0
 have hw:IntKind.i64.wrap (keptL d.els+((putL d.els:Nat):Int))=keptL d.els+((putL d.els:Nat):Int):=wrap_id (by omega) (by omega)
 simp only [eDelta,eChgs] at hsu
 simp +decide only [↓evd,evw,reduceCtorEq,↓reduceIte,eDelta,eChgs]
 refine MSpec.of (hsu _) ?_
 simp +decide only [↓evd,evw,reduceCtorEq,↓reduceIte,hw]
 exact (Keep.refl _ _).new _
theorem slc_from {K N n:Nat} (h:n≤N):aSlc 1 (.slc (.new K) 0 N (.ex N)) (some (.int .i64 (n:Nat))) none none=some (.slc (.new K) (if N=n then 0 else n) (N - n) (.ex (N - n))):=by
 have b3:aBound none N N=some N:=rfl
 have b2:aBound (some (.int .i64 (n:Nat))) 0 N=some n:=by simp only [aBound];rw [if_pos (by simp;omega)];rfl
 simp only [aSlc,b3,b2,Option.isSome_none,Bool.false_and,Bool.false_eq_true,if_false,Nat.zero_add,Nat.mul_one]
def applyE (s:List UInt8) (x:Chg):List UInt8:=(s.take x.to.toNat).drop x.frm.toNat ++ x.text
def applyL (s:List UInt8) (l:List Chg):List UInt8:=(l.map (applyE s)).flatten
theorem apply_take {s:List UInt8} {l:List Chg} {i:Nat} (h:i<l.length):applyL s (l.take (i+1))=applyL s (l.take i) ++ applyE s l[i]:=by
 simp only [applyL]
 rw [List.take_succ_eq_append_getElem h,List.map_append,List.flatten_append]
 simp
theorem applyE_len {s:List UInt8} {x:Chg} (h0:0≤x.frm) (h1:x.frm≤x.to) (h2:x.to≤s.length):((applyE s x).length:Int)=(x.to - x.frm)+(x.text.length:Nat):=by
 simp only [applyE,List.length_append,List.length_drop,List.length_take];omega
theorem byteCells_app2 (s t:List UInt8):byteCells (s ++ t)=byteCells s ++ byteCells t:=by simp [byteCells]
theorem byteCells_len2 (s:List UInt8):(byteCells s).length=s.length:=by simp [byteCells]
theorem byteCells_cells (s:List UInt8):(byteCells s).all AVal.isCell=true:=by
 rw [List.all_eq_true];intro z hz;rw [byteCells,List.mem_map] at hz;obtain ⟨_,_,rfl⟩:=hz;rfl
theorem copy_str {σ:Heap} {K n N:Nat} {F t:List UInt8} {r:List AVal} {cap:Cap} (hK:σ.get K=some (.cells (byteCells F ++ r) none)) (hF:F.length=n) (hr:r.length=N - n) (ht:t.length≤N - n) {off:Nat} (ho:off=n∨N - n=0):
  ∃ σ',aCopy 1 (.slc (.new K) off (N - n) cap) (.str t) σ=some (.int .i64 (t.length:Nat),σ')∧σ'.get K=some (.cells (byteCells (F ++ t) ++ r.drop t.length) none)∧σ'.W=σ.W∧σ'.F0=σ.F0∧σ'.next=σ.next∧∀ q,q≠K→σ'.get q=σ.get q:=by
 have hm:min t.length (N - n)=t.length:=by omega
 simp only [aCopy,aSLen,aLenOf,hm,srcCells]
 by_cases h0:t.length=0
 ·have:t=[]:=List.eq_nil_of_length_eq_zero h0
  subst this
  refine ⟨σ,?_,by simpa using hK,rfl,rfl,rfl,fun _ _=>rfl⟩
  simp
 ·have hoe:off=n:=ho.resolve_right (by omega)
  rw [hoe]
  refine ⟨σ.set K (.cells (byteCells (F ++ t) ++ r.drop t.length) none),?_,by rw [Heap.get_set,if_pos rfl],rfl,rfl,rfl,fun q hq=>by rw [Heap.get_set,if_neg (Ne.symm hq)]⟩
  have hall:=byteCells_cells t
  have hsz:n+t.length≤(byteCells F ++ r).length:=by rw [List.length_append,byteCells_len2];omega
  have hov:over (byteCells F ++ r) n (byteCells t)=byteCells (F ++ t) ++ r.drop t.length:=by
   have h1:(byteCells F).length=n:=by rw [byteCells_len2];exact hF
   have e1:(byteCells F ++ r).take n=byteCells F:=by rw [List.take_append_of_le_length (by omega),List.take_of_length_le (by omega)]
   have e2:(byteCells F ++ r).drop (n+t.length)=r.drop t.length:=by
    rw [List.drop_append,List.drop_eq_nil_of_le (by omega),List.nil_append,h1,Nat.add_sub_cancel_left]
   simp only [over,byteCells_len2,e1,e2,byteCells_app2]
  have hst:storeAt σ K n (byteCells t)=some (σ.set K (.cells (byteCells (F ++ t) ++ r.drop t.length) none)):=by
   simp only [storeAt,hK]
   rw [if_pos (by simp only [byteCells_cells,Bool.and_true,decide_eq_true_eq,byteCells_len2];exact hsz),hov]
  simp only [Nat.le_refl,decide_true,Bool.and_true,if_true,List.take_length,if_neg h0,hst,Option.map_some]
theorem applyL_len {s:List UInt8} {d:Dlt} (h:DOk d) (hs:(s.length:Int)=d.base):∀ i,i≤d.els.length→((applyL s (d.els.take i)).length:Int)=keptL (d.els.take i)+(putL (d.els.take i):Nat):=by
 intro i
 induction i with
 | zero=>intro _;simp [applyL,keptL,putL]
 | succ i ih=>
  intro hi
  have h1:=ih (by omega)
  have h2:=h.nums (i:=i) (by omega)
  have h3:=h.at (i:=i) (by omega)
  rw [apply_take (by omega),kept_take (by omega),put_take (by omega),List.length_append]
  have hle:d.els[i].to≤(s.length:Int):=by
   rw [hs]
   have hb:=h.b0
   rcases elemOk_facts h3.1 with ⟨_,_,_,q⟩ | ⟨_,_,q,_⟩ <;> omega
  have:=applyE_len (s:=s) (x:=d.els[i]) (by omega) (by omega) hle
  omega
theorem slcS_of {s:List UInt8} {a b:Int} (h0:0≤a) (h1:a≤b) (h2:b≤s.length):aSlcS (.str s) (some (.int .i64 a)) (some (.int .i64 b))=some (.str ((s.take b.toNat).drop a.toNat)):=by
 have b1:aBound (some (.int .i64 b)) s.length s.length=some b.toNat:=by simp only [aBound];rw [if_pos (by simp;omega)]
 have b2:aBound (some (.int .i64 a)) 0 b.toNat=some a.toNat:=by simp only [aBound];rw [if_pos (by simp;omega)]
 simp only [aSlcS,b1,b2]
set_option maxHeartbeats 4000000 in
theorem apply_call (σ:Heap) (d:Dlt) (s:List UInt8) (h:DOk d) (hs:(s.length:Int)=d.base):ACall Tryz.prog n_delta_Apply [eDelta d,.str s] σ (.tup [.str (applyL s d.els),.int .i64 0]) σ:=by
 refine keep_call rfl (spec_of_awp mixed c_delta_Apply (tl rfl) ?_)
 unfold f_delta_Apply
 have hfew:=h.few
 have his:=fun ρ=>isD_call ρ d h
 have hsz:=fun ρ=>dsize_call ρ d h
 have hz:=h.kept0
 obtain ⟨N,hN⟩:∃ N:Nat,keptL d.els+((putL d.els:Nat):Int)=(N:Int):=⟨(keptL d.els+((putL d.els:Nat):Int)).toNat,by omega⟩
 rw [hN] at hsz
 have hNb:N≤20000:=by omega
 obtain ⟨σ1,hσ1⟩:∃ σ1,σ1=σ.new (.cells [.int .i64 d.base,.fsl 3 (d.els.map eChg)] none):=⟨_,rfl⟩
 have hk1:Keep [] σ σ1:=by rw [hσ1];exact (Keep.refl _ _).new _
 have hg1:σ1.get σ.next=some (.cells [.int .i64 d.base,.fsl 3 (d.els.map eChg)] none):=by rw [hσ1,Heap.get_new,if_pos rfl]
 have hn1:σ.next<σ1.next:=by rw [hσ1];simp
 have hbn:((s.length:Int) != d.base)=false:=by simp [hs]
 have z0:(0:Int)≤(N:Int):=by omega
 have z1:N≤maxRoom:=by unfold maxRoom;omega
 have z2:(N:Int)≤2 ^ 62:=by omega
 simp only [eDelta,eChgs] at his hsz
 simp +decide only [↓evd,evw,reduceCtorEq,↓reduceIte,eDelta,eChgs]
 rw [← hσ1]
 refine MSpec.of (his _) ?_
 simp +decide only [↓evd,evw,reduceCtorEq,↓reduceIte,hg1,hbn]
 refine MSpec.of (hsz _) ?_
 generalize σ.next=K at hg1 hn1 ⊢
 have hneq:(σ1.next=K)=False:=eq_false (by omega)
 simp +decide only [↓evd,evw,reduceCtorEq,↓reduceIte,z0,z1,z2]
 simp +decide only [↓evd,evw,evz,reduceCtorEq,↓reduceIte,hneq,hg1]
 have hz0:((List.replicate N [AVal.int IntKind.u8 0]).flatten).length=N:=by simp
 obtain ⟨zs,hzs⟩:∃ zs,zs=(List.replicate N [AVal.int IntKind.u8 0]).flatten:=⟨_,rfl⟩
 rw [← hzs] at hz0
 rw [← hzs]
 obtain ⟨σ2,hσ2⟩:∃ σ2,σ2=σ1.new (.cells zs none):=⟨_,rfl⟩
 have hk2:Keep [] σ σ2:=by rw [hσ2];exact hk1.new _
 have hg2:σ2.get σ1.next=some (.cells zs none):=by rw [hσ2,Heap.get_new,if_pos rfl]
 have hn2:σ1.next<σ2.next:=by rw [hσ2];simp
 have hlow:σ.next≤σ1.next:=hk1.2.2.1
 rw [← hσ2]
 generalize σ1.next=O at hg2 hn2 hlow ⊢
 clear hσ2 hσ1 hg1 hn1 hneq hzs
 refine awp_loop (fun m fr τ=>∃ (i:Nat) (r:List AVal),m+i=d.els.length∧fr.get 1= .str s∧fr.get 6= .slc (.new O) 0 N (.ex N)∧fr.get 7= .int .i64 ((applyL s (d.els.take i)).length:Nat)∧fr.get 24= .fsl 3 (d.els.map eChg)∧fr.get 25= .int .i64 (d.els.length:Nat)∧fr.get 26= .int .i64 (i:Nat)∧
  τ.get O=some (.cells (byteCells (applyL s (d.els.take i)) ++ r) none)∧r.length=N - (applyL s (d.els.take i)).length∧O<τ.next∧Keep [] σ τ) ?_ (m:=d.els.length) ?_
 ·rintro m fr τ ⟨i,r,hi,e1,e6,e7,e24,e25,e26,hO,hr,hOn,hK⟩
  by_cases hlt:i<d.els.length
  ·have hlt':(i:Int)<(d.els.length:Int):=by omega
   have hw:=wrap_succ (i:=i) (by omega)
   have hg:=map_get eChg d.els i hlt
   have hnum:=h.nums hlt
   have hat:=(h.at hlt).1
   have hal:=apply_take (s:=s) hlt
   have hl0:=applyL_len h hs i (by omega)
   have hl1:=applyL_len h hs (i+1) (by omega)
   have hp1:=h.prefix (i+1) (by omega)
   have hpn:keptL (d.els.take (i+1))+((putL (d.els.take (i+1)):Nat):Int)≤(N:Int):=by
    have e2:=putL_app (d.els.take (i+1)) (d.els.drop (i+1))
    rw [List.take_append_drop] at e2
    omega
   have hle:d.els[i].to≤(s.length:Int):=by
    rw [hs]
    have hb:=h.b0
    rcases elemOk_facts hat with ⟨_,_,_,q⟩ | ⟨_,_,q,_⟩ <;> omega
   generalize d.els[i]=x at hg hnum hat hal hle
   have hsl:=slcS_of (s:=s) (a:=x.frm) (b:=x.to) (by omega) (by omega) hle
   generalize applyL s (d.els.take i)=F at e7 hO hr hl0 hal
   rw [hal,applyE,← List.append_assoc] at hl1
   have hae:applyL s (d.els.take (i+1))=(F ++ (s.take x.to.toNat).drop x.frm.toNat) ++ x.text:=by rw [hal,applyE,List.append_assoc]
   generalize (s.take x.to.toNat).drop x.frm.toNat=t1 at hsl hl1 hae
   rw [List.length_append,List.length_append] at hl1
   obtain ⟨A,hA⟩:∃ A,τ.next=A:=⟨_,rfl⟩
   obtain ⟨τ1,hτ1⟩:∃ τ1,τ1=(τ.new (.cells [.int .i64 0,.int .i64 0,.str []] none)).set τ.next (.cells [.int .i64 x.frm,.int .i64 x.to,.str x.text] none):=⟨_,rfl⟩
   have hK1:Keep [] σ τ1:=by rw [hτ1];exact hK.junk _ _
   have hA1:τ1.get A=some (.cells [.int .i64 x.frm,.int .i64 x.to,.str x.text] none):=by rw [hτ1,Heap.get_set,if_pos hA]
   have hO1:τ1.get O=some (.cells (byteCells F ++ r) none):=by rw [hτ1,Heap.get_set,if_neg (by omega),Heap.get_new,if_neg (by omega)];exact hO
   have hnx:τ1.next=τ.next+1:=by rw [hτ1];simp
   have hsf:=slc_from (K:=O) (n:=F.length) (N:=N) (by omega)
   obtain ⟨τ2,c1,c2,c3,c4,c5,c6⟩:=copy_str (N:=N) (n:=F.length) (cap:= .ex (N - F.length)) (off:=if N=F.length then 0 else F.length) hO1 rfl hr (t:=t1) (by omega) (by by_cases hq:N=F.length <;> simp [hq])
   have hA2:τ2.get A=some (.cells [.int .i64 x.frm,.int .i64 x.to,.str x.text] none):=by rw [c6 A (by omega)];exact hA1
   have w1:IntKind.i64.wrap ((F.length:Int)+(t1.length:Int))=((F.length+t1.length:Nat):Int):=by rw [wrap_id (by omega) (by omega)];omega
   have hsf2:=slc_from (K:=O) (n:=F.length+t1.length) (N:=N) (by omega)
   obtain ⟨τ3,d1,d2,d3,d4,d5,d6⟩:=copy_str (N:=N) (n:=F.length+t1.length) (cap:= .ex (N - (F.length+t1.length))) (off:=if N=F.length+t1.length then 0 else F.length+t1.length) c2 (by rw [List.length_append]) (by rw [List.length_drop,hr];omega) (t:=x.text) (by omega) (by by_cases hq:N=F.length+t1.length <;> simp [hq])
   have w2:IntKind.i64.wrap (((F.length+t1.length:Nat):Int)+(x.text.length:Int))=(((F ++ t1) ++ x.text).length:Nat):=by rw [wrap_id (by omega) (by omega),List.length_append,List.length_append];omega
   have hK3:Keep [] σ τ3:=⟨d3.trans (c3.trans hK1.1),d4.trans (c4.trans hK1.2.1),by rw [d5,c5];exact hK1.2.2.1,fun q hq _=>by rw [d6 q (by omega),c6 q (by omega)];exact hK1.get hq⟩
   simp +decide only [↓evd,evw,reduceCtorEq,↓reduceIte,e24,e25,e26,hlt',hg,eChg]
   rw [← hτ1]
   simp only [hA]
   with_reducible refine draw_of_grow (fun q=>q=A) (ms:=[false,false,false,false,false,false,false,false,false,false,false,false,false]) (by kernel_rfl) ?_
   simp +decide only [↓evd,evw,reduceCtorEq,↓reduceIte,e1,e6,e7,hsf,hA1,hsl,c1]
   refine ⟨.inr ⟨c3,fun q hq=>by subst hq;rw [c6 _ (by omega)]⟩,?_⟩
   simp +decide only [↓evd,evw,↓reduceIte,w1]
   with_reducible refine draw_of_grow (fun q=>q=A) (ms:=[false,false,false,false,false,false,false,false,false]) (by kernel_rfl) ?_
   simp +decide only [↓evd,evw,reduceCtorEq,↓reduceIte,e6,hsf2,hA2,d1]
   refine ⟨.inr ⟨d3,fun q hq=>by subst hq;rw [d6 _ (by omega)]⟩,?_⟩
   simp +decide only [↓evd,evw,reduceCtorEq,↓reduceIte,e1,e6,e24,e25,e26,w2,hw]
   refine ⟨m - 1,by omega,i+1,(r.drop t1.length).drop x.text.length,by omega,by rw [hae],rfl,by rw [hae];exact d2,?_,?_,hK3⟩
   ·rw [hae,List.length_drop,List.length_drop,hr,List.length_append,List.length_append];omega
   ·rw [d5,c5,hnx];omega
  ·have hlt':¬(i:Int)<(d.els.length:Int):=by omega
   have hti:d.els.take i=d.els:=List.take_of_length_le (by omega)
   have hl0:=applyL_len h hs d.els.length (Nat.le_refl _)
   rw [List.take_length] at hl0
   rw [hti] at hO hr
   have hrn:r=[]:=List.eq_nil_of_length_eq_zero (by omega)
   subst hrn
   rw [List.append_nil] at hO
   have hlen:N=(applyL s d.els).length:=by omega
   have hbs:aBstr (.slc (.new O) 0 N (.ex N)) τ=some (.str (applyL s d.els)):=by
    have hc:=cellsFrom_whole hO
    rw [byteCells_len2] at hc
    simp only [aBstr,slcCells,Nat.le_refl,if_true,Nat.mul_one,hlen,hc,asBytes_app,Option.map_some]
   simp +decide only [↓evd,evw,reduceCtorEq,↓reduceIte,e6,e25,e26,hlt',hbs]
   first | exact hK | exact ⟨rfl,hK⟩
 ·refine ⟨0,zs,by omega,?_⟩
  simp +decide only [evw,↓reduceIte]
  have e0:applyL s (List.take 0 d.els)=[]:=rfl
  simp only [byteCells]
  first | exact ⟨rfl,hg2,hz0,hn2,hk2⟩ | exact ⟨hg2,hz0,hn2,hk2⟩
abbrev t_Elem:TypeId:=131
def mkC (r:List Chg) (f t:Int):List Chg:=if f=t then r else
 match r with
 | e::r'=>if isCp e=true∧e.to=f then ⟨e.frm,t,e.text⟩::r' else ⟨f,t,[]⟩::e::r'
 | []=>[⟨f,t,[]⟩]
def mkP (r:List Chg) (s:List UInt8):List Chg:=if s=[] then r else
 match r with
 | e::r'=>if isCp e=true then ⟨0,0,s⟩::e::r' else ⟨e.frm,e.to,e.text ++ s⟩::r'
 | []=>[⟨0,0,s⟩]
def IsMk (σ:Heap) (k:Nat) (base:Int) (r:List Chg) (fp:List Nat):Prop:=∃ x,σ.get k=some (.cells [.int .i64 base,x] none)∧Own 0 σ t_Elem 3 x (r.reverse.map eChg)∧k∉uid x∧k<σ.next∧fp=k::uid x
theorem IsMk.keep {σ τ:Heap} {k:Nat} {base:Int} {r:List Chg} {fp fp':List Nat} (h:IsMk σ k base r fp) (hk:Keep fp' σ τ) (hd:∀ y∈fp,y∉fp'):IsMk τ k base r fp:=by
 obtain ⟨x,h1,h2,h3,h4,rfl⟩:=h
 refine ⟨x,by rw [hk.2.2.2 k h4 (hd k (by simp))];exact h1,Own.move h2 hk.2.2.1 (fun K o n c e=>?_),h3,Nat.lt_of_lt_of_le h4 hk.2.2.1,rfl⟩
 exact hk.2.2.2 K (h2.low e).2 (hd K (List.mem_cons_of_mem _ (mem_uid.2 ⟨_,_,_,e⟩)))
theorem IsMk.low {σ:Heap} {k:Nat} {base:Int} {r:List Chg} {fp:List Nat} (h:IsMk σ k base r fp):∀ y∈fp,y<σ.next:=by
 obtain ⟨x,h1,h2,h3,h4,rfl⟩:=h
 intro y hy
 rcases List.mem_cons.1 hy with rfl | hy
 ·exact h4
 ·exact (own_low h2 y hy).2
theorem newMaker_at (σ:Heap) (base:Int):MSpec Tryz.prog n_delta_NewMaker [.int .i64 base] σ fun v τ=>v= .ptr (.new σ.next) 0∧IsMk τ σ.next base [] [σ.next]∧Keep [] σ τ:=by
 refine spec_of_awp mixed c_delta_NewMaker (tl rfl) ?_
 unfold f_delta_NewMaker
 simp +decide only [↓evd,evw,reduceCtorEq,↓reduceIte]
 exact ⟨⟨.nils,by rw [Heap.get_new,if_pos rfl],Own.nil _ _ _ _,by simp [uid],by simp,rfl⟩,(Keep.refl _ _).new _⟩
theorem flat3 (l:List Chg) (e:Chg):((l ++ [e]).map eChg).flatMap AVal.cells=(l.map eChg).flatMap AVal.cells ++ [.int .i64 e.frm,.int .i64 e.to,.str e.text]:=by
 rw [List.map_append,List.flatMap_append];rfl
theorem flat3_len (l:List Chg):((l.map eChg).flatMap AVal.cells).length=l.length * 3:=by
 have:=flat_len (chgs_row l)
 rwa [List.length_map] at this
theorem own_elem {B:Nat} {σ:Heap} {x:AVal} {l:List Chg} (h:Own B σ t_Elem 3 x (l.map eChg)) (hB:B≤σ.next) (b:Chg) (hr:l.length≤900000):
  ∃ x' τ,aApp t_Elem 3 32 x (.slc (.new σ.next) 0 1 (.ex 1)) (σ.new (.cells [.int .i64 b.frm,.int .i64 b.to,.str b.text] none))=some (x',τ)∧Own B τ t_Elem 3 x' ((l ++ [b]).map eChg)∧Ext B σ τ∧(∀ q,q<σ.next→q∉uid x→τ.get q=σ.get q)∧(∀ q∈uid x',σ.next≤q∨q∈uid x):=by
 have hsrc:=src_one (σ:=σ.new (.cells [.int .i64 b.frm,.int .i64 b.to,.str b.text] none)) (K:=σ.next) (k:=3) (cs:=[.int .i64 b.frm,.int .i64 b.to,.str b.text]) (opn:=none) (z:=eChg b) (cap:= .ex 1) (by rw [Heap.get_new,if_pos rfl]) rfl rfl
 obtain ⟨x',τ,g1,g2,g3,g4,g5⟩:=own_app2 (bytes:=32) (h.new (.cells [.int .i64 b.frm,.int .i64 b.to,.str b.text] none)) (Nat.le_succ_of_le hB) hsrc.1 hsrc.2 (by intro y hy;simp at hy;subst hy;rfl) rfl (by omega) (by omega) (by unfold maxRoom;simp;omega)
 refine ⟨x',τ,g1,by rw [List.map_append];exact g2,⟨g3.1,g3.2.1,by have:=g3.2.2.1;simp at this;omega,fun q hq=>?_⟩,fun q hq hn=>?_,fun q hq=>?_⟩
 ·rw [g3.2.2.2 q hq,Heap.get_new,if_neg (by omega)]
 ·rw [g4 q (by simp;omega) (fun K o n c e hqK=>hn (mem_uid.2 ⟨o,n,c,by rw [hqK];exact e⟩)),Heap.get_new,if_neg (by omega)]
 ·obtain ⟨o,n,c,e⟩:=mem_uid.1 hq
  rcases g5 q o n c e with h1 | ⟨o',n',c',h1⟩
  ·left;simp at h1;omega
  ·exact .inr (mem_uid.2 ⟨o',n',c',h1⟩)
theorem mcopy_at {σ:Heap} {k:Nat} {base f t:Int} {r:List Chg} {fp:List Nat} (h:IsMk σ k base r fp) (hl:r.length≤900000):MSpec Tryz.prog n_delta_Maker_Copy [.ptr (.new k) 0,.int .i64 f,.int .i64 t] σ fun v τ=>∃ fp',IsMk τ k base (mkC r f t) fp'∧Keep fp σ τ∧Fresh fp σ fp':=by
 obtain ⟨x,hb,hO,hkx,hkn,rfl⟩:=id h
 refine spec_of_awp mixed c_delta_Maker_Copy (tl rfl) ?_
 unfold f_delta_Maker_Copy
 by_cases hft:f=t
 ·have hbt:(f==t)=true:=by simpa using hft
  have e:mkC r f t=r:=by simp [mkC,hft]
  rw [e]
  simp +decide only [↓evd,evw,reduceCtorEq,↓reduceIte,hbt]
  exact ⟨_,h,Keep.refl _ _,fun y hy=>.inl hy⟩
 have hbt:(f==t)=false:=by simpa using hft
 have hxl:=hO.len
 rw [List.length_map,List.length_reverse] at hxl
 have hw:IntKind.i64.wrap ((r.length:Int) - 1)=(r.length:Int) - 1:=wrap_id (by omega) (by omega)
 have hxr:x.isRaw=false:=by rcases hO.2 with ⟨rfl,_⟩ | ⟨K,rfl,_⟩ <;> rfl
 have app:∀ b:Chg,∃ x' τ,aApp t_Elem 3 32 x (.slc (.new σ.next) 0 1 (.ex 1)) (σ.new (.cells [.int .i64 b.frm,.int .i64 b.to,.str b.text] none))=some (x',τ)∧τ.get k=some (.cells [.int .i64 base,x] none)∧x'.isCell=true∧x'.isRaw=false∧x'.cells=[x']∧∃ fp',IsMk (τ.set k (.cells [.int .i64 base,x'] none)) k base (b::r) fp'∧Keep (k::uid x) σ (τ.set k (.cells [.int .i64 base,x'] none))∧Fresh (k::uid x) σ fp':=by
  intro b
  obtain ⟨x',τ,g1,g2,g3,g4,g5⟩:=own_elem hO (Nat.zero_le _) b (by rw [List.length_reverse];omega)
  have hk':k∉uid x':=fun hm=>by
   rcases g5 k hm with h1 | h1
   ·omega
   ·exact hkx h1
  have hkp:Keep (k::uid x) σ τ:=⟨g3.1,g3.2.1,g3.2.2.1,fun q hq hn=>g4 q hq (fun hm=>hn (List.mem_cons_of_mem _ hm))⟩
  refine ⟨x',τ,g1,by rw [g4 k hkn hkx];exact hb,own_kind g2,by rcases g2.2 with ⟨rfl,_⟩ | ⟨K,rfl,_⟩ <;> rfl,by rcases g2.2 with ⟨rfl,_⟩ | ⟨K,rfl,_⟩ <;> rfl,k::uid x',⟨x',by rw [Heap.get_set,if_pos rfl],?_,hk',by rw [Heap.set_next];have:=g3.2.2.1;omega,rfl⟩,hkp.set (.inl (by simp)) _,fun y hy=>?_⟩
  ·rw [List.reverse_cons]
   exact Own.set g2 (fun K o n c e hj=>hk' (mem_uid.2 ⟨o,n,c,by rw [hj];exact e⟩)) _
  ·rcases List.mem_cons.1 hy with rfl | hy
   ·exact .inl (by simp)
   ·rcases g5 y hy with h1 | h1
    ·exact .inr h1
    ·exact .inl (List.mem_cons_of_mem _ h1)
 obtain ⟨x1,τ1,a1,a2,a3,a6,a4,a5⟩:=app ⟨f,t,[]⟩
 cases r with
 | nil=>
  have e:mkC [] f t=[⟨f,t,[]⟩]:=by simp [mkC,hft]
  have hxl0:aLen x=some (.int .i64 0):=hxl
  have hw0:IntKind.i64.wrap (0 - 1)= -1:=by decide
  have hn0:¬(0:Int)≤ -1:=by decide
  simp only at a1
  rw [e]
  simp +decide only [↓evd,evw,reduceCtorEq,↓reduceIte,hbt,hb,hxl0,hw0,a1,a2,a3,a4,a6]
  exact a5
 | cons e r'=>
  rw [List.reverse_cons] at hO
  have hel:(List.map eChg (r'.reverse ++ [e])).length=r'.length+1:=by simp
  obtain ⟨K,rfl,hgK,hKn⟩:∃ K,x= .slc (.new K) 0 (r'.length+1) (.gr 3)∧σ.get K=some (.cells ((r'.reverse.map eChg).flatMap AVal.cells ++ [.int .i64 e.frm,.int .i64 e.to,.str e.text]) (some t_Elem))∧K<σ.next:=by
   rcases hO.2 with ⟨_,h0⟩ | ⟨K,h1,h2,_,h3⟩
   ·simp at h0
   ·rw [hel] at h1;rw [flat3] at h2;exact ⟨K,h1,h2,h3⟩
  have hAl:((r'.reverse.map eChg).flatMap AVal.cells).length=r'.length * 3:=by rw [flat3_len,List.length_reverse]
  generalize hAe:(r'.reverse.map eChg).flatMap AVal.cells=A at hgK hAl
  have hcl:(A ++ [AVal.int .i64 e.frm,.int .i64 e.to,.str e.text]).length=r'.length * 3+3:=by rw [List.length_append,hAl];rfl
  have hld:cellsFrom σ (.new K) (r'.length * 3) 3=some [.int .i64 e.frm,.int .i64 e.to,.str e.text]:=by
   rw [cellsFrom_get hgK _ _ (by omega),← hAl,List.drop_left];rfl
  have hc1:σ.cell (.new K) (r'.length * 3+1)=some (.int .i64 e.to):=by
   simp only [Heap.cell,hgK]
   rw [← hAl,List.getElem?_append_right (by omega),Nat.add_sub_cancel_left];rfl
  have hw1:IntKind.i64.wrap (((r'.length+1:Nat):Int) - 1)=(r'.length:Int):=by rw [wrap_id (by simp at hl;omega) (by simp at hl;omega)];omega
  have hge:(0:Int)≤(r'.length:Int):=by omega
  have hlt:((r'.length:Nat):Int)<((r'.length+1:Nat):Int):=by omega
  have hic:=isCopy_call σ e
  simp only [eChg] at hic
  simp only at a1
  simp +decide only [↓evd,evw,reduceCtorEq,↓reduceIte,hbt,hb,hxl,hw1,hge,hlt,↓hld]
  refine MSpec.of hic ?_
  have hKk:K≠k:=fun e=>hkx (by simp [uid,e])
  have wr:∀ (c:Chg) (cs2:List AVal),cs2=A ++ [.int .i64 c.frm,.int .i64 c.to,.str c.text]→A=(r'.reverse.map eChg).flatMap AVal.cells→∃ fp',IsMk (σ.set K (.cells cs2 (some t_Elem))) k base (c::r') fp'∧Keep (k::uid (.slc (.new K) 0 (r'.length+1) (.gr 3))) σ (σ.set K (.cells cs2 (some t_Elem)))∧Fresh (k::uid (.slc (.new K) 0 (r'.length+1) (.gr 3))) σ fp':=by
   intro c cs2 h1 h2
   refine ⟨k::uid (.slc (.new K) 0 (r'.length+1) (.gr 3)),⟨.slc (.new K) 0 (r'.length+1) (.gr 3),by rw [Heap.get_set,if_neg hKk];exact hb,⟨chgs_row _,.inr ⟨K,by simp,?_,Nat.zero_le _,by simpa using hKn⟩⟩,hkx,by simpa using hkn,rfl⟩,(Keep.refl _ _).set (.inl (by simp [uid])) _,fun y hy=>.inl hy⟩
   rw [Heap.get_set,if_pos rfl,List.reverse_cons,flat3,h1,h2]
  cases hc:isCp e
  ·have em:mkC (e::r') f t=⟨f,t,[]⟩::e::r':=by simp [mkC,hft,hc]
   rw [em]
   simp +decide only [↓evd,evw,reduceCtorEq,↓reduceIte,hb,a1,a2,a3,a4,a6]
   exact a5
  ·by_cases he:e.to=f
   ·have hbe:(e.to==f)=true:=by simpa using he
    have em:mkC (e::r') f t=⟨e.frm,t,e.text⟩::r':=by simp [mkC,hft,hc,he]
    rw [em]
    have hle:decide (r'.length * 3+1+1≤(A ++ [AVal.int .i64 e.frm,.int .i64 e.to,.str e.text]).length)=true:=by rw [hcl];simp
    have hset:(A ++ [AVal.int .i64 e.frm,.int .i64 e.to,.str e.text]).take (r'.length * 3+1) ++ [AVal.int .i64 t] ++ (A ++ [AVal.int .i64 e.frm,.int .i64 e.to,.str e.text]).drop (r'.length * 3+1+1)=A ++ [.int .i64 e.frm,.int .i64 t,.str e.text]:=by
     rw [← hAl,List.take_append,List.take_of_length_le (by omega),Nat.add_sub_cancel_left,Nat.add_assoc,List.drop_append,List.drop_eq_nil_of_le (by omega),Nat.add_sub_cancel_left]
     simp
    generalize A ++ [AVal.int .i64 e.frm,.int .i64 e.to,.str e.text]=cs at hgK hle hset
    simp +decide only [↓evd,evw,reduceCtorEq,↓reduceIte,hb,hge,hlt,hc1,hbe,hgK,hle,hset]
    exact wr ⟨e.frm,t,e.text⟩ _ rfl hAe.symm
   ·have hbe:(e.to==f)=false:=by simpa using he
    have em:mkC (e::r') f t=⟨f,t,[]⟩::e::r':=by simp [mkC,hft,hc,he]
    rw [em]
    simp +decide only [↓evd,evw,reduceCtorEq,↓reduceIte,hb,hge,hlt,hc1,hbe,a1,a2,a3,a4,a6]
    exact a5
set_option maxHeartbeats 1000000 in
theorem mput_at {σ:Heap} {k:Nat} {base:Int} {s:List UInt8} {r:List Chg} {fp:List Nat} (h:IsMk σ k base r fp) (hl:r.length≤900000) (hs:s.length≤1000000) (hrs:∀ e∈r,e.text.length≤1000000):MSpec Tryz.prog n_delta_Maker_Put [.ptr (.new k) 0,.str s] σ fun v τ=>∃ fp',IsMk τ k base (mkP r s) fp'∧Keep fp σ τ∧Fresh fp σ fp':=by
 obtain ⟨x,hb,hO,hkx,hkn,rfl⟩:=id h
 refine spec_of_awp mixed c_delta_Maker_Put (tl rfl) ?_
 unfold f_delta_Maker_Put
 by_cases hft:s=[]
 ·have hbt:(s==[])=true:=by simpa using hft
  have e:mkP r s=r:=by simp [mkP,hft]
  rw [e]
  simp +decide only [↓evd,evw,reduceCtorEq,↓reduceIte,aStr,hbt]
  exact ⟨_,h,Keep.refl _ _,fun y hy=>.inl hy⟩
 have hbt:(s==[])=false:=by simpa using hft
 have hxl:=hO.len
 rw [List.length_map,List.length_reverse] at hxl
 have hw:IntKind.i64.wrap ((r.length:Int) - 1)=(r.length:Int) - 1:=wrap_id (by omega) (by omega)
 have hxr:x.isRaw=false:=by rcases hO.2 with ⟨rfl,_⟩ | ⟨K,rfl,_⟩ <;> rfl
 have app:∀ b:Chg,∃ x' τ,aApp t_Elem 3 32 x (.slc (.new σ.next) 0 1 (.ex 1)) (σ.new (.cells [.int .i64 b.frm,.int .i64 b.to,.str b.text] none))=some (x',τ)∧τ.get k=some (.cells [.int .i64 base,x] none)∧x'.isCell=true∧x'.isRaw=false∧x'.cells=[x']∧∃ fp',IsMk (τ.set k (.cells [.int .i64 base,x'] none)) k base (b::r) fp'∧Keep (k::uid x) σ (τ.set k (.cells [.int .i64 base,x'] none))∧Fresh (k::uid x) σ fp':=by
  intro b
  obtain ⟨x',τ,g1,g2,g3,g4,g5⟩:=own_elem hO (Nat.zero_le _) b (by rw [List.length_reverse];omega)
  have hk':k∉uid x':=fun hm=>by
   rcases g5 k hm with h1 | h1
   ·omega
   ·exact hkx h1
  have hkp:Keep (k::uid x) σ τ:=⟨g3.1,g3.2.1,g3.2.2.1,fun q hq hn=>g4 q hq (fun hm=>hn (List.mem_cons_of_mem _ hm))⟩
  refine ⟨x',τ,g1,by rw [g4 k hkn hkx];exact hb,own_kind g2,by rcases g2.2 with ⟨rfl,_⟩ | ⟨K,rfl,_⟩ <;> rfl,by rcases g2.2 with ⟨rfl,_⟩ | ⟨K,rfl,_⟩ <;> rfl,k::uid x',⟨x',by rw [Heap.get_set,if_pos rfl],?_,hk',by rw [Heap.set_next];have:=g3.2.2.1;omega,rfl⟩,hkp.set (.inl (by simp)) _,fun y hy=>?_⟩
  ·rw [List.reverse_cons]
   exact Own.set g2 (fun K o n c e hj=>hk' (mem_uid.2 ⟨o,n,c,by rw [hj];exact e⟩)) _
  ·rcases List.mem_cons.1 hy with rfl | hy
   ·exact .inl (by simp)
   ·rcases g5 y hy with h1 | h1
    ·exact .inr h1
    ·exact .inl (List.mem_cons_of_mem _ h1)
 obtain ⟨x1,τ1,a1,a2,a3,a6,a4,a5⟩:=app ⟨0,0,s⟩
 cases r with
 | nil=>
  have e:mkP [] s=[⟨0,0,s⟩]:=by simp [mkP,hft]
  have hxl0:aLen x=some (.int .i64 0):=hxl
  have hw0:IntKind.i64.wrap (0 - 1)= -1:=by decide
  have hn0:¬(0:Int)≤ -1:=by decide
  simp only at a1
  rw [e]
  simp +decide only [↓evd,evw,reduceCtorEq,↓reduceIte,aStr,hbt,hb,hxl0,hw0,a1,a2,a3,a4,a6]
  exact a5
 | cons e r'=>
  rw [List.reverse_cons] at hO
  have hel:(List.map eChg (r'.reverse ++ [e])).length=r'.length+1:=by simp
  obtain ⟨K,rfl,hgK,hKn⟩:∃ K,x= .slc (.new K) 0 (r'.length+1) (.gr 3)∧σ.get K=some (.cells ((r'.reverse.map eChg).flatMap AVal.cells ++ [.int .i64 e.frm,.int .i64 e.to,.str e.text]) (some t_Elem))∧K<σ.next:=by
   rcases hO.2 with ⟨_,h0⟩ | ⟨K,h1,h2,_,h3⟩
   ·simp at h0
   ·rw [hel] at h1;rw [flat3] at h2;exact ⟨K,h1,h2,h3⟩
  have hAl:((r'.reverse.map eChg).flatMap AVal.cells).length=r'.length * 3:=by rw [flat3_len,List.length_reverse]
  generalize hAe:(r'.reverse.map eChg).flatMap AVal.cells=A at hgK hAl
  have hcl:(A ++ [AVal.int .i64 e.frm,.int .i64 e.to,.str e.text]).length=r'.length * 3+3:=by rw [List.length_append,hAl];rfl
  have hld:cellsFrom σ (.new K) (r'.length * 3) 3=some [.int .i64 e.frm,.int .i64 e.to,.str e.text]:=by
   rw [cellsFrom_get hgK _ _ (by omega),← hAl,List.drop_left];rfl
  have hc1:σ.cell (.new K) (r'.length * 3+1)=some (.int .i64 e.to):=by
   simp only [Heap.cell,hgK]
   rw [← hAl,List.getElem?_append_right (by omega),Nat.add_sub_cancel_left];rfl
  have hw1:IntKind.i64.wrap (((r'.length+1:Nat):Int) - 1)=(r'.length:Int):=by rw [wrap_id (by simp at hl;omega) (by simp at hl;omega)];omega
  have hge:(0:Int)≤(r'.length:Int):=by omega
  have hlt:((r'.length:Nat):Int)<((r'.length+1:Nat):Int):=by omega
  have hic:=isCopy_call σ e
  simp only [eChg] at hic
  simp only at a1
  simp +decide only [↓evd,evw,reduceCtorEq,↓reduceIte,aStr,hbt,hb,hxl,hw1,hge,hlt,↓hld]
  refine MSpec.of hic ?_
  have hKk:K≠k:=fun e=>hkx (by simp [uid,e])
  have wr:∀ (c:Chg) (cs2:List AVal),cs2=A ++ [.int .i64 c.frm,.int .i64 c.to,.str c.text]→A=(r'.reverse.map eChg).flatMap AVal.cells→∃ fp',IsMk (σ.set K (.cells cs2 (some t_Elem))) k base (c::r') fp'∧Keep (k::uid (.slc (.new K) 0 (r'.length+1) (.gr 3))) σ (σ.set K (.cells cs2 (some t_Elem)))∧Fresh (k::uid (.slc (.new K) 0 (r'.length+1) (.gr 3))) σ fp':=by
   intro c cs2 h1 h2
   refine ⟨k::uid (.slc (.new K) 0 (r'.length+1) (.gr 3)),⟨.slc (.new K) 0 (r'.length+1) (.gr 3),by rw [Heap.get_set,if_neg hKk];exact hb,⟨chgs_row _,.inr ⟨K,by simp,?_,Nat.zero_le _,by simpa using hKn⟩⟩,hkx,by simpa using hkn,rfl⟩,(Keep.refl _ _).set (.inl (by simp [uid])) _,fun y hy=>.inl hy⟩
   rw [Heap.get_set,if_pos rfl,List.reverse_cons,flat3,h1,h2]
  cases hc:isCp e
  ·have em:mkP (e::r') s=⟨e.frm,e.to,e.text ++ s⟩::r':=by simp [mkP,hft,hc]
   rw [em]
   have hc2:σ.cell (.new K) (r'.length * 3+2)=some (.str e.text):=by
    simp only [Heap.cell,hgK]
    rw [← hAl,List.getElem?_append_right (by omega),Nat.add_sub_cancel_left];rfl
   have hle:decide (r'.length * 3+2+1≤(A ++ [AVal.int .i64 e.frm,.int .i64 e.to,.str e.text]).length)=true:=by rw [hcl];simp
   have hset:(A ++ [AVal.int .i64 e.frm,.int .i64 e.to,.str e.text]).take (r'.length * 3+2) ++ [AVal.str (e.text ++ s)] ++ (A ++ [AVal.int .i64 e.frm,.int .i64 e.to,.str e.text]).drop (r'.length * 3+2+1)=A ++ [.int .i64 e.frm,.int .i64 e.to,.str (e.text ++ s)]:=by
    rw [← hAl,List.take_append,List.take_of_length_le (by omega),Nat.add_sub_cancel_left,Nat.add_assoc,List.drop_append,List.drop_eq_nil_of_le (by omega),Nat.add_sub_cancel_left]
    simp
   have hadd:aStr .add e.text s=some (.str (e.text ++ s)):=by
    have:=hrs e (by simp)
    simp only [aStr];rw [if_pos (by omega)]
   generalize A ++ [AVal.int .i64 e.frm,.int .i64 e.to,.str e.text]=cs at hgK hle hset
   simp +decide only [↓evd,evw,reduceCtorEq,↓reduceIte,hb,hge,hlt,hc2,hadd,hgK,hle,hset]
   exact wr ⟨e.frm,e.to,e.text ++ s⟩ _ rfl hAe.symm
  ·have em:mkP (e::r') s=⟨0,0,s⟩::e::r':=by simp [mkP,hft,hc]
   rw [em]
   simp +decide only [↓evd,evw,reduceCtorEq,↓reduceIte,hb,a1,a2,a3,a4,a6]
   exact a5
theorem seen_call {f:FuncId} {args:List AVal} {v:AVal} {σ:Heap} (hv:v.pure=true) (h:MSpec Tryz.prog f args σ fun u τ=>Keep [] σ τ∧∃ ρ,Sees τ u ρ v∧ρ.W=τ.W∧ρ.F0=τ.F0∧∀ q,q<σ.next→ρ.get q=τ.get q):ACall Tryz.prog f args σ v σ:=by
 obtain ⟨u,τ,ha,hK,ρ,s1,s2,s3,s4⟩:=h
 exact acall_gc (acall_see ha s1) hv (s2.trans hK.1) (s3.trans hK.2.1) fun q hq=>by rw [s4 q hq];exact hK.get hq
theorem sees_delta {B:Nat} {σ:Heap} {x:AVal} {base:Int} {l:List Chg} (h:Own B σ t_Elem 3 x (l.map eChg)):∃ ρ,Sees σ (.agg [.int .i64 base,x]) ρ (eDelta ⟨base,l⟩)∧ρ.W=σ.W∧ρ.F0=σ.F0∧ρ.next=σ.next∧∀ q,q<B→ρ.get q=σ.get q:=by
 obtain ⟨ρ,s1,s2,s3,s4,s5⟩:=Own.sees h
 exact ⟨ρ,SeesL.agg (.cons (Sees.refl _ _) (.cons s1 (.nil _))),s2,s3,s4,s5⟩
theorem Own.raise {B k:Nat} {e:TypeId} {σ:Heap} {x:AVal} {els:List AVal} (h:Own 0 σ e k x els) (hB:∀ q∈uid x,B≤q):Own B σ e k x els:=
 ⟨h.1,h.2.imp id fun ⟨K,h1,h2,_,h4⟩=>⟨K,h1,h2,hB K (mem_uid.2 ⟨_,_,_,h1⟩),h4⟩⟩
theorem mdelta_at {σ:Heap} {k:Nat} {base:Int} {r:List Chg} {fp:List Nat} (h:IsMk σ k base r fp) (hl:r.length≤900000):MSpec Tryz.prog n_delta_Maker_Delta [.ptr (.new k) 0] σ fun v τ=>Keep [] σ τ∧
  ((r.length≤60∧∃ x,σ.get k=some (.cells [.int .i64 base,x] none)∧v= .tup [.agg [.int .i64 base,x],.int .i64 0])∨(60<r.length∧v= .tup [.agg [.int .i64 0,.nils],.int .i64 70])):=by
 obtain ⟨x,hb,hO,hkx,hkn,rfl⟩:=id h
 refine spec_of_awp mixed c_delta_Maker_Delta (tl rfl) ?_
 unfold f_delta_Maker_Delta
 have hxl:=hO.len
 rw [List.length_map,List.length_reverse] at hxl
 have hxr:x.isRaw=false:=by rcases hO.2 with ⟨rfl,_⟩ | ⟨K,rfl,_⟩ <;> rfl
 have hxc:x.isCell=true:=own_kind hO
 have hxx:x.cells=[x]:=by rcases hO.2 with ⟨rfl,_⟩ | ⟨K,rfl,_⟩ <;> rfl
 have hne:(σ.next=k)=False:=eq_false (by omega)
 by_cases h60:(60:Int)<(r.length:Int)
 ·simp +decide only [↓evd,evw,reduceCtorEq,↓reduceIte,hb,hxl,hne,h60]
  exact ⟨((Keep.refl [] σ).new _).set (.inr (Nat.le_refl _)) _,.inr (by omega)⟩
 ·simp +decide only [↓evd,evw,reduceCtorEq,↓reduceIte,hb,hxl,hxc,hne,h60]
  refine ⟨((Keep.refl [] σ).new _).set (.inr (Nat.le_refl _)) _,.inl ⟨by omega,?_⟩⟩
  first | exact ⟨x,rfl,rfl⟩ | trivial
theorem each_spec {σ:Heap} {k:Nat} {E:Eng} {fp:List Nat} (h:IsEng σ k E fp) (frm to:Int) (f:FuncId) (caps:List AVal) (Inv:Nat→Heap→Prop) (stab:∀ i τ b c,Inv i τ→Inv i ((τ.new b).set τ.next c))
  (step:∀ (i:Nat) (a:Atom) (τ:Heap),E.l[i]? =some a→Inv i τ→(visible frm (E.R.undone frm) a=false→visible to (E.R.undone to) a=false→Inv (i+1) τ)∧
   ((visible frm (E.R.undone frm) a || visible to (E.R.undone to) a)=true→MSpec Tryz.prog f (.str a.text::.bool (visible frm (E.R.undone frm) a)::.bool (visible to (E.R.undone to) a)::caps) τ fun v τ'=>Inv (i+1) τ')) (h0:Inv 0 σ):
  MSpec Tryz.prog n_diff_each [.ptr (.new k) 0,.int .i64 frm,.int .i64 to,.fn f caps] σ fun v τ=>(E.R.live frm=true∧E.R.live to=true∧v= .int .i64 0∧Inv E.l.length τ)∨((E.R.live frm && E.R.live to)=false∧v= .int .i64 190∧τ=σ):=by
 refine spec_of_awp mixed c_diff_each (tl rfl) ?_
 unfold f_diff_each
 obtain ⟨hok,hRok⟩:=h.ok
 have hll:=hok.len
 have hhd:=head_le hRok
 have l1:=elive_at h frm
 have l2:=elive_at h to
 have hat:=eatoms_at h
 have u1:ACall Tryz.prog n_engine_Engine_UndoneAt [.ptr (.new k) 0,.int .i64 frm] σ (ints (E.R.undone frm)) σ:=by obtain ⟨_,_,_,hA,_⟩:=h;exact hA.undoneAt frm
 have u2:ACall Tryz.prog n_engine_Engine_UndoneAt [.ptr (.new k) 0,.int .i64 to] σ (ints (E.R.undone to)) σ:=by obtain ⟨_,_,_,hA,_⟩:=h;exact hA.undoneAt to
 have f1:=undone_few hRok frm
 have f2:=undone_few hRok to
 simp only [eAtoms] at hat
 simp only [ints] at u1 u2
 generalize E.R.undone frm=uf at u1 f1 step
 generalize E.R.undone to=ut at u2 f2 step
 simp +decide only [↓evd,evw,reduceCtorEq,↓reduceIte]
 refine MSpec.of l1 ?_
 cases h1:E.R.live frm
 ·simp +decide only [↓evd,evw,reduceCtorEq,↓reduceIte]
 simp +decide only [↓evd,evw,reduceCtorEq,↓reduceIte]
 refine MSpec.of l2 ?_
 cases h2:E.R.live to
 ·simp +decide only [↓evd,evw,reduceCtorEq,↓reduceIte]
 simp +decide only [↓evd,evw,reduceCtorEq,↓reduceIte]
 refine MSpec.of u1 ?_
 simp +decide only [↓evd,evw,reduceCtorEq,↓reduceIte]
 refine MSpec.of u2 ?_
 simp +decide only [↓evd,evw,reduceCtorEq,↓reduceIte]
 refine MSpec.of hat ?_
 simp +decide only [↓evd,evw,evz,reduceCtorEq,↓reduceIte]
 refine awp_loop (fun m fr τ=>∃ (i:Nat),m+i=E.l.length∧fr.get 1= .int .i64 frm∧fr.get 2= .int .i64 to∧fr.get 3= .fn f caps∧fr.get 9=ints uf∧fr.get 10=ints ut∧fr.get 32=eAtoms E.l∧fr.get 33= .int .i64 (E.l.length:Nat)∧fr.get 34= .int .i64 (i:Nat)∧Inv i τ) ?_ (m:=E.l.length) ?_
 ·rintro m fr τ ⟨i,hi,e1,e2,e3,e9,e10,e32,e33,e34,hI⟩
  by_cases hlt:i<E.l.length
  ·have hlt':(i:Int)<(E.l.length:Int):=by omega
   have hw:=wrap_succ (i:=i) (by omega)
   have hg:=map_get eAtom E.l i hlt
   have hge:=List.getElem?_eq_getElem hlt
   have hcl:=hok.cuts _ (List.getElem_mem hlt)
   generalize E.l[i]=a at hg hge hcl
   have hI1:=stab i τ (.cells [.str [],.int .i64 0,.int .i64 0,.int .i64 0,.nils] none) (.cells [.str a.text,.int .i64 a.rev,.int .i64 a.group,.int .i64 a.rank,.fsl 2 (a.cuts.map eCut)] none) hI
   obtain ⟨A,hA⟩:∃ A,τ.next=A:=⟨_,rfl⟩
   obtain ⟨τ1,hτ1⟩:∃ τ1,τ1=(τ.new (.cells [.str [],.int .i64 0,.int .i64 0,.int .i64 0,.nils] none)).set τ.next (.cells [.str a.text,.int .i64 a.rev,.int .i64 a.group,.int .i64 a.rank,.fsl 2 (a.cuts.map eCut)] none):=⟨_,rfl⟩
   have hA1:τ1.get A=some (.cells [.str a.text,.int .i64 a.rev,.int .i64 a.group,.int .i64 a.rank,.fsl 2 (a.cuts.map eCut)] none):=by rw [hτ1,Heap.get_set,if_pos hA]
   rw [← hτ1] at hI1
   obtain ⟨s1,s2⟩:=step i a τ1 hge hI1
   have v1:=visible_call τ1 a frm uf (by omega) (by omega)
   have v2:=visible_call τ1 a to ut (by omega) (by omega)
   simp only [eAtom,ints] at v1 v2
   simp +decide only [↓evd,evw,evz,reduceCtorEq,↓reduceIte,e32,e33,e34,hlt',hg,eAtom]
   rw [← hτ1]
   simp only [hA]
   with_reducible refine draw_of_grow (fun _=>True) (ms:=[false,false,false,false,false,false,false,false,false,false]) (by kernel_rfl) ?_
   simp +decide only [↓evd,evw,evz,↓reduceIte,e1,e9,hA1]
   refine MSpec.of v1 ⟨.inr Keeps.rfl,?_⟩
   simp +decide only [↓evd,evw,evz,↓reduceIte,e2,e10,hA1]
   refine MSpec.of v2 ⟨.inr Keeps.rfl,?_⟩
   cases hv1:visible frm uf a <;> cases hv2:visible to ut a <;> rw [hv1,hv2] at s1 s2
   ·simp +decide only [↓evd,evw,evz,reduceCtorEq,↓reduceIte,e1,e2,e3,e9,e10,e32,e33,e34,hw]
    exact ⟨m - 1,by omega,i+1,by omega,rfl,s1 rfl rfl⟩
   all_goals
    simp +decide only [↓evd,evw,reduceCtorEq,↓reduceIte,e3,hA1]
    refine (s2 rfl).mono ?_
    rintro v τ2 hI2
    simp +decide only [↓evd,evw,evz,reduceCtorEq,↓reduceIte,e1,e2,e3,e9,e10,e32,e33,e34,hw]
    exact ⟨m - 1,by omega,i+1,by omega,rfl,hI2⟩
  ·have hlt':¬(i:Int)<(E.l.length:Int):=by omega
   have:i=E.l.length:=by omega
   subst this
   simp +decide only [↓evd,evw,reduceCtorEq,↓reduceIte,e33,e34,hlt']
   first | exact .inl ⟨rfl,rfl,rfl,hI⟩ | simpa using hI
 ·refine ⟨0,by omega,?_⟩
  simp +decide only [evw,evz,↓reduceIte]
  first | exact h0 | exact ⟨rfl,h0⟩
def bStep (w is:Bool) (t:List UInt8) (st:List Chg × Nat):List Chg × Nat:=
 (if w && is then mkC st.1 st.2 ((st.2+t.length:Nat):Int) else if is then mkP st.1 t else st.1,if w then st.2+t.length else st.2)
def bFold (frm to:Int) (uf ut:List Int) (l:List Atom):List Chg × Nat:=l.foldl (fun st a=>bStep (visible frm uf a) (visible to ut a) a.text st) ([],0)
theorem bFold_take {frm to:Int} {uf ut:List Int} {l:List Atom} {i:Nat} {a:Atom} (h:l[i]? =some a):bFold frm to uf ut (l.take (i+1))=bStep (visible frm uf a) (visible to ut a) a.text (bFold frm to uf ut (l.take i)):=by
 obtain ⟨hi,rfl⟩:=List.getElem?_eq_some_iff.1 h
 rw [bFold,List.take_succ_eq_append_getElem hi,List.foldl_append];rfl
theorem mkC_len (r:List Chg) (f t:Int):(mkC r f t).length≤r.length+1:=by
 unfold mkC;split
 ·omega
 ·split
  ·split <;> simp
  ·simp
theorem mkP_len (r:List Chg) (s:List UInt8):(mkP r s).length≤r.length+1:=by
 unfold mkP;split
 ·omega
 ·split
  ·split <;> simp
  ·simp
theorem mkC_txt {r:List Chg} {f t:Int} {n:Nat} (h:∀ e∈r,e.text.length≤n):∀ e∈mkC r f t,e.text.length≤n:=by
 unfold mkC;split
 ·exact h
 ·split
  ·rename_i e r'
   split
   ·intro x hx;rcases List.mem_cons.1 hx with rfl | hx
    ·exact h e (by simp)
    ·exact h x (by simp [hx])
   ·intro x hx;rcases List.mem_cons.1 hx with rfl | hx
    ·simp
    ·exact h x hx
  ·intro x hx;simp at hx;subst hx;simp
theorem mkP_txt {r:List Chg} {s:List UInt8} {n:Nat} (h:∀ e∈r,e.text.length≤n):∀ e∈mkP r s,e.text.length≤n+s.length:=by
 unfold mkP;split
 ·intro x hx;have:=h x hx;omega
 ·split
  ·rename_i e r'
   split
   ·intro x hx;rcases List.mem_cons.1 hx with rfl | hx
    ·simp
    ·have:=h x hx;omega
   ·intro x hx;rcases List.mem_cons.1 hx with rfl | hx
    ·have:=h e (by simp);simp only [List.length_append];omega
    ·have:=h x (by simp [hx]);omega
  ·intro x hx;simp at hx;subst hx;simp
structure BSmall (i:Nat) (st:List Chg × Nat):Prop where
 few:st.1.length≤i
 at_:st.2≤i * 4
 txt:∀ e∈st.1,e.text.length≤i * 4
theorem BSmall.step {i:Nat} {st:List Chg × Nat} (h:BSmall i st) {t:List UInt8} (ht:t.length≤4) (w is:Bool):BSmall (i+1) (bStep w is t st):=by
 obtain ⟨h1,h2,h3⟩:=h
 refine ⟨?_,?_,?_⟩
 ·simp only [bStep]
  split
  ·have:=mkC_len st.1 st.2 ((st.2+t.length:Nat):Int);omega
  ·split
   ·have:=mkP_len st.1 t;omega
   ·omega
 ·simp only [bStep];split <;> omega
 ·simp only [bStep]
  split
  ·intro e he;have:=mkC_txt h3 e he;omega
  ·split
   ·intro e he;have:=mkP_txt h3 e he;omega
   ·intro e he;have:=h3 e he;omega
structure BInv (σ:Heap) (M P Q:Nat) (base:Int) (st:List Chg × Nat) (τ:Heap):Prop where
 p:τ.get P=some (.cells [.ptr (.new M) 0] none)
 q:τ.get Q=some (.cells [.int .i64 (st.2:Nat)] none)
 maker:∃ fp,IsMk τ M base st.1 fp∧P∉fp∧Q∉fp∧∀ y∈fp,σ.next<y
 pl:P<τ.next
 ql:Q<τ.next
 keep:Keep [] σ τ
 rr:τ.get σ.next=some (.cells [.int .i64 0,.nils] none)
theorem BInv.junk {σ:Heap} {M P Q:Nat} {base:Int} {st:List Chg × Nat} {τ:Heap} (hn:σ.next<τ.next) (h:BInv σ M P Q base st τ) (b c:ABlk):BInv σ M P Q base st ((τ.new b).set τ.next c):=by
 have hk:Keep [] τ ((τ.new b).set τ.next c):=(Keep.refl _ _).junk _ _
 obtain ⟨fp,hM,h1,h2,h3⟩:=h.maker
 exact ⟨by rw [hk.get h.pl];exact h.p,by rw [hk.get h.ql];exact h.q,⟨fp,hM.keep hk (fun y _=>by simp),h1,h2,h3⟩,Nat.lt_of_lt_of_le h.pl hk.2.2.1,Nat.lt_of_lt_of_le h.ql hk.2.2.1,h.keep.trans hk (fun x hx=>nomatch hx),by rw [hk.get hn];exact h.rr⟩
theorem between1_at {σ:Heap} {M P Q:Nat} {base:Int} {st:List Chg × Nat} {τ:Heap} {t:List UInt8} {w is:Bool} {i:Nat} (hPQ:P≠Q) (hP:σ.next<P) (hQ:σ.next<Q) (h:BInv σ M P Q base st τ) (hs:BSmall i st) (hi:i≤4000) (ht:t.length≤4) (hwi:(w || is)=true):
  MSpec Tryz.prog n_diff_Between_1 [.str t,.bool w,.bool is,.ptr (.new P) 0,.ptr (.new Q) 0] τ fun v τ'=>BInv σ M P Q base (bStep w is t st) τ':=by
 refine spec_of_awp mixed c_diff_Between_1 (tl rfl) ?_
 unfold f_diff_Between_1
 obtain ⟨fp,hM,h1,h2,h3⟩:=h.maker
 obtain ⟨s1,s2,s3⟩:=hs
 have hp:=h.p
 have hq:=h.q
 have hpl:=h.pl
 have hql:=h.ql
 have hnl:σ.next<τ.next:=by omega
 have hw:IntKind.i64.wrap ((st.2:Int)+(t.length:Int))=((st.2+t.length:Nat):Int):=by rw [wrap_id (by omega) (by omega)];omega
 have hqp:(Q=P)=False:=eq_false (Ne.symm hPQ)
 cases w
 ·cases is
  ·simp at hwi
  ·-- put
   simp +decide only [↓evd,evw,reduceCtorEq,↓reduceIte,hp]
   refine (mput_at hM (by omega) (by omega) (fun e he=>by have:=s3 e he;omega)).mono ?_
   rintro v τ1 ⟨fp1,hM1,hK1,hF1⟩
   have hP1:P∉fp1:=fun hm=>by rcases hF1 P hm with h | h;exact h1 h;omega
   have hQ1:Q∉fp1:=fun hm=>by rcases hF1 Q hm with h | h;exact h2 h;omega
   have hn1:=hK1.2.2.1
   simp +decide only [↓evd,evw,reduceCtorEq,↓reduceIte]
   refine ⟨by rw [hK1.2.2.2 _ hpl h1];exact hp,by rw [hK1.2.2.2 _ hql h2];exact hq,⟨fp1,hM1,hP1,hQ1,fun y hy=>?_⟩,by omega,by omega,h.keep.trans (hK1) (fun y hy=>.inr (Nat.le_of_lt (h3 y hy))),?_⟩
   ·rcases hF1 y hy with h | h
    ·exact h3 y h
    ·omega
   ·rw [hK1.2.2.2 _ hnl (fun hm=>by have:=h3 _ hm;omega)];exact h.rr
 ·cases is
  ·-- gone
   simp +decide only [↓evd,evw,reduceCtorEq,↓reduceIte,hq,hw]
   have hk:Keep [Q] τ (τ.set Q (.cells [.int .i64 ((st.2+t.length:Nat):Int)] none)):=(Keep.refl _ _).set (.inl (by simp)) _
   refine ⟨by rw [Heap.get_set,if_neg (Ne.symm hPQ)];exact hp,by rw [Heap.get_set,if_pos rfl];rfl,⟨fp,hM.keep hk (fun y hy hm=>h2 (by simp at hm;exact hm ▸ hy)),h1,h2,h3⟩,by simpa using hpl,by simpa using hql,h.keep.trans hk (fun y hy=>.inr (by simp at hy;omega)),?_⟩
   rw [Heap.get_set,if_neg (by omega)];exact h.rr
  ·-- kept
   simp +decide only [↓evd,evw,reduceCtorEq,↓reduceIte,hp,hq,hw]
   refine (mcopy_at hM (by omega)).mono ?_
   rintro v τ1 ⟨fp1,hM1,hK1,hF1⟩
   have hP1:P∉fp1:=fun hm=>by rcases hF1 P hm with h | h;exact h1 h;omega
   have hQ1:Q∉fp1:=fun hm=>by rcases hF1 Q hm with h | h;exact h2 h;omega
   have hn1:=hK1.2.2.1
   have hq1:τ1.get Q=some (.cells [.int .i64 (st.2:Nat)] none):=by rw [hK1.2.2.2 _ hql h2];exact hq
   have hk:Keep [Q] τ1 (τ1.set Q (.cells [.int .i64 ((st.2+t.length:Nat):Int)] none)):=(Keep.refl _ _).set (.inl (by simp)) _
   simp +decide only [↓evd,evw,reduceCtorEq,↓reduceIte,hq1,hw]
   refine ⟨by rw [Heap.get_set,if_neg (Ne.symm hPQ),hK1.2.2.2 _ hpl h1];exact hp,by rw [Heap.get_set,if_pos rfl];rfl,⟨fp1,hM1.keep hk (fun y hy hm=>hQ1 (by simp at hm;exact hm ▸ hy)),hP1,hQ1,fun y hy=>?_⟩,by simp;omega,by simp;omega,(h.keep.trans hK1 (fun y hy=>.inr (Nat.le_of_lt (h3 y hy)))).trans hk (fun y hy=>.inr (by simp at hy;omega)),?_⟩
   ·rcases hF1 y hy with h | h
    ·exact h3 y h
    ·omega
   ·rw [Heap.get_set,if_neg (by omega),hK1.2.2.2 _ hnl (fun hm=>by have:=h3 _ hm;omega)];exact h.rr
theorem bFold_small {frm to:Int} {uf ut:List Int} {l:List Atom} (h:∀ a∈l,a.text.length≤4):∀ i,i≤l.length→BSmall i (bFold frm to uf ut (l.take i))
 | 0,_=>⟨by simp [bFold],by simp [bFold],by simp [bFold]⟩
 | i+1,hi=>by
  rw [bFold_take (List.getElem?_eq_getElem (show i<l.length by omega))]
  exact (bFold_small h i (by omega)).step (h _ (List.getElem_mem _)) _ _
def Eng.bst (E:Eng) (frm to:Int):List Chg × Nat:=bFold frm to (E.R.undone frm) (E.R.undone to) E.l
def betwE (E:Eng) (frm to:Int):Dlt × Int:=
 if (E.R.live frm && E.R.live to)=true then
  if (E.bst frm to).1.length≤60 then (⟨((E.text frm).length:Nat),(E.bst frm to).1.reverse⟩,0) else (⟨0,[]⟩,70)
 else (⟨0,[]⟩,190)
set_option maxHeartbeats 1000000 in
theorem between_call {σ:Heap} {k:Nat} {E:Eng} {fp:List Nat} (h:IsEng σ k E fp) (frm to:Int):ACall Tryz.prog n_diff_Between [.ptr (.new k) 0,.int .i64 frm,.int .i64 to] σ (.tup [eDelta (betwE E frm to).1,.int .i64 (betwE E frm to).2]) σ:=by
 refine seen_call (by simp only [AVal.pure,AVal.pures,eDelta_pure];rfl) (spec_of_awp mixed c_diff_Between (tl rfl) ?_)
 unfold f_diff_Between
 obtain ⟨hok,hRok⟩:=h.ok
 have hll:=hok.len
 have h4:∀ a∈E.l,a.text.length≤4:=fun a ha=>(cp_len (hok.txt a ha)).2
 have hkR:Keep [] σ (σ.new (.cells [.int .i64 0,.nils] none)):=(Keep.refl _ _).new _
 have hER:=h.keep hkR (fun y _=>by simp)
 have htx:=etext_at hER frm
 obtain ⟨s,c,hs,hsl⟩:∃ s c,textV E frm= .tup [.str s,.int .i64 c]∧(E.R.live frm=true→s=E.text frm):=by
  unfold textV
  cases hl:E.R.live frm
  ·exact ⟨_,_,rfl,fun e=>nomatch e⟩
  ·exact ⟨_,_,rfl,fun _=>rfl⟩
 rw [hs] at htx
 simp +decide only [↓evd,evw,reduceCtorEq,↓reduceIte]
 refine MSpec.of htx ?_
 simp +decide only [↓evd,evw,reduceCtorEq,↓reduceIte]
 refine (newMaker_at _ (s.length:Nat)).mono ?_
 rintro v τ ⟨rfl,hM,hK⟩
 simp only [Heap.new_next] at hM
 obtain ⟨τ2,hτ2⟩:∃ τ2,τ2=(((τ.new (.cells [.nilp] none)).set τ.next (.cells [.ptr (.new (σ.next+1)) 0] none)).new (.cells [.int .i64 0] none)).set (τ.next+1) (.cells [.int .i64 0] none):=⟨_,rfl⟩
 have hKn:=hK.2.2.1
 simp only [Heap.new_next] at hKn
 have hk2:Keep [] τ τ2:=by rw [hτ2];exact (((Keep.refl [] τ).junk _ _).new _).set (.inr (by omega)) _
 have hKa:Keep [] σ τ2:=(hkR.trans hK (fun x hx=>nomatch hx)).trans hk2 (fun x hx=>nomatch hx)
 have hMl:=hM.low _ (List.mem_singleton.2 rfl)
 have hB0:BInv σ (σ.next+1) τ.next (τ.next+1) (s.length:Nat) ([],0) τ2:=by
  refine ⟨by rw [hτ2,Heap.get_set,if_neg (by omega),Heap.get_new,if_neg (by simp),Heap.get_set,if_pos rfl],by rw [hτ2,Heap.get_set,if_pos rfl];rfl,⟨[σ.next+1],hM.keep hk2 (fun y _=>by simp),by simp;omega,by simp;omega,by simp⟩,by rw [hτ2];simp;omega,by rw [hτ2];simp,hKa,?_⟩
  rw [hk2.get (by omega),hK.get (by simp),Heap.get_new,if_pos rfl]
 have hE2:=h.keep hKa (fun y _=>by simp)
 have hn2:τ2.next=τ.next+2:=by rw [hτ2];rfl
 have heach:=each_spec hE2 frm to n_diff_Between_1 [.ptr (.new τ.next) 0,.ptr (.new (τ.next+1)) 0] (fun i ρ=>σ.next<ρ.next∧BInv σ (σ.next+1) τ.next (τ.next+1) (s.length:Nat) (bFold frm to (E.R.undone frm) (E.R.undone to) (E.l.take i)) ρ)
  (fun i ρ b c ⟨g1,g2⟩=>⟨by simp;omega,g2.junk g1 b c⟩)
  (fun i a ρ ha ⟨g1,g2⟩=>⟨fun v1 v2=>⟨g1,by rw [bFold_take ha,v1,v2];exact g2⟩,fun hv=>by
   have hi:=(List.getElem?_eq_some_iff.1 ha).1
   refine (between1_at (i:=i) (by omega) (by omega) (by omega) g2 (bFold_small h4 i (by omega)) (by omega) (h4 a (List.mem_of_getElem? ha)) hv).mono fun v ρ' g3=>?_
   refine ⟨by have:=g3.ql;omega,?_⟩
   rw [bFold_take ha];exact g3⟩)
  ⟨by omega,hB0⟩
 have hneP:(τ.next+1=τ.next)=False:=eq_false (by omega)
 simp +decide only [↓evd,evw,reduceCtorEq,↓reduceIte]
 rw [← hτ2]
 refine heach.mono ?_
 rintro v τ3 (⟨l1,l2,rfl,g1,g2⟩ | ⟨l1,rfl,rfl⟩)
 ·rw [List.take_length] at g2
  have hst:bFold frm to (E.R.undone frm) (E.R.undone to) E.l=E.bst frm to:=rfl
  rw [hst] at g2
  have hp:=g2.p
  have hrr:=g2.rr
  obtain ⟨fpm,hMk,_,_,hfl⟩:=g2.maker
  have hsm:=bFold_small (frm:=frm) (to:=to) (uf:=E.R.undone frm) (ut:=E.R.undone to) h4 E.l.length (Nat.le_refl _)
  rw [List.take_length,hst] at hsm
  have hlen:=hsm.few
  rw [hsl l1] at hMk
  have b0:((0:Int) != 0)=false:=rfl
  simp +decide only [↓evd,evw,reduceCtorEq,↓reduceIte,b0,hp]
  refine (mdelta_at hMk (by omega)).mono ?_
  obtain ⟨x,hb,hO,hkx,hkn,rfl⟩:=id hMk
  rintro v τ4 ⟨hK4,⟨h60,x',hx',rfl⟩ | ⟨h60,rfl⟩⟩
  ·rw [hb] at hx'
   simp only [Option.some.injEq,ABlk.cells.injEq,List.cons.injEq,and_true,true_and] at hx'
   subst hx'
   have hbe:betwE E frm to=(⟨((E.text frm).length:Nat),(E.bst frm to).1.reverse⟩,0):=by rw [betwE,if_pos (by simp [l1,l2]),if_pos h60]
   have hr4:τ4.get σ.next=some (.cells [.int .i64 0,.nils] none):=by rw [hK4.get g1];exact hrr
   have hxr:x.isRaw=false:=by rcases hO.2 with ⟨rfl,_⟩ | ⟨K,rfl,_⟩ <;> rfl
   have hxc:x.isCell=true:=own_kind hO
   have hxx:x.cells=[x]:=by rcases hO.2 with ⟨rfl,_⟩ | ⟨K,rfl,_⟩ <;> rfl
   have hxl:∀ q∈uid x,σ.next<q:=fun q hq=>hfl q (List.mem_cons_of_mem _ hq)
   rw [hbe]
   simp +decide only [↓evd,evw,reduceCtorEq,↓reduceIte,hr4,hxc]
   have hO4:Own (σ.next+1) (τ4.set σ.next (.cells [.int .i64 ((E.text frm).length:Nat),x] none)) t_Elem 3 x ((E.bst frm to).1.reverse.map eChg):=
    Own.set (Own.raise (Own.move hO hK4.2.2.1 (fun K o n c e=>hK4.get (hO.low e).2)) hxl) (fun K o m c e hj=>by have:=hxl K (mem_uid.2 ⟨_,_,_,e⟩);omega) _
   obtain ⟨ρ,s1,s2,s3,s4,s5⟩:=sees_delta (base:=((E.text frm).length:Nat)) hO4
   refine ⟨(g2.keep.trans hK4 (fun x hx=>nomatch hx)).set (.inr (Nat.le_refl _)) _,ρ,SeesL.tup (.cons s1 (.cons (Sees.refl _ _) (.nil _))),s2,s3,fun q hq=>?_⟩
   rw [s5 q (by omega),Heap.get_set]
  ·have hbe:betwE E frm to=(⟨0,[]⟩,70):=by rw [betwE,if_pos (by simp [l1,l2]),if_neg (by omega)]
   have hr4:τ4.get σ.next=some (.cells [.int .i64 0,.nils] none):=by rw [hK4.get g1];exact hrr
   rw [hbe]
   simp +decide only [↓evd,evw,reduceCtorEq,↓reduceIte,hr4]
   refine ⟨(g2.keep.trans hK4 (fun x hx=>nomatch hx)).set (.inr (Nat.le_refl _)) _,_,SeesL.tup (.cons (SeesL.agg (.cons (Sees.refl _ _) (.cons (Sees.nils _ 3) (.nil _)))) (.cons (Sees.refl _ _) (.nil _))),rfl,rfl,fun q hq=>?_⟩
   rw [Heap.get_set]
 ·have hbe:betwE E frm to=(⟨0,[]⟩,190):=by rw [betwE,if_neg (by simp [l1])]
  have b0:((190:Int) != 0)=true:=rfl
  have hr:=hB0.rr
  rw [hbe]
  simp +decide only [↓evd,evw,reduceCtorEq,↓reduceIte,b0,hr]
  refine ⟨hKa.set (.inr (Nat.le_refl _)) _,_,SeesL.tup (.cons (SeesL.agg (.cons (Sees.refl _ _) (.cons (Sees.nils _ 3) (.nil _)))) (.cons (Sees.refl _ _) (.nil _))),rfl,rfl,fun q hq=>?_⟩
  rw [Heap.get_set]
def sumIf (p:Atom→Bool) (l:List Atom):Nat:=(l.map fun a=>if p a then a.text.length else 0).sum
theorem sumIf_take {p:Atom→Bool} {l:List Atom} {i:Nat} {a:Atom} (h:l[i]? =some a):sumIf p (l.take (i+1))=sumIf p (l.take i)+if p a then a.text.length else 0:=by
 obtain ⟨hi,rfl⟩:=List.getElem?_eq_some_iff.1 h
 simp [sumIf,List.take_succ_eq_append_getElem hi,-List.take_append_getElem]
theorem sumIf_le {p:Atom→Bool}:∀ {l:List Atom},(∀ a∈l,a.text.length≤4)→sumIf p l≤l.length * 4
 | [],_=>by simp [sumIf]
 | a::l,h=>by
  have h1:=h a (by simp)
  have h2:=sumIf_le (p:=p) fun b hb=>h b (List.mem_cons_of_mem _ hb)
  simp only [sumIf,List.map_cons,List.sum_cons,List.length_cons] at h2 ⊢
  split <;> omega
def cameB (frm to:Int) (uf ut:List Int) (a:Atom):Bool:= !visible frm uf a && visible to ut a
def wentB (frm to:Int) (uf ut:List Int) (a:Atom):Bool:=visible frm uf a && !visible to ut a
def sinceE (E:Eng) (frm:Int):Nat × Nat × Int:=
 if E.R.live frm=true then (sumIf (cameB frm (E.R.head:Nat) (E.R.undone frm) (E.R.undone (E.R.head:Nat))) E.l,sumIf (wentB frm (E.R.head:Nat) (E.R.undone frm) (E.R.undone (E.R.head:Nat))) E.l,0) else (0,0,190)
structure S1Post (τ τ':Heap) (P Q a b:Nat):Prop where
 p:τ'.get P=some (.cells [.int .i64 (a:Nat)] none)
 q:τ'.get Q=some (.cells [.int .i64 (b:Nat)] none)
 k:Keep [P,Q] τ τ'
theorem since1_at {τ:Heap} {P Q a b:Nat} {t:List UInt8} {w is:Bool} (hPQ:P≠Q) (hp:τ.get P=some (.cells [.int .i64 (a:Nat)] none)) (hq:τ.get Q=some (.cells [.int .i64 (b:Nat)] none)) (ha:a≤1000000) (hb:b≤1000000) (ht:t.length≤4):
  MSpec Tryz.prog n_diff_Since_1 [.str t,.bool w,.bool is,.ptr (.new P) 0,.ptr (.new Q) 0] τ fun v τ'=>S1Post τ τ' P Q (a+if !w then t.length else 0) (b+if w && !is then t.length else 0):=by
 refine spec_of_awp mixed c_diff_Since_1 (tl rfl) ?_
 unfold f_diff_Since_1
 have w1:IntKind.i64.wrap ((a:Int)+(t.length:Int))=((a+t.length:Nat):Int):=by rw [wrap_id (by omega) (by omega)];omega
 have w2:IntKind.i64.wrap ((b:Int)+(t.length:Int))=((b+t.length:Nat):Int):=by rw [wrap_id (by omega) (by omega)];omega
 cases w
 ·simp +decide only [↓evd,evw,reduceCtorEq,↓reduceIte,hp,w1]
  exact ⟨by rw [Heap.get_set,if_pos rfl];first | done | rfl,by rw [Heap.get_set,if_neg hPQ];exact hq,(Keep.refl _ _).set (.inl (by simp)) _⟩
 ·cases is
  ·simp +decide only [↓evd,evw,reduceCtorEq,↓reduceIte,hq,w2]
   exact ⟨by rw [Heap.get_set,if_neg (Ne.symm hPQ)];exact hp,by rw [Heap.get_set,if_pos rfl];first | done | rfl,(Keep.refl _ _).set (.inl (by simp)) _⟩
  ·simp +decide only [↓evd,evw,reduceCtorEq,↓reduceIte]
   exact ⟨hp,hq,Keep.refl _ _⟩
theorem since_call {σ:Heap} {k:Nat} {E:Eng} {fp:List Nat} (h:IsEng σ k E fp) (frm:Int):ACall Tryz.prog n_diff_Since [.ptr (.new k) 0,.int .i64 frm] σ (.tup [.int .i64 ((sinceE E frm).1:Nat),.int .i64 ((sinceE E frm).2.1:Nat),.int .i64 (sinceE E frm).2.2]) σ:=by
 refine keep_call rfl (spec_of_awp mixed c_diff_Since (tl rfl) ?_)
 unfold f_diff_Since
 obtain ⟨hok,hRok⟩:=h.ok
 have hll:=hok.len
 have h4:∀ a∈E.l,a.text.length≤4:=fun a ha=>(cp_len (hok.txt a ha)).2
 obtain ⟨τ2,hτ2⟩:∃ τ2,τ2=(((σ.new (.cells [.int .i64 0] none)).new (.cells [.int .i64 0] none)).set σ.next (.cells [.int .i64 0] none)).set (σ.next+1) (.cells [.int .i64 0] none):=⟨_,rfl⟩
 have hk2:Keep [] σ τ2:=by rw [hτ2];exact ((((Keep.refl [] σ).new _).new _).set (.inr (Nat.le_refl _)) _).set (.inr (by omega)) _
 have hp0:τ2.get σ.next=some (.cells [.int .i64 0] none):=by rw [hτ2,Heap.get_set,if_neg (by omega),Heap.get_set,if_pos rfl]
 have hq0:τ2.get (σ.next+1)=some (.cells [.int .i64 0] none):=by rw [hτ2,Heap.get_set,if_pos rfl]
 have hn2:τ2.next=σ.next+2:=by rw [hτ2];rfl
 have hE2:=h.keep hk2 (fun y _=>by simp)
 have hhd:=ehead_at hE2
 have heach:=each_spec hE2 frm (E.R.head:Nat) n_diff_Since_1 [.ptr (.new σ.next) 0,.ptr (.new (σ.next+1)) 0] (fun i ρ=>ρ.get σ.next=some (.cells [.int .i64 (sumIf (cameB frm (E.R.head:Nat) (E.R.undone frm) (E.R.undone (E.R.head:Nat))) (E.l.take i):Nat)] none)∧ρ.get (σ.next+1)=some (.cells [.int .i64 (sumIf (wentB frm (E.R.head:Nat) (E.R.undone frm) (E.R.undone (E.R.head:Nat))) (E.l.take i):Nat)] none)∧σ.next+2≤ρ.next∧Keep [] σ ρ)
  (fun i ρ b c ⟨g1,g2,g3,g4⟩=>⟨by rw [Heap.get_set,if_neg (by omega),Heap.get_new,if_neg (by omega)];exact g1,by rw [Heap.get_set,if_neg (by omega),Heap.get_new,if_neg (by omega)];exact g2,by simp;omega,g4.junk _ _⟩)
  (fun i a ρ ha ⟨g1,g2,g3,g4⟩=>⟨fun v1 v2=>⟨by rw [sumIf_take ha];simp only [cameB,v1,v2,Bool.and_false,Bool.false_eq_true,if_false,Nat.add_zero];exact g1,by rw [sumIf_take ha];simp only [wentB,v1,v2,Bool.false_and,Bool.false_eq_true,if_false,Nat.add_zero];exact g2,g3,g4⟩,fun hv=>by
   have hi:=(List.getElem?_eq_some_iff.1 ha).1
   have b1:=sumIf_le (p:=cameB frm (E.R.head:Nat) (E.R.undone frm) (E.R.undone (E.R.head:Nat))) (l:=E.l.take i) fun a ha=>h4 a (List.mem_of_mem_take ha)
   have b2:=sumIf_le (p:=wentB frm (E.R.head:Nat) (E.R.undone frm) (E.R.undone (E.R.head:Nat))) (l:=E.l.take i) fun a ha=>h4 a (List.mem_of_mem_take ha)
   rw [List.length_take] at b1 b2
   refine (since1_at (by omega) g1 g2 (by omega) (by omega) (h4 a (List.mem_of_getElem? ha))).mono fun v ρ' ⟨q1,q2,q3⟩=>?_
   have e1:(!visible frm (E.R.undone frm) a)=cameB frm (E.R.head:Nat) (E.R.undone frm) (E.R.undone (E.R.head:Nat)) a:=by
    simp only [cameB];revert hv;cases visible frm (E.R.undone frm) a <;> cases visible (E.R.head:Nat) (E.R.undone (E.R.head:Nat)) a <;> simp
   rw [e1] at q1
   refine ⟨by rw [q1,sumIf_take ha],by rw [q2,sumIf_take ha];rfl,Nat.le_trans g3 q3.2.2.1,g4.trans q3 (fun x hx=>.inr (by simp at hx;omega))⟩⟩)
  ⟨by simpa [sumIf] using hp0,by simpa [sumIf] using hq0,by omega,hk2⟩
 have ne1:(σ.next+1=σ.next)=False:=eq_false (by omega)
 have ne2:(σ.next=σ.next+1)=False:=eq_false (by omega)
 simp +decide only [↓evd,evw,reduceCtorEq,↓reduceIte,ne1,ne2]
 rw [← hτ2]
 refine MSpec.of hhd ?_
 simp +decide only [↓evd,evw,reduceCtorEq,↓reduceIte]
 refine heach.mono ?_
 have hlh:=Eng.live_head hRok
 rintro v τ3 (⟨l1,l2,rfl,g1,g2,g3,g4⟩ | ⟨l1,rfl,rfl⟩)
 ·rw [List.take_length] at g1 g2
  simp +decide only [↓evd,evw,reduceCtorEq,↓reduceIte]
  with_reducible refine draw_of_grow (fun _=>True) (ms:=[false,false,false,false,false,false]) (by kernel_rfl) ?_
  simp +decide only [↓evd,evw,↓reduceIte,g1,g2]
  rw [sinceE,if_pos l1]
  first | exact ⟨rfl,g4⟩ | exact g4
 ·have hl:E.R.live frm=false:=by rw [hlh,Bool.and_true] at l1;exact l1
  simp +decide only [↓evd,evw,reduceCtorEq,↓reduceIte]
  with_reducible refine draw_of_grow (fun _=>True) (ms:=[false,false,false,false,false,false]) (by kernel_rfl) ?_
  simp +decide only [↓evd,evw,↓reduceIte,hp0,hq0]
  rw [sinceE,if_neg (by simp [hl])]
  first | exact ⟨rfl,hk2⟩ | exact hk2
end Go.Proofs.YtioampofolilnaaGreat.M
namespace Go.Proofs.YtioampofolilnaaGreat.M
open Go Go.Mini
attribute [local congr] go1_congr goM_congr goG_congr goV_congr drawwp_congr Xwp_congr
set_option maxHeartbeats 4000000 in
theorem both22_at (σ:Heap) (hd:σ.F0.dr=false) (l:List Step) (hll:l.length≤1000000) (hx:∀ x∈l,fewOne x=true):
  MSpec Tryz.prog n_palinodelaw22_both [eSteps l] σ fun v τ=>∃ k1 k2 fp1 fp2,v= .tup [.ptr (.new k1) 0,.ptr (.new k2) 0]∧TwoE σ τ k1 k2 (l.foldl doB Eng.new) fp1 fp2:=by
 refine spec_of_awp mixed c_palinodelaw22_both (tl rfl) ?_
 unfold f_palinodelaw22_both
 simp +decide only [↓evd,evw,reduceCtorEq]
 refine (enew_at σ hd).mono ?_
 rintro v τ0 ⟨k1,fp10,rfl,h0,hf0,k0⟩
 simp +decide only [↓evd,evw]
 refine (rnewE_at τ0).mono ?_
 rintro v τ1 ⟨k2,fp20,rfl,h1,hf1,kk1⟩
 have hT0:TwoE σ τ1 k1 k2 Eng.new fp10 fp20:=⟨h0.keep kk1 (fun x _=>by simp),h1,fun x hx hm=>by have:=h0.low x hx;have:=hf1 x hm;omega,hf0,fun x hx=>by have:=hf1 x hx;have:=k0.2.2.1;omega,k0.trans kk1 (fun x hx=>nomatch hx)⟩
 clear h0 h1 hf0 hf1 k0 kk1
 simp +decide only [↓evd,evw,reduceCtorEq,↓reduceIte]
 refine awp_loop (fun m fr τ=>∃ (i:Nat) (E:Eng) (fp1 fp2:List Nat),m+i=l.length∧fr.get 0=eSteps l∧fr.get 4= .ptr (.new k1) 0∧fr.get 5= .ptr (.new k2) 0∧fr.get 6= .int .i64 (i:Nat)∧TwoE σ τ k1 k2 E fp1 fp2∧(l.drop i).foldl doB E=l.foldl doB Eng.new) ?_ (m:=l.length) ?_
 ·rintro m fr τ ⟨i,E,fp1,fp2,hi,e0,e4,e5,e6,hT,hfo⟩
  by_cases hlt:i<l.length
  ·have hlt':(i:Int)<(l.length:Int):=by omega
   have hw:=wrap_succ (i:=i) (by omega)
   have hg:=map_get eStep l i hlt
   have hfx:=hx _ (List.getElem_mem hlt)
   rw [List.drop_eq_getElem_cons hlt,List.foldl_cons] at hfo
   generalize l[i]=x at hg hfo hfx
   simp only [fewOne,Bool.and_eq_true,List.all_eq_true,decide_eq_true_eq] at hfx
   obtain ⟨⟨hx1,hx2⟩,hx3⟩:=hfx
   have hcell:∀ τ2:Heap,True:=fun _=>trivial
   obtain ⟨τa,hτa⟩:∃ τa,τa=(τ.new (.cells [.int .i64 0,.int .i64 0,.int .i64 0,.int .i64 0,.nils,.nils] none)).set τ.next (.cells [.int .i64 x.what,.int .i64 x.base,.int .i64 x.group,.int .i64 x.rank,eChgs x.c,ints x.groups] none):=⟨_,rfl⟩
   have hka:Keep [] τ τa:=by rw [hτa];exact (Keep.refl _ _).junk _ _
   have hTa:TwoE σ τa k1 k2 E fp1 fp2:=⟨hT.eng.keep hka (fun x _=>by simp),hT.ref.keep hka (fun x _=>by simp),hT.dis,hT.f1,hT.f2,hT.keep.trans hka (fun x hx=>nomatch hx)⟩
   have hA:τa.get τ.next=some (.cells [.int .i64 x.what,.int .i64 x.base,.int .i64 x.group,.int .i64 x.rank,eChgs x.c,ints x.groups] none):=by rw [hτa,Heap.get_set,if_pos rfl]
   have hAn:τ.next<τa.next:=by rw [hτa];simp
   have hA1:τ.next∉fp1:=fun hm=>by have:=hT.eng.low _ hm;omega
   have hkeepA:∀ {τ2:Heap},Keep fp1 τa τ2→τ2.get τ.next=some (.cells [.int .i64 x.what,.int .i64 x.base,.int .i64 x.group,.int .i64 x.rank,eChgs x.c,ints x.groups] none):=fun hk=>by rw [hk.2.2.2 _ hAn hA1];exact hA
   have href:=fun {τ2:Heap} (hk:Keep fp1 τa τ2)=>hTa.ref.keep hk (fun y hy hm=>hTa.dis y hm hy)
   simp only [eChgs,ints] at hτa hA hkeepA
   by_cases w4:x.what≤4
   ·rcases he:editE E x.base x.group x.rank x.c with ⟨E',n,c⟩
    have hdb:doB E x=E':=by rw [doB,if_pos w4,he]
    rw [hdb] at hfo
    have q1:=eedit_at hTa.eng (by omega) (fun c hc=>by have:=hx1 c hc;omega) he
    have q2:=fun {τ2:Heap} (hk:Keep fp1 τa τ2)=>redit_at (href hk) (by omega) (fun c hc=>by have:=hx1 c hc;omega) he
    simp only [eChgs] at q1 q2
    simp +decide only [↓evd,evw,evz,reduceCtorEq,↓reduceIte,e0,e4,e6,hlt',eSteps,hg,eStep,eChgs,ints,w4]
    rw [← hτa]
    refine q1.mono ?_
    rintro v τ2 ⟨rfl,fp1',h1,kk1,f1⟩
    have hA2:=hkeepA kk1
    simp +decide only [↓evd,evw,reduceCtorEq,↓reduceIte,e5,hA2]
    refine (q2 kk1).mono ?_
    rintro v τ3 ⟨rfl,fp2',h2,kk2,f2⟩
    simp +decide only [↓evd,evw,reduceCtorEq,↓reduceIte,e0,e4,e5,e6,hw]
    exact ⟨m - 1,by omega,i+1,E',fp1',fp2',by omega,rfl,rfl,hTa.step h1 kk1 f1 h2 kk2 f2,hfo⟩
   ·by_cases w6:x.what≤6
    ·rcases he:toggleE E x.group with ⟨E',n,c⟩
     have hdb:doB E x=E':=by rw [doB,if_neg w4,if_pos w6,he]
     rw [hdb] at hfo
     have q1:=etoggle_at hTa.eng he
     have q2:=fun {τ2:Heap} (hk:Keep fp1 τa τ2)=>rtoggleE_at (href hk) he
     simp +decide only [↓evd,evw,evz,reduceCtorEq,↓reduceIte,e0,e4,e6,hlt',eSteps,hg,eStep,eChgs,ints,w4,w6]
     rw [← hτa]
     refine q1.mono ?_
     rintro v τ2 ⟨rfl,fp1',h1,kk1,f1⟩
     have hA2:=hkeepA kk1
     simp +decide only [↓evd,evw,reduceCtorEq,↓reduceIte,e5,hA2]
     refine (q2 kk1).mono ?_
     rintro v τ3 ⟨rfl,fp2',h2,kk2,f2⟩
     simp +decide only [↓evd,evw,reduceCtorEq,↓reduceIte,e0,e4,e5,e6,hw]
     exact ⟨m - 1,by omega,i+1,E',fp1',fp2',by omega,rfl,rfl,hTa.step h1 kk1 f1 h2 kk2 f2,hfo⟩
    ·rcases he:forgetE E x.groups with ⟨E',c⟩
     have hdb:doB E x=E':=by rw [doB,if_neg w4,if_neg w6,he]
     rw [hdb] at hfo
     have hE':(if (forgetR E.R x.groups).2≠0 then E else (⟨restL x.groups (E.R.undone (E.R.head:Nat)) E.l,(forgetR E.R x.groups).1⟩:Eng))=E':=by
      rw [forgetE] at he
      split at he
      ·rename_i hz;rw [if_pos hz];cases he;rfl
      ·rename_i hz;rw [if_neg hz];cases he;rfl
     have q1:=eforget_at hTa.eng (gs:=x.groups) (by omega) he
     have q2:=fun {τ2:Heap} (hk:Keep fp1 τa τ2)=>rforgetE_at (gs:=x.groups) (href hk) (by omega) (fun hz=>forget_ok hTa.eng.ok.1 hz)
     rw [hE'] at q2
     simp only [ints] at q1 q2
     simp +decide only [↓evd,evw,evz,reduceCtorEq,↓reduceIte,e0,e4,e6,hlt',eSteps,hg,eStep,eChgs,ints,w4,w6]
     rw [← hτa]
     refine q1.mono ?_
     rintro v τ2 ⟨rfl,fp1',h1,kk1,f1⟩
     have hA2:=hkeepA kk1
     simp +decide only [↓evd,evw,reduceCtorEq,↓reduceIte,e5,hA2]
     refine (q2 kk1).mono ?_
     rintro v τ3 ⟨rfl,fp2',h2,kk2,f2⟩
     simp +decide only [↓evd,evw,reduceCtorEq,↓reduceIte,e0,e4,e5,e6,hw]
     exact ⟨m - 1,by omega,i+1,E',fp1',fp2',by omega,rfl,rfl,hTa.step h1 kk1 f1 h2 kk2 f2,hfo⟩
  ·have hlt':¬(i:Int)<(l.length:Int):=by omega
   rw [List.drop_eq_nil_of_le (by omega)] at hfo
   simp only [List.foldl_nil] at hfo
   subst hfo
   simp +decide only [↓evd,evw,evz,reduceCtorEq,↓reduceIte,e0,e4,e5,e6,hlt',eSteps]
   exact ⟨k1,k2,fp1,fp2,rfl,hT⟩
 ·refine ⟨0,Eng.new,fp10,fp20,by omega,?_⟩
  simp +decide only [evw,↓reduceIte,eSteps]
  first | exact ⟨hT0,rfl⟩ | exact hT0
set_option maxHeartbeats 2000000 in
theorem few22_call (σ:Heap) (l:List Step) (hl:l.length≤9223372036854775807) (hx:∀ x∈l,StepFits x):ACall Tryz.prog n_palinodelaw22_few [eSteps l] σ (.bool (fewB20 l)) σ:=by
 refine bare_call (by simp only [AVal.pures,eSteps_pure];rfl) rfl (fun W F=>spec_of_awp mixed c_palinodelaw22_few (tl rfl) ?_) σ
 unfold f_palinodelaw22_few
 simp +decide only [↓evd,evw,reduceCtorEq]
 refine awp_loop (fun m fr τ=>∃ i,m+i=l.length∧fr.get 0=eSteps l∧fr.get 3= .int .i64 (i:Nat)∧(l.take i).all fewOne=true∧τ.W=W∧τ.F0=F) ?_ (m:=l.length) ?_
 ·rintro m fr τ ⟨i,hi,e0,e3,ha,hW,hF⟩
  by_cases hlt:i<l.length
  ·have hlt':(i:Int)<(l.length:Int):=by omega
   have hs:=wrap_suc (i:=i) (by omega)
   have hgt:=map_get eStep l i hlt
   have htk:=List.take_succ_eq_append_getElem hlt
   have hmem:=List.getElem_mem hlt
   have hfx:=hx _ hmem
   have hbad:fewOne l[i]=false→fewB20 l=false:=fun h=>by
    simp only [fewB20,Bool.and_eq_false_iff,List.all_eq_false]
    exact .inl ⟨_,hmem,by simp [h]⟩
   generalize l[i]=x at hgt htk hmem hfx hbad
   simp +decide only [↓evd,evw,evz,reduceCtorEq,↓reduceIte,e0,e3,eSteps,hlt']
   refine awp_loop (fun m' fr ρ=>∃ j,m'+j=x.c.length∧fr.get 0=eSteps l∧fr.get 3= .int .i64 (i:Nat)∧fr.get 4= .int .i64 (j:Nat)∧(x.c.take j).all (fun c=>decide (c.text.length≤60))=true∧ρ.W=W∧ρ.F0=F) ?_ (m:=x.c.length) ?_
   ·clear e0 e3 hW hF
    rintro m' fr ρ ⟨j,hj,e0,e3,e4,hja,hW,hF⟩
    by_cases hjt:j<x.c.length
    ·have hjt':(j:Int)<(x.c.length:Int):=by omega
     have hsj:=wrap_suc (i:=j) (by have:=hfx.1;omega)
     have hgj:=map_get eChg x.c j hjt
     have htj:=List.take_succ_eq_append_getElem hjt
     have hmj:=List.getElem_mem hjt
     generalize x.c[j]=c at hgj htj hmj
     by_cases h60:(60:Int)<(c.text.length:Int)
     ·have hf:fewB20 l=false:=hbad (by
       simp only [fewOne,Bool.and_eq_false_iff,List.all_eq_false]
       exact .inl (.inl ⟨c,hmj,by simp;omega⟩))
      simp +decide only [↓evd,evw,evz,reduceCtorEq,↓reduceIte,e0,e3,e4,eSteps,eStep,hgt,hjt',hgj,h60]
      rw [hf]
      exact seen rfl hW hF
     ·simp +decide only [↓evd,evw,evz,reduceCtorEq,↓reduceIte,e0,e3,e4,eSteps,eStep,hgt,hjt',hgj,h60,hsj]
      refine ⟨m' - 1,by omega,j+1,by omega,rfl,?_,hW,hF⟩
      rw [htj,List.all_append,hja]
      simp;omega
    ·have hjt':¬(j:Int)<(x.c.length:Int):=by omega
     rw [List.take_of_length_le (by omega)] at hja
     have hjl:j=x.c.length:=by omega
     subst hjl
     by_cases h12:(12:Int)<(x.c.length:Int)
     ·have hf:fewB20 l=false:=hbad (by
       simp only [fewOne,Bool.and_eq_false_iff,decide_eq_false_iff_not]
       exact .inl (.inr (by omega)))
      simp +decide only [↓evd,evw,evz,reduceCtorEq,↓reduceIte,e0,e3,e4,eSteps,eStep,hgt,hjt',h12]
      rw [hf]
      exact seen rfl hW hF
     ·by_cases h20:(20:Int)<(x.groups.length:Int)
      ·have hf:fewB20 l=false:=hbad (by
        simp only [fewOne,Bool.and_eq_false_iff,decide_eq_false_iff_not]
        exact .inr (by omega))
       simp +decide only [↓evd,evw,evz,reduceCtorEq,↓reduceIte,e0,e3,e4,eSteps,eStep,hgt,hjt',h12,h20]
       rw [hf]
       exact seen rfl hW hF
      ·simp +decide only [↓evd,evw,evz,reduceCtorEq,↓reduceIte,e0,e3,e4,eSteps,eStep,hgt,hjt',h12,h20,hs]
       refine ⟨m - 1,by omega,i+1,by omega,rfl,?_,hW,hF⟩
       rw [htk,List.all_append,ha]
       simp only [List.all_cons,List.all_nil,fewOne,hja,Bool.true_and,Bool.and_true,Bool.and_eq_true,decide_eq_true_eq]
       omega
   ·refine ⟨0,by omega,?_⟩
    simp +decide only [evw,↓reduceIte,e0,e3,eSteps]
    simp [hW,hF]
  ·have hlt':¬(i:Int)<(l.length:Int):=by omega
   rw [List.take_of_length_le (by omega)] at ha
   have hf:fewB20 l=decide ((l.length:Int)≤20):=by
    simp only [fewB20,ha,Bool.true_and]
    exact decide_eq_decide.2 (by omega)
   simp +decide only [↓evd,evw,evz,reduceCtorEq,↓reduceIte,e0,e3,eSteps,hlt']
   rw [hf]
   exact seen rfl hW hF
 ·refine ⟨0,by omega,?_⟩
  simp +decide only [evw,↓reduceIte,eSteps]
end Go.Proofs.YtioampofolilnaaGreat.M
namespace Go.Proofs.YtioampofolilnaaGreat.M
open Go Go.Mini
attribute [local congr] go1_congr goM_congr goG_congr goV_congr drawwp_congr Xwp_congr
def hS:List Step:=[⟨0,0,1,0,[⟨0,0,[97,98,99]⟩],[]⟩,⟨0,1,2,0,[⟨1,2,[88]⟩],[]⟩]
def hE:Eng:=⟨[at1 97 [],⟨[88],2,2,0,[]⟩,at1 98 [⟨2,2⟩],at1 99 []],⟨[[],[],[]],0,[1,2],[]⟩⟩
def hD1:Dlt:=⟨3,[⟨0,1,[]⟩,⟨0,0,[88]⟩,⟨2,3,[]⟩]⟩
theorem hk1:hS.foldl doB Eng.new=hE:=by kernel_rfl
theorem hk2:betwE hE 1 2=(hD1,0):=by kernel_rfl
theorem hk3:betwE hE 2 1=(⟨3,[⟨0,1,[]⟩,⟨0,0,[98]⟩,⟨2,3,[]⟩]⟩,0):=by kernel_rfl
theorem hk4:sinceE hE 1=(1,1,0):=by kernel_rfl
theorem hk5:betwE hE 0 9=(⟨0,[]⟩,190):=by kernel_rfl
theorem hD_ok (b:UInt8) (hb:elemOk 3 ⟨0,0,[b]⟩ 1 true true=true):DOk ⟨3,[⟨0,1,[]⟩,⟨0,0,[b]⟩,⟨2,3,[]⟩]⟩ where
 b0:=show (0:Int)≤3 by decide
 b1:=show (3:Int)≤20000 by decide
 few:=by simp
 wf:=⟨⟨⟨trivial,rfl⟩,hb⟩,rfl⟩
 size:=by simp [keptL,putL]
theorem hk6:applyL [97,98,99] hD1.els=[97,88,99]:=by kernel_rfl
theorem hk7:applyL [97,88,99] [⟨0,1,[]⟩,⟨0,0,[98]⟩,⟨2,3,[]⟩]=[97,98,99]:=by kernel_rfl
set_option maxHeartbeats 2000000 in
theorem known22_call (σ:Heap) (hd:σ.F0.dr=false):ACall Tryz.prog n_palinodelaw22_known [] σ (.bool true) σ:=by
 refine gc_call rfl (spec_of_awp mixed c_palinodelaw22_known (tl rfl) ?_)
 unfold f_palinodelaw22_known
 obtain ⟨σ0,hσ0⟩:∃ σ0,σ0=((σ.new (.cells [.int .i64 0,.int .i64 0,.str [97,98,99]] none)).new (.cells [.int .i64 1,.int .i64 2,.str [88]] none)).new (.cells [.int .i64 0,.int .i64 0,.int .i64 1,.int .i64 0,.slc (.new σ.next) 0 1 (.ex 1),.nils,.int .i64 0,.int .i64 1,.int .i64 2,.int .i64 0,.slc (.new (σ.next+1)) 0 1 (.ex 1),.nils] none):=⟨_,rfl⟩
 obtain ⟨τ0,hsee,s1,s2,s3,s4⟩:=sees_steps2 (σ:=σ0) (A:=σ.next) (B:=σ.next+1) (K:=σ.next+2) ⟨0,0,[97,98,99]⟩ ⟨1,2,[88]⟩ 0 0 1 0 0 1 2 0
  (by rw [hσ0,Heap.get_new,if_neg (by simp only [Heap.new_next];omega),Heap.get_new,if_neg (by simp only [Heap.new_next];omega),Heap.get_new,if_pos rfl])
  (by rw [hσ0,Heap.get_new,if_neg (by simp only [Heap.new_next];omega),Heap.get_new,if_pos (by simp only [Heap.new_next])])
  (by rw [hσ0,Heap.get_new,if_pos (by simp only [Heap.new_next])]) (by omega) (by omega) (by omega)
 have hk0:Keep [] σ τ0:=⟨by rw [s1,hσ0];rfl,by rw [s2,hσ0];rfl,by rw [s3,hσ0];simp only [Heap.new_next];omega,fun q hq _=>by
  rw [s4 q (by omega) (by omega) (by omega),hσ0,Heap.get_new,if_neg (by simp only [Heap.new_next];omega),Heap.get_new,if_neg (by simp only [Heap.new_next];omega),Heap.get_new,if_neg (by omega)]⟩
 have hbo:=both22_at τ0 (by rw [hk0.2.1];exact hd) hS (by decide) (by decide)
 rw [hk1] at hbo
 simp +decide only [↓evd,evw,reduceCtorEq,↓reduceIte]
 rw [← hσ0]
 refine mspec_seen (.cons hsee (.nil _)) ?_
 refine hbo.mono ?_
 rintro v τ ⟨k1,k2,fp1,fp2,rfl,hT⟩
 have hE0:=hT.eng
 have hkτ:=hk0.trans hT.keep (fun x hx=>nomatch hx)
 clear hT hk0 s4 hsee hσ0
 have q1:=fun ρ (h:IsEng ρ k1 hE fp1)=>between_call h 1 2
 have q2:=fun ρ (h:IsEng ρ k1 hE fp1)=>between_call h 2 1
 have q3:=fun ρ (h:IsEng ρ k1 hE fp1)=>since_call h 1
 have q4:=fun ρ (h:IsEng ρ k1 hE fp1)=>between_call h 0 9
 simp only [hk2,hk3,hk4,hk5,eDelta,eChgs] at q1 q2 q3 q4
 have a1:=fun ρ=>apply_call ρ hD1 [97,98,99] (hD_ok 88 (by kernel_rfl)) rfl
 have a2:=fun ρ=>apply_call ρ ⟨3,[⟨0,1,[]⟩,⟨0,0,[98]⟩,⟨2,3,[]⟩]⟩ [97,88,99] (hD_ok 98 (by kernel_rfl)) rfl
 simp only [hk6,hk7,eDelta,eChgs] at a1 a2
 have b0:((0:Int)==0)=true:=rfl
 have b1:(((1:Nat):Int)==1)=true:=rfl
 have b1':((1:Int)==1)=true:=rfl
 have b2:((190:Int)==190)=true:=rfl
 generalize hm1:List.map eChg hD1.els=m1 at q1 a1
 generalize hm2:List.map eChg [⟨0,1,[]⟩,⟨0,0,[98]⟩,⟨2,3,[]⟩]=m2 at q2 a2
 have hb3:hD1.base=3:=rfl
 rw [hb3] at q1
 simp only [hb3] at a1
 simp +decide only [↓evd,evw,reduceCtorEq,↓reduceIte]
 refine MSpec.of (q1 _ hE0) ?_
 have e1:=hE0.keep ((Keep.refl [] _).junk (.cells [.int .i64 0,.nils] none) (.cells [.int .i64 3,.fsl 3 m1] none)) (fun y _=>by simp)
 simp +decide only [↓evd,evw,reduceCtorEq,↓reduceIte]
 refine MSpec.of (q2 _ e1) ?_
 have e2:=e1.keep ((Keep.refl [] _).junk (.cells [.int .i64 0,.nils] none) (.cells [.int .i64 3,.fsl 3 m2] none)) (fun y _=>by simp)
 simp +decide only [↓evd,evw,reduceCtorEq,↓reduceIte]
 refine MSpec.of (q3 _ e2) ?_
 simp +decide only [↓evd,evw,reduceCtorEq,↓reduceIte]
 refine MSpec.of (q4 _ e2) ?_
 have n1:(τ.next+1=τ.next)=False:=eq_false (by omega)
 have n2:(τ.next+1+1=τ.next)=False:=eq_false (by omega)
 have n3:(τ.next+1+1=τ.next+1)=False:=eq_false (by omega)
 have n4:(τ.next=τ.next+1)=False:=eq_false (by omega)
 simp +decide only [↓evd,evw,reduceCtorEq,↓reduceIte,n1,n2]
 refine MSpec.of (a1 _) ?_
 simp +decide only [↓evd,evw,reduceCtorEq,↓reduceIte,n3]
 refine MSpec.of (a2 _) ?_
 simp +decide only [↓evd,evw,reduceCtorEq,↓reduceIte,aStr_self]
 have hnn:=hkτ.2.2.1
 exact ⟨hkτ.1,hkτ.2.1,fun q hq=>by rw [if_neg (by omega),if_neg (by omega),if_neg (by omega),if_neg (by omega),if_neg (by omega),if_neg (by omega)];exact hkτ.2.2.2 q hq (by simp)⟩
abbrev t_Cell:TypeId:=129
abbrev Cel:=Int × UInt8
def eCel (c:Cel):AVal:= .agg [.int .i64 c.1,.int .u8 c.2.toNat]
def tStep (r:List Chg) (c:Cel):List Chg:=if c.1<0 then mkP r [c.2] else mkC r c.1 (c.1+1)
def tolds (l:List Cel):List Chg:=l.foldl tStep []
def oneC (c:Cel):Chg:=if c.1<0 then ⟨0,0,[c.2]⟩ else ⟨c.1,c.1+1,[]⟩
def toldE (base:Int) (l:List Cel):Dlt × Int:=
 if (tolds l).all (fun e=>valid e.text)=true then (if (tolds l).length≤60 then (⟨base,(tolds l).reverse⟩,0) else (⟨0,[]⟩,70)) else (⟨0,[]⟩,12)
theorem tolds_take {l:List Cel} {i:Nat} (h:i<l.length):tolds (l.take (i+1))=tStep (tolds (l.take i)) l[i]:=by
 rw [tolds,List.take_succ_eq_append_getElem h,List.foldl_append];rfl
theorem tStep_nil (c:Cel):tStep [] c=[oneC c]:=by
 have:¬c.1=c.1+1:=by omega
 by_cases h:c.1<0 <;> simp [tStep,oneC,h,mkP,mkC,this]
theorem tStep_txt {t:List UInt8} {r:List Chg} {c:Cel} (ht:t≠[]) (h:c.1<0):tStep (⟨0,0,t⟩::r) c=⟨0,0,t ++ [c.2]⟩::r:=by
 simp [tStep,h,mkP,isCp,ht]
theorem tStep_txtE {t:List UInt8} {r:List Chg} {c:Cel} (ht:t≠[]) (h:¬c.1<0):tStep (⟨0,0,t⟩::r) c=oneC c::⟨0,0,t⟩::r:=by
 have:¬c.1=c.1+1:=by omega
 simp [tStep,h,mkC,isCp,ht,oneC,this]
theorem tStep_cp {f g:Int} {r:List Chg} {c:Cel} (hg:c.1=g) (h:¬g<0):tStep (⟨f,g,[]⟩::r) c=⟨f,c.1+1,[]⟩::r:=by
 subst hg
 have:¬c.1=c.1+1:=by omega
 simp [tStep,h,mkC,isCp,this]
theorem tStep_cpE {f g:Int} {r:List Chg} {c:Cel} (hg:c.1≠g):tStep (⟨f,g,[]⟩::r) c=oneC c::⟨f,g,[]⟩::r:=by
 have:¬c.1=c.1+1:=by omega
 by_cases h:c.1<0
 ·simp [tStep,h,mkP,isCp,oneC]
 ·simp [tStep,h,mkC,isCp,oneC,this,Ne.symm hg]
theorem tStep_len (r:List Chg) (c:Cel):(tStep r c).length≤r.length+1:=by
 unfold tStep;split
 ·exact mkP_len r _
 ·exact mkC_len r _ _
theorem tolds_len {l:List Cel}:∀ i,i≤l.length→(tolds (l.take i)).length≤i
 | 0,_=>by simp [tolds]
 | i+1,h=>by
  rw [tolds_take (show i<l.length by omega)]
  have:=tStep_len (tolds (l.take i)) l[i]
  have:=tolds_len (l:=l) i (by omega)
  omega
theorem tStep_txl {n:Nat} {r:List Chg} (c:Cel) (h:∀ e∈r,e.text.length≤n):∀ e∈tStep r c,e.text.length≤n+1:=by
 unfold tStep;split
 ·exact fun e he=>mkP_txt h e he
 ·exact fun e he=>Nat.le_succ_of_le (mkC_txt h e he)
theorem tolds_txl {l:List Cel}:∀ i,i≤l.length→∀ e∈tolds (l.take i),e.text.length≤i
 | 0,_=>by simp [tolds]
 | i+1,h=>by
  rw [tolds_take (show i<l.length by omega)]
  exact tStep_txl _ (tolds_txl i (by omega))
theorem mk_push {σ:Heap} {k:Nat} {base:Int} {r:List Chg} {fp:List Nat} (h:IsMk σ k base r fp) (hl:r.length≤900000) (b:Chg):
  ∃ x x' τ,σ.get k=some (.cells [.int .i64 base,x] none)∧x.isRaw=false∧aApp t_Elem 3 32 x (.slc (.new σ.next) 0 1 (.ex 1)) (σ.new (.cells [.int .i64 b.frm,.int .i64 b.to,.str b.text] none))=some (x',τ)∧τ.get k=some (.cells [.int .i64 base,x] none)∧x'.isCell=true∧x'.isRaw=false∧x'.cells=[x']∧
   ∃ fp',IsMk (τ.set k (.cells [.int .i64 base,x'] none)) k base (b::r) fp'∧Keep fp σ (τ.set k (.cells [.int .i64 base,x'] none))∧Fresh fp σ fp':=by
 obtain ⟨x,hb,hO,hkx,hkn,rfl⟩:=h
 obtain ⟨x',τ,g1,g2,g3,g4,g5⟩:=own_elem hO (Nat.zero_le _) b (by rw [List.length_reverse];omega)
 have hk':k∉uid x':=fun hm=>by
  rcases g5 k hm with h1 | h1
  ·omega
  ·exact hkx h1
 have hkp:Keep (k::uid x) σ τ:=⟨g3.1,g3.2.1,g3.2.2.1,fun q hq hn=>g4 q hq (fun hm=>hn (List.mem_cons_of_mem _ hm))⟩
 refine ⟨x,x',τ,hb,by rcases hO.2 with ⟨rfl,_⟩ | ⟨K,rfl,_⟩ <;> rfl,g1,by rw [g4 k hkn hkx];exact hb,own_kind g2,by rcases g2.2 with ⟨rfl,_⟩ | ⟨K,rfl,_⟩ <;> rfl,by rcases g2.2 with ⟨rfl,_⟩ | ⟨K,rfl,_⟩ <;> rfl,k::uid x',⟨x',by rw [Heap.get_set,if_pos rfl],?_,hk',by rw [Heap.set_next];have:=g3.2.2.1;omega,rfl⟩,hkp.set (.inl (by simp)) _,fun y hy=>?_⟩
 ·rw [List.reverse_cons]
  exact Own.set g2 (fun K o n c e hj=>hk' (mem_uid.2 ⟨o,n,c,by rw [hj];exact e⟩)) _
 ·rcases List.mem_cons.1 hy with rfl | hy
  ·exact .inl (by simp)
  ·rcases g5 y hy with h1 | h1
   ·exact .inr h1
   ·exact .inl (List.mem_cons_of_mem _ h1)
theorem row_byte {B:Nat} {σ:Heap} {x:AVal} {s:List UInt8} (h:Row B σ t_u8 1 x (byteCells s)) (hB:B≤σ.next) (b:UInt8) (hr:s.length≤1000000):
  ∃ x' τ,aApp t_u8 1 1 x (.slc (.new σ.next) 0 1 (.ex 1)) (σ.new (.cells [.int .u8 b.toNat] none))=some (x',τ)∧Row B τ t_u8 1 x' (byteCells (s ++ [b]))∧Ext B σ τ:=by
 have hsrc:=src_one (σ:=σ.new (.cells [.int .u8 b.toNat] none)) (K:=σ.next) (k:=1) (cs:=[.int .u8 b.toNat]) (opn:=none) (z:= .int .u8 b.toNat) (cap:= .ex 1) (by rw [Heap.get_new,if_pos rfl]) rfl rfl
 obtain ⟨x',τ,g1,g2,g3,_⟩:=row_app2 (bytes:=1) (h.new (.cells [.int .u8 b.toNat] none)) (Nat.le_succ_of_le hB) hsrc.1 hsrc.2 (by intro z hz;simp at hz;subst hz;rfl) rfl (by omega) (by omega) (by rw [byteCells_len];unfold maxRoom;simp;omega)
 exact ⟨x',τ,g1,by rw [byteCells_app];exact g2,((Ext.refl B σ).new hB _).trans g3⟩
theorem row_one {σ:Heap} (b:UInt8):Row σ.next (σ.new (.cells [.int .u8 b.toNat] none)) t_u8 1 (.slc (.new σ.next) 0 1 (.ex 1)) (byteCells [b]):=
 ⟨by intro z hz;simp [byteCells] at hz;subst hz;rfl,.inr ⟨σ.next,_,_,_,rfl,by rw [Heap.get_new,if_pos rfl],rfl,Nat.le_refl _,by simp,.inr ⟨1,rfl,by simp [byteCells],rfl⟩⟩⟩
theorem row_bstr {B:Nat} {σ:Heap} {x:AVal} {s:List UInt8} (h:Row B σ t_u8 1 x (byteCells s)):aBstr x σ=some (.str s):=by
 rcases h.2 with ⟨rfl,h0⟩ | ⟨K,cap,cs,opn,rfl,hg,ht,_,_,hc⟩
 ·have:s=[]:=by simpa [byteCells] using h0
  subst this;rfl
 ·rw [byteCells_flat] at ht
  have hle:(byteCells s).length * 1≤cs.length:=by
   rcases hc with ⟨_,_,h3⟩ | ⟨c,_,h2,h3⟩ <;> omega
  have hcf:cellsFrom σ (.new K) 0 ((byteCells s).length * 1)=some (byteCells s):=by
   rw [cellsFrom_get hg _ _ (by omega),List.drop_zero,ht]
  simp only [aBstr,slcCells]
  rcases hc with ⟨rfl,_⟩ | ⟨c,rfl,h2,_⟩
  ·simp only [Nat.le_refl,if_true,hcf,asBytes_app,Option.map_some]
  ·simp only [Nat.le_refl,if_true,hcf,asBytes_app,Option.map_some]
structure TellI (σ:Heap) (base:Int) (l:List Cel) (i:Nat) (τ:Heap):Prop where
 res:τ.get σ.next=some (.cells [.int .i64 0,.nils] none)
 els:∃ fp,IsMk τ (σ.next+1) base (tolds (l.take i)) fp∧∀ y∈fp,σ.next<y
 keep:Keep [] σ τ
 low:σ.next+2≤τ.next
 new:∀ h:i<l.length,tStep (tolds (l.take i)) l[i]=oneC l[i]::tolds (l.take i)
theorem TellI.push {σ τ:Heap} {base:Int} {l:List Cel} {i k:Nat} {r:List Chg} {b:Chg} (h:TellI σ base l i τ) {τ1:Heap} (hk:Keep [] τ τ1) (hr:tolds (l.take i)=r) (hb:tolds (l.take k)=b::r) (hl:r.length≤900000) (hn:∀ h:k<l.length,tStep (tolds (l.take k)) l[k]=oneC l[k]::tolds (l.take k)):
  ∃ x x' τ2,τ1.get (σ.next+1)=some (.cells [.int .i64 base,x] none)∧x.isRaw=false∧aApp t_Elem 3 32 x (.slc (.new τ1.next) 0 1 (.ex 1)) (τ1.new (.cells [.int .i64 b.frm,.int .i64 b.to,.str b.text] none))=some (x',τ2)∧τ2.get (σ.next+1)=some (.cells [.int .i64 base,x] none)∧x'.isCell=true∧x'.isRaw=false∧x'.cells=[x']∧τ2.W=τ1.W∧TellI σ base l k (τ2.set (σ.next+1) (.cells [.int .i64 base,x'] none)):=by
 obtain ⟨fp,hM,hfp⟩:=h.els
 rw [hr] at hM
 have hM1:=hM.keep hk (fun y _=>by simp)
 obtain ⟨x,x',τ2,q1,q2,q3,q4,q5,q6,q7,fp',q8,q9,q10⟩:=mk_push hM1 hl b
 have hlow:=h.low
 have hn1:=hk.2.2.1
 refine ⟨x,x',τ2,q1,q2,q3,q4,q5,q6,q7,q9.1,?_,⟨fp',by rw [hb];exact q8,fun y hy=>?_⟩,?_,by have:=q9.2.2.1;omega,hn⟩
 ·rw [q9.2.2.2 _ (by omega) (fun hm=>by have:=hfp _ hm;omega),hk.get (by omega)];exact h.res
 ·rcases q10 y hy with h1 | h1
  ·exact hfp y h1
  ·omega
 ·exact ⟨q9.1.trans (hk.1.trans h.keep.1),q9.2.1.trans (hk.2.1.trans h.keep.2.1),by have:=q9.2.2.1;have:=h.keep.2.2.1;omega,fun q hq _=>by rw [q9.2.2.2 q (by omega) (fun hm=>by have:=hfp _ hm;omega),hk.get (by omega),h.keep.get hq]⟩
theorem flat3_txt:∀ (l:List Chg) (i:Nat) (h:i<l.length),((l.map eChg).flatMap AVal.cells)[i * 3+2]? =some (.str l[i].text)
 | e::l,0,_=>rfl
 | e::l,i+1,h=>by
  rw [show (i+1) * 3+2=i * 3+2+1+1+1 by omega]
  exact flat3_txt l i (by simpa using h)
set_option maxHeartbeats 4000000 in
theorem rtold_call (σ:Heap) (base:Int) (l:List Cel) (hl:l.length≤100000) (hc:∀ c∈l,c.1≤1000000):ACall Tryz.prog n_palinoderef11_Told [.int .i64 base,.fsl 2 (l.map eCel)] σ (.tup [eDelta (toldE base l).1,.int .i64 (toldE base l).2]) σ:=by
 refine seen_call (by simp only [AVal.pure,AVal.pures,eDelta_pure];rfl) (spec_of_awp mixed c_palinoderef11_Told (tl rfl) ?_)
 unfold f_palinoderef11_Told
 have n1:(σ.next+1=σ.next)=False:=eq_false (by omega)
 have n2:(σ.next=σ.next+1)=False:=eq_false (by omega)
 have hlm:(l.map eCel).length=l.length:=List.length_map _
 simp +decide only [↓evd,evw,reduceCtorEq,↓reduceIte]
 refine awp_loop (fun m fr τ=>∃ (i:Nat),m+i=l.length∧fr.get 0= .int .i64 base∧fr.get 1= .fsl 2 (l.map eCel)∧fr.get 4= .ptr (.new σ.next) 0∧fr.get 5= .int .i64 0∧fr.get 6= .ptr (.new (σ.next+1)) 0∧fr.get 7= .int .i64 (i:Nat)∧TellI σ base l i τ) ?_ (m:=l.length) ?_
 case refine_2=>
  refine ⟨0,by omega,?_⟩
  simp +decide only [evw,↓reduceIte]
  refine ⟨?_,⟨[σ.next+1],⟨.nils,?_,Own.nil _ _ _ _,by simp [uid],by simp,rfl⟩,by simp⟩,?_,by simp,fun h=>tStep_nil _⟩
  ·rw [Heap.get_set,if_neg (by omega),Heap.get_new,if_neg (by simp),Heap.get_new,if_pos rfl]
  ·rw [Heap.get_set,if_pos rfl]
  ·exact (((Keep.refl [] σ).new _).new _).set (.inr (by omega)) _
 rintro m fr τ ⟨i,hi,e0,e1,e4,e5,e6,e7,hT⟩
 by_cases hlt:i<l.length
 ·have hlt':(i:Int)<(l.length:Int):=by omega
  have hg:=map_get eCel l i hlt
  have hw:=wrap_succ (i:=i) (by omega)
  have hnew:=hT.new hlt
  have htk:=tolds_take hlt
  rw [hnew] at htk
  generalize hcq:l[i]=c at hg hnew htk
  have hcr:c.1≤1000000:=by rw [← hcq];exact hc _ (List.getElem_mem hlt)
  have hn900:=tolds_len (l:=l) i (by omega)
  by_cases hneg:c.1<0
  ·have hone:oneC c=⟨0,0,[c.2]⟩:=by rw [oneC,if_pos hneg]
   rw [hone] at htk
   simp +decide only [↓evd,evw,evz,reduceCtorEq,↓reduceIte,e1,e7,hlt',hg,eCel,hneg,hw]
   refine awp_loop (fun n fq ρ=>∃ (k:Nat) (t:List UInt8),n+k=l.length∧i<k∧fq.get 0= .int .i64 base∧fq.get 1= .fsl 2 (l.map eCel)∧fq.get 4= .ptr (.new σ.next) 0∧fq.get 5= .int .i64 0∧fq.get 6= .ptr (.new (σ.next+1)) 0∧fq.get 8= .int .i64 (k:Nat)∧Row τ.next ρ t_u8 1 (fq.get 9) (byteCells t)∧Keep [] τ ρ∧t≠[]∧t.length≤k∧tolds (l.take k)=⟨0,0,t⟩::tolds (l.take i)) ?_ (m:=l.length - (i+1)) ?_
   case refine_2=>
    refine ⟨i+1,[c.2],by omega,by omega,?_⟩
    simp +decide only [evw,reduceCtorEq,↓reduceIte,e0,e1,e4,e5,e6]
    exact ⟨row_one c.2,(Keep.refl [] τ).new _,by omega,htk⟩
   rintro n fq ρ ⟨k,t,hk,hik,f0,f1,f4,f5,f6,f8,hR,hK,ht0,htl,htd⟩
   generalize hx9:fq.get 9=x9 at hR
   have hbs:=row_bstr hR
   by_cases hkl:k<l.length
   ·have hkl':(k:Int)<(l.length:Int):=by omega
    have hgk:=map_get eCel l k hkl
    have hwk:=wrap_succ (i:=k) (by omega)
    have htk2:=tolds_take hkl
    rw [htd] at htk2
    by_cases hkn:l[k].1<0
    ·rw [tStep_txt ht0 hkn] at htk2
     generalize l[k]=d at hgk hkn htk2
     obtain ⟨x',ρ',g1,g2,g3⟩:=row_byte hR hK.2.2.1 d.2 (by omega)
     simp +decide only [↓evd,evw,evz,reduceCtorEq,↓reduceIte,f0,f1,f4,f5,f6,f8,hx9,hkl',hgk,eCel,hkn,hwk,g1]
     exact ⟨n - 1,by omega,k+1,t ++ [d.2],by omega,by omega,rfl,g2,⟨g3.1.trans hK.1,g3.2.1.trans hK.2.1,Nat.le_trans hK.2.2.1 g3.2.2.1,fun q hq _=>by rw [g3.2.2.2 q hq];exact hK.get hq⟩,by simp,by simp;omega,htk2⟩
    ·obtain ⟨x,x',τ2,q1,q2,q3,q4,q5,q6,q7,q8,q9⟩:=hT.push (k:=k) hK rfl htd (by omega) (fun h=>by rw [htd];exact tStep_txtE ht0 hkn)
     generalize l[k]=d at hgk hkn
     simp only at q3
     simp +decide only [↓evd,evw,evz,reduceCtorEq,↓reduceIte,f0,f1,f4,f5,f6,f8,hx9,hkl',hgk,eCel,hkn,hbs,q1,q3,q4,q5,q6,q7]
     exact ⟨l.length - k,by omega,k,by omega,rfl,q9⟩
   ·have hkl':¬(k:Int)<(l.length:Int):=by omega
    obtain ⟨x,x',τ2,q1,q2,q3,q4,q5,q6,q7,q8,q9⟩:=hT.push (k:=k) hK rfl htd (by omega) (fun h=>absurd h hkl)
    simp only at q3
    simp +decide only [↓evd,evw,evz,reduceCtorEq,↓reduceIte,f0,f1,f4,f5,f6,f8,hx9,hkl',hbs,q1,q3,q4,q5,q6,q7]
    exact ⟨l.length - k,by omega,k,by omega,rfl,q9⟩
  ·have hone:oneC c=⟨c.1,c.1+1,[]⟩:=by rw [oneC,if_neg hneg]
   rw [hone] at htk
   simp +decide only [↓evd,evw,evz,reduceCtorEq,↓reduceIte,e1,e7,hlt',hg,eCel,hneg,hw]
   refine awp_loop (fun n fq ρ=>∃ (j:Nat) (d:Cel),n+(j+1)=l.length∧i≤j∧fq.get 0= .int .i64 base∧fq.get 1= .fsl 2 (l.map eCel)∧fq.get 4= .ptr (.new σ.next) 0∧fq.get 5= .int .i64 0∧fq.get 6= .ptr (.new (σ.next+1)) 0∧fq.get 7= .int .i64 (i:Nat)∧fq.get 8= .int .i64 ((j+1:Nat):Int)∧l[j]? =some d∧0≤d.1∧d.1≤1000000∧ρ=τ∧tolds (l.take (j+1))=⟨c.1,d.1+1,[]⟩::tolds (l.take i)) ?_ (m:=l.length - (i+1)) ?_
   case refine_2=>
    refine ⟨i,c,by omega,by omega,?_⟩
    simp +decide only [evw,↓reduceIte,e0,e1,e4,e5,e6,e7]
    exact ⟨by rw [← hcq];exact List.getElem?_eq_getElem hlt,by omega,hcr,htk⟩
   rintro n fq ρ ⟨j,d,hk,hik,f0,f1,f4,f5,f6,f7,f8,hjd,hd0,hd1,rfl,htd⟩
   have hwj:IntKind.i64.wrap (((j+1:Nat):Int) - 1)=(j:Int):=by rw [wrap_id (by omega) (by omega)];omega
   have hjl:(j:Int)<(l.length:Int):=by omega
   have hj0:(0:Int)≤(j:Int):=by omega
   have hgj:(l.map eCel)[j]? =some (eCel d):=by rw [List.getElem?_map,hjd];rfl
   have hwd:IntKind.i64.wrap (d.1+1)=d.1+1:=wrap_id (by omega) (by omega)
   by_cases hkl:j+1<l.length
   ·have hkl':((j+1:Nat):Int)<(l.length:Int):=by omega
    have hgk:=map_get eCel l (j+1) hkl
    have hwk:=wrap_succ (i:=j+1) (by omega)
    have htk2:=tolds_take hkl
    have hc2:=hc _ (List.getElem_mem hkl)
    have hjd2:=List.getElem?_eq_getElem hkl
    rw [htd] at htk2
    by_cases hkn:l[j+1].1=d.1+1
    ·rw [tStep_cp hkn (by omega)] at htk2
     generalize l[j+1]=d2 at hgk hkn htk2 hc2 hjd2
     simp +decide only [↓evd]
     with_reducible refine draw_of_grow (fun _=>True) (ms:=[false,false,false,false,false,false,false,false,false,false,false,false,false,false,false,false,false,false,false]) (by kernel_rfl) ?_
     simp +decide only [↓evd,evw,evz,reduceCtorEq,↓reduceIte,f0,f1,f4,f5,f6,f7,f8,hkl',hgk,hgj,hj0,eCel,hwj,hwd,hkn,hwk]
     exact ⟨n - 1,by omega,j+1,d2,by omega,by omega,rfl,hjd2,by omega,hc2,htk2⟩
    ·obtain ⟨x,x',τ2,q1,q2,q3,q4,q5,q6,q7,q8,q9⟩:=hT.push (k:=j+1) (Keep.refl _ _) rfl htd (by omega) (fun h=>by rw [htd];exact tStep_cpE hkn)
     have hkb:(l[j+1].1==d.1+1)=false:=by simpa using hkn
     generalize l[j+1]=d2 at hgk hkb
     simp only at q3
     simp +decide only [↓evd]
     with_reducible refine draw_of_grow (fun _=>True) (ms:=[false,false,false,false,false,false,false,false,false,false,false,false,false,false,false,false,false,false,false]) (by kernel_rfl) ?_
     simp +decide only [↓evd,evw,evz,↓reduceIte,f1,f8,hkl',hgk,hgj,hj0,eCel,hwj,hwd,hkb]
     with_reducible refine draw_of_grow (fun q=>q=σ.next+1) (ms:=[false,false,false,false,false,false,false,false,false,false,false,false,false,false,false,false,false,false,true]) (by kernel_rfl) ?_
     simp +decide only [↓evd,evw,reduceCtorEq,↓reduceIte,f1,f6,f7,f8,q1,hg,hgj,hj0,eCel,hwj,hwd]
     refine ⟨.inr (keeps_new (fun q hq=>by subst hq;have:=hT.low;omega) _),?_⟩
     simp +decide only [↓evd,evw,reduceCtorEq,↓reduceIte,q3]
     refine ⟨.inr ⟨by rw [q8];rfl,fun q hq=>by subst hq;rw [q4,Heap.get_new,if_neg (by have:=hT.low;omega),q1]⟩,?_⟩
     simp +decide only [↓evd,evw,reduceCtorEq,↓reduceIte,f0,f1,f4,f5,f6,f8,q4,q5,q6,q7]
     exact ⟨l.length - (j+1),by omega,j+1,by omega,rfl,q9⟩
   ·have hkl':¬((j+1:Nat):Int)<(l.length:Int):=by omega
    obtain ⟨x,x',τ2,q1,q2,q3,q4,q5,q6,q7,q8,q9⟩:=hT.push (k:=j+1) (Keep.refl _ _) rfl htd (by omega) (fun h=>absurd h hkl)
    simp only at q3
    simp +decide only [↓evd]
    with_reducible refine draw_of_grow (fun _=>True) (ms:=[false,false,false,false,false,false,false,false,false,false,false,false,false,false,false,false,false,false,false]) (by kernel_rfl) ?_
    simp +decide only [↓evd,evw,evz,↓reduceIte,f1,f8,hkl']
    with_reducible refine draw_of_grow (fun q=>q=σ.next+1) (ms:=[false,false,false,false,false,false,false,false,false,false,false,false,false,false,false,false,false,false,true]) (by kernel_rfl) ?_
    simp +decide only [↓evd,evw,reduceCtorEq,↓reduceIte,f1,f6,f7,f8,q1,hg,hgj,hj0,eCel,hwj,hwd]
    refine ⟨.inr (keeps_new (fun q hq=>by subst hq;have:=hT.low;omega) _),?_⟩
    simp +decide only [↓evd,evw,reduceCtorEq,↓reduceIte,q3]
    refine ⟨.inr ⟨by rw [q8];rfl,fun q hq=>by subst hq;rw [q4,Heap.get_new,if_neg (by have:=hT.low;omega),q1]⟩,?_⟩
    simp +decide only [↓evd,evw,reduceCtorEq,↓reduceIte,f0,f1,f4,f5,f6,f8,q4,q5,q6,q7]
    exact ⟨l.length - (j+1),by omega,j+1,by omega,rfl,q9⟩
 ·have hlt':¬(i:Int)<(l.length:Int):=by omega
  have hti:l.take i=l:=List.take_of_length_le (by omega)
  obtain ⟨fp,hM,hfp⟩:=hT.els
  rw [hti] at hM
  obtain ⟨x,hb,hO,hkx,hkn,rfl⟩:=id hM
  have hxl:=hO.len
  have htl:=tolds_len (l:=l) l.length (Nat.le_refl _)
  have htx:=tolds_txl (l:=l) l.length (Nat.le_refl _)
  rw [List.take_length] at htl htx
  have hall:(tolds l).all (fun e=>valid e.text)=(tolds l).reverse.all (fun e=>valid e.text):=by rw [List.all_reverse]
  have hel:(tolds l).length=(tolds l).reverse.length:=by rw [List.length_reverse]
  have htx2:∀ e∈(tolds l).reverse,e.text.length≤l.length:=fun e he=>htx e (List.mem_reverse.1 he)
  rw [toldE,hall,hel]
  rw [hel] at htl
  generalize (tolds l).reverse=els at *
  rw [List.length_map] at hxl
  have hxr:x.isRaw=false:=by rcases hO.2 with ⟨rfl,_⟩ | ⟨K,rfl,_⟩ <;> rfl
  have hxc:x.isCell=true:=own_kind hO
  have hxx:x.cells=[x]:=by rcases hO.2 with ⟨rfl,_⟩ | ⟨K,rfl,_⟩ <;> rfl
  have hres:=hT.res
  have hKT:=hT.keep
  have fail:∀ c:Int,Keep [] σ (τ.set σ.next (.cells [.int .i64 0,.nils] none))∧∃ ρ,Sees (τ.set σ.next (.cells [.int .i64 0,.nils] none)) (.tup [.agg [.int .i64 0,.nils],.int .i64 c]) ρ (.tup [eDelta ⟨0,[]⟩,.int .i64 c])∧ρ.W=τ.W∧ρ.F0=τ.F0∧∀ q,q<σ.next→ρ.get q=if σ.next=q then some (.cells [.int .i64 0,.nils] none) else τ.get q:=fun c=>
   ⟨hKT.set (.inr (Nat.le_refl _)) _,_,SeesL.tup (.cons (SeesL.agg (.cons (Sees.refl _ _) (.cons (Sees.nils _ 3) (.nil _)))) (.cons (Sees.refl _ _) (.nil _))),rfl,rfl,fun q hq=>by rw [Heap.get_set]⟩
  simp +decide only [↓evd,evw,evz,reduceCtorEq,↓reduceIte,e1,e7,hlt']
  refine awp_loop (fun n fq ρ=>∃ (p:Nat),n+p=els.length∧fq.get 4= .ptr (.new σ.next) 0∧fq.get 6= .ptr (.new (σ.next+1)) 0∧fq.get 10= .int .i64 (p:Nat)∧ρ=τ∧(els.take p).all (fun e=>valid e.text)=true) ?_ (m:=els.length) ?_
  case refine_2=>
   refine ⟨0,by omega,?_⟩
   simp +decide only [evw,↓reduceIte,e4,e6]
   first | done | simp
  rintro n fq ρ ⟨p,hp,f4,f6,f10,rfl,hv⟩
  by_cases hpl:p<els.length
  ·have hpl':(p:Int)<(els.length:Int):=by omega
   have hp0:(0:Int)≤(p:Int):=by omega
   have hwp:=wrap_succ (i:=p) (by omega)
   have hpt:=htx2 _ (List.getElem_mem hpl)
   have hcell:=flat3_txt els p hpl
   have htk:=List.take_succ_eq_append_getElem hpl
   obtain ⟨K,rfl,hgK,hKn⟩:∃ K,x= .slc (.new K) 0 els.length (.gr 3)∧ρ.get K=some (.cells ((els.map eChg).flatMap AVal.cells) (some t_Elem))∧K<ρ.next:=by
    rcases hO.2 with ⟨_,h0⟩ | ⟨K,h1,h2,_,h3⟩
    ·have:els.length=0:=by rw [← List.length_map (f:=eChg),h0];rfl
     omega
    ·rw [List.length_map] at h1;exact ⟨K,h1,h2,h3⟩
   have hcl:ρ.cell (.new K) (p * 3+2)=some (.str els[p].text):=by simp only [Heap.cell,hgK];exact hcell
   have hva:=fun σ=>rvalid_call σ els[p].text (by unfold maxRoom;omega)
   generalize els[p]=e at hcl hva htk
   simp +decide only [↓evd,evw,reduceCtorEq,↓reduceIte,f6,f10,hb,hxl,hpl',hp0,hcl]
   refine MSpec.of (hva _) ?_
   cases hve:valid e.text
   ·have hn:¬els.all (fun e=>valid e.text)=true:=fun h=>by
     rw [← List.take_append_drop (p+1) els,htk] at h
     simp [hve] at h
    rw [if_neg hn]
    simp +decide only [↓evd,evw,reduceCtorEq,↓reduceIte,f4,hres]
    exact fail 12
   ·simp +decide only [↓evd,evw,reduceCtorEq,↓reduceIte,f4,f6,f10,hwp]
    refine ⟨n - 1,by omega,p+1,by omega,rfl,?_⟩
    rw [htk,List.all_append,hv];simp [hve]
  ·have hpl':¬(p:Int)<(els.length:Int):=by omega
   rw [List.take_of_length_le (by omega)] at hv
   rw [if_pos hv]
   by_cases h60:(60:Int)<(els.length:Int)
   ·rw [if_neg (by omega)]
    simp +decide only [↓evd,evw,reduceCtorEq,↓reduceIte,f4,f6,f10,hb,hxl,hpl',h60,hres]
    exact fail 70
   ·rw [if_pos (by omega)]
    simp +decide only [↓evd,evw,reduceCtorEq,↓reduceIte,f4,f6,f10,hb,hxl,hpl',hxc,h60,hres]
    have hlow:∀ q∈uid x,σ.next+1≤q:=fun q hq=>hfp q (List.mem_cons_of_mem _ hq)
    have hO2:Own (σ.next+1) (ρ.set σ.next (.cells [.int .i64 base,x] none)) t_Elem 3 x (els.map eChg):=
     Own.set (Own.raise hO hlow) (fun K o m c e hj=>by have:=hlow K (mem_uid.2 ⟨_,_,_,e⟩);omega) _
    obtain ⟨ρ2,s1,s2,s3,s4,s5⟩:=sees_delta (base:=base) hO2
    exact ⟨hKT.set (.inr (Nat.le_refl _)) _,ρ2,SeesL.tup (.cons s1 (.cons (Sees.refl _ _) (.nil _))),s2,s3,fun q hq=>by rw [s5 q (by omega),Heap.get_set]⟩
def cel1 (x y:Bool) (p:Nat) (b:UInt8):List Cel:=if y then (if x then [((p:Int),0)] else [(-1,b)]) else []
def celsA (x y:Bool):Nat→List UInt8→List Cel
 | _,[]=>[]
 | p,b::t=>cel1 x y p b ++ celsA x y (p+1) t
theorem celsA_app (x y:Bool):∀ (p:Nat) (a b:List UInt8),celsA x y p (a ++ b)=celsA x y p a ++ celsA x y (p+a.length) b
 | p,[],b=>by simp [celsA]
 | p,c::a,b=>by
  rw [List.cons_append,celsA,celsA_app x y (p+1) a b,celsA,List.append_assoc,List.length_cons,show p+1+a.length=p+(a.length+1) by omega]
theorem celsA_take (x y:Bool) (p:Nat) {t:List UInt8} {k:Nat} (h:k<t.length):celsA x y p (t.take (k+1))=celsA x y p (t.take k) ++ cel1 x y (p+k) t[k]:=by
 rw [List.take_succ_eq_append_getElem h,celsA_app]
 simp [celsA,List.length_take,Nat.min_eq_left (Nat.le_of_lt h)]
theorem celsA_len (x y:Bool):∀ (p:Nat) (t:List UInt8),(celsA x y p t).length≤t.length
 | _,[]=>by simp [celsA]
 | p,b::t=>by
  have:=celsA_len x y (p+1) t
  have:(cel1 x y p b).length≤1:=by unfold cel1;cases x <;> cases y <;> simp
  simp only [celsA,List.length_append,List.length_cons];omega
theorem celsA_le (x y:Bool):∀ (p:Nat) (t:List UInt8),∀ c∈celsA x y p t,c.1≤((p+t.length:Nat):Int)
 | _,[]=>by simp [celsA]
 | p,b::t=>fun c hc=>by
  rw [celsA,List.mem_append] at hc
  rcases hc with hc | hc
  ·unfold cel1 at hc
   cases x <;> cases y <;> simp at hc <;> subst hc <;> simp <;> omega
  ·have:=celsA_le x y (p+1) t c hc
   simp only [List.length_cons];omega
def cStep (x y:Bool) (t:List UInt8) (st:List Cel × Nat):List Cel × Nat:=(st.1 ++ celsA x y st.2 t,if x then st.2+t.length else st.2)
def cFold (frm to:Int) (uf ut:List Int) (l:List Atom):List Cel × Nat:=l.foldl (fun st a=>cStep (visible frm uf a) (visible to ut a) a.text st) ([],0)
theorem cFold_take {frm to:Int} {uf ut:List Int} {l:List Atom} {i:Nat} (h:i<l.length):cFold frm to uf ut (l.take (i+1))=cStep (visible frm uf l[i]) (visible to ut l[i]) l[i].text (cFold frm to uf ut (l.take i)):=by
 rw [cFold,List.take_succ_eq_append_getElem h,List.foldl_append];rfl
theorem cFold_small {frm to:Int} {uf ut:List Int} {l:List Atom} (h:∀ a∈l,a.text.length≤4):∀ i,i≤l.length→(cFold frm to uf ut (l.take i)).1.length≤4 * i∧(cFold frm to uf ut (l.take i)).2≤4 * i∧∀ c∈(cFold frm to uf ut (l.take i)).1,c.1≤((4 * i:Nat):Int)
 | 0,_=>by simp [cFold]
 | i+1,hi=>by
  obtain ⟨h1,h2,h3⟩:=cFold_small (frm:=frm) (to:=to) (uf:=uf) (ut:=ut) h i (by omega)
  have h4:=h _ (List.getElem_mem (show i<l.length by omega))
  rw [cFold_take (show i<l.length by omega)]
  generalize l[i]=a at h4
  have h5:=celsA_len (visible frm uf a) (visible to ut a) (cFold frm to uf ut (l.take i)).2 a.text
  have h6:=celsA_le (visible frm uf a) (visible to ut a) (cFold frm to uf ut (l.take i)).2 a.text
  refine ⟨by simp only [cStep,List.length_append];omega,by simp only [cStep];split <;> omega,fun c hc=>?_⟩
  simp only [cStep,List.mem_append] at hc
  rcases hc with hc | hc
  ·have:=h3 c hc;omega
  ·have:=h6 c hc;omega
def rbetwE (E:Eng) (frm to:Int):Dlt × Int:=
 if (E.R.live frm && E.R.live to)=true then toldE ((cFold frm to (E.R.undone frm) (E.R.undone to) E.l).2:Nat) (cFold frm to (E.R.undone frm) (E.R.undone to) E.l).1 else (⟨0,[]⟩,190)
theorem own_cel {B:Nat} {σ:Heap} {x:AVal} {l:List Cel} (h:Own B σ t_Cell 2 x (l.map eCel)) (hB:B≤σ.next) (b:Cel) (hr:l.length≤900000):
  ∃ x' τ,aApp t_Cell 2 16 x (.slc (.new σ.next) 0 1 (.ex 1)) (σ.new (.cells [.int .i64 b.1,.int .u8 b.2.toNat] none))=some (x',τ)∧Own B τ t_Cell 2 x' ((l ++ [b]).map eCel)∧Ext B σ τ∧(∀ q,q<σ.next→q∉uid x→τ.get q=σ.get q)∧(∀ q∈uid x',σ.next≤q∨q∈uid x):=by
 have hsrc:=src_one (σ:=σ.new (.cells [.int .i64 b.1,.int .u8 b.2.toNat] none)) (K:=σ.next) (k:=2) (cs:=[.int .i64 b.1,.int .u8 b.2.toNat]) (opn:=none) (z:=eCel b) (cap:= .ex 1) (by rw [Heap.get_new,if_pos rfl]) rfl rfl
 obtain ⟨x',τ,g1,g2,g3,g4,g5⟩:=own_app2 (bytes:=16) (h.new (.cells [.int .i64 b.1,.int .u8 b.2.toNat] none)) (Nat.le_succ_of_le hB) hsrc.1 hsrc.2 (by intro y hy;simp at hy;subst hy;rfl) rfl (by omega) (by omega) (by unfold maxRoom;simp;omega)
 refine ⟨x',τ,g1,by rw [List.map_append];exact g2,((Ext.refl B σ).new hB _).trans g3,fun q hq hn=>?_,fun q hq=>?_⟩
 ·rw [g4 q (by simp;omega) (fun K o n c e hqK=>hn (mem_uid.2 ⟨o,n,c,by rw [hqK];exact e⟩)),Heap.get_new,if_neg (by omega)]
 ·obtain ⟨o,n,c,e⟩:=mem_uid.1 hq
  rcases g5 q o n c e with h1 | ⟨o',n',c',h1⟩
  ·left;simp at h1;omega
  ·exact .inr (mem_uid.2 ⟨o',n',c',h1⟩)
end Go.Proofs.YtioampofolilnaaGreat.M
namespace Go.Proofs.YtioampofolilnaaGreat.M
open Go Go.Mini
attribute [local congr] go1_congr goM_congr goG_congr goV_congr drawwp_congr Xwp_congr
set_option maxHeartbeats 4000000 in
theorem rbetween_call {σ:Heap} {k:Nat} {E:Eng} {fp:List Nat} (h0:IsRefE σ k E fp) (frm to:Int):ACall Tryz.prog n_palinoderef20_Engine_Between [.ptr (.new k) 0,.int .i64 frm,.int .i64 to] σ (.tup [eDelta (rbetwE E frm to).1,.int .i64 (rbetwE E frm to).2]) σ:=by
 refine seen_call (by simp only [AVal.pure,AVal.pures,eDelta_pure];rfl) (spec_of_xwp c_palinoderef20_Engine_Between (tl rfl) ?_)
 unfold f_palinoderef20_Engine_Between
 have hKn:Keep [] σ (σ.new (.cells [.int .i64 0,.nils] none)):=(Keep.refl _ _).new _
 have hres:(σ.new (.cells [.int .i64 0,.nils] none)).get σ.next=some (.cells [.int .i64 0,.nils] none):=by rw [Heap.get_new,if_pos rfl]
 have hnx:(σ.new (.cells [.int .i64 0,.nils] none)).next=σ.next+1:=rfl
 refine x_seq mixed ?_
 simp +decide only [↓evd,evw,reduceCtorEq]
 generalize σ.new (.cells [.int .i64 0,.nils] none)=τ0 at hKn hres hnx
 obtain ⟨x,kr,fpr,h,rfl⟩:=h0.keep hKn (fun y _=>by simp)
 obtain ⟨P,u0,els,hR,hfpr⟩:=id h.revs
 have hb:=h.blk
 have hll:=h.ok.len
 have hhd:=head_le h.revs.ok
 have h4:∀ a∈E.l,a.text.length≤4:=fun a ha=>(cp_len (h.ok.txt a ha)).2
 have hv1:=rlive_call hR frm
 have hv2:=rlive_call hR to
 have hu1:=rundone_call hR frm
 have hu2:=rundone_call hR to
 have hf1:=undone_few h.revs.ok frm
 have hf2:=undone_few h.revs.ok to
 have hlen:=h.alen
 have hxr:=h.raw
 simp only [ints] at hu1 hu2
 refine x_seq mixed ?_
 simp +decide only [↓evd,evw,reduceCtorEq,↓reduceIte]
 simp +decide only [↓evd,evw,reduceCtorEq,↓reduceIte,hb]
 refine MSpec.of hv1 ?_
 have bad:(E.R.live frm && E.R.live to)=false→Keep [] σ (τ0.set σ.next (.cells [.int .i64 0,.nils] none))∧∃ ρ,Sees (τ0.set σ.next (.cells [.int .i64 0,.nils] none)) (.tup [.agg [.int .i64 0,.nils],.int .i64 190]) ρ (.tup [eDelta (rbetwE E frm to).1,.int .i64 (rbetwE E frm to).2])∧ρ.W=τ0.W∧ρ.F0=τ0.F0∧∀ q,q<σ.next→ρ.get q=if σ.next=q then some (.cells [.int .i64 0,.nils] none) else τ0.get q:=fun hl=>by
  rw [rbetwE,if_neg (by simp [hl])]
  exact ⟨hKn.set (.inr (Nat.le_refl _)) _,_,SeesL.tup (.cons (SeesL.agg (.cons (Sees.refl _ _) (.cons (Sees.nils _ 3) (.nil _)))) (.cons (Sees.refl _ _) (.nil _))),rfl,rfl,fun q hq=>by rw [Heap.get_set]⟩
 cases hl1:E.R.live frm
 ·simp +decide only [↓evd,evw,reduceCtorEq,↓reduceIte,hres]
  exact bad (by simp [hl1])
 simp +decide only [↓evd,evw,reduceCtorEq,↓reduceIte,hb]
 refine MSpec.of hv2 ?_
 cases hl2:E.R.live to
 ·simp +decide only [↓evd,evw,reduceCtorEq,↓reduceIte,hres]
  exact bad (by simp [hl2])
 simp +decide only [↓evd,evw,reduceCtorEq,↓reduceIte]
 refine x_seq mixed ?_
 simp +decide only [↓evd]
 with_reducible refine draw_of_grow (fun _=>True) (ms:=[false,false,false,false,false,false,false,false,false,false,false,false,false,false]) (by kernel_rfl) ?_
 simp +decide only [↓evd,evw,↓reduceIte,hb]
 refine MSpec.of hu1 ⟨.inr Keeps.rfl,?_⟩
 simp +decide only [↓evd,evw,↓reduceIte,hb]
 refine MSpec.of hu2 ⟨.inr Keeps.rfl,?_⟩
 rw [rbetwE,if_pos (by simp [hl1,hl2])]
 generalize E.R.undone frm=uf at hf1 ⊢
 generalize E.R.undone to=ut at hf2 ⊢
 have hsm:=fun i hi=>cFold_small (frm:=frm) (to:=to) (uf:=uf) (ut:=ut) h4 i hi
 simp +decide only [↓evd,evw,↓reduceIte]
 refine x_seq mixed ?_
 simp +decide only [↓evd,evw,reduceCtorEq]
 refine x_seq mixed ?_
 simp +decide only [↓evd,evw,reduceCtorEq]
 refine x_seq mixed ?_
 simp +decide only [↓evd,evw,reduceCtorEq]
 refine awp_loop (fun m fr τ=>∃ (i:Nat),m+i=E.l.length∧fr.get 0= .ptr (.new k) 0∧fr.get 1= .int .i64 frm∧fr.get 2= .int .i64 to∧fr.get 6= .ptr (.new σ.next) 0∧fr.get 8=ints uf∧fr.get 9=ints ut∧fr.get 11= .int .i64 ((cFold frm to uf ut (E.l.take i)).2:Nat)∧fr.get 12= .int .i64 (i:Nat)∧Own (σ.next+1) τ t_Cell 2 (fr.get 10) ((cFold frm to uf ut (E.l.take i)).1.map eCel)∧Keep [] τ0 τ) ?_ (m:=E.l.length) ?_
 case refine_2=>
  refine ⟨0,by omega,?_⟩
  simp +decide only [evw,↓reduceIte,ints]
  exact ⟨rfl,Own.nil _ _ _ _,Keep.refl _ _⟩
 rintro m fr τ ⟨i,hi,e0,e1,e2,e6,e8,e9,e11,e12,hO,hK⟩
 generalize hx10:fr.get 10=x10 at hO
 obtain ⟨s1,s2,s3⟩:=hsm i (by omega)
 have hb2:τ.get k=some (.cells [.ptr (.new kr) 0,x] none):=by rw [hK.get h.low];exact hb
 have hlow:=hK.2.2.1
 by_cases hlt:i<E.l.length
 ·have hlt':(i:Int)<(E.l.length:Int):=by omega
  have hw:=wrap_succ (i:=i) (by omega)
  have hg:=map_get eAtom E.l i hlt
  have hcl:=h.ok.cuts _ (List.getElem_mem hlt)
  have htl:=h4 _ (List.getElem_mem hlt)
  have htk:=cFold_take (frm:=frm) (to:=to) (uf:=uf) (ut:=ut) hlt
  obtain rfl:x=eAtoms E.l:=by
   rcases h.lst with h1 | ⟨_,h1⟩
   ·exact h1
   ·rw [h1] at hlt;simp at hlt
  generalize E.l[i]=a at hg htk hcl htl
  have hva:=fun ρ=>rvisible_call ρ a frm uf hf1 (by omega)
  have hvb:=fun ρ=>rvisible_call ρ a to ut hf2 (by omega)
  simp only [eAtom,ints] at hva hvb
  simp only [eAtoms] at hb2
  generalize cFold frm to uf ut (E.l.take i)=st at hO s1 s2 s3 htk e11
  generalize visible frm uf a=vx at hva htk
  generalize visible to ut a=vy at hvb htk
  simp +decide only [↓evd,evw,evz,reduceCtorEq,↓reduceIte,e0,e12,hb2,hlt',hg,eAtom]
  with_reducible refine draw_of_grow (fun _=>True) (ms:=[false,false,false,false,false,false,false,false,false,false]) (by kernel_rfl) ?_
  simp +decide only [↓evd,evw,evz,↓reduceIte,e1,e8]
  refine MSpec.of (hva _) ⟨.inr Keeps.rfl,?_⟩
  simp +decide only [↓evd,evw,evz,↓reduceIte,e2,e9]
  refine MSpec.of (hvb _) ⟨.inr Keeps.rfl,?_⟩
  have hO1:=Own.var2 hO (.cells [.str [],.int .i64 0,.int .i64 0,.int .i64 0,.nils] none) (.cells [.str a.text,.int .i64 a.rev,.int .i64 a.group,.int .i64 a.rank,.fsl 2 (a.cuts.map eCut)] none)
  have hun:τ.next∉uid x10:=fun hm=>by have:=own_low hO _ hm;omega
  have hA1:((τ.new (.cells [.str [],.int .i64 0,.int .i64 0,.int .i64 0,.nils] none)).set τ.next (.cells [.str a.text,.int .i64 a.rev,.int .i64 a.group,.int .i64 a.rank,.fsl 2 (a.cuts.map eCut)] none)).get τ.next=some (.cells [.str a.text,.int .i64 a.rev,.int .i64 a.group,.int .i64 a.rank,.fsl 2 (a.cuts.map eCut)] none):=by rw [Heap.get_set,if_pos rfl]
  have hK1:=((Keep.refl [] τ).new (.cells [.str [],.int .i64 0,.int .i64 0,.int .i64 0,.nils] none)).set (.inr (Nat.le_refl _)) (.cells [.str a.text,.int .i64 a.rev,.int .i64 a.group,.int .i64 a.rank,.fsl 2 (a.cuts.map eCut)] none)
  have hn1:((τ.new (.cells [.str [],.int .i64 0,.int .i64 0,.int .i64 0,.nils] none)).set τ.next (.cells [.str a.text,.int .i64 a.rev,.int .i64 a.group,.int .i64 a.rank,.fsl 2 (a.cuts.map eCut)] none)).next=τ.next+1:=rfl
  simp +decide only [↓evd,evw,reduceCtorEq,↓reduceIte]
  generalize (τ.new (.cells [.str [],.int .i64 0,.int .i64 0,.int .i64 0,.nils] none)).set τ.next (.cells [.str a.text,.int .i64 a.rev,.int .i64 a.group,.int .i64 a.rank,.fsl 2 (a.cuts.map eCut)] none)=τ1 at hO1 hA1 hK1 hn1 ⊢
  refine awp_loop (fun n fq ρ=>∃ (j:Nat),n+j=a.text.length∧fq.get 0= .ptr (.new k) 0∧fq.get 1= .int .i64 frm∧fq.get 2= .int .i64 to∧fq.get 6= .ptr (.new σ.next) 0∧fq.get 8=ints uf∧fq.get 9=ints ut∧fq.get 11= .int .i64 (st.2:Nat)∧fq.get 12= .int .i64 (i:Nat)∧fq.get 13= .ptr (.new τ.next) 0∧fq.get 14= .bool vx∧fq.get 15= .bool vy∧fq.get 16= .int .i64 (j:Nat)∧Own (σ.next+1) ρ t_Cell 2 (fq.get 10) ((st.1 ++ celsA vx vy st.2 (a.text.take j)).map eCel)∧τ.next∉uid (fq.get 10)∧ρ.get τ.next=some (.cells [.str a.text,.int .i64 a.rev,.int .i64 a.group,.int .i64 a.rank,.fsl 2 (a.cuts.map eCut)] none)∧τ.next<ρ.next∧Keep [] τ0 ρ) ?_ (m:=a.text.length) ?_
  case refine_2=>
   refine ⟨0,by omega,?_⟩
   simp +decide only [evw,↓reduceIte,ints,e0,e1,e2,e6,e8,e9,e11,e12,hx10]
   exact ⟨by rw [celsA,List.append_nil];exact hO1,hun,hA1,by omega,hK.trans hK1 (fun x hx=>nomatch hx)⟩
  rintro n fq ρ ⟨j,hj,f0,f1,f2,f6,f8,f9,f11,f12,f13,f14,f15,f16,gO,gu,gA,gn,gK⟩
  generalize hy10:fq.get 10=y10 at gO gu
  by_cases hjl:j<a.text.length
  ·have hjl':(j:Int)<(a.text.length:Int):=by omega
   have hwj:=wrap_succ (i:=j) (by omega)
   have hbt:=List.getElem?_eq_getElem hjl
   have hcl2:=celsA_take vx vy st.2 hjl
   have hll2:=celsA_len vx vy st.2 (a.text.take j)
   rw [List.length_take] at hll2
   have hwa:IntKind.i64.wrap (((st.2:Nat):Int)+(j:Int))=((st.2+j:Nat):Int):=by rw [wrap_id (by omega) (by omega)];omega
   generalize a.text[j]=b at hbt hcl2
   have step:∀ (c:Cel),cel1 vx vy (st.2+j) b=[c]→∃ x' ρ',aApp t_Cell 2 16 y10 (.slc (.new ρ.next) 0 1 (.ex 1)) (ρ.new (.cells [.int .i64 c.1,.int .u8 c.2.toNat] none))=some (x',ρ')∧Own (σ.next+1) ρ' t_Cell 2 x' ((st.1 ++ celsA vx vy st.2 (a.text.take (j+1))).map eCel)∧τ.next∉uid x'∧ρ'.get τ.next=some (.cells [.str a.text,.int .i64 a.rev,.int .i64 a.group,.int .i64 a.rank,.fsl 2 (a.cuts.map eCut)] none)∧τ.next<ρ'.next∧Keep [] τ0 ρ':=fun c hc=>by
    obtain ⟨x',ρ',g1,g2,g3,g4,g5⟩:=own_cel gO (by omega) c (by rw [List.length_append];omega)
    refine ⟨x',ρ',g1,by rw [hcl2,hc,← List.append_assoc];exact g2,fun hm=>?_,by rw [g4 _ gn gu];exact gA,by have:=g3.2.2.1;omega,⟨g3.1.trans gK.1,g3.2.1.trans gK.2.1,Nat.le_trans gK.2.2.1 g3.2.2.1,fun q hq _=>by rw [g3.2.2.2 q (by omega)];exact gK.get hq⟩⟩
    rcases g5 _ hm with h1 | h1
    ·omega
    ·exact gu h1
   cases vy
   ·have same:(st.1 ++ celsA vx false st.2 (a.text.take (j+1)))=st.1 ++ celsA vx false st.2 (a.text.take j):=by rw [hcl2];simp [cel1]
    cases vx
    ·simp +decide only [↓evd,evw,evz,reduceCtorEq,↓reduceIte,f0,f1,f2,f6,f8,f9,f11,f12,f13,f14,f15,f16,gA,hjl',hwj]
     exact ⟨n - 1,by omega,j+1,by omega,rfl,by rw [same,hy10];exact gO,by rw [hy10];exact gu,gn,gK⟩
    ·simp +decide only [↓evd,evw,evz,reduceCtorEq,↓reduceIte,f0,f1,f2,f6,f8,f9,f11,f12,f13,f14,f15,f16,gA,hjl',hwj]
     exact ⟨n - 1,by omega,j+1,by omega,rfl,by rw [same,hy10];exact gO,by rw [hy10];exact gu,gn,gK⟩
   ·cases vx
    ·obtain ⟨x',ρ',g1,g2,g3,g4,g5,g6⟩:=step (-1,b) rfl
     simp only at g1
     simp +decide only [↓evd,evw,evz,reduceCtorEq,↓reduceIte,f0,f1,f2,f6,f8,f9,f11,f12,f13,f14,f15,f16,gA,hjl',hwj,hy10,hbt,g1]
     exact ⟨n - 1,by omega,j+1,by omega,rfl,g2,g3,g4,g5,g6⟩
    ·obtain ⟨x',ρ',g1,g2,g3,g4,g5,g6⟩:=step (((st.2+j:Nat):Int),0) rfl
     have z0:(((0:UInt8).toNat:Nat):Int)=0:=rfl
     simp only [z0] at g1
     simp +decide only [↓evd,evw,evz,reduceCtorEq,↓reduceIte,f0,f1,f2,f6,f8,f9,f11,f12,f13,f14,f15,f16,gA,hjl',hwj,hy10,hwa,g1]
     exact ⟨n - 1,by omega,j+1,by omega,rfl,g2,g3,g4,g5,g6⟩
  ·have hjl':¬(j:Int)<(a.text.length:Int):=by omega
   rw [List.take_of_length_le (by omega)] at gO
   have hwa:IntKind.i64.wrap (((st.2:Nat):Int)+(a.text.length:Int))=((st.2+a.text.length:Nat):Int):=by rw [wrap_id (by omega) (by omega)];omega
   cases vx
   ·simp +decide only [↓evd,evw,evz,reduceCtorEq,↓reduceIte,f0,f1,f2,f6,f8,f9,f11,f12,f13,f14,f16,gA,hjl',hw]
    exact ⟨m - 1,by omega,i+1,by omega,by rw [htk];rfl,rfl,by rw [htk,hy10];exact gO,gK⟩
   ·simp +decide only [↓evd,evw,evz,reduceCtorEq,↓reduceIte,f0,f1,f2,f6,f8,f9,f11,f12,f13,f14,f16,gA,hjl',hw,hwa]
    exact ⟨m - 1,by omega,i+1,by omega,by rw [htk];rfl,rfl,by rw [htk,hy10];exact gO,gK⟩
 ·have hlt':¬(i:Int)<(E.l.length:Int):=by omega
  rw [List.take_of_length_le (by omega)] at hO s1 s2 s3 e11
  generalize cFold frm to uf ut E.l=st at hO s1 s2 s3 e11 ⊢
  simp +decide only [↓evd,evw,reduceCtorEq,↓reduceIte,e0,e12,hb2,hlen,hlt']
  obtain ⟨ρ,y1,y2,y3,y4,y5⟩:=Own.sees hO
  have hKρ:Keep [] τ0 ρ:=⟨y2.trans hK.1,y3.trans hK.2.1,by rw [y4];exact hK.2.2.1,fun q hq _=>by rw [y5 q (by omega)];exact hK.get hq⟩
  have hres2:ρ.get σ.next=some (.cells [.int .i64 0,.nils] none):=by rw [hKρ.get (by omega)];exact hres
  refine x_freeze (FSees.reg (t:=10) (by decide) (by simp +decide only [evw,↓reduceIte,hx10]) y1) ?_
  refine x_of_awp mixed ?_
  have htc:=rtold_call ρ (st.2:Nat) st.1 (by omega) (fun c hc=>by have:=s3 c hc;omega)
  simp +decide only [↓evd,evw,reduceCtorEq,↓reduceIte,e11]
  refine MSpec.of htc ?_
  simp +decide only [↓evd,evw,evz,reduceCtorEq,↓reduceIte,e6,hres2,eDelta]
  exact ⟨(hKn.trans hKρ (fun x hx=>nomatch hx)).set (.inr (Nat.le_refl _)) _,_,Sees.refl _ _,rfl,rfl,fun q hq=>by rw [Heap.get_set]⟩
end Go.Proofs.YtioampofolilnaaGreat.M
namespace Go.Proofs.YtioampofolilnaaGreat.M
open Go Go.Mini
theorem mem_delL {s ks:List Int} {x:Int}:x∈delAll s ks↔x∈s∧x∉ks:=by simp [delAll]
structure Eng.Known (E:Eng):Prop where
 old:E.Old
 grp:∀ a∈E.l,(a.group∈E.R.grp∨a.group= -1)∧∀ c∈a.cuts,c.group∈E.R.grp
structure Eng.Whole (E:Eng):Prop where
 ok:E.Ok
 rok:E.R.Ok
 known:E.Known
theorem Eng.Known.new:Eng.new.Known:=⟨Eng.new_old,fun a h=>by cases h⟩
theorem Eng.Known.edit {E E':Eng} {base group rank n c:Int} {cs:List Chg} (hR:E.R.Ok) (h:E.Known) (e:editE E base group rank cs=(E',n,c)):E'.Known:=by
 by_cases hc:c=0
 case neg=>rw [(edit_fail e hc).1];exact h
 subst hc
 refine ⟨edit_old hR h.old e,?_⟩
 obtain ⟨_,_,_,_,_,_,_,_,_,he,_⟩:=edit_shape hR e
 intro a ha
 rw [he] at ha ⊢
 have hm:∀ g,g∈E.R.grp→g∈insS group E.R.grp:=fun g hg=>mem_insS.2 (.inr hg)
 rcases mem_upon ha with ⟨b,hb,rfl | rfl⟩ | ⟨b,_,rfl⟩
 ·exact ⟨(h.grp a hb).1.imp (hm _) id,fun c hc=>hm _ ((h.grp a hb).2 c hc)⟩
 ·refine ⟨(h.grp b hb).1.imp (hm _) id,fun c hc=>?_⟩
  simp only [List.mem_append,List.mem_singleton] at hc
  rcases hc with hc | rfl
  ·exact hm _ ((h.grp b hb).2 c hc)
  ·exact mem_insS.2 (.inl rfl)
 ·exact ⟨.inl (mem_insS.2 (.inl rfl)),fun c hc=>by cases hc⟩
theorem Eng.Known.toggle {E E':Eng} {g n c:Int} (hR:E.R.Ok) (h:E.Known) (e:toggleE E g=(E',n,c)):E'.Known:=by
 by_cases hc:c=0
 case neg=>rw [(toggle_fail e hc).1];exact h
 subst hc
 refine ⟨toggle_old hR h.old e,?_⟩
 obtain ⟨_,_,_,he,_⟩:=toggle_shape hR e
 intro a ha
 rw [he] at ha ⊢
 exact h.grp a ha
theorem forget_shape {E E':Eng} {gs:List Int} (e:forgetE E gs=(E',0)):Good E.R gs∧E'=⟨restL gs (E.R.undone (E.R.head:Nat)) E.l,⟨[delAll E.R.top gs],E.R.head,delAll E.R.grp gs,goneAll E.R.gone gs⟩⟩:=by
 unfold forgetE at e
 split at e
 ·rename_i h;simp only [Prod.mk.injEq] at e;exact absurd e.2 h
 ·rename_i h
  obtain ⟨hg,he,_⟩:=forgetR_ok (by simpa using h)
  rw [he] at e
  cases e
  exact ⟨hg,rfl⟩
theorem forget_fail {E E':Eng} {gs:List Int} {c:Int} (e:forgetE E gs=(E',c)) (hc:c≠0):E'=E:=by
 unfold forgetE at e
 split at e
 ·cases e;rfl
 ·cases e;exact absurd rfl hc
theorem Eng.Known.forget {E E':Eng} {gs:List Int} {c:Int} (h:E.Known) (e:forgetE E gs=(E',c)):E'.Known:=by
 by_cases hc:c=0
 case neg=>rw [forget_fail e hc];exact h
 subst hc
 obtain ⟨hg,he⟩:=forget_shape e
 have hhead:E'.R.head=E.R.head:=by rw [he];simp [Revs.head]
 constructor
 ·intro b hb
  rw [hhead]
  rw [he] at hb
  simp only [restL,List.mem_filterMap] at hb
  obtain ⟨a,ha,hb⟩:=hb
  have ho:=h.old a ha
  rw [(restA_some hb).1]
  exact ⟨ho.1,fun c hc=>ho.2 c (List.mem_filter.1 hc).1⟩
 ·intro b hb
  rw [he] at hb ⊢
  simp only [restL,List.mem_filterMap] at hb
  obtain ⟨a,ha,hb⟩:=hb
  have hk:=h.grp a ha
  obtain ⟨hbe,hgone,hstay⟩:=restA_some hb
  constructor
  ·rw [hbe]
   by_cases hin:a.group∈gs
   ·right;simp only [if_pos hin]
   ·simp only [if_neg hin]
    exact hk.1.imp (fun h=>mem_delL.2 ⟨h,hin⟩) id
  ·intro c hc
   rw [hbe] at hc
   simp only [List.mem_filter] at hc
   refine mem_delL.2 ⟨hk.2 c hc.1,fun hin=>?_⟩
   have h1:staysG gs (E.R.undone (E.R.head:Nat)) c.group=false:=by
    rw [List.any_eq_false] at hstay
    simpa using hstay c hc.1
   have h2:goneG gs (E.R.undone (E.R.head:Nat)) c.group=false:=by simpa using hc.2
   simp [staysG,goneG,hin] at h1 h2
   exact h2 h1
theorem rok_edit {R:Revs} (h:R.Ok) (hh:R.head<200) {g:Int} (h0:0≤g) (h1:g<60):Revs.Ok {R.push R.top with grp:=insS g R.grp}:=by
 have p:=h.push hh h.top.2.1
 exact ⟨p.one,p.few,p.rise,h.grp.ins h0 h1,p.gone⟩
theorem rok_forget {R:Revs} (h:R.Ok) {gs:List Int} (hg:Good R gs):Revs.Ok ⟨[delAll R.top gs],R.head,delAll R.grp gs,goneAll R.gone gs⟩:=by
 have hf:=h.few
 have h1:=List.length_pos_iff.2 h.one
 refine ⟨by simp,by simp only [Revs.head,List.length_cons,List.length_nil];omega,fun s hs=>?_,h.grp.delAll gs,h.gone.goneAll fun g hm=>h.grp.2 g (hg.2 g hm)⟩
 rw [List.mem_singleton] at hs;subst hs
 exact h.top.2.1.delAll gs
theorem rise_flip {s:List Int} (hs:Rise s) {g:Int} (h0:0≤g) (h1:g<60):Rise (flip g s):=by
 unfold flip
 split
 ·exact hs.erase g
 ·exact hs.ins h0 h1
theorem Eng.Whole.new:Eng.new.Whole:=⟨Eng.new_ok,⟨by simp [Eng.new,Revs.new],by simp [Eng.new,Revs.new],fun s hs=>by simp [Eng.new,Revs.new] at hs;subst hs;exact Rise.nil,Rise.nil,Rise.nil⟩,Eng.Known.new⟩
theorem Eng.Whole.edit {E E':Eng} {base group rank n c:Int} {cs:List Chg} (h:E.Whole) (e:editE E base group rank cs=(E',n,c)):E'.Whole:=by
 have h1:=editE_ok h.ok h.rok base group rank cs
 rw [e] at h1
 refine ⟨h1,?_,h.known.edit h.rok e⟩
 by_cases hc:c=0
 case neg=>rw [(edit_fail e hc).1];exact h.rok
 subst hc
 obtain ⟨_,g0,g1,hh,_,_,_,_,_,he,_⟩:=edit_shape h.rok e
 rw [he];exact rok_edit h.rok hh g0 g1
theorem Eng.Whole.toggle {E E':Eng} {g n c:Int} (h:E.Whole) (e:toggleE E g=(E',n,c)):E'.Whole:=by
 have h1:=toggleE_ok h.ok h.rok g
 rw [e] at h1
 refine ⟨h1,?_,h.known.toggle h.rok e⟩
 by_cases hc:c=0
 case neg=>rw [(toggle_fail e hc).1];exact h.rok
 subst hc
 obtain ⟨hg,hh,_,he,_⟩:=toggle_shape h.rok e
 have hb:=h.rok.grp.2 g hg
 rw [he];exact h.rok.push hh (rise_flip h.rok.top.2.1 hb.1 hb.2)
theorem Eng.Whole.forget {E E':Eng} {gs:List Int} {c:Int} (h:E.Whole) (e:forgetE E gs=(E',c)):E'.Whole:=by
 refine ⟨?_,?_,h.known.forget e⟩ <;> by_cases hc:c=0
 case neg=>rw [forget_fail e hc];exact h.ok
 case neg=>rw [forget_fail e hc];exact h.rok
 ·subst hc
  obtain ⟨hg,he⟩:=forget_shape e
  have:=forget_ok h.ok (gs:=gs) (by rw [forget_good hg])
  rw [forget_good hg] at this
  rw [he];exact this
 ·subst hc
  obtain ⟨hg,he⟩:=forget_shape e
  rw [he];exact rok_forget h.rok hg
theorem Eng.Whole.doB {E:Eng} (h:E.Whole) (x:Step):(doB E x).Whole:=by
 unfold Go.Proofs.YtioampofolilnaaGreat.M.doB
 split
 ·exact h.edit (Prod.ext rfl rfl)
 ·split
  ·exact h.toggle (Prod.ext rfl rfl)
  ·exact h.forget (Prod.ext rfl rfl)
theorem Eng.Whole.run:∀ {l:List Step} {E:Eng},E.Whole→(l.foldl Go.Proofs.YtioampofolilnaaGreat.M.doB E).Whole
 | [],_,h=>h
 | x::l,_,h=>Eng.Whole.run (l:=l) (h.doB x)
theorem sumIf_cons (p:Atom→Bool) (a:Atom) (l:List Atom):sumIf p (a::l)=(if p a then a.text.length else 0)+sumIf p l:=by simp [sumIf]
theorem text_sum (r:Int) (u:List Int):∀ l:List Atom,(atomsText r u l).length=sumIf (visible r u) l
 | []=>rfl
 | a::l=>by
  rw [sumIf_cons,atomsText,List.length_append,text_sum r u l]
  split <;> simp
theorem sumIf_add {p q r:Atom→Bool} {l:List Atom} (h:∀ a∈l,(if p a then a.text.length else 0)=(if q a then a.text.length else 0)+if r a then a.text.length else 0):sumIf p l=sumIf q l+sumIf r l:=by
 induction l with
 | nil=>rfl
 | cons a l ih=>
  have:=h a (by simp)
  have:=ih fun b hb=>h b (List.mem_cons_of_mem _ hb)
  rw [sumIf_cons,sumIf_cons,sumIf_cons];omega
theorem take_mid {s:List UInt8} {f p n:Nat} (h:f≤p) (hp:p≤s.length):(s.take (p+n)).drop f=(s.take p).drop f ++ (s.take (p+n)).drop p:=by
 have e1:s.take (p+n)=s.take p ++ (s.take (p+n)).drop p:=by
  have h1:=(List.take_append_drop p (s.take (p+n))).symm
  rw [List.take_take,Nat.min_eq_left (by omega)] at h1
  exact h1
 have e2:=congrArg (List.drop f) e1
 rw [List.drop_append_of_le_length (by rw [List.length_take];omega)] at e2
 exact e2
structure BOk (base:Nat) (s:List UInt8) (tt:List UInt8) (st:List Chg × Nat) (kp pt:Nat):Prop where
 wf:WFr base st.1
 to:toR st.1≤(st.2:Nat)
 app:applyL s st.1.reverse=tt
 kept:keptL st.1.reverse=(kp:Nat)
 put:putL st.1.reverse=pt
theorem keptL_rev (e:Chg) (r:List Chg):keptL (e::r).reverse=keptL r.reverse+(e.to - e.frm):=by rw [List.reverse_cons,keptL_app,keptL_one]
theorem putL_rev (e:Chg) (r:List Chg):putL (e::r).reverse=putL r.reverse+e.text.length:=by rw [List.reverse_cons,putL_app,putL_one]
theorem applyL_rev (s:List UInt8) (e:Chg) (r:List Chg):applyL s (e::r).reverse=applyL s r.reverse ++ applyE s e:=by
 rw [List.reverse_cons,applyL,List.map_append,List.flatten_append];simp [applyL]
theorem isCp_iff {e:Chg}:isCp e=true↔e.text=[]:=by simp [isCp]
theorem BOk.copy {base:Nat} {s tt:List UInt8} {st:List Chg × Nat} {kp pt:Nat} (h:BOk base s tt st kp pt) {t:List UInt8} (ht:t≠[]) (hb:st.2+t.length≤base) (hs:(s.take (st.2+t.length)).drop st.2=t):BOk base s (tt ++ t) (mkC st.1 st.2 ((st.2+t.length:Nat):Int),st.2+t.length) (kp+t.length) pt:=by
 obtain ⟨r,p⟩:=st
 obtain ⟨h1,h2,h3,h4,h5⟩:=h
 simp only at h1 h2 h3 h4 h5 hb hs ⊢
 have htl:0<t.length:=List.length_pos_iff.2 ht
 have hne:¬(p:Int)=((p+t.length:Nat):Int):=by omega
 have new:BOk base s (tt ++ t) (⟨p,((p+t.length:Nat):Int),[]⟩::r,p+t.length) (kp+t.length) pt↔(decide (toR r<(p:Int)) || !copR r)=true:=by
  constructor
  ·intro h
   have:=h.wf.2
   unfold elemOk at this
   rw [if_pos (by rfl)] at this
   simp only [Bool.and_eq_true] at this
   exact this.1.1.2
  ·intro hc
   refine ⟨⟨h1,?_⟩,by simp only [toR];rw [if_pos (by rfl)];exact Int.le_refl _,?_,by rw [keptL_rev,h4];simp only;omega,by rw [putL_rev,h5];rfl⟩
   ·unfold elemOk
    rw [if_pos (by rfl),hc]
    simp only [Bool.and_true,Bool.and_eq_true,decide_eq_true_eq]
    omega
   ·rw [applyL_rev,h3,applyE]
    simp only [Int.toNat_natCast,hs,List.append_nil]
 cases r with
 | nil=>
  have:mkC [] (p:Int) ((p+t.length:Nat):Int)=[⟨p,((p+t.length:Nat):Int),[]⟩]:=by simp only [mkC,if_neg hne]
  rw [this]
  exact new.2 (by simp [copR])
 | cons e r'=>
  by_cases hc:isCp e=true∧e.to=(p:Int)
  ·have:mkC (e::r') (p:Int) ((p+t.length:Nat):Int)=⟨e.frm,((p+t.length:Nat):Int),e.text⟩::r':=by simp only [mkC,if_neg hne,if_pos hc]
   rw [this]
   obtain ⟨hcp,heto⟩:=hc
   have het:=isCp_iff.1 hcp
   have hok:=h1.2
   unfold elemOk at hok
   rw [if_pos hcp] at hok
   simp only [Bool.and_eq_true,decide_eq_true_eq] at hok
   obtain ⟨⟨⟨o1,o2⟩,o3⟩,o4⟩:=hok
   have hcp2:isCp ⟨e.frm,((p+t.length:Nat):Int),e.text⟩=true:=hcp
   have hn:=toR_nonneg h1.1
   refine ⟨⟨h1.1,?_⟩,by simp only [toR];rw [if_pos hcp2];exact Int.le_refl _,?_,?_,?_⟩
   ·unfold elemOk
    rw [if_pos hcp2]
    simp only [Bool.and_eq_true,decide_eq_true_eq]
    exact ⟨⟨⟨o1,o2⟩,by omega⟩,by omega⟩
   ·rw [applyL_rev] at h3 ⊢
    rw [← h3,List.append_assoc]
    congr 1
    simp only [applyE,het,List.append_nil,heto,Int.toNat_natCast]
    obtain ⟨f,hf⟩:∃ f:Nat,e.frm=(f:Int):=⟨e.frm.toNat,by omega⟩
    rw [hf,Int.toNat_natCast]
    have hlen:p≤s.length:=by
     have:=congrArg List.length hs
     rw [List.length_drop,List.length_take] at this;omega
    rw [take_mid (by omega) hlen,hs]
   ·rw [keptL_rev] at h4 ⊢;simp only;omega
   ·rw [putL_rev] at h5 ⊢;exact h5
  ·have:mkC (e::r') (p:Int) ((p+t.length:Nat):Int)=⟨p,((p+t.length:Nat):Int),[]⟩::e::r':=by simp only [mkC,if_neg hne,if_neg hc]
   rw [this]
   refine new.2 ?_
   by_cases hcp:isCp e=true
   ·have h6:toR (e::r')=e.to:=by simp only [toR,if_pos hcp]
    rw [h6] at h2 ⊢
    have:e.to≠(p:Int):=fun h=>hc ⟨hcp,h⟩
    rw [decide_eq_true (by omega),Bool.true_or]
   ·simp only [copR]
    rw [Bool.not_eq_true] at hcp
    rw [hcp];simp
theorem BOk.puts {base:Nat} {s tt:List UInt8} {st:List Chg × Nat} {kp pt:Nat} (h:BOk base s tt st kp pt) {t:List UInt8} (ht:valid t=true) (hl:pt+t.length≤20000):BOk base s (tt ++ t) (mkP st.1 t,st.2) kp (pt+t.length):=by
 obtain ⟨r,p⟩:=st
 obtain ⟨h1,h2,h3,h4,h5⟩:=h
 simp only at h1 h2 h3 h4 h5 ⊢
 by_cases ht0:t=[]
 ·subst ht0
  have:mkP r []=r:=by simp [mkP]
  rw [this]
  simpa using ⟨h1,h2,h3,h4,h5⟩
 have hcp2:isCp ⟨0,0,t⟩=false:=by rw [← Bool.not_eq_true];exact fun h=>ht0 (isCp_iff.1 h)
 have new:(r=[]∨copR r=true)→BOk base s (tt ++ t) (⟨0,0,t⟩::r,p) kp (pt+t.length):=by
  intro hc
  refine ⟨⟨h1,?_⟩,by simp only [toR];rw [if_neg (by simp [hcp2])];exact h2,?_,by rw [keptL_rev,h4];simp,by rw [putL_rev,h5]⟩
  ·unfold elemOk
   rw [if_neg (by simp [hcp2])]
   have:(!(!r.isEmpty) || copR r)=true:=by
    rcases hc with rfl | hc
    ·rfl
    ·rw [hc];simp
   rw [this,ht]
   simp only [Bool.and_true,decide_true,Bool.true_and,decide_eq_true_eq]
   omega
  ·rw [applyL_rev,h3,applyE];simp
 cases r with
 | nil=>
  have:mkP [] t=[⟨0,0,t⟩]:=by simp [mkP,ht0]
  rw [this];exact new (.inl rfl)
 | cons e r'=>
  cases hcp:isCp e
  ·have:mkP (e::r') t=⟨e.frm,e.to,e.text ++ t⟩::r':=by simp [mkP,ht0,hcp]
   rw [this]
   have hok:=h1.2
   unfold elemOk at hok
   rw [if_neg (by simp [hcp])] at hok
   simp only [Bool.and_eq_true,decide_eq_true_eq] at hok
   obtain ⟨⟨⟨⟨o1,o2⟩,o3⟩,o4⟩,o5⟩:=hok
   have hcp3:isCp ⟨e.frm,e.to,e.text ++ t⟩=false:=by
    rw [← Bool.not_eq_true];exact fun h=>ht0 (List.append_eq_nil_iff.1 (isCp_iff.1 h)).2
   rw [putL_rev] at h5
   refine ⟨⟨h1.1,?_⟩,?_,?_,?_,?_⟩
   ·unfold elemOk
    rw [if_neg (by simp [hcp3])]
    have hv:valid (e.text ++ t)=true:=by
     obtain ⟨ps,e1,q1⟩:=valid_iff.1 o5
     obtain ⟨qs,e2,q2⟩:=valid_iff.1 ht
     exact valid_iff.2 ⟨ps ++ qs,by rw [e1,e2,List.flatten_append],fun p hp=>(List.mem_append.1 hp).elim (q1 p) (q2 p)⟩
    simp only [Bool.and_eq_true,decide_eq_true_eq,List.length_append]
    exact ⟨⟨⟨⟨o1,o2⟩,o3⟩,by omega⟩,hv⟩
   ·simp only [toR] at h2 ⊢
    rw [if_neg (by simp [hcp])] at h2
    rw [if_neg (by simp [hcp3])];exact h2
   ·rw [applyL_rev] at h3 ⊢
    rw [← h3,List.append_assoc]
    simp only [applyE,List.append_assoc]
   ·rw [keptL_rev] at h4 ⊢;exact h4
   ·rw [putL_rev];simp only [List.length_append];omega
  ·have:mkP (e::r') t=⟨0,0,t⟩::e::r':=by simp [mkP,ht0,hcp]
   rw [this];exact new (.inr hcp)
theorem BOk.gone {base:Nat} {s tt:List UInt8} {r:List Chg} {p n kp pt:Nat} (h:BOk base s tt (r,p) kp pt) (hn:p≤n):BOk base s tt (r,n) kp pt:=
 ⟨h.wf,by have:=h.to;simp only at this ⊢;omega,h.app,h.kept,h.put⟩
def keptB (frm to:Int) (uf ut:List Int) (a:Atom):Bool:=visible frm uf a && visible to ut a
theorem bst_ok {l:List Atom} (hcp:∀ a∈l,IsCP a.text) (hl:l.length≤4000) (frm to:Int) (uf ut:List Int):∀ i,i≤l.length→
  BOk (atomsText frm uf l).length (atomsText frm uf l) (atomsText to ut (l.take i)) (bFold frm to uf ut (l.take i)) (sumIf (keptB frm to uf ut) (l.take i)) (sumIf (cameB frm to uf ut) (l.take i))∧(bFold frm to uf ut (l.take i)).2=(atomsText frm uf (l.take i)).length
 | 0,_=>⟨⟨trivial,by simp [bFold,toR],rfl,by simp [bFold,keptL,sumIf],by simp [bFold,putL,sumIf]⟩,rfl⟩
 | i+1,hi=>by
  have hlt:i<l.length:=by omega
  obtain ⟨ih,ip⟩:=bst_ok hcp hl frm to uf ut i (by omega)
  have hge:=List.getElem?_eq_getElem hlt
  have ha:=hcp _ (List.getElem_mem hlt)
  have t1:=take_text (r:=frm) (u:=uf) hlt
  have t2:=take_text (r:=to) (u:=ut) hlt
  have hsum:=sumIf_le (p:=cameB frm to uf ut) (l:=l.take (i+1)) fun a hm=>(cp_len (hcp a (List.mem_of_mem_take hm))).2
  rw [List.length_take] at hsum
  have hsp:atomsText frm uf l=atomsText frm uf (l.take (i+1)) ++ atomsText frm uf (l.drop (i+1)):=by
   rw [← atomsText_append,List.take_append_drop]
  rw [bFold_take hge,sumIf_take hge,sumIf_take hge,t1,t2]
  rw [sumIf_take hge] at hsum
  rw [t1] at hsp
  generalize l[i]=a at ha hsp hsum
  generalize hst:bFold frm to uf ut (l.take i)=st at ih ip
  obtain ⟨r,p⟩:=st
  simp only at ip
  have hla:=cp_len ha
  have hva:valid a.text=true:=valid_iff.2 ⟨[a.text],by simp,by simpa using ha⟩
  cases w:visible frm uf a <;> cases is:visible to ut a
  ·simp only [w,is,keptB,cameB,bStep,Bool.and_self,Bool.not_false,Bool.and_false,Bool.false_eq_true,if_false,Nat.add_zero,List.append_nil]
   exact ⟨ih,ip⟩
  ·simp only [w,is,cameB,Bool.not_false,Bool.and_self,if_true] at hsum
   simp only [w,is,keptB,cameB,bStep,Bool.false_and,Bool.not_false,Bool.and_self,Bool.false_eq_true,if_false,if_true,Nat.add_zero,List.append_nil]
   exact ⟨ih.puts hva (by omega),ip⟩
  ·simp only [w,is,keptB,cameB,bStep,Bool.and_false,Bool.not_true,Bool.false_eq_true,if_false,if_true,Nat.add_zero,List.append_nil,List.length_append]
   exact ⟨ih.gone (by omega),by omega⟩
  ·rw [w] at hsp
   simp only [if_true] at hsp
   simp only [w,is,keptB,cameB,bStep,Bool.and_self,Bool.not_true,Bool.false_and,Bool.false_eq_true,if_false,if_true,Nat.add_zero,List.length_append]
   refine ⟨ih.copy ha.1 ?_ ?_,by omega⟩
   ·rw [hsp,List.length_append,List.length_append,ip];omega
   ·show ((atomsText frm uf l).take (p+a.text.length)).drop p=a.text
    rw [hsp,ip,← List.length_append,List.take_left,List.drop_left]
theorem Eng.bst_ok {E:Eng} (h:E.Ok) (frm to:Int):BOk (E.text frm).length (E.text frm) (E.text to) (E.bst frm to) (sumIf (keptB frm to (E.R.undone frm) (E.R.undone to)) E.l) (sumIf (cameB frm to (E.R.undone frm) (E.R.undone to)) E.l):=by
 have:=(Go.Proofs.YtioampofolilnaaGreat.M.bst_ok h.txt h.len frm to (E.R.undone frm) (E.R.undone to) E.l.length (Nat.le_refl _)).1
 rw [List.take_length] at this
 exact this
theorem kept_came (E:Eng) (frm to:Int):(E.text to).length=sumIf (keptB frm to (E.R.undone frm) (E.R.undone to)) E.l+sumIf (cameB frm to (E.R.undone frm) (E.R.undone to)) E.l:=by
 rw [Eng.text,text_sum]
 refine sumIf_add fun a ha=>?_
 simp only [keptB,cameB]
 by_cases h1:visible frm (E.R.undone frm) a=true <;> by_cases h2:visible to (E.R.undone to) a=true <;> simp [h1,h2]
structure Btw (E:Eng) (frm to:Int) (d:Dlt):Prop where
 ok:DOk d
 base:d.base=((E.text frm).length:Nat)
 app:applyL (E.text frm) d.els=E.text to
 kept:keptL d.els=(sumIf (keptB frm to (E.R.undone frm) (E.R.undone to)) E.l:Nat)
 put:putL d.els=sumIf (cameB frm to (E.R.undone frm) (E.R.undone to)) E.l
 l1:E.R.live frm=true
 l2:E.R.live to=true
theorem betw_ok {E:Eng} (h:E.Ok) {frm to:Int} {d:Dlt} (e:betwE E frm to=(d,0)):Btw E frm to d:=by
 unfold betwE at e
 split at e
 ·rename_i hlv
  rw [Bool.and_eq_true] at hlv
  split at e
  ·rename_i h60
   cases e
   have hb:=E.bst_ok h frm to
   have hk:=kept_came E frm to
   have l1:=atomsText_le frm (E.R.undone frm) h.txt
   have l2:=atomsText_le to (E.R.undone to) h.txt
   have hl:=h.len
   simp only [Eng.text] at hk
   refine ⟨⟨by simp,by simp only [Eng.text];omega,by simpa using h60,by rw [List.reverse_reverse];exact hb.wf,?_⟩,rfl,hb.app,hb.kept,hb.put,hlv.1,hlv.2⟩
   show keptL (E.bst frm to).1.reverse+((putL (E.bst frm to).1.reverse:Nat):Int)≤20000
   rw [hb.kept,hb.put];omega
  ·simp only [Prod.mk.injEq] at e;exact absurd e.2 (by decide)
 ·simp only [Prod.mk.injEq] at e;exact absurd e.2 (by decide)
theorem betw_err {E:Eng} {frm to:Int} {d:Dlt} {c:Int} (e:betwE E frm to=(d,c)):(c=0∨(c=70∧d=⟨0,[]⟩)∨(c=190∧d=⟨0,[]⟩))∧(c=190↔(E.R.live frm && E.R.live to)=false):=by
 unfold betwE at e
 split at e
 ·rename_i hlv
  split at e
  ·cases e;refine ⟨.inl rfl,?_⟩;rw [hlv];simp
  ·cases e;refine ⟨.inr (.inl ⟨rfl,rfl⟩),?_⟩;rw [hlv];simp
 ·rename_i hlv
  cases e
  refine ⟨.inr (.inr ⟨rfl,rfl⟩),?_⟩
  simp only [Bool.not_eq_true] at hlv
  simp [hlv]
end Go.Proofs.YtioampofolilnaaGreat.M
namespace Go.Proofs.YtioampofolilnaaGreat.M
open Go Go.Mini
attribute [local congr] go1_congr goM_congr goG_congr goV_congr drawwp_congr Xwp_congr
theorem mkP_mkP {r:List Chg} {s t:List UInt8} (hs:s≠[]):mkP (mkP r s) t=mkP r (s ++ t):=by
 have hst:s ++ t≠[]:=by simp [hs]
 by_cases ht:t=[]
 ·subst ht;simp [mkP]
 cases r with
 | nil=>simp [mkP,hs,ht,isCp]
 | cons e r=>by_cases he:e.text=[] <;> simp [mkP,hs,ht,he,isCp]
theorem mkC_mkC {r:List Chg} {f g t:Int} (h1:f<g) (h2:g≤t):mkC (mkC r f g) g t=mkC r f t:=by
 have n1:f≠g:=by omega
 have n2:f≠t:=by omega
 by_cases hg:g=t
 ·subst hg;simp [mkC]
 cases r with
 | nil=>simp [mkC,n1,n2,hg,isCp]
 | cons e r=>
  by_cases he:e.text=[]∧e.to=f
  ·simp [mkC,n1,n2,hg,he.1,he.2,isCp]
  ·simp [mkC,n1,n2,hg,he,isCp]
theorem fold_txt:∀ (t:List UInt8) (r:List Chg) (p:Nat),(celsA false true p t).foldl tStep r=mkP r t
 | [],r,p=>by simp [celsA,mkP]
 | b::t,r,p=>by
  have:tStep r (-1,b)=mkP r [b]:=by simp [tStep]
  simp only [celsA,cel1,if_true,Bool.false_eq_true,if_false,List.cons_append,List.nil_append,List.foldl_cons]
  rw [this,fold_txt t _ (p+1),mkP_mkP (by simp)];rfl
theorem fold_cp:∀ (t:List UInt8) (r:List Chg) (p:Nat),(celsA true true p t).foldl tStep r=mkC r p ((p+t.length:Nat):Int)
 | [],r,p=>by simp [celsA,mkC]
 | b::t,r,p=>by
  have hn:¬((p:Nat):Int)<0:=by omega
  have:tStep r (((p:Nat):Int),0)=mkC r p ((p+1:Nat):Int):=by simp [tStep,hn]
  simp only [celsA,cel1,if_true,List.cons_append,List.nil_append,List.foldl_cons]
  rw [this,fold_cp t _ (p+1),mkC_mkC (by omega) (by omega),List.length_cons,show p+1+t.length=p+(t.length+1) by omega]
theorem fold_no (x:Bool):∀ (t:List UInt8) (p:Nat),celsA x false p t=[]
 | [],p=>rfl
 | b::t,p=>by simp [celsA,cel1,fold_no x t (p+1)]
theorem fold_eq {frm to:Int} {uf ut:List Int} {l:List Atom}:∀ i,i≤l.length→tolds (cFold frm to uf ut (l.take i)).1=(bFold frm to uf ut (l.take i)).1∧(cFold frm to uf ut (l.take i)).2=(bFold frm to uf ut (l.take i)).2
 | 0,_=>⟨rfl,rfl⟩
 | i+1,h=>by
  obtain ⟨h1,h2⟩:=fold_eq (frm:=frm) (to:=to) (uf:=uf) (ut:=ut) i (show i≤l.length by omega)
  rw [cFold_take (show i<l.length by omega),bFold_take (List.getElem?_eq_getElem (show i<l.length by omega))]
  generalize visible frm uf l[i]=vx
  generalize visible to ut l[i]=vy
  refine ⟨?_,by simp only [cStep,bStep,h2]⟩
  rw [cStep,bStep,tolds,List.foldl_append,← tolds,h1,h2]
  cases vx <;> cases vy
  ·simp [fold_no]
  ·simp only [fold_txt];simp
  ·simp [fold_no]
  ·simp only [fold_cp];simp
theorem wf_valid {base:Int}:∀ {r:List Chg},WFr base r→∀ e∈r,valid e.text=true
 | x::r,h,e,he=>by
  rcases List.mem_cons.1 he with rfl | he
  ·have h2:=h.2
   unfold elemOk at h2
   split at h2
   ·rename_i hc
    rw [isCp_iff] at hc
    rw [hc];rfl
   ·simp only [Bool.and_eq_true] at h2;exact h2.2
  ·exact wf_valid h.1 e he
theorem bFold_pos {frm to:Int} {uf ut:List Int}:∀ {l:List Atom} {i:Nat},i≤l.length→(bFold frm to uf ut (l.take i)).2=(atomsText frm uf (l.take i)).length
 | l,0,_=>by simp [bFold,atomsText]
 | l,i+1,h=>by
  have ih:=bFold_pos (frm:=frm) (to:=to) (uf:=uf) (ut:=ut) (l:=l) (i:=i) (by omega)
  rw [bFold_take (List.getElem?_eq_getElem (show i<l.length by omega)),text_sum,sumIf_take (List.getElem?_eq_getElem (show i<l.length by omega)),← text_sum,← ih]
  simp only [bStep];split <;> rfl
theorem rbetw_eq {E:Eng} (h:E.Ok) (frm to:Int):rbetwE E frm to=betwE E frm to:=by
 have hf:=fold_eq (frm:=frm) (to:=to) (uf:=E.R.undone frm) (ut:=E.R.undone to) E.l.length (Nat.le_refl _)
 have hp:=bFold_pos (frm:=frm) (to:=to) (uf:=E.R.undone frm) (ut:=E.R.undone to) (Nat.le_refl E.l.length)
 rw [List.take_length] at hf hp
 have hv:=wf_valid (E.bst_ok h frm to).wf
 rw [rbetwE,betwE]
 split
 ·rw [toldE,hf.1,hf.2,hp]
  have:(bFold frm to (E.R.undone frm) (E.R.undone to) E.l).1.all (fun e=>valid e.text)=true:=by
   rw [List.all_eq_true];exact hv
  rw [if_pos this];rfl
 ·rfl
theorem rdsame_call (σ:Heap) (d:Dlt) (hl:d.els.length≤1000000):ACall Tryz.prog n_palinoderef11_Same [eDelta d,eDelta d] σ (.bool true) σ:=by
 refine keep_call rfl (spec_of_awp mixed c_palinoderef11_Same (tl rfl) ?_)
 unfold f_palinoderef11_Same
 have n1:(σ.next+1=σ.next)=False:=eq_false (by omega)
 have bb:∀ x:Int,(x != x)=false:=by intro x;simp
 have hK:Keep [] σ ((σ.new (.cells [.int .i64 d.base,.fsl 3 (d.els.map eChg)] none)).new (.cells [.int .i64 d.base,.fsl 3 (d.els.map eChg)] none)):=((Keep.refl _ _).new _).new _
 simp +decide only [↓evd,evw,evz,reduceCtorEq,↓reduceIte,eDelta,eChgs,n1,bb]
 refine awp_loop (fun m fr τ=>∃ (i:Nat),m+i=d.els.length∧fr.get 2= .ptr (.new σ.next) 0∧fr.get 3= .ptr (.new (σ.next+1)) 0∧fr.get 5= .int .i64 (i:Nat)∧τ=(σ.new (.cells [.int .i64 d.base,.fsl 3 (d.els.map eChg)] none)).new (.cells [.int .i64 d.base,.fsl 3 (d.els.map eChg)] none)) ?_ (m:=d.els.length) ?_
 ·rintro m fr τ ⟨i,hi,e2,e3,e5,rfl⟩
  by_cases hlt:i<d.els.length
  ·have hlt':(i:Int)<(d.els.length:Int):=by omega
   have hw:=wrap_succ (i:=i) (by omega)
   have hg:=map_get eChg d.els i hlt
   generalize d.els[i]=a at hg
   simp +decide only [↓evd,evw,evz,reduceCtorEq,↓reduceIte,e2,e5,hlt',n1]
   with_reducible refine draw_of_grow (fun _=>True) (ms:=[false,false,false,false,false,false,false,false,false,false,false]) (by kernel_rfl) ?_
   simp +decide only [↓evd,evw,reduceCtorEq,↓reduceIte,e2,e3,e5,n1,hg,eChg,hw]
   exact ⟨m - 1,by omega,i+1,by omega,rfl⟩
  ·have hlt':¬(i:Int)<(d.els.length:Int):=by omega
   simp +decide only [↓evd,evw,evz,reduceCtorEq,↓reduceIte,e2,e5,hlt',n1]
   exact hK
 ·refine ⟨0,by omega,?_⟩
  simp +decide only [evw,↓reduceIte]
end Go.Proofs.YtioampofolilnaaGreat.M


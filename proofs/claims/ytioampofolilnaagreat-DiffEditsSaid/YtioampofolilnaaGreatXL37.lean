/- A part of the seat's proofs over the abstract machine. No condition. -/
import Derived.Test.YtioampofolilnaaGreatWC
import Derived.Test.YtioampofolilnaaGreatWB
set_option linter.unusedSimpArgs false
set_option linter.unusedVariables false
set_option maxRecDepth 100000
set_option maxRecDepth 100000
namespace Go.Proofs.YtioampofolilnaaGreat.M
open Go Go.Mini
section
open Opd renaming tmp → t, lit → l
open SOp renaming mv → m, call → c, load → d, pick → k, fldA → f, bin → b, idxA → x, store → e, nilc → z, len → g
open SCode renaming seq → q, reg → r, cond → i, block → o
open Option renaming some → s, none → n
def f_palinodelaw22_DiffEdits : SFunc := { ntmps := 122, results := [.tmp 4], body :=
(q (r n [⟨s 4,m (l (.bool false)),n,[]⟩])
(q (q (r n [⟨s 19,c (l (.fn 41 [])) [],n,[]⟩,⟨s 20,.not (t 19),n,[0]⟩])
(i (t 20) (q (r n [⟨s 4,m (l (.bool false)),n,[]⟩])
.ret) .skip))
(q (q (r n [⟨s 21,m (t 0),n,[]⟩,⟨s 22,c (l (.fn 42 [])) [(t 21)],n,[0]⟩,⟨s 23,.not (t 22),n,[1]⟩,⟨s 24,m (t 23),n,[2,1]⟩,⟨s 25,m (t 1),s (24,false),[3]⟩,⟨s 26,g (t 25),s (24,false),[4,3]⟩,⟨s 27,b .gtr .int (t 26) (l (.int .i64 8)),s (24,false),[5,3]⟩,⟨s 28,k (t 24) (l (.bool true)) (t 27),n,[3,6]⟩])
(i (t 28) (q (r n [⟨s 4,m (l (.bool true)),n,[]⟩])
.ret) .skip))
(q (q (r n [⟨s 5,m (l (.int .i64 0)),n,[]⟩])
(o 0 (.loop (q (q (r n [⟨s 29,m (t 5),n,[]⟩,⟨s 30,m (t 1),n,[]⟩,⟨s 31,g (t 30),n,[1]⟩,⟨s 32,b .lss .int (t 29) (t 31),n,[0,2]⟩])
(i (t 32) .skip (.exit 0)))
(q (o 1 (q (r n [⟨s 35,m (t 1),n,[]⟩,⟨s 36,m (t 5),n,[]⟩,⟨s 37,x 3 (t 35) (t 36),n,[0,1]⟩,⟨s 38,f 2 (t 37),n,[2]⟩,⟨s 39,d n (t 38),n,[3]⟩,⟨s 40,.lenS (t 39),n,[4]⟩,⟨s 41,b .gtr .int (t 40) (l (.int .i64 60)),n,[5]⟩])
(i (t 41) (q (r n [⟨s 4,m (l (.bool true)),n,[]⟩])
.ret) .skip)))
(r n [⟨s 33,m (t 5),n,[]⟩,⟨s 34,b .add .int (t 33) (l (.int .i64 1)),n,[0]⟩,⟨s 5,m (t 34),n,[1,0,1]⟩]))))))
(q (r n [⟨s 43,m (t 0),n,[]⟩,⟨s 44,c (l (.fn 43 [])) [(t 43)],n,[0]⟩,⟨s 42,m (t 44),n,[1]⟩,⟨s 45,.ext (t 42) 0,n,[2]⟩,⟨s 46,.ext (t 42) 1,n,[2]⟩,⟨s 6,m (t 45),n,[3,1,0,1,2,3]⟩,⟨s 7,m (t 46),n,[4,5,0,1,2,3,4,5]⟩])
(q (q (r n [⟨s 47,m (t 6),n,[]⟩,⟨s 48,c (l (.fn 58 [])) [(t 47)],n,[0]⟩,⟨s 49,c (l (.fn 57 [])) [(t 48),(l (.int .i64 8))],n,[1,1]⟩])
(i (t 49) (q (r n [⟨s 4,m (l (.bool true)),n,[]⟩])
.ret) .skip))
(q (r n [⟨s 50,m (t 6),n,[]⟩,⟨s 51,c (l (.fn 23 [])) [(t 50)],n,[0]⟩,⟨s 8,m (t 51),n,[1,1,0,1]⟩])
(q (r n [⟨s 53,m (t 6),n,[]⟩,⟨s 54,m (t 8),n,[]⟩,⟨s 55,c (l (.fn 38 [])) [(t 53),(t 54)],n,[0,1]⟩,⟨s 52,m (t 55),n,[2]⟩,⟨s 56,.ext (t 52) 0,n,[3]⟩,⟨s 57,.ext (t 52) 1,n,[3]⟩,⟨s 9,m (t 56),n,[4,2,0,1,2,3,4]⟩,⟨s 10,m (t 57),n,[5,6,0,1,2,3,4,5,6]⟩])
(q (r n [⟨s 59,m (t 6),n,[]⟩,⟨s 60,m (t 8),n,[]⟩,⟨s 61,m (t 1),n,[]⟩,⟨s 62,c (l (.fn 22 [])) [(t 59),(t 60),(l (.int .i64 8)),(l (.int .i64 0)),(t 61)],n,[0,1,2]⟩,⟨s 58,m (t 62),n,[3]⟩,⟨s 63,.ext (t 58) 0,n,[4]⟩,⟨s 64,.ext (t 58) 1,n,[4]⟩,⟨s 11,m (t 63),n,[5,3,0,1,2,3,4,5]⟩,⟨s 12,m (t 64),n,[6,7,0,1,2,3,4,5,6,7]⟩])
(q (q (r n [⟨s 65,m (t 12),n,[]⟩,⟨s 66,b .neq .int (t 65) (l (.int .i64 0)),n,[0]⟩])
(i (t 66) (q (r n [⟨s 4,m (l (.bool true)),n,[]⟩])
.ret) .skip))
(q (r n [⟨s 68,m (t 6),n,[]⟩,⟨s 69,m (t 8),n,[]⟩,⟨s 70,m (t 11),n,[]⟩,⟨s 71,c (l (.fn 44 [])) [(t 68),(t 69),(t 70)],n,[0,1,2]⟩,⟨s 67,m (t 71),n,[3]⟩,⟨s 72,.ext (t 67) 0,n,[4]⟩,⟨s 73,.ext (t 67) 1,n,[4]⟩,⟨s 13,.alloc [(.int .i64 0),.nils],n,[]⟩,⟨n,e 2 (t 13) (t 72),n,[7,5,3,0,1,2,3,4,5,7]⟩,⟨s 14,m (t 73),n,[6,8,0,1,2,3,4,5,6,7,8]⟩])
(q (r n [⟨s 75,m (t 9),n,[]⟩,⟨s 76,.lenS (t 75),n,[0]⟩,⟨s 77,m (t 1),n,[]⟩,⟨s 78,c (l (.fn 59 [])) [(t 76),(t 77)],n,[1,2]⟩,⟨s 74,m (t 78),n,[3]⟩,⟨s 79,.ext (t 74) 0,n,[4]⟩,⟨s 80,.ext (t 74) 1,n,[4]⟩,⟨s 15,.alloc [(.int .i64 0),.nils],n,[]⟩,⟨n,e 2 (t 15) (t 79),n,[7,5,3,0,1,2,3,4,5,7]⟩,⟨s 16,m (t 80),n,[6,8,0,1,2,3,4,5,6,7,8]⟩])
(q (q (r n [⟨s 81,m (t 14),n,[]⟩,⟨s 82,b .neq .int (t 81) (l (.int .i64 0)),n,[0]⟩,⟨s 83,m (t 82),n,[1]⟩,⟨s 84,m (t 16),s (83,false),[2]⟩,⟨s 85,b .neq .int (t 84) (l (.int .i64 0)),s (83,false),[3,2]⟩,⟨s 86,k (t 83) (l (.bool true)) (t 85),n,[2,4]⟩])
(i (t 86) (q (r n [⟨s 87,m (t 14),n,[]⟩,⟨s 88,b .eql .int (t 87) (l (.int .i64 70)),n,[0]⟩,⟨s 89,m (t 88),n,[1]⟩,⟨s 90,m (t 16),s (89,false),[2]⟩,⟨s 91,b .neq .int (t 90) (l (.int .i64 0)),s (89,false),[3,2]⟩,⟨s 92,k (t 89) (l (.bool true)) (t 91),n,[2,4]⟩,⟨s 4,m (t 92),n,[5,2,0,1,2,3,4,5]⟩])
.ret) .skip))
(q (r n [⟨s 94,d (s 2) (t 13),n,[]⟩,⟨s 95,m (t 9),n,[]⟩,⟨s 96,c (l (.fn 54 [])) [(t 94),(t 95)],n,[0,1]⟩,⟨s 93,m (t 96),n,[2]⟩,⟨s 97,.ext (t 93) 0,n,[3]⟩,⟨s 98,.ext (t 93) 1,n,[3]⟩,⟨s 17,m (t 97),n,[4,2,0,1,2,3,4]⟩,⟨s 18,m (t 98),n,[5,6,0,1,2,3,4,5,6]⟩])
(q (r (s [0,1,3,7,7,7,55,127,255,511,1023,2047,1023,8191,16383,32767,65535,131071,262143,131071,1048575,2097151,4194303,8388607]) [⟨s 99,m (t 18),n,[]⟩,⟨s 100,b .eql .int (t 99) (l (.int .i64 0)),n,[0]⟩,⟨s 101,m (t 100),n,[1]⟩,⟨s 102,m (t 17),s (101,true),[2]⟩,⟨s 103,m (t 9),s (101,true),[2]⟩,⟨s 104,m (t 1),s (101,true),[2]⟩,⟨s 105,c (l (.fn 60 [])) [(t 103),(t 104)],s (101,true),[4,5,2,2]⟩,⟨s 106,b .eql .str (t 102) (t 105),s (101,true),[3,6,2]⟩,⟨s 107,k (t 101) (t 106) (l (.bool false)),n,[2,7]⟩,⟨s 108,m (t 107),n,[8,6]⟩,⟨s 109,d (s 2) (t 13),s (108,true),[9]⟩,⟨s 110,c (l (.fn 51 [])) [(t 109)],s (108,true),[10,9,9]⟩,⟨s 111,d (s 2) (t 15),s (108,true),[9]⟩,⟨s 112,c (l (.fn 51 [])) [(t 111)],s (108,true),[12,11,9]⟩,⟨s 113,b .eql .int (t 110) (t 112),s (108,true),[11,13,9]⟩,⟨s 114,k (t 108) (t 113) (l (.bool false)),n,[9,14]⟩,⟨s 115,m (t 114),n,[15,13]⟩,⟨s 116,d (s 2) (t 13),s (115,true),[16]⟩,⟨s 117,c (l (.fn 52 [])) [(t 116)],s (115,true),[17,16,16]⟩,⟨s 118,d (s 2) (t 15),s (115,true),[16]⟩,⟨s 119,c (l (.fn 52 [])) [(t 118)],s (115,true),[19,18,16]⟩,⟨s 120,b .eql .int (t 117) (t 119),s (115,true),[18,20,16]⟩,⟨s 121,k (t 115) (t 120) (l (.bool false)),n,[16,21]⟩,⟨s 4,m (t 121),n,[22,20,0,1,2,3,4,5,6,7,8,9,10,11,12,13,14,15,16,17,18,19,20,21,22]⟩])
.ret)))))))))))))))}
theorem c_palinodelaw22_DiffEdits : cFunc Tryz.prog n_palinodelaw22_DiffEdits = some f_palinodelaw22_DiffEdits := by kernel_rfl
end
end Go.Proofs.YtioampofolilnaaGreat.M
namespace Go.Proofs.YtioampofolilnaaGreat.M
open Go Go.Mini
attribute [local congr] go1_congr goM_congr goG_congr goV_congr drawwp_congr Xwp_congr
theorem keptL_cons (c:Chg) (l:List Chg):keptL (c::l)=(c.to - c.frm)+keptL l:=by simp [keptL]
theorem putL_cons (c:Chg) (l:List Chg):putL (c::l)=c.text.length+putL l:=by simp [putL]
theorem doF_len {s:List UInt8}:∀ {l:List Chg} {a:Nat},OrdC s.length l (a:Nat)→((doF s l a).length:Int)=s.length - a - keptL l+(putL l:Nat)
 | [],a,h=>by
  simp only [OrdC] at h
  simp only [doF,List.length_drop,keptL,putL,List.map_nil,List.sum_nil];omega
 | c::l,a,h=>by
  obtain ⟨h1,h2,h3,h4⟩:=h
  obtain ⟨t,ht⟩:∃ t:Nat,c.to=(t:Int):=⟨c.to.toNat,by omega⟩
  obtain ⟨f,hf⟩:∃ f:Nat,c.frm=(f:Int):=⟨c.frm.toNat,by omega⟩
  rw [ht] at h4
  have ih:=doF_len h4
  rw [doF,List.length_append,List.length_append,keptL_cons,putL_cons,List.length_drop,List.length_take,ht,hf,Int.toNat_natCast,Int.toNat_natCast]
  omega
theorem BOk.copyTo {base:Nat} {s tt:List UInt8} {r:List Chg} {p kp pt:Nat} (h:BOk base s tt (r,p) kp pt) {q:Nat} (hpq:p≤q) (hq:q≤base) (hs:s.length=base):∃ tt',BOk base s tt' (mkC r p q,q) (kp+(q - p)) pt:=by
 by_cases e:p=q
 ·subst e
  refine ⟨tt,?_⟩
  have:mkC r (p:Int) (p:Int)=r:=by simp [mkC]
  rw [this,Nat.sub_self];exact h
 ·have hl:((s.take q).drop p).length=q - p:=by simp;omega
  have:=h.copy (t:=(s.take q).drop p) (fun he=>by rw [he] at hl;simp at hl;omega) (by simp only;omega) (by simp only [hl];rw [show p+(q - p)=q by omega])
  simp only [hl] at this
  rw [show p+(q - p)=q by omega] at this
  exact ⟨_,this⟩
theorem bd_ok {s:List UInt8} {l:List Chg} (hs:s.length≤20000) (ho:OrdC s.length l 0) (hv:∀ c∈l,valid c.text=true) (ht:∀ c∈l,c.text.length≤60) (hl:l.length≤8):∀ i,i≤l.length→
  ∃ (a kp:Nat) (tt:List UInt8),(bd (l.take i)).2=(a:Int)∧OrdC s.length (l.drop i) (a:Nat)∧BOk s.length s tt ((bd (l.take i)).1,a) kp (putL (l.take i))∧(kp:Int)=a - keptL (l.take i)∧putL (l.take i)≤60 * i
 | 0,_=>⟨0,0,[],rfl,ho,⟨trivial,by simp [bd,toR],rfl,by simp [bd,keptL],by simp [bd,putL]⟩,by simp [keptL],by simp [putL]⟩
 | i+1,hi=>by
  obtain ⟨a,kp,tt,h1,h2,h3,h4,h5⟩:=bd_ok hs ho hv ht hl i (by omega)
  have hlt:i<l.length:=by omega
  have hvi:=hv _ (List.getElem_mem hlt)
  have hti:=ht _ (List.getElem_mem hlt)
  rw [List.drop_eq_getElem_cons hlt] at h2
  rw [bd_take hlt,show keptL (l.take (i+1))=keptL (l.take i)+(l[i].to - l[i].frm) by rw [List.take_succ_eq_append_getElem hlt,keptL_app,keptL_one],show putL (l.take (i+1))=putL (l.take i)+l[i].text.length by rw [List.take_succ_eq_append_getElem hlt,putL_app,putL_one]]
  generalize l[i]=c at h2 hvi hti
  generalize bd (l.take i)=st at h1 h3
  obtain ⟨o1,o2,o3,o4⟩:=h2
  obtain ⟨f,hf⟩:∃ f:Nat,c.frm=(f:Int):=⟨c.frm.toNat,by omega⟩
  obtain ⟨t,hto⟩:∃ t:Nat,c.to=(t:Int):=⟨c.to.toNat,by omega⟩
  obtain ⟨tt',hc⟩:=h3.copyTo (q:=f) (by omega) (by omega) rfl
  have hp:=hc.puts hvi (by omega)
  have hg:=hp.gone (n:=t) (by simp only;omega)
  refine ⟨t,kp+(f - a),tt' ++ c.text,hto,by rw [hto] at o4;exact o4,?_,by rw [hf,hto];omega,by omega⟩
  simp only [bdS,h1,hf]
  exact hg
theorem build_ok {s:List UInt8} {l:List Chg} (hs:s.length≤20000) (ho:OrdC s.length l 0) (hv:∀ c∈l,valid c.text=true) (ht:∀ c∈l,c.text.length≤60) (hl:l.length≤8) (hz:s.length+480≤20000):∃ els,DOk ⟨(s.length:Nat),els⟩∧els=(mkC (bd l).1 (bd l).2 (s.length:Nat)).reverse∧keptL els=s.length - keptL l∧putL els=putL l:=by
 obtain ⟨a,kp,tt,h1,h2,h3,h4,h5⟩:=bd_ok hs ho hv ht hl l.length (Nat.le_refl _)
 rw [List.take_length] at h1 h3 h4 h5
 rw [List.drop_length] at h2
 simp only [OrdC] at h2
 obtain ⟨tt',hc⟩:=h3.copyTo (q:=s.length) (by omega) (Nat.le_refl _) rfl
 have hsm:=bd_small ht l.length (Nat.le_refl _)
 rw [List.take_length] at hsm
 have hcl:=mkC_len (bd l).1 (a:Int) (s.length:Nat)
 refine ⟨_,⟨by simp,by simp;omega,?_,?_,?_⟩,rfl,?_,?_⟩
 ·simp only [List.length_reverse,h1];omega
 ·simp only [List.reverse_reverse,h1];exact hc.wf
 ·have q1:=hc.kept
  have q2:=hc.put
  simp only at q1 q2
  simp only [h1,q1,q2]
  have hkp:0≤keptL l:=by
   clear h1 h3 h4 h2 hc hsm hcl
   have:∀ (l:List Chg) (a:Int),OrdC s.length l a→0≤keptL l:=by
    intro l
    induction l with
    | nil=>intro a _;simp [keptL]
    | cons c l ih=>intro a h;obtain ⟨o1,o2,o3,o4⟩:=h;have:=ih _ o4;rw [keptL_cons];omega
   exact this l 0 ho
  omega
 ·have q1:=hc.kept
  simp only at q1
  simp only [h1,q1];omega
 ·have q2:=hc.put
  simp only at q2
  simp only [h1,q2]
theorem sumIf_merged {p : Atom → Bool} {new : List UInt8 → List Atom} {mk : List Atom} : ∀ (r : List (Nat × List UInt8)) (at' : Nat), (r.map Prod.fst).Pairwise (· ≤ ·) → (∀ k ∈ r.map Prod.fst, at' ≤ k ∧ k ≤ mk.length) → sumIf p (merged new mk r at') = sumIf p (mk.drop at') + (r.map fun kt => sumIf p (new kt.2)).sum
  | [], at', _, _ => by simp [merged]
  | (k, t) :: r, at', hs, hl => by
    have hk := hl k (by simp)
    have ih := sumIf_merged (p := p) (new := new) (mk := mk) r k hs.of_cons fun q hq => ⟨List.rel_of_pairwise_cons hs hq, (hl q (List.mem_cons_of_mem _ hq)).2⟩
    rw [merged_cons, sumIf_app, sumIf_app, ih]
    have h1 : mk.drop at' = (mk.take k).drop at' ++ mk.drop k := by
      conv => lhs; rw [← List.take_append_drop k mk]
      rw [List.drop_append_of_le_length (by rw [List.length_take]; omega)]
    rw [h1, sumIf_app]
    simp only [List.map_cons, List.sum_cons]; omega
theorem new_sum {p:Atom→Bool} {n g rank:Int} {t:List UInt8} (hv:valid t=true) (hp:∀ b,p ⟨b,n,g,rank,[]⟩=true):sumIf p (newAtoms n g rank (ptsOf t))=t.length:=by
 obtain ⟨ps,hps⟩:=Option.isSome_iff_exists.1 hv
 have h1:=(pts_cp _ t ps (Nat.le_refl _) hps).1
 have h2:ptsOf t=ps:=by rw [ptsOf,hps];rfl
 rw [h2,h1]
 clear h1 h2 hps hv
 induction ps with
 | nil=>rfl
 | cons b ps ih=>
  simp only [newAtoms,List.map_cons,List.flatten_cons,List.length_append] at ih ⊢
  rw [sumIf_cons,hp,if_pos rfl,ih]
theorem sumIf_zero {p:Atom→Bool}:∀ {l:List Atom},(∀ a∈l,p a=false)→sumIf p l=0
 | [],_=>rfl
 | a::l,h=>by rw [sumIf_cons,h a (by simp),sumIf_zero fun b hb=>h b (List.mem_cons_of_mem _ hb)];rfl
theorem edit_came {l:List Atom} {h:Nat} {u:List Int} {cs:List Chg} (hold:∀ a∈l,a.rev≤(h:Int)∧∀ c∈a.cuts,c.rev≤(h:Int)) (hg:(8:Int)∉u) (hc:check (atomsText (h:Nat) u l) cs=0):
  sumIf (cameB (h:Nat) ((h+1:Nat):Int) u u) (upon l (h:Nat) u cs ((h+1:Nat):Int) 8 0)=putL cs:=by
 obtain ⟨z1,z2,z3,z4,z5,z6,z7⟩:=check_zero hc
 rw [upon,if_pos hc]
 obtain ⟨h1,h2⟩:=spotsN_sorted 0 hc
 have hf:((spotsN l (h:Nat) u cs 0).zip (cs.map Chg.text)).map Prod.fst=spotsN l (h:Nat) u cs 0:=by
  rw [zip_fst,List.take_of_length_le];simp [spotsN]
 rw [sumIf_merged _ _ (by rw [hf];exact h1) (by rw [hf,marked_len];exact fun k hk=>⟨Nat.zero_le _,h2 k hk⟩),List.drop_zero]
 have hnc:∀ a∈marked (cuts l (h:Nat) u cs) ⟨((h+1:Nat):Int),8⟩ l 0,cameB (h:Nat) ((h+1:Nat):Int) u u a=false:=by
  intro a ha
  obtain ⟨b,hb,hab⟩:=mem_marked ha
  have ho:=hold b hb
  have hcut:b.cuts.any (cutHolds (h:Nat) u)=b.cuts.any (cutHolds ((h+1:Nat):Int) u):=by
   rw [Bool.eq_iff_iff,List.any_eq_true,List.any_eq_true]
   constructor <;> rintro ⟨c,hc,hh⟩ <;> refine ⟨c,hc,?_⟩ <;> have:=ho.2 c hc <;> simp only [cutHolds,Bool.and_eq_true,decide_eq_true_eq] at hh ⊢ <;> exact ⟨by omega,hh.2⟩
  have hvb:visible (h:Nat) u b=visible ((h+1:Nat):Int) u b:=by
   simp only [visible,hcut]
   rw [decide_eq_true (show b.rev≤(h:Int) by omega),decide_eq_true (show b.rev≤((h+1:Nat):Int) by omega)]
  rcases hab with rfl | rfl
  ·simp only [cameB,hvb];cases visible ((h+1:Nat):Int) u a <;> rfl
  ·have:visible ((h+1:Nat):Int) u {b with cuts:=b.cuts ++ [⟨((h+1:Nat):Int),8⟩]}=false:=by
    have hch:cutHolds ((h+1:Nat):Int) u ⟨((h+1:Nat):Int),8⟩=true:=by simp [cutHolds,holds,hg]
    simp only [visible,List.any_append,List.any_cons,hch,Bool.true_or,Bool.or_true,Bool.not_true,Bool.and_false]
   simp only [cameB,this,Bool.and_false]
 rw [sumIf_zero hnc,Nat.zero_add]
 have hpn:∀ b,cameB (h:Nat) ((h+1:Nat):Int) u u ⟨b,((h+1:Nat):Int),8,0,[]⟩=true:=by
  intro b
  have hn1:¬((h+1:Nat):Int)≤(h:Int):=by omega
  simp [cameB,visible,holds,hg]
  omega
 have hlen:(spotsN l (h:Nat) u cs 0).length=cs.length:=by simp [spotsN]
 generalize spotsN l (h:Nat) u cs 0=sp at hlen
 clear hf h1 h2 hnc z1 z2 z3 z4 z5 z7 hc hold
 induction cs generalizing sp with
 | nil=>simp [putL]
 | cons c cs ih=>
  cases sp with
  | nil=>simp at hlen
  | cons k sp=>
   simp only [List.map_cons,List.zip_cons_cons,List.sum_cons]
   rw [ih (fun d hd=>z6 d (List.mem_cons_of_mem _ hd)) sp (by simpa using hlen),new_sum (z6 c (by simp)) hpn,putL_cons]
set_option maxHeartbeats 8000000 in
theorem diffEdits_fspec (W:World) (l:List Step) (cs:List Chg) (hl:l.length≤9223372036854775807) (hx:∀ x∈l,StepFits x) (hcl0:cs.length≤9223372036854775807):FSpec Tryz.prog n_palinodelaw22_DiffEdits [eSteps l,eChgs cs] (Heap.bare W (cellsOf W)) fun v s=>v= .bool true∧s.W=W:=by
 refine fspec_of_awp mixed c_palinodelaw22_DiffEdits (tl rfl) ?_
 unfold f_palinodelaw22_DiffEdits
 have hfew:=few22_call (Heap.bare W (cellsOf W)) l hl hx
 simp only [eSteps] at hfew
 simp +decide only [↓evd,evw,evz,reduceCtorEq]
 refine MSpec.of (known22_call _ rfl) ?_
 simp +decide only [↓evd,evw,reduceCtorEq,↓reduceIte,eSteps]
 refine MSpec.of hfew ?_
 cases hfb:fewB20 l with
 | false=>simp +decide only [↓evd,evw,reduceCtorEq,↓reduceIte]
 | true=>
 by_cases h8:(8:Int)<(cs.length:Int)
 ·simp +decide only [↓evd,evw,evz,reduceCtorEq,↓reduceIte,h8]
 have hall:∀ x∈l,fewOne x=true:=fun x hx=>by
  simp only [fewB20,Bool.and_eq_true,List.all_eq_true] at hfb
  exact hfb.1 x hx
 have hl20:l.length≤20:=by simp only [fewB20,Bool.and_eq_true,decide_eq_true_eq] at hfb;exact hfb.2
 simp +decide only [↓evd,evw,evz,reduceCtorEq,↓reduceIte,h8]
 refine awp_loop (fun m fr τ=>∃ (i:Nat),m+i=cs.length∧fr.get 0=eSteps l∧fr.get 1=eChgs cs∧fr.get 5= .int .i64 (i:Nat)∧(∀ c∈cs.take i,c.text.length≤60)∧τ=Heap.bare W (cellsOf W)) ?_ (m:=cs.length) ?_
 case refine_2=>
  refine ⟨0,by omega,?_⟩
  simp +decide only [evw,↓reduceIte,eSteps,eChgs]
 rintro m fr τ ⟨i,hi,e0,e1,e5,ht,hτ⟩
 by_cases hlt:i<cs.length
 ·have hlt':(i:Int)<(cs.length:Int):=by omega
  have hw:=wrap_succ (i:=i) (by omega)
  have hg:=map_get eChg cs i hlt
  have htk:=List.take_succ_eq_append_getElem hlt
  generalize cs[i]=c at hg htk
  by_cases h60:(60:Int)<(c.text.length:Int)
  ·simp +decide only [↓evd,evw,evz,reduceCtorEq,↓reduceIte,e1,e5,eChgs,hlt',hg,eChg,h60]
   rw [hτ];rfl
  ·simp +decide only [↓evd,evw,evz,reduceCtorEq,↓reduceIte,e0,e1,e5,eChgs,hlt',hg,eChg,h60,hw]
   refine ⟨m - 1,by omega,i+1,by omega,rfl,?_,hτ⟩
   rw [htk]
   intro d hd
   rcases List.mem_append.1 hd with hd | hd
   ·exact ht d hd
   ·rw [List.mem_singleton] at hd;subst hd;omega
 have hlt':¬(i:Int)<(cs.length:Int):=by omega
 rw [List.take_of_length_le (by omega)] at ht
 subst hτ
 have hbo:=both22_at (Heap.bare W (cellsOf W)) rfl l (by omega) hall
 have hWh:(l.foldl doB Eng.new).Whole:=Eng.Whole.new.run
 generalize l.foldl doB Eng.new=E at hbo hWh
 simp only [eSteps] at hbo
 simp +decide only [↓evd,evw,evz,reduceCtorEq,↓reduceIte,e0,e1,e5,eSteps,eChgs,hlt']
 refine hbo.mono ?_
 rintro v τ ⟨k1,k2,fp1,fp2,rfl,hT⟩
 have hE:=hT.eng
 have hW1:τ.W=W:=hT.keep.1
 clear hT hbo hfew
 obtain ⟨hok,hRok⟩:=hE.ok
 have hun:=eundone_at hE
 have huf:=undone_few hRok (E.R.head:Nat)
 have hin:=fun ρ=>in_call ρ (E.R.undone (E.R.head:Nat)) 8 huf
 simp only [ints] at hun hin
 simp +decide only [↓evd,evw,reduceCtorEq,↓reduceIte]
 refine MSpec.of hun ?_
 simp +decide only [↓evd,evw,↓reduceIte]
 refine MSpec.of (hin _) ?_
 by_cases hm8:(8:Int)∈E.R.undone (E.R.head:Nat)
 ·simp +decide only [↓evd,evw,reduceCtorEq,↓reduceIte,decide_eq_true hm8]
  first | exact hW1 | exact ⟨rfl,hW1⟩
 have hhd:=ehead_at hE
 have htx:=etext_at hE (E.R.head:Nat)
 rw [textV_head hRok] at htx
 rcases hed:editE E (E.R.head:Nat) 8 0 cs with ⟨E',n,c⟩
 have hedc:=eedit_at hE (by omega) (fun c hc=>by have:=ht c hc;omega) hed
 simp only [eChgs] at hedc
 simp +decide only [↓evd,evw,reduceCtorEq,↓reduceIte,decide_eq_false hm8]
 refine MSpec.of hhd ?_
 simp +decide only [↓evd,evw,reduceCtorEq,↓reduceIte]
 refine MSpec.of htx ?_
 simp +decide only [↓evd,evw,reduceCtorEq,↓reduceIte,e1,eChgs]
 refine hedc.mono ?_
 rintro v τ1 ⟨rfl,fp3,hE1,kk1,_⟩
 have hW2:τ1.W=W:=kk1.1.trans hW1
 by_cases hc0:c=0
 case neg=>
  have hcb:(c != 0)=true:=by simpa using hc0
  simp +decide only [↓evd,evw,reduceCtorEq,↓reduceIte,hcb]
  first | exact hW2 | exact ⟨rfl,hW2⟩
 have hcb:(c != 0)=false:=by simpa using hc0
 subst hc0
 obtain ⟨_,_,_,hhl,hlv,hck,_,_,hn,hE',hh'⟩:=edit_shape hRok hed
 obtain ⟨_,_,_,helder⟩:=edit_elder hRok hed
 have hWE:=hWh.edit hed
 have hold:=hWh.known.old
 have htoph:=hRok.top.1
 have hcku:check (atomsText (E.R.head:Nat) (E.R.undone (E.R.head:Nat)) E.l) cs=0:=hck
 obtain ⟨z1,z2,z3,z4,z5,z6,z7⟩:=check_zero hck
 have hord:=check_ord hck
 have hu2:E'.R.undone ((E.R.head+1:Nat):Int)=E.R.undone (E.R.head:Nat):=by
  have h1:=hWE.rok.top.1
  rw [hh'] at h1
  rw [h1,hE',htoph]
  exact top_push E.R E.R.top
 have hu1:E'.R.undone (E.R.head:Nat)=E.R.undone (E.R.head:Nat):=by rw [hE',undone_grp,undone_push _ hRok hlv]
 have hts:E'.text (E.R.head:Nat)=E.text (E.R.head:Nat):=(helder _ hlv).2
 have htn:E'.text ((E.R.head+1:Nat):Int)=doF (E.text (E.R.head:Nat)) cs 0:=by
  rw [Eng.text,hu2,hE']
  exact edit_text hok.txt hold (by omega) (by simp [holds,hm8]) hcku
 have hcame:=edit_came (u:=E.R.undone (E.R.head:Nat)) hold hm8 hcku
 have hlen:=doF_len (a:=0) hord
 have hsl:=atomsText_le (E.R.head:Nat) (E.R.undone (E.R.head:Nat)) hok.txt
 have hll:=hok.len
 have hsl2:(E.text (E.R.head:Nat)).length≤16000:=by simp only [Eng.text];omega
 have hcs:ChgsOk (E.text (E.R.head:Nat)).length cs:=⟨by omega,z2,fun c hc=>by
  rw [List.any_eq_false] at z3
  have:=z3 c hc
  simp only [chgOut,Bool.or_eq_true,decide_eq_true_eq,not_or] at this
  omega,z5,z6,ht⟩
 obtain ⟨els,hwok,hels,hwk,hwp⟩:=build_ok (by omega) hord z6 ht z2 (by omega)
 have hbc:=fun ρ=>build_call ρ (E.text (E.R.head:Nat)).length cs hcs
 rcases hbt:betwE E' (E.R.head:Nat) n with ⟨d,c1⟩
 obtain ⟨he1,he2⟩:=betw_err hbt
 have q1:=fun ρ (h:IsEng ρ k1 E' fp3)=>between_call h (E.R.head:Nat) n
 simp only [hbt,eDelta,eChgs] at q1
 have hc1:c1=0∨(c1=70∧d=⟨0,[]⟩):=by
  rcases he1 with h | h | ⟨h,_⟩
  ·exact .inl h
  ·exact .inr h
  ·have h1:=he2.1 h
   have h2:E'.R.live n=true:=by
    have:=Eng.live_head hWE.rok
    rw [hh'] at this
    rw [hn];exact this
   rw [h2,(helder _ hlv).1] at h1
   simp at h1
 obtain ⟨wd,wk,hbe⟩:∃ wd wk,buildE (E.text (E.R.head:Nat)).length cs=(wd,wk):=⟨_,_,rfl⟩
 rw [hbe] at hbc
 simp only [eDelta,eChgs] at hbc
 have n1:(τ1.next+1=τ1.next)=False:=eq_false (by omega)
 have n2:(τ1.next=τ1.next+1)=False:=eq_false (by omega)
 simp +decide only [↓evd,evw,reduceCtorEq,↓reduceIte,hcb]
 refine MSpec.of (q1 _ hE1) ?_
 simp +decide only [↓evd,evw,reduceCtorEq,↓reduceIte,e1,eChgs]
 refine MSpec.of (hbc _) ?_
 rcases hc1 with rfl | ⟨rfl,rfl⟩
 case inr=>
  have b1:((70:Int) != 0)=true:=rfl
  have b2:((70:Int)==70)=true:=rfl
  simp +decide only [↓evd,evw,reduceCtorEq,↓reduceIte,b1]
  first | exact hW2 | exact ⟨rfl,hW2⟩
 have b0:((0:Int) != 0)=false:=rfl
 have b1:((0:Int)==70)=false:=rfl
 have b2:((0:Int)==0)=true:=rfl
 by_cases hwk0:wk=0
 case neg=>
  have hwb:(wk != 0)=true:=by simpa using hwk0
  simp +decide only [↓evd,evw,reduceCtorEq,↓reduceIte,b0,b1,hwb]
  first | exact hW2 | exact ⟨rfl,hW2⟩
 subst hwk0
 have hB:=betw_ok hWE.ok hbt
 have hwd:wd=⟨((E.text (E.R.head:Nat)).length:Nat),els⟩:=by
  unfold buildE at hbe
  split at hbe
  ·cases hbe;rw [hels]
  ·rename_i hne;simp only [Prod.mk.injEq] at hbe;exact absurd hbe.2 hne
 subst hwd
 have A0:=fun ρ=>apply_call ρ d (E.text (E.R.head:Nat)) hB.ok (by rw [hB.base,hts])
 have happ:=hB.app
 rw [hts] at happ
 rw [happ,hn,htn] at A0
 have A1:=fun ρ=>adds_call ρ d hB.ok
 have A2:=fun ρ=>drops_call ρ d hB.ok
 have A3:=fun ρ=>adds_call ρ _ hwok
 have A4:=fun ρ=>drops_call ρ _ hwok
 have hput:putL d.els=putL cs:=by
  rw [hB.put,hn,hu1,hu2]
  have:E'.l=upon E.l (E.R.head:Nat) (E.R.undone (E.R.head:Nat)) cs ((E.R.head+1:Nat):Int) 8 0:=by rw [hE']
  rw [this];exact hcame
 have r1:=kept_came E' (E.R.head:Nat) n
 have r2:=kept_went E' (E.R.head:Nat) n
 have hpp:=hB.put
 rw [hput] at hpp
 rw [← hpp,hn,htn] at r1
 have hdr:d.base - keptL d.els=keptL cs:=by
  have hk:=hB.kept
  rw [hn] at hk
  rw [hB.base,hts,hk]
  omega
 rw [hput] at A1
 rw [hdr] at A2
 rw [hwp] at A3
 have hdw:(((E.text (E.R.head:Nat)).length:Nat):Int) - keptL els=keptL cs:=by rw [hwk];omega
 simp only [hdw] at A4
 have hdo:=fun ρ=>rdo_call ρ (E.text (E.R.head:Nat)) cs (by unfold maxRoom;omega) (by omega) (fun c hc=>by have:=ht c hc;unfold ChgFits maxRoom;omega)
 rw [doS,if_pos hck] at hdo
 have be:∀ x:Int,(x==x)=true:=by intro x;simp
 simp only [eDelta,eChgs] at A0 A1 A2 A3 A4 hdo
 simp +decide only [↓evd,evw,reduceCtorEq,↓reduceIte,n1,b0]
 refine MSpec.of (A0 _) ?_
 simp +decide only [↓evd,evw,reduceCtorEq,↓reduceIte]
 with_reducible refine draw_of_grow (fun _=>True) (ms:=[false,false,false,false,false,false,false,false,false,false,false,false,false,false,false,false,false,false,false,false,false,false,false,false]) (by kernel_rfl) ?_
 simp +decide only [↓evd,evw,↓reduceIte,e1,eChgs]
 refine MSpec.of (hdo _) ⟨.inr Keeps.rfl,?_⟩
 simp +decide only [↓evd,evw,↓reduceIte,n1,aStr_self]
 refine MSpec.of (A1 _) ⟨.inr Keeps.rfl,?_⟩
 simp +decide only [↓evd,evw,↓reduceIte]
 refine MSpec.of (A3 _) ⟨.inr Keeps.rfl,?_⟩
 simp +decide only [↓evd,evw,↓reduceIte,n1]
 refine MSpec.of (A2 _) ⟨.inr Keeps.rfl,?_⟩
 simp +decide only [↓evd,evw,↓reduceIte]
 refine MSpec.of (A4 _) ⟨.inr Keeps.rfl,?_⟩
 simp +decide only [↓evd,evw,↓reduceIte]
 first | exact hW2 | exact ⟨rfl,hW2⟩
theorem diffEdits_row (W:World) (a0:List Step) (a1:List Chg) (g0:GList gStep a0) (g1:GList gChg a1):FSpec Tryz.prog n_palinodelaw22_DiffEdits [.fsl 6 (a0.map eStep),.fsl 3 (a1.map eChg)] (Heap.bare W (cellsOf W)) fun v s=>v= .bool true∧s.W=W:=
 diffEdits_fspec W a0 a1 (steps_fit g0).1 (steps_fit g0).2 (Nat.le_trans g1.2 maxLen_le)
end Go.Proofs.YtioampofolilnaaGreat.M


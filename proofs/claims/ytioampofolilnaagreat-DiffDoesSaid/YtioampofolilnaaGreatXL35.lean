/- A part of the seat's proofs over the abstract machine. No condition. -/
import Derived.Test.YtioampofolilnaaGreatWC
set_option linter.unusedSimpArgs false
set_option linter.unusedVariables false
set_option maxRecDepth 100000
set_option maxRecDepth 100000
namespace Go.Proofs.YtioampofolilnaaGreat.M
open Go Go.Mini
section
open Opd renaming tmp → t, lit → l
open SOp renaming mv → m, call → c, load → d, pick → k, fldA → f, bin → b, idxA → x, store → e, nilc → z, len → g
open SCode renaming seq → q, reg → r, cond → i, block → o
open Option renaming some → s, none → n
def f_palinodelaw22_DiffDoes : SFunc := { ntmps := 134, results := [.tmp 6], body :=
(q (r n [⟨s 6,m (l (.bool false)),n,[]⟩])
(q (q (r n [⟨s 24,c (l (.fn 41 [])) [],n,[]⟩,⟨s 25,.not (t 24),n,[0]⟩])
(i (t 25) (q (r n [⟨s 6,m (l (.bool false)),n,[]⟩])
.ret) .skip))
(q (q (r n [⟨s 26,m (t 0),n,[]⟩,⟨s 27,c (l (.fn 42 [])) [(t 26)],n,[0]⟩,⟨s 28,.not (t 27),n,[1]⟩])
(i (t 28) (q (r n [⟨s 6,m (l (.bool true)),n,[]⟩])
.ret) .skip))
(q (r n [⟨s 30,m (t 0),n,[]⟩,⟨s 31,c (l (.fn 43 [])) [(t 30)],n,[0]⟩,⟨s 29,m (t 31),n,[1]⟩,⟨s 32,.ext (t 29) 0,n,[2]⟩,⟨s 33,.ext (t 29) 1,n,[2]⟩,⟨s 7,m (t 32),n,[3,1,0,1,2,3]⟩,⟨s 8,m (t 33),n,[4,5,0,1,2,3,4,5]⟩])
(q (r (s [0,1,0,4,12,31,0,64,0,268,780,1996,831,8191]) [⟨s 34,m (t 1),n,[]⟩,⟨s 35,.cint .i64 (t 34),n,[0]⟩,⟨s 36,m (t 7),n,[]⟩,⟨s 37,c (l (.fn 23 [])) [(t 36)],n,[2]⟩,⟨s 38,b .add .int (t 37) (l (.int .i64 1)),n,[3]⟩,⟨s 39,b .rem .int (t 35) (t 38),n,[1,4]⟩,⟨s 40,m (t 2),n,[]⟩,⟨s 41,.cint .i64 (t 40),n,[6]⟩,⟨s 42,m (t 7),n,[]⟩,⟨s 43,c (l (.fn 23 [])) [(t 42)],n,[8,3]⟩,⟨s 44,b .add .int (t 43) (l (.int .i64 1)),n,[9]⟩,⟨s 45,b .rem .int (t 41) (t 44),n,[7,10]⟩,⟨s 9,m (t 39),n,[5,9,0,1,2,3,4,5]⟩,⟨s 10,m (t 45),n,[11,12,0,1,2,3,4,5,6,7,8,9,10,11,12]⟩])
(q (r n [⟨s 47,m (t 7),n,[]⟩,⟨s 48,m (t 9),n,[]⟩,⟨s 49,c (l (.fn 38 [])) [(t 47),(t 48)],n,[0,1]⟩,⟨s 46,m (t 49),n,[2]⟩,⟨s 50,.ext (t 46) 0,n,[3]⟩,⟨s 51,.ext (t 46) 1,n,[3]⟩,⟨s 11,m (t 50),n,[4,2,0,1,2,3,4]⟩,⟨s 12,m (t 51),n,[5,6,0,1,2,3,4,5,6]⟩])
(q (r n [⟨s 53,m (t 7),n,[]⟩,⟨s 54,m (t 10),n,[]⟩,⟨s 55,c (l (.fn 38 [])) [(t 53),(t 54)],n,[0,1]⟩,⟨s 52,m (t 55),n,[2]⟩,⟨s 56,.ext (t 52) 0,n,[3]⟩,⟨s 57,.ext (t 52) 1,n,[3]⟩,⟨s 13,m (t 56),n,[4,2,0,1,2,3,4]⟩,⟨s 14,m (t 57),n,[5,6,0,1,2,3,4,5,6]⟩])
(q (r n [⟨s 59,m (t 7),n,[]⟩,⟨s 60,m (t 9),n,[]⟩,⟨s 61,m (t 10),n,[]⟩,⟨s 62,c (l (.fn 44 [])) [(t 59),(t 60),(t 61)],n,[0,1,2]⟩,⟨s 58,m (t 62),n,[3]⟩,⟨s 63,.ext (t 58) 0,n,[4]⟩,⟨s 64,.ext (t 58) 1,n,[4]⟩,⟨s 15,.alloc [(.int .i64 0),.nils],n,[]⟩,⟨n,e 2 (t 15) (t 63),n,[7,5,3,0,1,2,3,4,5,7]⟩,⟨s 16,m (t 64),n,[6,8,0,1,2,3,4,5,6,7,8]⟩])
(q (q (r n [⟨s 65,m (t 12),n,[]⟩,⟨s 66,b .neq .int (t 65) (l (.int .i64 0)),n,[0]⟩,⟨s 67,m (t 66),n,[1]⟩,⟨s 68,m (t 14),s (67,false),[2]⟩,⟨s 69,b .neq .int (t 68) (l (.int .i64 0)),s (67,false),[3,2]⟩,⟨s 70,k (t 67) (l (.bool true)) (t 69),n,[2,4]⟩])
(i (t 70) (q (r n [⟨s 71,m (t 16),n,[]⟩,⟨s 72,b .eql .int (t 71) (l (.int .i64 190)),n,[0]⟩,⟨s 6,m (t 72),n,[1,0,1]⟩])
.ret) .skip))
(q (q (r n [⟨s 73,m (t 16),n,[]⟩,⟨s 74,b .neq .int (t 73) (l (.int .i64 0)),n,[0]⟩])
(i (t 74) (q (r n [⟨s 75,m (t 16),n,[]⟩,⟨s 76,b .eql .int (t 75) (l (.int .i64 70)),n,[0]⟩,⟨s 6,m (t 76),n,[1,0,1]⟩])
.ret) .skip))
(q (r n [⟨s 78,d (s 2) (t 15),n,[]⟩,⟨s 79,m (t 11),n,[]⟩,⟨s 80,c (l (.fn 54 [])) [(t 78),(t 79)],n,[0,1]⟩,⟨s 77,m (t 80),n,[2]⟩,⟨s 81,.ext (t 77) 0,n,[3]⟩,⟨s 82,.ext (t 77) 1,n,[3]⟩,⟨s 17,m (t 81),n,[4,2,0,1,2,3,4]⟩,⟨s 18,m (t 82),n,[5,6,0,1,2,3,4,5,6]⟩])
(q (r n [⟨s 84,m (t 7),n,[]⟩,⟨s 85,m (t 9),n,[]⟩,⟨s 86,m (t 9),n,[]⟩,⟨s 87,c (l (.fn 44 [])) [(t 84),(t 85),(t 86)],n,[0,1,2]⟩,⟨s 83,m (t 87),n,[3]⟩,⟨s 88,.ext (t 83) 0,n,[4]⟩,⟨s 89,.ext (t 83) 1,n,[4]⟩,⟨s 19,.alloc [(.int .i64 0),.nils],n,[]⟩,⟨n,e 2 (t 19) (t 88),n,[7,5,3,0,1,2,3,4,5,7]⟩,⟨s 20,m (t 89),n,[6,8,0,1,2,3,4,5,6,7,8]⟩])
(q (q (r (s [0,1,3,7,7,31,63,127,255,511,1023,2047,4095,4095,12287,28671,65535,131071,262143]) [⟨s 90,m (t 18),n,[]⟩,⟨s 91,b .neq .int (t 90) (l (.int .i64 0)),n,[0]⟩,⟨s 92,m (t 91),n,[1]⟩,⟨s 93,m (t 17),s (92,false),[2]⟩,⟨s 94,m (t 13),s (92,false),[2]⟩,⟨s 95,b .neq .str (t 93) (t 94),s (92,false),[3,4,2]⟩,⟨s 96,k (t 92) (l (.bool true)) (t 95),n,[2,5]⟩,⟨s 97,m (t 96),n,[6,2]⟩,⟨s 98,m (t 20),s (97,false),[7]⟩,⟨s 99,b .neq .int (t 98) (l (.int .i64 0)),s (97,false),[8,7]⟩,⟨s 100,k (t 97) (l (.bool true)) (t 99),n,[7,9]⟩,⟨s 101,m (t 100),n,[10,7]⟩,⟨s 102,d (s 2) (t 19),s (101,false),[11]⟩,⟨s 103,m (t 11),s (101,false),[11]⟩,⟨s 104,.lenS (t 103),s (101,false),[13,11]⟩,⟨s 105,c (l (.fn 56 [])) [(t 104)],s (101,false),[14,11,11]⟩,⟨s 106,c (l (.fn 55 [])) [(t 102),(t 105)],s (101,false),[12,15,15,11]⟩,⟨s 107,.not (t 106),s (101,false),[16,11]⟩,⟨s 108,k (t 101) (l (.bool true)) (t 107),n,[11,17]⟩])
(i (t 108) (q (r n [⟨s 6,m (l (.bool false)),n,[]⟩])
.ret) .skip))
(q (q (r n [⟨s 109,m (t 10),n,[]⟩,⟨s 110,m (t 7),n,[]⟩,⟨s 111,c (l (.fn 23 [])) [(t 110)],n,[1]⟩,⟨s 112,b .neq .int (t 109) (t 111),n,[0,2]⟩])
(i (t 112) (q (r n [⟨s 6,m (l (.bool true)),n,[]⟩])
.ret) .skip))
(q (r n [⟨s 114,m (t 7),n,[]⟩,⟨s 115,m (t 9),n,[]⟩,⟨s 116,c (l (.fn 47 [])) [(t 114),(t 115)],n,[0,1]⟩,⟨s 113,m (t 116),n,[2]⟩,⟨s 117,.ext (t 113) 0,n,[3]⟩,⟨s 118,.ext (t 113) 1,n,[3]⟩,⟨s 119,.ext (t 113) 2,n,[3]⟩,⟨s 21,m (t 117),n,[4,2,0,1,2,3,4]⟩,⟨s 22,m (t 118),n,[5,7,0,1,2,3,4,5,7]⟩,⟨s 23,m (t 119),n,[6,8,0,1,2,3,4,5,6,7,8]⟩])
(q (r n [⟨s 120,m (t 23),n,[]⟩,⟨s 121,b .eql .int (t 120) (l (.int .i64 0)),n,[0]⟩,⟨s 122,m (t 121),n,[1]⟩,⟨s 123,m (t 21),s (122,true),[2]⟩,⟨s 124,d (s 2) (t 15),s (122,true),[2]⟩,⟨s 125,c (l (.fn 51 [])) [(t 124)],s (122,true),[4,2,2]⟩,⟨s 126,b .eql .int (t 123) (t 125),s (122,true),[3,5,2]⟩,⟨s 127,k (t 122) (t 126) (l (.bool false)),n,[2,6]⟩,⟨s 128,m (t 127),n,[7,5]⟩,⟨s 129,m (t 22),s (128,true),[8]⟩,⟨s 130,d (s 2) (t 15),s (128,true),[8]⟩,⟨s 131,c (l (.fn 52 [])) [(t 130)],s (128,true),[10,8,8]⟩,⟨s 132,b .eql .int (t 129) (t 131),s (128,true),[9,11,8]⟩,⟨s 133,k (t 128) (t 132) (l (.bool false)),n,[8,12]⟩,⟨s 6,m (t 133),n,[13,11,0,1,2,3,4,5,6,7,8,9,10,11,12,13]⟩])
.ret))))))))))))))))}
theorem c_palinodelaw22_DiffDoes : cFunc Tryz.prog n_palinodelaw22_DiffDoes = some f_palinodelaw22_DiffDoes := by kernel_rfl
end
end Go.Proofs.YtioampofolilnaaGreat.M
namespace Go.Proofs.YtioampofolilnaaGreat.M
open Go Go.Mini
attribute [local congr] go1_congr goM_congr goG_congr goV_congr drawwp_congr Xwp_congr
theorem bfold_same {l:List Atom} (hcp:∀ a∈l,a.text≠[]) (r:Int) (u:List Int):∀ i,i≤l.length→bFold r r u u (l.take i)=(mkC [] 0 ((bFold r r u u (l.take i)).2:Nat),(bFold r r u u (l.take i)).2)
 | 0,_=>by simp [bFold,mkC]
 | i+1,hi=>by
  have hlt:i<l.length:=by omega
  have ih:=bfold_same hcp r u i (by omega)
  have ha:=hcp _ (List.getElem_mem hlt)
  rw [bFold_take (List.getElem?_eq_getElem hlt)]
  generalize l[i]=a at ha
  generalize (bFold r r u u (l.take i)).2=p at ih
  rw [ih]
  have hla:0<a.text.length:=List.length_pos_iff.2 ha
  cases w:visible r u a
  ·simp [bStep]
  ·simp only [bStep,Bool.and_self,if_true]
   congr 1
   by_cases hp:p=0
   ·subst hp;simp [mkC]
   ·have h1:¬(0:Int)=(p:Int):=by omega
    have h2:¬(p:Int)=((p+a.text.length:Nat):Int):=by omega
    have h3:¬(0:Int)=((p+a.text.length:Nat):Int):=by omega
    have e1:mkC [] 0 (p:Int)=[⟨0,p,[]⟩]:=by simp only [mkC,if_neg h1]
    rw [e1]
    simp only [mkC,if_neg h2,if_neg h3]
    simp [isCp]
theorem betw_same {E:Eng} (h:E.Ok) {x:Int} (hl:E.R.live x=true):betwE E x x=(⟨((E.text x).length:Nat),(mkC [] 0 ((E.text x).length:Nat)).reverse⟩,0):=by
 have hs:=bfold_same (fun a ha=>(h.txt a ha).1) x (E.R.undone x) E.l.length (Nat.le_refl _)
 have h2:=(bst_ok h.txt h.len x x (E.R.undone x) (E.R.undone x) E.l.length (Nat.le_refl _)).2
 rw [List.take_length] at hs h2
 have hst:E.bst x x=(mkC [] 0 ((E.text x).length:Nat),(E.text x).length):=by
  show bFold _ _ _ _ _=_
  rw [hs,h2];rfl
 have hlen:=mkC_len [] 0 ((E.text x).length:Nat)
 rw [betwE,if_pos (by simp [hl]),hst,if_pos (by simp only;simp at hlen;omega)]
set_option maxHeartbeats 8000000 in
theorem diffDoes_fspec (W:World) (l:List Step) (a0 b0:Int) (hl:l.length≤9223372036854775807) (hx:∀ x∈l,StepFits x) (ha:0≤a0∧a0<256) (hb:0≤b0∧b0<256):FSpec Tryz.prog n_palinodelaw22_DiffDoes [eSteps l,.int .u8 a0,.int .u8 b0] (Heap.bare W (cellsOf W)) fun v s=>v= .bool true∧s.W=W:=by
 refine fspec_of_awp mixed c_palinodelaw22_DiffDoes (tl rfl) ?_
 unfold f_palinodelaw22_DiffDoes
 have hfew:=few22_call (Heap.bare W (cellsOf W)) l hl hx
 simp only [eSteps] at hfew
 simp +decide only [↓evd,evw,reduceCtorEq]
 refine MSpec.of (known22_call _ rfl) ?_
 simp +decide only [↓evd,evw,reduceCtorEq,↓reduceIte,eSteps]
 refine MSpec.of hfew ?_
 cases hfb:fewB20 l with
 | false=>simp +decide only [↓evd,evw,reduceCtorEq,↓reduceIte]
 | true=>
 have hall:∀ x∈l,fewOne x=true:=fun x hx=>by
  simp only [fewB20,Bool.and_eq_true,List.all_eq_true] at hfb
  exact hfb.1 x hx
 have hl20:l.length≤20:=by simp only [fewB20,Bool.and_eq_true,decide_eq_true_eq] at hfb;exact hfb.2
 have hbo:=both22_at (Heap.bare W (cellsOf W)) rfl l (by omega) hall
 generalize l.foldl doB Eng.new=E at hbo
 simp only [eSteps] at hbo
 simp +decide only [↓evd,evw,reduceCtorEq,↓reduceIte]
 refine hbo.mono ?_
 rintro v τ ⟨k1,k2,fp1,fp2,rfl,hT⟩
 have hE:=hT.eng
 have hW1:τ.W=W:=hT.keep.1
 clear hT hbo hfew
 obtain ⟨hok,hRok⟩:=hE.ok
 have hll:=hok.len
 have hh2:=head_le hRok
 have hhd:=ehead_at hE
 have hwh:IntKind.i64.wrap ((E.R.head:Int)+1)=((E.R.head+1:Nat):Int):=wrap_succ (by omega)
 have hne:(((E.R.head+1:Nat):Int)=0)=False:=eq_false (by omega)
 have hwa:IntKind.i64.wrap a0=a0:=wrap_id (by omega) (by omega)
 have hwb:IntKind.i64.wrap b0=b0:=wrap_id (by omega) (by omega)
 obtain ⟨x,hxa,_,_⟩:=mod_u8 (x:=a0) (c:=((E.R.head+1:Nat):Int)) ha.1 (by omega) (by omega)
 obtain ⟨y,hyb,_,_⟩:=mod_u8 (x:=b0) (c:=((E.R.head+1:Nat):Int)) hb.1 (by omega) (by omega)
 rcases h1:betwE E x y with ⟨d,c⟩
 obtain ⟨he1,he2⟩:=betw_err h1
 have q1:=fun ρ (h:IsEng ρ k1 E fp1)=>between_call h x y
 have tx:=etext_at hE (x:Int)
 have ty:=etext_at hE (y:Int)
 simp only [h1,eDelta,eChgs] at q1
 have n1:(τ.next+1=τ.next)=False:=eq_false (by omega)
 have n2:(τ.next=τ.next+1)=False:=eq_false (by omega)
 have b0:((0:Int) != 0)=false:=rfl
 have b0':((0:Int)==0)=true:=rfl
 have b1:((190:Int) != 0)=true:=rfl
 have b2:((190:Int)==190)=true:=rfl
 have b3:((70:Int) != 0)=true:=rfl
 have b4:((70:Int)==70)=true:=rfl
 simp +decide only [↓evd,evw,reduceCtorEq,↓reduceIte]
 with_reducible refine draw_of_grow (fun _=>True) (ms:=[false,false,false,false,false,false,false,false,false,false,false,false,false,false]) (by kernel_rfl) ?_
 simp +decide only [↓evd,evw,↓reduceIte,hwa]
 refine MSpec.of hhd ⟨.inr Keeps.rfl,?_⟩
 simp +decide only [↓evd,evw,↓reduceIte,hwh,hne,hxa,hwb]
 refine MSpec.of hhd ⟨.inr Keeps.rfl,?_⟩
 simp +decide only [↓evd,evw,reduceCtorEq,↓reduceIte,hwh,hne,hyb]
 cases lx:E.R.live x
 ·obtain rfl:c=190:=he2.2 (by simp [lx])
  rw [textV,lx,if_neg (by simp)] at tx
  obtain ⟨s2,c2,hty⟩:∃ s c,textV E y= .tup [.str s,.int .i64 c]:=by unfold textV;split <;> exact ⟨_,_,rfl⟩
  rw [hty] at ty
  refine MSpec.of tx ?_
  simp +decide only [↓evd,evw,reduceCtorEq,↓reduceIte]
  refine MSpec.of ty ?_
  simp +decide only [↓evd,evw,reduceCtorEq,↓reduceIte]
  refine MSpec.of (q1 _ hE) ?_
  simp +decide only [↓evd,evw,reduceCtorEq,↓reduceIte,b1]
  first | exact hW1 | exact ⟨rfl,hW1⟩
 rw [textV,lx,if_pos rfl] at tx
 cases ly:E.R.live y
 ·obtain rfl:c=190:=he2.2 (by simp [ly])
  rw [textV,ly,if_neg (by simp)] at ty
  refine MSpec.of tx ?_
  simp +decide only [↓evd,evw,reduceCtorEq,↓reduceIte]
  refine MSpec.of ty ?_
  simp +decide only [↓evd,evw,reduceCtorEq,↓reduceIte]
  refine MSpec.of (q1 _ hE) ?_
  simp +decide only [↓evd,evw,reduceCtorEq,↓reduceIte,b0,b1]
  first | exact hW1 | exact ⟨rfl,hW1⟩
 rw [textV,ly,if_pos rfl] at ty
 refine MSpec.of tx ?_
 simp +decide only [↓evd,evw,reduceCtorEq,↓reduceIte]
 refine MSpec.of ty ?_
 simp +decide only [↓evd,evw,reduceCtorEq,↓reduceIte]
 refine MSpec.of (q1 _ hE) ?_
 have e1:=hE.keep ((Keep.refl [] _).junk (.cells [.int .i64 0,.nils] none) (.cells [.int .i64 d.base,.fsl 3 (d.els.map eChg)] none)) (fun y _=>by simp)
 by_cases hc:c=0
 case neg=>
  obtain ⟨rfl,rfl⟩:c=70∧d=⟨0,[]⟩:=by
   rcases he1 with h | h | ⟨h,_⟩
   ·exact absurd h hc
   ·exact h
   ·have:=he2.1 h;simp [lx,ly] at this
  simp +decide only [↓evd,evw,reduceCtorEq,↓reduceIte,b0,b3]
  first | exact hW1 | exact ⟨rfl,hW1⟩
 subst hc
 have hB:=betw_ok hok h1
 have A0:=fun ρ=>apply_call ρ d (E.text x) hB.ok hB.base.symm
 rw [hB.app] at A0
 have q2:=fun ρ (h:IsEng ρ k1 E fp1)=>between_call h x x
 have hlx:=short_text hok.len hok.txt x (E.R.undone x)
 have A1:=fun ρ=>keepD_call ρ (E.text x).length (by simp only [Eng.text];exact hlx)
 have hml:=mkC_len [] 0 ((E.text x).length:Nat)
 have A2:=fun ρ=>dsame_call ρ ⟨((E.text x).length:Nat),(mkC [] 0 ((E.text x).length:Nat)).reverse⟩ (by simp only [List.length_reverse];simp at hml;omega)
 simp only [betw_same hok lx] at q2
 simp only [eDelta,eChgs] at A0 A1 A2 q2
 generalize List.map eChg (mkC [] 0 ((E.text x).length:Nat)).reverse=kk at A1 A2 q2
 simp +decide only [↓evd,evw,reduceCtorEq,↓reduceIte,b0]
 refine MSpec.of (A0 _) ?_
 simp +decide only [↓evd,evw,reduceCtorEq,↓reduceIte]
 refine MSpec.of (q2 _ e1) ?_
 simp +decide only [↓evd,evw,reduceCtorEq,↓reduceIte]
 with_reducible refine draw_of_grow (fun _=>True) (ms:=[false,false,false,false,false,false,false,false,false,false,false,false,false,false,false,false,false,false,false]) (by kernel_rfl) ?_
 simp +decide only [↓evd,evw,↓reduceIte,b0,aStr_nself]
 refine MSpec.of (A1 _) ⟨.inr Keeps.rfl,?_⟩
 simp +decide only [↓evd,evw,↓reduceIte]
 refine MSpec.of (A2 _) ⟨.inr Keeps.rfl,?_⟩
 have e2:=e1.keep ((Keep.refl [] _).junk (.cells [.int .i64 0,.nils] none) (.cells [.int .i64 ((E.text x).length:Nat),.fsl 3 kk] none)) (fun y _=>by simp)
 have hh3:=ehead_at e2
 simp +decide only [↓evd,evw,reduceCtorEq,↓reduceIte]
 refine MSpec.of hh3 ?_
 by_cases hyh:y=E.R.head
 case neg=>
  have hyb:(((y:Nat):Int) != ((E.R.head:Nat):Int))=true:=by simp;omega
  simp +decide only [↓evd,evw,reduceCtorEq,↓reduceIte,hyb]
  first | exact hW1 | exact ⟨rfl,hW1⟩
 have hyb:(((y:Nat):Int) != ((E.R.head:Nat):Int))=false:=by simp [hyh]
 have hsi:=since_call e2 (x:Int)
 have hse:sinceE E x=(putL d.els,(d.base - keptL d.els).toNat,0):=by
  rw [sinceE,if_pos lx,hB.put,hB.base,hB.kept,kept_went E x y,hyh]
  congr 2
  omega
 have hdn:(((d.base - keptL d.els).toNat:Nat):Int)=d.base - keptL d.els:=by
  have:=kept_went E x y
  rw [hB.base,hB.kept];omega
 rw [hse] at hsi
 simp only [hdn] at hsi
 have A3:=fun ρ=>adds_call ρ d hB.ok
 have A4:=fun ρ=>drops_call ρ d hB.ok
 have be:∀ x:Int,(x==x)=true:=by intro x;simp
 simp only [eDelta,eChgs] at A3 A4
 simp +decide only [↓evd,evw,reduceCtorEq,↓reduceIte,hyb]
 refine MSpec.of hsi ?_
 simp +decide only [↓evd,evw,reduceCtorEq,↓reduceIte,n1]
 refine MSpec.of (A3 _) ?_
 simp +decide only [↓evd,evw,reduceCtorEq,↓reduceIte,n1]
 refine MSpec.of (A4 _) ?_
 simp +decide only [↓evd,evw,reduceCtorEq,↓reduceIte]
 first | exact hW1 | exact ⟨rfl,hW1⟩
theorem diffDoes_row (W:World) (a0:List Step) (a1 a2:Int) (g0:GList gStep a0) (g1:GInt .u8 a1) (g2:GInt .u8 a2):FSpec Tryz.prog n_palinodelaw22_DiffDoes [.fsl 6 (a0.map eStep),.int .u8 a1,.int .u8 a2] (Heap.bare W (cellsOf W)) fun v s=>v= .bool true∧s.W=W:=
 diffDoes_fspec W a0 a1 a2 (steps_fit g0).1 (steps_fit g0).2 (gint_u8 g1) (gint_u8 g2)
end Go.Proofs.YtioampofolilnaaGreat.M


/- A part of the seat's proofs over the abstract machine. No condition. -/
import Derived.Test.YtioampofolilnaaGreatWC
set_option linter.unusedSimpArgs false
set_option linter.unusedVariables false
set_option maxRecDepth 100000
set_option maxRecDepth 100000
namespace Go.Proofs.YtioampofolilnaaGreat.M
open Go Go.Mini
section
open Opd renaming tmp → t, lit → l
open SOp renaming mv → m, call → c, load → d, pick → k, fldA → f, bin → b, idxA → x, store → e, nilc → z, len → g
open SCode renaming seq → q, reg → r, cond → i, block → o
open Option renaming some → s, none → n
def f_palinodelaw22_DiffBack : SFunc := { ntmps := 83, results := [.tmp 6], body :=
(q (r n [⟨s 6,m (l (.bool false)),n,[]⟩])
(q (q (r n [⟨s 15,c (l (.fn 41 [])) [],n,[]⟩,⟨s 16,.not (t 15),n,[0]⟩])
(i (t 16) (q (r n [⟨s 6,m (l (.bool false)),n,[]⟩])
.ret) .skip))
(q (q (r n [⟨s 17,m (t 0),n,[]⟩,⟨s 18,c (l (.fn 42 [])) [(t 17)],n,[0]⟩,⟨s 19,.not (t 18),n,[1]⟩])
(i (t 19) (q (r n [⟨s 6,m (l (.bool true)),n,[]⟩])
.ret) .skip))
(q (r n [⟨s 21,m (t 0),n,[]⟩,⟨s 22,c (l (.fn 43 [])) [(t 21)],n,[0]⟩,⟨s 20,m (t 22),n,[1]⟩,⟨s 23,.ext (t 20) 0,n,[2]⟩,⟨s 24,.ext (t 20) 1,n,[2]⟩,⟨s 7,m (t 23),n,[3,1,0,1,2,3]⟩,⟨s 8,m (t 24),n,[4,5,0,1,2,3,4,5]⟩])
(q (r (s [0,1,0,4,12,31,0,64,0,268,780,1996,831,8191]) [⟨s 25,m (t 1),n,[]⟩,⟨s 26,.cint .i64 (t 25),n,[0]⟩,⟨s 27,m (t 7),n,[]⟩,⟨s 28,c (l (.fn 23 [])) [(t 27)],n,[2]⟩,⟨s 29,b .add .int (t 28) (l (.int .i64 1)),n,[3]⟩,⟨s 30,b .rem .int (t 26) (t 29),n,[1,4]⟩,⟨s 31,m (t 2),n,[]⟩,⟨s 32,.cint .i64 (t 31),n,[6]⟩,⟨s 33,m (t 7),n,[]⟩,⟨s 34,c (l (.fn 23 [])) [(t 33)],n,[8,3]⟩,⟨s 35,b .add .int (t 34) (l (.int .i64 1)),n,[9]⟩,⟨s 36,b .rem .int (t 32) (t 35),n,[7,10]⟩,⟨s 9,m (t 30),n,[5,9,0,1,2,3,4,5]⟩,⟨s 10,m (t 36),n,[11,12,0,1,2,3,4,5,6,7,8,9,10,11,12]⟩])
(q (r n [⟨s 38,m (t 7),n,[]⟩,⟨s 39,m (t 9),n,[]⟩,⟨s 40,m (t 10),n,[]⟩,⟨s 41,c (l (.fn 44 [])) [(t 38),(t 39),(t 40)],n,[0,1,2]⟩,⟨s 37,m (t 41),n,[3]⟩,⟨s 42,.ext (t 37) 0,n,[4]⟩,⟨s 43,.ext (t 37) 1,n,[4]⟩,⟨s 11,.alloc [(.int .i64 0),.nils],n,[]⟩,⟨n,e 2 (t 11) (t 42),n,[7,5,3,0,1,2,3,4,5,7]⟩,⟨s 12,m (t 43),n,[6,8,0,1,2,3,4,5,6,7,8]⟩])
(q (r n [⟨s 45,m (t 7),n,[]⟩,⟨s 46,m (t 10),n,[]⟩,⟨s 47,m (t 9),n,[]⟩,⟨s 48,c (l (.fn 44 [])) [(t 45),(t 46),(t 47)],n,[0,1,2]⟩,⟨s 44,m (t 48),n,[3]⟩,⟨s 49,.ext (t 44) 0,n,[4]⟩,⟨s 50,.ext (t 44) 1,n,[4]⟩,⟨s 13,.alloc [(.int .i64 0),.nils],n,[]⟩,⟨n,e 2 (t 13) (t 49),n,[7,5,3,0,1,2,3,4,5,7]⟩,⟨s 14,m (t 50),n,[6,8,0,1,2,3,4,5,6,7,8]⟩])
(q (q (r n [⟨s 51,m (t 12),n,[]⟩,⟨s 52,b .neq .int (t 51) (l (.int .i64 0)),n,[0]⟩,⟨s 53,m (t 52),n,[1]⟩,⟨s 54,m (t 14),s (53,false),[2]⟩,⟨s 55,b .neq .int (t 54) (l (.int .i64 0)),s (53,false),[3,2]⟩,⟨s 56,k (t 53) (l (.bool true)) (t 55),n,[2,4]⟩])
(i (t 56) (q (r n [⟨s 6,m (l (.bool true)),n,[]⟩])
.ret) .skip))
(q (r (s [0,1,0,7,15,31,63,127,63,511,1023,2047,4095,8191,16383,8191,40959,131071,262143,524287,1048575,2097151,1048575,5242879,16777215,33554431,67108863]) [⟨s 57,d (s 2) (t 11),n,[]⟩,⟨s 58,c (l (.fn 51 [])) [(t 57)],n,[0]⟩,⟨s 59,d (s 2) (t 13),n,[]⟩,⟨s 60,c (l (.fn 52 [])) [(t 59)],n,[2,1]⟩,⟨s 61,b .eql .int (t 58) (t 60),n,[1,3]⟩,⟨s 62,m (t 61),n,[4,3]⟩,⟨s 63,d (s 2) (t 11),s (62,true),[5]⟩,⟨s 64,c (l (.fn 52 [])) [(t 63)],s (62,true),[6,5,5]⟩,⟨s 65,d (s 2) (t 13),s (62,true),[5]⟩,⟨s 66,c (l (.fn 51 [])) [(t 65)],s (62,true),[8,7,5]⟩,⟨s 67,b .eql .int (t 64) (t 66),s (62,true),[7,9,5]⟩,⟨s 68,k (t 62) (t 67) (l (.bool false)),n,[5,10]⟩,⟨s 69,m (t 68),n,[11,9]⟩,⟨s 70,d (s 2) (t 11),s (69,true),[12]⟩,⟨s 71,c (l (.fn 53 [])) [(t 70)],s (69,true),[13,12,12]⟩,⟨s 72,f 0 (t 13),s (69,true),[12]⟩,⟨s 73,d n (t 72),s (69,true),[15,12]⟩,⟨s 74,b .eql .int (t 71) (t 73),s (69,true),[14,16,12]⟩,⟨s 75,k (t 69) (t 74) (l (.bool false)),n,[12,17]⟩,⟨s 76,m (t 75),n,[18,14]⟩,⟨s 77,d (s 2) (t 13),s (76,true),[19]⟩,⟨s 78,c (l (.fn 53 [])) [(t 77)],s (76,true),[20,19,19]⟩,⟨s 79,f 0 (t 11),s (76,true),[19]⟩,⟨s 80,d n (t 79),s (76,true),[22,19]⟩,⟨s 81,b .eql .int (t 78) (t 80),s (76,true),[21,23,19]⟩,⟨s 82,k (t 76) (t 81) (l (.bool false)),n,[19,24]⟩,⟨s 6,m (t 82),n,[25,21,0,1,2,3,4,5,6,7,8,9,10,11,12,13,14,15,16,17,18,19,20,21,22,23,24,25]⟩])
.ret)))))))))}
theorem c_palinodelaw22_DiffBack : cFunc Tryz.prog n_palinodelaw22_DiffBack = some f_palinodelaw22_DiffBack := by kernel_rfl
end
end Go.Proofs.YtioampofolilnaaGreat.M
namespace Go.Proofs.YtioampofolilnaaGreat.M
open Go Go.Mini
attribute [local congr] go1_congr goM_congr goG_congr goV_congr drawwp_congr Xwp_congr
set_option maxHeartbeats 8000000 in
theorem diffBack_fspec (W:World) (l:List Step) (a0 b0:Int) (hl:l.length≤9223372036854775807) (hx:∀ x∈l,StepFits x) (ha:0≤a0∧a0<256) (hb:0≤b0∧b0<256):FSpec Tryz.prog n_palinodelaw22_DiffBack [eSteps l,.int .u8 a0,.int .u8 b0] (Heap.bare W (cellsOf W)) fun v s=>v= .bool true∧s.W=W:=by
 refine fspec_of_awp mixed c_palinodelaw22_DiffBack (tl rfl) ?_
 unfold f_palinodelaw22_DiffBack
 have hfew:=few22_call (Heap.bare W (cellsOf W)) l hl hx
 simp only [eSteps] at hfew
 simp +decide only [↓evd,evw,reduceCtorEq]
 refine MSpec.of (known22_call _ rfl) ?_
 simp +decide only [↓evd,evw,reduceCtorEq,↓reduceIte,eSteps]
 refine MSpec.of hfew ?_
 cases hfb:fewB20 l with
 | false=>simp +decide only [↓evd,evw,reduceCtorEq,↓reduceIte]
 | true=>
 have hall:∀ x∈l,fewOne x=true:=fun x hx=>by
  simp only [fewB20,Bool.and_eq_true,List.all_eq_true] at hfb
  exact hfb.1 x hx
 have hl20:l.length≤20:=by simp only [fewB20,Bool.and_eq_true,decide_eq_true_eq] at hfb;exact hfb.2
 have hbo:=both22_at (Heap.bare W (cellsOf W)) rfl l (by omega) hall
 generalize l.foldl doB Eng.new=E at hbo
 simp only [eSteps] at hbo
 simp +decide only [↓evd,evw,reduceCtorEq,↓reduceIte]
 refine hbo.mono ?_
 rintro v τ ⟨k1,k2,fp1,fp2,rfl,hT⟩
 have hE:=hT.eng
 have hW1:τ.W=W:=hT.keep.1
 clear hT hbo hfew
 obtain ⟨hok,hRok⟩:=hE.ok
 have hll:=hok.len
 have hh2:=head_le hRok
 have hhd:=ehead_at hE
 have hwh:IntKind.i64.wrap ((E.R.head:Int)+1)=((E.R.head+1:Nat):Int):=wrap_succ (by omega)
 have hne:(((E.R.head+1:Nat):Int)=0)=False:=eq_false (by omega)
 have hwa:IntKind.i64.wrap a0=a0:=wrap_id (by omega) (by omega)
 have hwb:IntKind.i64.wrap b0=b0:=wrap_id (by omega) (by omega)
 obtain ⟨x,hxa,_,_⟩:=mod_u8 (x:=a0) (c:=((E.R.head+1:Nat):Int)) ha.1 (by omega) (by omega)
 obtain ⟨y,hyb,_,_⟩:=mod_u8 (x:=b0) (c:=((E.R.head+1:Nat):Int)) hb.1 (by omega) (by omega)
 rcases h1:betwE E x y with ⟨d,c⟩
 rcases h2:betwE E y x with ⟨g,c'⟩
 have q1:=fun ρ (h:IsEng ρ k1 E fp1)=>between_call h x y
 have q2:=fun ρ (h:IsEng ρ k1 E fp1)=>between_call h y x
 simp only [h1,h2,eDelta,eChgs] at q1 q2
 simp +decide only [↓evd,evw,reduceCtorEq,↓reduceIte]
 with_reducible refine draw_of_grow (fun _=>True) (ms:=[false,false,false,false,false,false,false,false,false,false,false,false,false,false]) (by kernel_rfl) ?_
 simp +decide only [↓evd,evw,↓reduceIte,hwa]
 refine MSpec.of hhd ⟨.inr Keeps.rfl,?_⟩
 simp +decide only [↓evd,evw,↓reduceIte,hwh,hne,hxa,hwb]
 refine MSpec.of hhd ⟨.inr Keeps.rfl,?_⟩
 simp +decide only [↓evd,evw,reduceCtorEq,↓reduceIte,hwh,hne,hyb]
 refine MSpec.of (q1 _ hE) ?_
 have e1:=hE.keep ((Keep.refl [] _).junk (.cells [.int .i64 0,.nils] none) (.cells [.int .i64 d.base,.fsl 3 (d.els.map eChg)] none)) (fun y _=>by simp)
 simp +decide only [↓evd,evw,reduceCtorEq,↓reduceIte]
 refine MSpec.of (q2 _ e1) ?_
 clear q1 q2 e1
 have n1:(τ.next+1=τ.next)=False:=eq_false (by omega)
 have n2:(τ.next=τ.next+1)=False:=eq_false (by omega)
 by_cases hc:c=0
 case neg=>
  have hcb:(c != 0)=true:=by simpa using hc
  simp +decide only [↓evd,evw,reduceCtorEq,↓reduceIte,hcb]
  first | exact hW1 | exact ⟨rfl,hW1⟩
 have hcb:(c != 0)=false:=by simpa using hc
 by_cases hc':c'=0
 case neg=>
  have hcb':(c' != 0)=true:=by simpa using hc'
  simp +decide only [↓evd,evw,reduceCtorEq,↓reduceIte,hcb,hcb']
  first | exact hW1 | exact ⟨rfl,hW1⟩
 have hcb':(c' != 0)=false:=by simpa using hc'
 subst hc hc'
 have hB:=betw_ok hok h1
 have hG:=betw_ok hok h2
 have A1:=fun ρ=>adds_call ρ d hB.ok
 have A2:=fun ρ=>drops_call ρ g hG.ok
 have A3:=fun ρ=>drops_call ρ d hB.ok
 have A4:=fun ρ=>adds_call ρ g hG.ok
 have A5:=fun ρ=>dsize_call ρ d hB.ok
 have A6:=fun ρ=>dsize_call ρ g hG.ok
 have r1:=kept_came E x y
 have r2:=kept_went E x y
 have r3:=came_went E x y
 have r4:=kept_kept E x y
 have r5:=came_went E y x
 have v1:g.base - keptL g.els=(putL d.els:Nat):=by rw [hG.base,hG.kept,hB.put];omega
 have v2:d.base - keptL d.els=(putL g.els:Nat):=by rw [hB.base,hB.kept,hG.put];omega
 have v3:keptL d.els+(putL d.els:Nat)=g.base:=by rw [hG.base,hB.kept,hB.put];omega
 have v4:keptL g.els+(putL g.els:Nat)=d.base:=by rw [hB.base,hG.kept,hG.put];omega
 rw [v1] at A2
 rw [v2] at A3
 rw [v3] at A5
 rw [v4] at A6
 have be:∀ x:Int,(x==x)=true:=by intro x;simp
 simp only [eDelta,eChgs] at A1 A2 A3 A4 A5 A6
 simp +decide only [↓evd,evw,reduceCtorEq,↓reduceIte,hcb]
 with_reducible refine draw_of_grow (fun _=>True) (ms:=[false,false,false,false,false,false,false,false,false,false,false,false,false,false,false,false,false,false,false,false,false,false,false,false,false,false,false]) (by kernel_rfl) ?_
 simp +decide only [↓evd,evw,↓reduceIte,n1]
 refine MSpec.of (A1 _) ⟨.inr Keeps.rfl,?_⟩
 simp +decide only [↓evd,evw,↓reduceIte]
 refine MSpec.of (A2 _) ⟨.inr Keeps.rfl,?_⟩
 simp +decide only [↓evd,evw,↓reduceIte,n1]
 refine MSpec.of (A3 _) ⟨.inr Keeps.rfl,?_⟩
 simp +decide only [↓evd,evw,↓reduceIte]
 refine MSpec.of (A4 _) ⟨.inr Keeps.rfl,?_⟩
 simp +decide only [↓evd,evw,↓reduceIte,n1]
 refine MSpec.of (A5 _) ⟨.inr Keeps.rfl,?_⟩
 simp +decide only [↓evd,evw,↓reduceIte]
 refine MSpec.of (A6 _) ⟨.inr Keeps.rfl,?_⟩
 simp +decide only [↓evd,evw,↓reduceIte,n1]
 first | exact hW1 | exact ⟨rfl,hW1⟩
theorem diffBack_row (W:World) (a0:List Step) (a1 a2:Int) (g0:GList gStep a0) (g1:GInt .u8 a1) (g2:GInt .u8 a2):FSpec Tryz.prog n_palinodelaw22_DiffBack [.fsl 6 (a0.map eStep),.int .u8 a1,.int .u8 a2] (Heap.bare W (cellsOf W)) fun v s=>v= .bool true∧s.W=W:=
 diffBack_fspec W a0 a1 a2 (steps_fit g0).1 (steps_fit g0).2 (gint_u8 g1) (gint_u8 g2)
end Go.Proofs.YtioampofolilnaaGreat.M


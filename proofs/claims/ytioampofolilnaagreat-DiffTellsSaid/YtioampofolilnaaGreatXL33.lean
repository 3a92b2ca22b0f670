/- A part of the seat's proofs over the abstract machine. No condition. -/
import Derived.Test.YtioampofolilnaaGreatWC
set_option linter.unusedSimpArgs false
set_option linter.unusedVariables false
set_option maxRecDepth 100000
set_option maxRecDepth 100000
namespace Go.Proofs.YtioampofolilnaaGreat.M
open Go Go.Mini
section
open Opd renaming tmp → t, lit → l
open SOp renaming mv → m, call → c, load → d, pick → k, fldA → f, bin → b, idxA → x, store → e, nilc → z, len → g
open SCode renaming seq → q, reg → r, cond → i, block → o
open Option renaming some → s, none → n
def f_palinodelaw22_DiffTells : SFunc := { ntmps := 187, results := [.tmp 6], body :=
(q (r n [⟨s 6,m (l (.bool false)),n,[]⟩])
(q (q (r n [⟨s 21,c (l (.fn 41 [])) [],n,[]⟩,⟨s 22,.not (t 21),n,[0]⟩])
(i (t 22) (q (r n [⟨s 6,m (l (.bool false)),n,[]⟩])
.ret) .skip))
(q (q (r n [⟨s 23,m (t 0),n,[]⟩,⟨s 24,c (l (.fn 42 [])) [(t 23)],n,[0]⟩,⟨s 25,.not (t 24),n,[1]⟩])
(i (t 25) (q (r n [⟨s 6,m (l (.bool true)),n,[]⟩])
.ret) .skip))
(q (r n [⟨s 27,m (t 0),n,[]⟩,⟨s 28,c (l (.fn 43 [])) [(t 27)],n,[0]⟩,⟨s 26,m (t 28),n,[1]⟩,⟨s 29,.ext (t 26) 0,n,[2]⟩,⟨s 30,.ext (t 26) 1,n,[2]⟩,⟨s 7,m (t 29),n,[3,1,0,1,2,3]⟩,⟨s 8,m (t 30),n,[4,5,0,1,2,3,4,5]⟩])
(q (r n [⟨s 32,m (t 7),n,[]⟩,⟨s 33,m (t 1),n,[]⟩,⟨s 34,m (t 2),n,[]⟩,⟨s 35,c (l (.fn 44 [])) [(t 32),(t 33),(t 34)],n,[0,1,2]⟩,⟨s 31,m (t 35),n,[3]⟩,⟨s 36,.ext (t 31) 0,n,[4]⟩,⟨s 37,.ext (t 31) 1,n,[4]⟩,⟨s 9,.alloc [(.int .i64 0),.nils],n,[]⟩,⟨n,e 2 (t 9) (t 36),n,[7,5,3,0,1,2,3,4,5,7]⟩,⟨s 10,m (t 37),n,[6,8,0,1,2,3,4,5,6,7,8]⟩])
(q (r n [⟨s 39,m (t 8),n,[]⟩,⟨s 40,m (t 1),n,[]⟩,⟨s 41,m (t 2),n,[]⟩,⟨s 42,c (l (.fn 45 [])) [(t 39),(t 40),(t 41)],n,[0,1,2]⟩,⟨s 38,m (t 42),n,[3]⟩,⟨s 43,.ext (t 38) 0,n,[4]⟩,⟨s 44,.ext (t 38) 1,n,[4]⟩,⟨s 11,.alloc [(.int .i64 0),.nils],n,[]⟩,⟨n,e 2 (t 11) (t 43),n,[7,5,3,0,1,2,3,4,5,7]⟩,⟨s 12,m (t 44),n,[6,8,0,1,2,3,4,5,6,7,8]⟩])
(q (q (r n [⟨s 45,m (t 10),n,[]⟩,⟨s 46,m (t 12),n,[]⟩,⟨s 47,b .neq .int (t 45) (t 46),n,[0,1]⟩,⟨s 48,m (t 47),n,[2]⟩,⟨s 49,m (t 10),s (48,false),[3]⟩,⟨s 50,b .neq .int (t 49) (l (.int .i64 0)),s (48,false),[4,3]⟩,⟨s 51,m (t 50),s (48,false),[5,3,3]⟩,⟨s 52,f 1 (t 9),s (51,true),[6]⟩,⟨s 53,d n (t 52),s (51,true),[7,6]⟩,⟨s 54,g (t 53),s (51,true),[8,6]⟩,⟨s 55,b .neq .int (t 54) (l (.int .i64 0)),s (51,true),[9,6]⟩,⟨s 56,k (t 51) (t 55) (l (.bool false)),s (48,false),[6,10,3]⟩,⟨s 57,k (t 48) (l (.bool true)) (t 56),n,[3,11]⟩,⟨s 58,m (t 57),n,[12,6]⟩,⟨s 59,m (t 10),s (58,false),[13]⟩,⟨s 60,b .eql .int (t 59) (l (.int .i64 0)),s (58,false),[14,13]⟩,⟨s 61,m (t 60),s (58,false),[15,13,13]⟩,⟨s 62,d (s 2) (t 9),s (61,true),[16]⟩,⟨s 63,d (s 2) (t 11),s (61,true),[16]⟩,⟨s 64,c (l (.fn 46 [])) [(t 62),(t 63)],s (61,true),[17,18,16,16]⟩,⟨s 65,.not (t 64),s (61,true),[19,16]⟩,⟨s 66,k (t 61) (t 65) (l (.bool false)),s (58,false),[16,20,13]⟩,⟨s 67,k (t 58) (l (.bool true)) (t 66),n,[13,21]⟩])
(i (t 67) (q (r n [⟨s 6,m (l (.bool false)),n,[]⟩])
.ret) .skip))
(q (r n [⟨s 69,m (t 7),n,[]⟩,⟨s 70,m (t 1),n,[]⟩,⟨s 71,c (l (.fn 47 [])) [(t 69),(t 70)],n,[0,1]⟩,⟨s 68,m (t 71),n,[2]⟩,⟨s 72,.ext (t 68) 0,n,[3]⟩,⟨s 73,.ext (t 68) 1,n,[3]⟩,⟨s 74,.ext (t 68) 2,n,[3]⟩,⟨s 13,m (t 72),n,[4,2,0,1,2,3,4]⟩,⟨s 14,m (t 73),n,[5,7,0,1,2,3,4,5,7]⟩,⟨s 15,m (t 74),n,[6,8,0,1,2,3,4,5,6,7,8]⟩])
(q (q (r n [⟨s 75,m (t 8),n,[]⟩,⟨s 76,z (t 75),n,[0]⟩,⟨s 77,f 0 (t 76),n,[1]⟩,⟨s 78,d n (t 77),n,[2]⟩,⟨s 79,m (t 1),n,[]⟩,⟨s 80,c (l (.fn 48 [])) [(t 78),(t 79)],n,[3,4]⟩,⟨s 81,.not (t 80),n,[5]⟩])
(i (t 81) (q (r n [⟨s 82,m (t 15),n,[]⟩,⟨s 83,b .eql .int (t 82) (l (.int .i64 190)),n,[0]⟩,⟨s 84,m (t 83),n,[1]⟩,⟨s 85,m (t 13),s (84,true),[2]⟩,⟨s 86,b .eql .int (t 85) (l (.int .i64 0)),s (84,true),[3,2]⟩,⟨s 87,k (t 84) (t 86) (l (.bool false)),n,[2,4]⟩,⟨s 88,m (t 87),n,[5,2]⟩,⟨s 89,m (t 14),s (88,true),[6]⟩,⟨s 90,b .eql .int (t 89) (l (.int .i64 0)),s (88,true),[7,6]⟩,⟨s 91,k (t 88) (t 90) (l (.bool false)),n,[6,8]⟩,⟨s 6,m (t 91),n,[9,6,0,1,2,3,4,5,6,7,8,9]⟩])
.ret) .skip))
(q (r n [⟨s 16,m (l (.int .i64 0)),n,[]⟩,⟨s 17,m (l (.int .i64 0)),n,[0,0]⟩])
(q (q (r n [⟨s 18,m (l (.int .i64 0)),n,[]⟩])
(o 0 (.loop (q (q (r n [⟨s 92,m (t 18),n,[]⟩,⟨s 93,m (t 8),n,[]⟩,⟨s 94,z (t 93),n,[1]⟩,⟨s 95,f 1 (t 94),n,[2]⟩,⟨s 96,d n (t 95),n,[3]⟩,⟨s 97,g (t 96),n,[4]⟩,⟨s 98,b .lss .int (t 92) (t 97),n,[0,5]⟩])
(i (t 98) .skip (.exit 0)))
(q (o 1 (q (r (s [0,1,3,7,0,31,63,0,0,256,768,1792,0,7936,16383,32767]) [⟨s 101,m (t 8),n,[]⟩,⟨s 102,z (t 101),n,[0]⟩,⟨s 103,f 1 (t 102),n,[1]⟩,⟨s 104,d n (t 103),n,[2]⟩,⟨s 105,m (t 18),n,[]⟩,⟨s 106,x 5 (t 104) (t 105),n,[3,4]⟩,⟨s 107,d (s 5) (t 106),n,[5]⟩,⟨s 108,m (t 1),n,[]⟩,⟨s 109,m (t 8),n,[]⟩,⟨s 110,z (t 109),n,[8]⟩,⟨s 111,f 0 (t 110),n,[9]⟩,⟨s 112,d n (t 111),n,[10]⟩,⟨s 113,m (t 1),n,[]⟩,⟨s 114,c (l (.fn 50 [])) [(t 112),(t 113)],n,[11,12]⟩,⟨s 115,c (l (.fn 49 [])) [(t 107),(t 108),(t 114)],n,[6,7,13,13]⟩,⟨s 19,m (t 115),n,[14,14,0,1,2,3,4,5,6,7,8,9,10,11,12,13,14]⟩])
(q (r (s [0,1,3,7,0,31,63,0,128,384,896,1920,3968,8064,0,16384,49152,114688,0,262144,786432,1835008,3932160,8126464,16515072,33538048,67108863,134217727]) [⟨s 116,m (t 8),n,[]⟩,⟨s 117,z (t 116),n,[0]⟩,⟨s 118,f 1 (t 117),n,[1]⟩,⟨s 119,d n (t 118),n,[2]⟩,⟨s 120,m (t 18),n,[]⟩,⟨s 121,x 5 (t 119) (t 120),n,[3,4]⟩,⟨s 122,d (s 5) (t 121),n,[5]⟩,⟨s 123,m (t 8),n,[]⟩,⟨s 124,z (t 123),n,[7]⟩,⟨s 125,f 0 (t 124),n,[8]⟩,⟨s 126,d n (t 125),n,[9]⟩,⟨s 127,z (t 126),n,[10]⟩,⟨s 128,f 0 (t 127),n,[11]⟩,⟨s 129,d n (t 128),n,[12]⟩,⟨s 130,m (t 8),n,[]⟩,⟨s 131,z (t 130),n,[14]⟩,⟨s 132,f 0 (t 131),n,[15]⟩,⟨s 133,d n (t 132),n,[16]⟩,⟨s 134,m (t 8),n,[]⟩,⟨s 135,z (t 134),n,[18]⟩,⟨s 136,f 0 (t 135),n,[19]⟩,⟨s 137,d n (t 136),n,[20]⟩,⟨s 138,z (t 137),n,[21]⟩,⟨s 139,f 0 (t 138),n,[22]⟩,⟨s 140,d n (t 139),n,[23]⟩,⟨s 141,c (l (.fn 50 [])) [(t 133),(t 140)],n,[17,24]⟩,⟨s 142,c (l (.fn 49 [])) [(t 122),(t 129),(t 141)],n,[6,13,25,25]⟩,⟨s 20,m (t 142),n,[26,26,0,1,2,3,4,5,6,7,8,9,10,11,12,13,14,15,16,17,18,19,20,21,22,23,24,25,26]⟩])
(q (q (r n [⟨s 143,m (t 20),n,[]⟩,⟨s 144,m (t 143),n,[0]⟩,⟨s 145,m (t 19),s (144,true),[1]⟩,⟨s 146,.not (t 145),s (144,true),[2,1]⟩,⟨s 147,k (t 144) (t 146) (l (.bool false)),n,[1,3]⟩])
(i (t 147) (r n [⟨s 148,m (t 16),n,[]⟩,⟨s 149,m (t 8),n,[]⟩,⟨s 150,z (t 149),n,[1]⟩,⟨s 151,f 1 (t 150),n,[2]⟩,⟨s 152,d n (t 151),n,[3]⟩,⟨s 153,m (t 18),n,[]⟩,⟨s 154,x 5 (t 152) (t 153),n,[4,5]⟩,⟨s 155,f 0 (t 154),n,[6]⟩,⟨s 156,d n (t 155),n,[7]⟩,⟨s 157,.lenS (t 156),n,[8]⟩,⟨s 158,b .add .int (t 148) (t 157),n,[0,9]⟩,⟨s 16,m (t 158),n,[10,0,1,2,3,4,5,6,7,8,9,10]⟩]) .skip))
(q (r n [⟨s 159,m (t 19),n,[]⟩,⟨s 160,m (t 159),n,[0]⟩,⟨s 161,m (t 20),s (160,true),[1]⟩,⟨s 162,.not (t 161),s (160,true),[2,1]⟩,⟨s 163,k (t 160) (t 162) (l (.bool false)),n,[1,3]⟩])
(i (t 163) (r n [⟨s 164,m (t 17),n,[]⟩,⟨s 165,m (t 8),n,[]⟩,⟨s 166,z (t 165),n,[1]⟩,⟨s 167,f 1 (t 166),n,[2]⟩,⟨s 168,d n (t 167),n,[3]⟩,⟨s 169,m (t 18),n,[]⟩,⟨s 170,x 5 (t 168) (t 169),n,[4,5]⟩,⟨s 171,f 0 (t 170),n,[6]⟩,⟨s 172,d n (t 171),n,[7]⟩,⟨s 173,.lenS (t 172),n,[8]⟩,⟨s 174,b .add .int (t 164) (t 173),n,[0,9]⟩,⟨s 17,m (t 174),n,[10,0,1,2,3,4,5,6,7,8,9,10]⟩]) .skip))))))
(r n [⟨s 99,m (t 18),n,[]⟩,⟨s 100,b .add .int (t 99) (l (.int .i64 1)),n,[0]⟩,⟨s 18,m (t 100),n,[1,0,1]⟩]))))))
(q (r n [⟨s 175,m (t 15),n,[]⟩,⟨s 176,b .eql .int (t 175) (l (.int .i64 0)),n,[0]⟩,⟨s 177,m (t 176),n,[1]⟩,⟨s 178,m (t 13),s (177,true),[2]⟩,⟨s 179,m (t 16),s (177,true),[2]⟩,⟨s 180,b .eql .int (t 178) (t 179),s (177,true),[3,4,2]⟩,⟨s 181,k (t 177) (t 180) (l (.bool false)),n,[2,5]⟩,⟨s 182,m (t 181),n,[6,2]⟩,⟨s 183,m (t 14),s (182,true),[7]⟩,⟨s 184,m (t 17),s (182,true),[7]⟩,⟨s 185,b .eql .int (t 183) (t 184),s (182,true),[8,9,7]⟩,⟨s 186,k (t 182) (t 185) (l (.bool false)),n,[7,10]⟩,⟨s 6,m (t 186),n,[11,7,0,1,2,3,4,5,6,7,8,9,10,11]⟩])
.ret))))))))))))}
theorem c_palinodelaw22_DiffTells : cFunc Tryz.prog n_palinodelaw22_DiffTells = some f_palinodelaw22_DiffTells := by kernel_rfl
end
end Go.Proofs.YtioampofolilnaaGreat.M
namespace Go.Proofs.YtioampofolilnaaGreat.M
open Go Go.Mini
attribute [local congr] go1_congr goM_congr goG_congr goV_congr drawwp_congr Xwp_congr
set_option maxHeartbeats 8000000 in
theorem diffTells_fspec (W:World) (l:List Step) (frm to:Int) (hl:l.length≤9223372036854775807) (hx:∀ x∈l,StepFits x):FSpec Tryz.prog n_palinodelaw22_DiffTells [eSteps l,.int .i64 frm,.int .i64 to] (Heap.bare W (cellsOf W)) fun v s=>v= .bool true∧s.W=W:=by
 refine fspec_of_awp mixed c_palinodelaw22_DiffTells (tl rfl) ?_
 unfold f_palinodelaw22_DiffTells
 have hfew:=few22_call (Heap.bare W (cellsOf W)) l hl hx
 simp only [eSteps] at hfew
 simp +decide only [↓evd,evw,reduceCtorEq]
 refine MSpec.of (known22_call _ rfl) ?_
 simp +decide only [↓evd,evw,reduceCtorEq,↓reduceIte,eSteps]
 refine MSpec.of hfew ?_
 cases hfb:fewB20 l with
 | false=>simp +decide only [↓evd,evw,reduceCtorEq,↓reduceIte]
 | true=>
 have hall:∀ x∈l,fewOne x=true:=fun x hx=>by
  simp only [fewB20,Bool.and_eq_true,List.all_eq_true] at hfb
  exact hfb.1 x hx
 have hl20:l.length≤20:=by simp only [fewB20,Bool.and_eq_true,decide_eq_true_eq] at hfb;exact hfb.2
 have hbo:=both22_at (Heap.bare W (cellsOf W)) rfl l (by omega) hall
 generalize l.foldl doB Eng.new=E at hbo
 simp only [eSteps] at hbo
 simp +decide only [↓evd,evw,reduceCtorEq,↓reduceIte]
 refine hbo.mono ?_
 rintro v τ ⟨k1,k2,fp1,fp2,rfl,hT⟩
 have hE:=hT.eng
 have hR:=hT.ref
 have hW1:τ.W=W:=hT.keep.1
 clear hT hbo hfew
 obtain ⟨hok,hRok⟩:=hE.ok
 have hll:=hok.len
 have h4:∀ a∈E.l,a.text.length≤4:=fun a ha=>(cp_len (hok.txt a ha)).2
 have hh2:=head_le hRok
 rcases h1:betwE E frm to with ⟨d,c⟩
 obtain ⟨he1,he2⟩:=betw_err h1
 have q1:=between_call hE frm to
 have q2:=fun ρ (h:IsRefE ρ k2 E fp2)=>rbetween_call h frm to
 simp only [rbetw_eq hok,h1,eDelta,eChgs] at q1 q2
 have n1:(τ.next+1=τ.next)=False:=eq_false (by omega)
 have n2:(τ.next=τ.next+1)=False:=eq_false (by omega)
 have bb:∀ x:Int,(x != x)=false:=by intro x;simp
 have hK1:=((Keep.refl [] τ).new (.cells [.int .i64 0,.nils] none)).set (.inr (Nat.le_refl _)) (.cells [.int .i64 d.base,.fsl 3 (d.els.map eChg)] none)
 have hK2:=(hK1.new (.cells [.int .i64 0,.nils] none)).set (j:=τ.next+1) (.inr (by omega)) (.cells [.int .i64 d.base,.fsl 3 (d.els.map eChg)] none)
 have g0:((((τ.new (.cells [.int .i64 0,.nils] none)).set τ.next (.cells [.int .i64 d.base,.fsl 3 (d.els.map eChg)] none)).new (.cells [.int .i64 0,.nils] none)).set (τ.next+1) (.cells [.int .i64 d.base,.fsl 3 (d.els.map eChg)] none)).get τ.next=some (.cells [.int .i64 d.base,.fsl 3 (d.els.map eChg)] none):=by
  rw [Heap.get_set,if_neg (by omega),Heap.get_new,if_neg (by simp),Heap.get_set,if_pos rfl]
 have g1:((((τ.new (.cells [.int .i64 0,.nils] none)).set τ.next (.cells [.int .i64 d.base,.fsl 3 (d.els.map eChg)] none)).new (.cells [.int .i64 0,.nils] none)).set (τ.next+1) (.cells [.int .i64 d.base,.fsl 3 (d.els.map eChg)] none)).get (τ.next+1)=some (.cells [.int .i64 d.base,.fsl 3 (d.els.map eChg)] none):=by
  rw [Heap.get_set,if_pos rfl]
 have hR1:=hR.keep hK1 (fun y _=>by simp)
 simp +decide only [↓evd,evw,reduceCtorEq,↓reduceIte]
 refine MSpec.of q1 ?_
 simp +decide only [↓evd,evw,reduceCtorEq,↓reduceIte]
 refine MSpec.of (q2 _ hR1) ?_
 simp +decide only [↓evd,evw,reduceCtorEq,↓reduceIte]
 generalize (((τ.new (.cells [.int .i64 0,.nils] none)).set τ.next (.cells [.int .i64 d.base,.fsl 3 (d.els.map eChg)] none)).new (.cells [.int .i64 0,.nils] none)).set (τ.next+1) (.cells [.int .i64 d.base,.fsl 3 (d.els.map eChg)] none)=τ2 at hK2 g0 g1 ⊢
 have hW2:τ2.W=W:=hK2.1.trans hW1
 have hE2:=hE.keep hK2 (fun y _=>by simp)
 have hR2:=hR.keep hK2 (fun y _=>by simp)
 clear hE hR hR1 hK1 q1 q2
 have hsi:=since_call hE2 frm
 obtain ⟨x,kr,fpr,h,rfl⟩:=id hR2
 obtain ⟨P,u0,els,hRA,hfpr⟩:=id h.revs
 have hb:=h.blk
 have hbr:=hRA.blk
 have hr0:=rc_0 (a:=E.R.head) (b:=E.R.floor) (P:=P) (u:=u0)
 have hlv:=rlive_call hRA frm
 have hu1:=rundone_call hRA frm
 have hu2:=rundone_call hRA (E.R.head:Nat)
 have hf1:=undone_few h.revs.ok frm
 have hf2:=undone_few h.revs.ok (E.R.head:Nat)
 have hlen:=h.alen
 have hxr:=h.raw
 have hlst:=h.lst
 simp only [ints] at hu1 hu2
 clear hR2 h hRA hE2
 have hd60:c=0→d.els.length≤1000000:=fun hc=>by subst hc;have:=(betw_ok hok h1).ok.few;omega
 have be:∀ x:Int,(x==x)=true:=by intro x;simp
 have k1':((70:Int) != 0)=true:=rfl
 have k2':((70:Int)==0)=false:=rfl
 have k3':((190:Int) != 0)=true:=rfl
 have k4':((190:Int)==0)=false:=rfl
 have k5':((190:Int)==190)=true:=rfl
 rcases hsE:sinceE E frm with ⟨sa,sb,sc⟩
 rw [hsE] at hsi
 simp only at hsi
 have hlen2:∀ p:Atom→Bool,∀ i,i≤E.l.length→sumIf p (E.l.take i)≤E.l.length * 4:=fun p i hi=>by
  have:=sumIf_le (p:=p) (l:=E.l.take i) (fun a ha=>h4 a (List.mem_of_mem_take ha))
  rw [List.length_take] at this;omega
 rcases he1 with rfl | ⟨rfl,rfl⟩ | ⟨rfl,rfl⟩
 case' inl=>
  have hsm:=rdsame_call τ2 d (hd60 rfl)
  simp only [eDelta,eChgs] at hsm
  simp +decide only [↓evd,evw,reduceCtorEq,↓reduceIte,bb,g0,g1]
  refine MSpec.of hsm ?_
  simp +decide only [↓evd,evw,reduceCtorEq,↓reduceIte]
 case' inr.inl=>
  simp only [List.map_nil] at g0
  simp +decide only [↓evd,evw,evz,reduceCtorEq,↓reduceIte,bb,k1',k2',g0]
 case' inr.inr=>
  simp only [List.map_nil] at g0
  simp +decide only [↓evd,evw,evz,reduceCtorEq,↓reduceIte,bb,k3',k4',g0]
 all_goals
  refine MSpec.of hsi ?_
  simp +decide only [↓evd,evw,reduceCtorEq,↓reduceIte,hb]
  refine MSpec.of hlv ?_
  cases hl1:E.R.live frm
  ·obtain ⟨rfl,rfl,rfl⟩:sa=0∧sb=0∧sc=190:=by
    rw [sinceE,if_neg (by simp [hl1])] at hsE
    simp only [Prod.mk.injEq] at hsE;omega
   simp +decide only [↓evd,evw,reduceCtorEq,↓reduceIte]
   first | exact hW2 | exact ⟨rfl,hW2⟩
  obtain ⟨rfl,rfl,rfl⟩:sumIf (cameB frm (E.R.head:Nat) (E.R.undone frm) (E.R.undone (E.R.head:Nat))) E.l=sa∧sumIf (wentB frm (E.R.head:Nat) (E.R.undone frm) (E.R.undone (E.R.head:Nat))) E.l=sb∧(0:Int)=sc:=by
   rw [sinceE,if_pos hl1] at hsE
   simpa only [Prod.mk.injEq] using hsE
  clear hsE hsi hlv he2 h1
  generalize E.R.undone frm=uf at *
  generalize E.R.undone (E.R.head:Nat)=uh at *
  simp +decide only [↓evd,evw,reduceCtorEq,↓reduceIte]
  refine awp_loop (fun m fr ρ=>∃ (i:Nat),m+i=E.l.length∧fr.get 1= .int .i64 frm∧fr.get 8= .ptr (.new k2) 0∧fr.get 13= .int .i64 (sumIf (cameB frm (E.R.head:Nat) uf uh) E.l:Nat)∧fr.get 14= .int .i64 (sumIf (wentB frm (E.R.head:Nat) uf uh) E.l:Nat)∧fr.get 15= .int .i64 0∧fr.get 16= .int .i64 (sumIf (cameB frm (E.R.head:Nat) uf uh) (E.l.take i):Nat)∧fr.get 17= .int .i64 (sumIf (wentB frm (E.R.head:Nat) uf uh) (E.l.take i):Nat)∧fr.get 18= .int .i64 (i:Nat)∧ρ=τ2) ?_ (m:=E.l.length) ?_
  case refine_2=>
   refine ⟨0,by omega,?_⟩
   simp +decide only [evw,↓reduceIte]
   first | done | exact ⟨rfl,rfl⟩ | rfl
  rintro m fr ρ ⟨i,hi,e1,e8,e13,e14,e15,e16,e17,e18,rfl⟩
  by_cases hlt:i<E.l.length
  ·have hlt':(i:Int)<(E.l.length:Int):=by omega
   have hw:=wrap_succ (i:=i) (by omega)
   have hg:=map_get eAtom E.l i hlt
   have hcl:=hok.cuts _ (List.getElem_mem hlt)
   have htl:=h4 _ (List.getElem_mem hlt)
   have hc1:=sumIf_take (p:=cameB frm (E.R.head:Nat) uf uh) (List.getElem?_eq_getElem hlt)
   have hd1:=sumIf_take (p:=wentB frm (E.R.head:Nat) uf uh) (List.getElem?_eq_getElem hlt)
   have hc2:=hlen2 (cameB frm (E.R.head:Nat) uf uh) i (by omega)
   have hd2:=hlen2 (wentB frm (E.R.head:Nat) uf uh) i (by omega)
   obtain rfl:x=eAtoms E.l:=by
    rcases hlst with h1 | ⟨_,h1⟩
    ·exact h1
    ·rw [h1] at hlt;simp at hlt
   generalize E.l[i]=a at hg hcl htl hc1 hd1
   have hva:=rvisible_call ρ a frm uf hf1 (by omega)
   have hvb:=rvisible_call ρ a (E.R.head:Nat) uh hf2 (by omega)
   simp only [eAtom,ints] at hva hvb
   simp only [eAtoms] at hb
   rw [show cameB frm (E.R.head:Nat) uf uh a=(!visible frm uf a && visible (E.R.head:Nat) uh a) from rfl] at hc1
   rw [show wentB frm (E.R.head:Nat) uf uh a=(visible frm uf a && !visible (E.R.head:Nat) uh a) from rfl] at hd1
   generalize visible frm uf a=vx at hva hc1 hd1
   generalize visible (E.R.head:Nat) uh a=vy at hvb hc1 hd1
   have hwc:IntKind.i64.wrap (((sumIf (cameB frm (E.R.head:Nat) uf uh) (E.l.take i):Nat):Int)+(a.text.length:Int))=((sumIf (cameB frm (E.R.head:Nat) uf uh) (E.l.take i)+a.text.length:Nat):Int):=by rw [wrap_id (by omega) (by omega)];omega
   have hwd:IntKind.i64.wrap (((sumIf (wentB frm (E.R.head:Nat) uf uh) (E.l.take i):Nat):Int)+(a.text.length:Int))=((sumIf (wentB frm (E.R.head:Nat) uf uh) (E.l.take i)+a.text.length:Nat):Int):=by rw [wrap_id (by omega) (by omega)];omega
   simp +decide only [↓evd,evw,evz,reduceCtorEq,↓reduceIte,e8,e18,hb,hlt']
   with_reducible refine draw_of_grow (fun _=>True) (ms:=[false,false,false,false,false,false,false,false,false,false,false,false,false,false,false,false]) (by kernel_rfl) ?_
   simp +decide only [↓evd,evw,evz,↓reduceIte,e1,e8,e18,hb,hg,eAtom]
   refine MSpec.of hu1 ⟨.inr Keeps.rfl,?_⟩
   simp +decide only [↓evd,evw,↓reduceIte]
   refine MSpec.of hva ⟨.inr Keeps.rfl,?_⟩
   simp +decide only [↓evd,evw,↓reduceIte]
   with_reducible refine draw_of_grow (fun _=>True) (ms:=[false,false,false,false,false,false,false,false,false,false,false,false,false,false,false,false,false,false,false,false,false,false,false,false,false,false,false,false]) (by kernel_rfl) ?_
   simp +decide only [↓evd,evw,evz,↓reduceIte,e8,e18,hb,hbr,hr0,hg,eAtom]
   refine MSpec.of hu2 ⟨.inr Keeps.rfl,?_⟩
   simp +decide only [↓evd,evw,↓reduceIte]
   refine MSpec.of hvb ⟨.inr Keeps.rfl,?_⟩
   cases vx <;> cases vy <;> simp only [Bool.not_true,Bool.not_false,Bool.and_true,Bool.and_false,Bool.false_eq_true,if_true,if_false,Nat.add_zero] at hc1 hd1 <;> simp +decide only [↓evd,evw,evz,reduceCtorEq,↓reduceIte,e1,e8,e13,e14,e15,e16,e17,e18,hb,hg,eAtom,hw,hwc,hwd] <;> refine ⟨m - 1,by omega,i+1,by omega,?_⟩ <;> rw [hc1,hd1] <;> first | exact ⟨rfl,rfl,rfl⟩ | trace_state
  ·have hlt':¬(i:Int)<(E.l.length:Int):=by omega
   rw [List.take_of_length_le (by omega)] at e16 e17
   simp +decide only [↓evd,evw,reduceCtorEq,↓reduceIte,e8,e13,e14,e15,e16,e17,e18,hb,hlen,hlt']
   first | exact hW2 | exact ⟨rfl,hW2⟩
theorem diffTells_row (W:World) (a0:List Step) (a1 a2:Int) (g0:GList gStep a0) (g1:GInt .i64 a1) (g2:GInt .i64 a2):FSpec Tryz.prog n_palinodelaw22_DiffTells [.fsl 6 (a0.map eStep),.int .i64 a1,.int .i64 a2] (Heap.bare W (cellsOf W)) fun v s=>v= .bool true∧s.W=W:=
 diffTells_fspec W a0 a1 a2 (steps_fit g0).1 (steps_fit g0).2
end Go.Proofs.YtioampofolilnaaGreat.M


/- Codes of the program's functions, compiled for the abstract machine; each compiled by the kernel's word. No condition. -/
import Derived.Test.YtmfeoicoegfpeaaGreatFN
set_option maxRecDepth 100000
namespace Go.Proofs.YtmfeoicoegfpeaaGreat.M
open Go Go.Mini
section
open Opd renaming tmp → t, lit → l
open SOp renaming mv → m, call → c, load → d, pick → k, fldA → f, bin → b, idxA → x, store → e, nilc → z, len → g
open SCode renaming seq → q, reg → r, cond → i, block → o
open Option renaming some → s, none → n
def f_palinodelaw26_known : SFunc := { ntmps := 127, results := [.tmp 0], body :=
(q (r n [⟨s 0,m (l (.bool false)),n,[]⟩])
(q (r n [⟨s 16,c (l (.fn 5 [])) [],n,[]⟩,⟨s 1,m (t 16),n,[0,0,0]⟩])
(q (q (r n [⟨s 17,m (t 1),n,[]⟩,⟨s 18,b .eql .ptr (t 17) (l .nilp),n,[0]⟩,⟨s 19,m (t 18),n,[1]⟩,⟨s 20,m (t 1),s (19,false),[2]⟩,⟨s 21,c (l (.fn 7 [])) [(t 20)],s (19,false),[3,2,2]⟩,⟨s 22,b .neq .str (t 21) (l (.str [])),s (19,false),[4,2]⟩,⟨s 23,k (t 19) (l (.bool true)) (t 22),n,[2,5]⟩,⟨s 24,m (t 23),n,[6,4]⟩,⟨s 25,m (t 1),s (24,false),[7]⟩,⟨s 26,c (l (.fn 8 [])) [(t 25)],s (24,false),[8,7,7]⟩,⟨s 27,b .neq .int (t 26) (l (.int .i64 0)),s (24,false),[9,7]⟩,⟨s 28,k (t 24) (l (.bool true)) (t 27),n,[7,10]⟩,⟨s 29,m (t 28),n,[11,9]⟩,⟨s 30,m (t 1),s (29,false),[12]⟩,⟨s 31,c (l (.fn 11 [])) [(t 30)],s (29,false),[13,12,12]⟩,⟨s 32,g (t 31),s (29,false),[14,12]⟩,⟨s 33,b .neq .int (t 32) (l (.int .i64 1)),s (29,false),[15,12]⟩,⟨s 34,k (t 29) (l (.bool true)) (t 33),n,[12,16]⟩])
(i (t 34) (q (r n [⟨s 0,m (l (.bool false)),n,[]⟩])
.ret) .skip))
(q (r n [⟨s 36,m (t 1),n,[]⟩,⟨s 37,.build [(.int .i64 0),(.int .i64 0),(.int .i64 0),(.int .i64 0),.nils,.nils,.nils,(.str []),(.int .i64 0),(.int .i64 0),(.int .i64 0)] [(0,1,(l (.int .i64 5))),(2,1,(l (.int .i64 1))),(7,1,(l (.str [104,101,108,108,111])))],n,[]⟩,⟨s 38,c (l (.fn 6 [])) [(t 36),(t 37)],n,[0,1]⟩,⟨s 35,m (t 38),n,[2]⟩,⟨s 39,.ext (t 35) 0,n,[3]⟩,⟨s 40,.ext (t 35) 1,n,[3]⟩,⟨s 2,m (t 39),n,[4,2,0,1,2,3,4]⟩,⟨s 3,m (t 40),n,[5,6,0,1,2,3,4,5,6]⟩])
(q (r n [⟨s 41,m (t 1),n,[]⟩,⟨s 42,c (l (.fn 11 [])) [(t 41)],n,[0]⟩,⟨s 4,m (t 42),n,[1,1,0,1]⟩])
(q (r n [⟨s 44,m (t 1),n,[]⟩,⟨s 45,.build [(.int .i64 0),(.int .i64 0)] [(0,1,(l (.int .i64 1))),(1,1,(l (.int .i64 3)))],n,[]⟩,⟨s 46,.bslc 2 [(.int .i64 0),(.int .i64 0)] 1 [(0,2,(t 45))],n,[1]⟩,⟨s 47,.build [(.int .i64 0),(.int .i64 0),(.int .i64 0),(.int .i64 0),.nils,.nils,.nils,(.str []),(.int .i64 0),(.int .i64 0),(.int .i64 0)] [(0,1,(l (.int .i64 4))),(6,1,(t 46))],n,[2]⟩,⟨s 48,c (l (.fn 6 [])) [(t 44),(t 47)],n,[0,3]⟩,⟨s 43,m (t 48),n,[4]⟩,⟨s 49,.ext (t 43) 0,n,[5]⟩,⟨s 50,.ext (t 43) 1,n,[5]⟩,⟨s 5,m (t 49),n,[6,4,0,1,2,3,4,5,6]⟩,⟨s 6,m (t 50),n,[7,8,0,1,2,3,4,5,6,7,8]⟩])
(q (r n [⟨s 52,m (t 1),n,[]⟩,⟨s 53,.build [(.int .i64 0),(.int .i64 0),(.int .i64 0),(.int .i64 0),.nils,.nils,.nils,(.str []),(.int .i64 0),(.int .i64 0),(.int .i64 0)] [(0,1,(l (.int .i64 5))),(2,1,(l (.int .i64 2))),(7,1,(l (.str [120])))],n,[]⟩,⟨s 54,c (l (.fn 6 [])) [(t 52),(t 53)],n,[0,1]⟩,⟨s 51,m (t 54),n,[2]⟩,⟨s 55,.ext (t 51) 0,n,[3]⟩,⟨s 56,.ext (t 51) 1,n,[3]⟩,⟨s 7,m (t 55),n,[4,2,0,1,2,3,4]⟩,⟨s 8,m (t 56),n,[5,6,0,1,2,3,4,5,6]⟩])
(q (r n [⟨s 57,m (t 1),n,[]⟩,⟨s 58,c (l (.fn 7 [])) [(t 57)],n,[0]⟩,⟨s 9,m (t 58),n,[1,1,0,1]⟩])
(q (r n [⟨s 60,m (t 1),n,[]⟩,⟨s 61,.build [(.int .i64 0),(.int .i64 0),(.int .i64 0),(.int .i64 0),.nils,.nils,.nils,(.str []),(.int .i64 0),(.int .i64 0),(.int .i64 0)] [(0,1,(l (.int .i64 2))),(2,1,(l (.int .i64 2)))],n,[]⟩,⟨s 62,c (l (.fn 6 [])) [(t 60),(t 61)],n,[0,1]⟩,⟨s 59,m (t 62),n,[2]⟩,⟨s 63,.ext (t 59) 0,n,[3]⟩,⟨s 64,.ext (t 59) 1,n,[3]⟩,⟨s 10,m (t 63),n,[4,2,0,1,2,3,4]⟩,⟨s 11,m (t 64),n,[5,6,0,1,2,3,4,5,6]⟩])
(q (r n [⟨s 66,m (t 1),n,[]⟩,⟨s 67,.build [(.int .i64 0),(.int .i64 0),(.int .i64 0),(.int .i64 0),.nils,.nils,.nils,(.str []),(.int .i64 0),(.int .i64 0),(.int .i64 0)] [(0,1,(l (.int .i64 99)))],n,[]⟩,⟨s 68,c (l (.fn 6 [])) [(t 66),(t 67)],n,[0,1]⟩,⟨s 65,m (t 68),n,[2]⟩,⟨s 69,.ext (t 65) 0,n,[3]⟩,⟨s 70,.ext (t 65) 1,n,[3]⟩,⟨s 12,m (t 69),n,[4,2,0,1,2,3,4]⟩,⟨s 13,m (t 70),n,[5,6,0,1,2,3,4,5,6]⟩])
(q (r n [⟨s 72,m (t 1),n,[]⟩,⟨s 73,c (l (.fn 12 [])) [(t 72),(l (.int .i64 0)),(l (.int .i64 1)),(l (.int .i64 5))],n,[0]⟩,⟨s 71,m (t 73),n,[1]⟩,⟨s 74,.ext (t 71) 0,n,[2]⟩,⟨s 75,.ext (t 71) 1,n,[2]⟩,⟨s 14,m (t 74),n,[3,1,0,1,2,3]⟩,⟨s 15,m (t 75),n,[4,5,0,1,2,3,4,5]⟩])
(q (r n [⟨s 76,m (t 3),n,[]⟩,⟨s 77,b .eql .int (t 76) (l (.int .i64 0)),n,[0]⟩,⟨s 78,m (t 77),n,[1]⟩,⟨s 79,m (t 2),s (78,true),[2]⟩,⟨s 80,b .eql .int (t 79) (l (.int .i64 1)),s (78,true),[3,2]⟩,⟨s 81,k (t 78) (t 80) (l (.bool false)),n,[2,4]⟩,⟨s 82,m (t 81),n,[5,2]⟩,⟨s 83,m (t 4),s (82,true),[6]⟩,⟨s 84,g (t 83),s (82,true),[7,6]⟩,⟨s 85,b .eql .int (t 84) (l (.int .i64 1)),s (82,true),[8,6]⟩,⟨s 86,k (t 82) (t 85) (l (.bool false)),n,[6,9]⟩,⟨s 87,m (t 86),n,[10,6]⟩,⟨s 88,m (t 4),s (87,true),[11]⟩,⟨s 89,x 2 (t 88) (l (.int .i64 0)),s (87,true),[12,11]⟩,⟨s 90,d (s 2) (t 89),s (87,true),[13,11]⟩,⟨s 91,.build [(.int .i64 0),(.int .i64 0)] [(0,1,(l (.int .i64 5))),(1,1,(l (.int .i64 5)))],s (87,true),[11]⟩,⟨s 92,b .eql (.flat [.int,.int]) (t 90) (t 91),s (87,true),[14,15,11]⟩,⟨s 93,k (t 87) (t 92) (l (.bool false)),n,[11,16]⟩,⟨s 94,m (t 93),n,[17,11]⟩,⟨s 95,m (t 6),s (94,true),[18]⟩,⟨s 96,b .eql .int (t 95) (l (.int .i64 0)),s (94,true),[19,18]⟩,⟨s 97,k (t 94) (t 96) (l (.bool false)),n,[18,20]⟩,⟨s 98,m (t 97),n,[21,18]⟩,⟨s 99,m (t 8),s (98,true),[22]⟩,⟨s 100,b .eql .int (t 99) (l (.int .i64 0)),s (98,true),[23,22]⟩,⟨s 101,k (t 98) (t 100) (l (.bool false)),n,[22,24]⟩,⟨s 102,m (t 101),n,[25,22]⟩,⟨s 103,m (t 9),s (102,true),[26]⟩,⟨s 104,b .eql .str (t 103) (l (.str [104,120,108,111])),s (102,true),[27,26]⟩,⟨s 105,k (t 102) (t 104) (l (.bool false)),n,[26,28]⟩,⟨s 106,m (t 105),n,[29,26]⟩,⟨s 107,m (t 11),s (106,true),[30]⟩,⟨s 108,b .eql .int (t 107) (l (.int .i64 0)),s (106,true),[31,30]⟩,⟨s 109,k (t 106) (t 108) (l (.bool false)),n,[30,32]⟩,⟨s 110,m (t 109),n,[33,30]⟩,⟨s 111,m (t 1),s (110,true),[34]⟩,⟨s 112,c (l (.fn 7 [])) [(t 111)],s (110,true),[35,34,34]⟩,⟨s 113,b .eql .str (t 112) (l (.str [104,101,108,108,111])),s (110,true),[36,34]⟩,⟨s 114,k (t 110) (t 113) (l (.bool false)),n,[34,37]⟩,⟨s 115,m (t 114),n,[38,36]⟩,⟨s 116,m (t 13),s (115,true),[39]⟩,⟨s 117,b .eql .int (t 116) (l (.int .i64 260)),s (115,true),[40,39]⟩,⟨s 118,k (t 115) (t 117) (l (.bool false)),n,[39,41]⟩,⟨s 119,m (t 118),n,[42,39]⟩,⟨s 120,m (t 15),s (119,true),[43]⟩,⟨s 121,b .eql .int (t 120) (l (.int .i64 0)),s (119,true),[44,43]⟩,⟨s 122,k (t 119) (t 121) (l (.bool false)),n,[43,45]⟩,⟨s 123,m (t 122),n,[46,43]⟩,⟨s 124,m (t 14),s (123,true),[47]⟩,⟨s 125,b .eql .int (t 124) (l (.int .i64 5)),s (123,true),[48,47]⟩,⟨s 126,k (t 123) (t 125) (l (.bool false)),n,[47,49]⟩,⟨s 0,m (t 126),n,[50,47,0,1,2,3,4,5,6,7,8,9,10,11,12,13,14,15,16,17,18,19,20,21,22,23,24,25,26,27,28,29,30,31,32,33,34,35,36,37,38,39,40,41,42,43,44,45,46,47,48,49,50]⟩])
.ret))))))))))))}
theorem c_palinodelaw26_known : cFunc Tryz.prog n_palinodelaw26_known = some f_palinodelaw26_known := by kernel_rfl
def f_view_New : SFunc := { ntmps := 6, results := [.tmp 0], body :=
(q (r n [⟨s 0,m (l .nilp),n,[]⟩])
(q (.regA [0,0,3,7,15,31] [⟨s 1,c (l (.fn 13 [])) [],n,[]⟩,⟨s 2,.layB 0 2 [(.int .i64 0),(.int .i64 0)] 1 [],n,[]⟩,⟨s 3,.build [.nilp,.nilp,.nils,.nils,.nils] [(0,1,(t 1)),(2,1,(t 2))],n,[0,1]⟩,⟨s 4,.box (t 3),n,[2]⟩,⟨s 5,c (l (.fn 14 [])) [(t 4)],n,[3,0]⟩,⟨s 0,m (t 5),n,[4,4,0,1,2,3,4]⟩])
.ret))}
theorem c_view_New : cFunc Tryz.prog n_view_New = some f_view_New := by kernel_rfl
def f_view_View_Do : SFunc := { ntmps := 44, results := [.tmp 4, .tmp 5], body :=
(q (r n [⟨s 3,.box (t 1),n,[]⟩,⟨s 4,m (l (.int .i64 0)),n,[]⟩,⟨s 5,m (l (.int .i64 0)),n,[1]⟩])
(q (q (r n [⟨s 8,f 0 (t 3),n,[]⟩,⟨s 9,d n (t 8),n,[0]⟩,⟨s 10,b .lss .int (t 9) (l (.int .i64 1)),n,[1]⟩,⟨s 11,m (t 10),n,[2]⟩,⟨s 12,f 0 (t 3),s (11,false),[3]⟩,⟨s 13,d n (t 12),s (11,false),[4,3]⟩,⟨s 14,b .gtr .int (t 13) (l (.int .i64 8)),s (11,false),[5,3]⟩,⟨s 15,k (t 11) (l (.bool true)) (t 14),n,[3,6]⟩])
(i (t 15) (q (r n [⟨s 4,m (l (.int .i64 0)),n,[]⟩,⟨s 5,m (l (.int .i64 260)),n,[0,0]⟩])
.ret) .skip))
(q (r n [⟨s 16,m (t 0),n,[]⟩,⟨s 17,c (l (.fn 15 [])) [(t 16)],n,[0]⟩,⟨s 6,m (t 17),n,[1,1,0,1]⟩])
(q (r n [⟨s 7,m (l (.int .i64 0)),n,[]⟩])
(q (q (r (s [0,0,2,7]) [⟨s 18,c (l (.fn 16 [])) [],n,[]⟩,⟨s 19,f 0 (t 3),n,[]⟩,⟨s 20,d n (t 19),n,[1]⟩,⟨s 21,.idxG 9 1 false (t 18) (t 20),n,[0,2]⟩])
(i (t 21) (q (r n [⟨s 22,m (t 6),n,[]⟩,⟨s 23,d (s 11) (t 3),n,[]⟩,⟨s 24,c (l (.fn 17 [])) [(t 22),(t 23)],n,[0,1]⟩,⟨s 7,m (t 24),n,[2,2,0,1,2]⟩])
(q (r n [⟨s 25,m (t 7),n,[]⟩,⟨s 26,b .eql .int (t 25) (l (.int .i64 0)),n,[0]⟩])
(i (t 26) (r n [⟨s 27,m (t 6),n,[]⟩,⟨s 28,m (t 0),n,[]⟩,⟨s 29,c (l (.fn 18 [])) [(t 27),(t 28)],n,[0,1]⟩,⟨s 7,m (t 29),n,[2,2,0,1,2]⟩]) .skip))) (r n [⟨s 30,m (t 6),n,[]⟩,⟨s 31,d (s 11) (t 3),n,[]⟩,⟨s 32,c (l (.fn 19 [])) [(t 30),(t 31)],n,[0,1]⟩,⟨s 7,m (t 32),n,[2,2,0,1,2]⟩])))
(q (q (r n [⟨s 33,m (t 7),n,[]⟩,⟨s 34,b .neq .int (t 33) (l (.int .i64 0)),n,[0]⟩])
(i (t 34) (q (r n [⟨s 35,m (t 7),n,[]⟩,⟨s 4,m (l (.int .i64 0)),n,[]⟩,⟨s 5,m (t 35),n,[0,1,0,1]⟩])
.ret) .skip))
(q (r n [⟨s 36,m (t 0),n,[]⟩,⟨s 37,m (t 6),n,[]⟩,⟨s 38,c (l (.fn 14 [])) [(t 37)],n,[1]⟩,⟨s 39,z (t 38),n,[2]⟩,⟨s 40,d (s 5) (t 39),n,[3]⟩,⟨s 41,z (t 36),n,[0,0,1,2,3,4]⟩,⟨n,e 5 (t 41) (t 40),n,[5,4,2,0,1,2,3,4]⟩])
(q (r n [⟨s 42,m (t 0),n,[]⟩,⟨s 43,c (l (.fn 8 [])) [(t 42)],n,[0]⟩,⟨s 4,m (t 43),n,[1,1,0,1]⟩,⟨s 5,m (l (.int .i64 0)),n,[2,0,1,2]⟩])
.ret))))))))}
theorem c_view_View_Do : cFunc Tryz.prog n_view_View_Do = some f_view_View_Do := by kernel_rfl
def f_view_View_Text : SFunc := { ntmps := 8, results := [.tmp 2], body :=
(q (r n [⟨s 2,m (l (.str [])),n,[]⟩])
(q (r n [⟨s 3,m (t 0),n,[]⟩,⟨s 4,z (t 3),n,[0]⟩,⟨s 5,f 1 (t 4),n,[1]⟩,⟨s 6,d n (t 5),n,[2]⟩,⟨s 7,c (l (.fn 20 [])) [(t 6)],n,[3]⟩,⟨s 2,m (t 7),n,[4,4,0,1,2,3,4]⟩])
.ret))}
theorem c_view_View_Text : cFunc Tryz.prog n_view_View_Text = some f_view_View_Text := by kernel_rfl
def f_view_View_Head : SFunc := { ntmps := 8, results := [.tmp 2], body :=
(q (r n [⟨s 2,m (l (.int .i64 0)),n,[]⟩])
(q (r n [⟨s 3,m (t 0),n,[]⟩,⟨s 4,z (t 3),n,[0]⟩,⟨s 5,f 0 (t 4),n,[1]⟩,⟨s 6,d n (t 5),n,[2]⟩,⟨s 7,c (l (.fn 21 [])) [(t 6)],n,[3]⟩,⟨s 2,m (t 7),n,[4,4,0,1,2,3,4]⟩])
.ret))}
theorem c_view_View_Head : cFunc Tryz.prog n_view_View_Head = some f_view_View_Head := by kernel_rfl
def f_view_View_Spans : SFunc := { ntmps := 8, results := [.tmp 2], body :=
(q (r n [⟨s 2,m (l .nils),n,[]⟩])
(q (r n [⟨s 3,m (t 0),n,[]⟩,⟨s 4,z (t 3),n,[0]⟩,⟨s 5,f 3 (t 4),n,[1]⟩,⟨s 6,d n (t 5),n,[2]⟩,⟨s 7,c (l (.fn 22 [])) [(t 6)],n,[3]⟩,⟨s 2,m (t 7),n,[4,4,0,1,2,3,4]⟩])
.ret))}
theorem c_view_View_Spans : cFunc Tryz.prog n_view_View_Spans = some f_view_View_Spans := by kernel_rfl
def f_view_View_Breaks : SFunc := { ntmps := 8, results := [.tmp 2], body :=
(q (r n [⟨s 2,m (l .nils),n,[]⟩])
(q (r n [⟨s 3,m (t 0),n,[]⟩,⟨s 4,z (t 3),n,[0]⟩,⟨s 5,f 4 (t 4),n,[1]⟩,⟨s 6,d n (t 5),n,[2]⟩,⟨s 7,c (l (.fn 23 [])) [(t 6)],n,[3]⟩,⟨s 2,m (t 7),n,[4,4,0,1,2,3,4]⟩])
.ret))}
theorem c_view_View_Breaks : cFunc Tryz.prog n_view_View_Breaks = some f_view_View_Breaks := by kernel_rfl
def f_view_View_Selection : SFunc := { ntmps := 8, results := [.tmp 2], body :=
(q (r n [⟨s 2,m (l .nils),n,[]⟩])
(q (r n [⟨s 3,m (t 0),n,[]⟩,⟨s 4,z (t 3),n,[0]⟩,⟨s 5,f 2 (t 4),n,[1]⟩,⟨s 6,d n (t 5),n,[2]⟩,⟨s 7,c (l (.fn 24 [])) [(t 6)],n,[3]⟩,⟨s 2,m (t 7),n,[4,4,0,1,2,3,4]⟩])
.ret))}
theorem c_view_View_Selection : cFunc Tryz.prog n_view_View_Selection = some f_view_View_Selection := by kernel_rfl
def f_view_View_Convert : SFunc := { ntmps := 20, results := [.tmp 8, .tmp 9], body :=
(q (r n [⟨s 8,m (l (.int .i64 0)),n,[]⟩,⟨s 9,m (l (.int .i64 0)),n,[0]⟩])
(q (r n [⟨s 10,m (t 0),n,[]⟩,⟨s 11,z (t 10),n,[0]⟩,⟨s 12,f 1 (t 11),n,[1]⟩,⟨s 13,d n (t 12),n,[2]⟩,⟨s 14,m (t 1),n,[]⟩,⟨s 15,m (t 2),n,[]⟩,⟨s 16,m (t 3),n,[]⟩,⟨s 17,c (l (.fn 25 [])) [(t 13),(t 14),(t 15),(t 16)],n,[3,4,5,6]⟩,⟨s 18,.ext (t 17) 0,n,[7]⟩,⟨s 19,.ext (t 17) 1,n,[7]⟩,⟨s 8,m (t 18),n,[8,7,0,1,2,3,4,5,6,7,8,9]⟩,⟨s 9,m (t 19),n,[9,10,0,1,2,3,4,5,6,7,8,9,10]⟩])
.ret))}
theorem c_view_View_Convert : cFunc Tryz.prog n_view_View_Convert = some f_view_View_Convert := by kernel_rfl
def f_engine_New : SFunc := { ntmps := 4, results := [.tmp 0], body :=
(q (r n [⟨s 0,m (l .nilp),n,[]⟩])
(q (r n [⟨s 1,c (l (.fn 26 [])) [],n,[]⟩,⟨s 2,.build [.nils,.nilp] [(1,1,(t 1))],n,[0]⟩,⟨s 3,.box (t 2),n,[1]⟩,⟨s 0,m (t 3),n,[2,0,0,1,2]⟩])
.ret))}
theorem c_engine_New : cFunc Tryz.prog n_engine_New = some f_engine_New := by kernel_rfl
def f_view_View_told : SFunc := { ntmps := 24, results := [.tmp 2], body :=
(q (r n [⟨s 2,m (l .nilp),n,[]⟩])
(q (r (s [0,1,3,7,0,16,63,127,255,255,511,2047]) [⟨s 6,m (t 0),n,[]⟩,⟨s 7,z (t 6),n,[0]⟩,⟨s 8,f 0 (t 7),n,[1]⟩,⟨s 9,d n (t 8),n,[2]⟩,⟨s 10,m (t 0),n,[]⟩,⟨s 11,c (l (.fn 8 [])) [(t 10)],n,[4]⟩,⟨s 12,c (l (.fn 27 [])) [(t 9),(t 11)],n,[3,5,5]⟩,⟨s 5,m (t 12),n,[6]⟩,⟨s 13,.ext (t 5) 0,n,[7]⟩,⟨s 14,.ext (t 5) 1,n,[7]⟩,⟨s 3,m (t 13),n,[8,6,0,1,2,3,4,5,6,7,8]⟩,⟨s 4,m (t 14),n,[9,10,0,1,2,3,4,5,6,7,8,9,10]⟩])
(q (r n [⟨s 16,m (t 0),n,[]⟩,⟨s 17,m (t 3),n,[]⟩,⟨s 18,c (l (.fn 28 [])) [(t 17)],n,[1]⟩,⟨s 15,m (t 18),n,[2]⟩,⟨s 19,.ext (t 15) 0,n,[3]⟩,⟨s 20,.ext (t 15) 1,n,[3]⟩,⟨s 21,z (t 16),n,[0,0,1,2,3,4]⟩,⟨s 22,f 1 (t 21),n,[6,0,1,2,3,4]⟩,⟨n,e 1 (t 22) (t 19),n,[7,4,2,0,1,2,3,4]⟩])
(q (r n [⟨s 23,m (t 0),n,[]⟩,⟨s 2,m (t 23),n,[0,0]⟩])
.ret))))}
theorem c_view_View_told : cFunc Tryz.prog n_view_View_told = some f_view_View_told := by kernel_rfl
def f_view_View_Copy : SFunc := { ntmps := 20, results := [.tmp 2], body :=
(q (r n [⟨s 2,m (l .nilp),n,[]⟩])
(q (r (s [0,1,3,7,15,0,32,96,224,0,543,0,3615,0,15903,32767,65535,131071]) [⟨s 3,m (t 0),n,[]⟩,⟨s 4,z (t 3),n,[0]⟩,⟨s 5,f 0 (t 4),n,[1]⟩,⟨s 6,d n (t 5),n,[2]⟩,⟨s 7,c (l (.fn 29 [])) [(t 6)],n,[3]⟩,⟨s 8,m (t 0),n,[]⟩,⟨s 9,z (t 8),n,[5]⟩,⟨s 10,f 1 (t 9),n,[6]⟩,⟨s 11,d n (t 10),n,[7]⟩,⟨s 12,m (t 0),n,[]⟩,⟨s 13,c (l (.fn 11 [])) [(t 12)],n,[9,4]⟩,⟨s 14,m (t 0),n,[]⟩,⟨s 15,c (l (.fn 9 [])) [(t 14)],n,[11,10]⟩,⟨s 16,m (t 0),n,[]⟩,⟨s 17,c (l (.fn 10 [])) [(t 16)],n,[13,12]⟩,⟨s 18,.build [.nilp,.nilp,.nils,.nils,.nils] [(0,1,(t 7)),(1,1,(t 11)),(2,1,(t 13)),(3,1,(t 15)),(4,1,(t 17))],n,[4,8,10,12,14]⟩,⟨s 19,.box (t 18),n,[15]⟩,⟨s 2,m (t 19),n,[16,14,0,1,2,3,4,5,6,7,8,9,10,11,12,13,14,15,16]⟩])
.ret))}
theorem c_view_View_Copy : cFunc Tryz.prog n_view_View_Copy = some f_view_View_Copy := by kernel_rfl
def f_view_edits : SFunc := { ntmps := 2, results := [.cell 0 (some 9)], body :=
(q (r n [⟨s 0,.alloc (bitRow 9 (fun _=>false)),n,[]⟩])
(q (r n [⟨s 1,.build (bitRow 9 (fun _=>false)) [(1,1,(l (.bool true))),(2,1,(l (.bool true))),(5,1,(l (.bool true))),(6,1,(l (.bool true)))],n,[]⟩,⟨n,e 9 (t 0) (t 1),n,[0,0]⟩])
.ret))}
theorem c_view_edits : cFunc Tryz.prog n_view_edits = some f_view_edits := by kernel_rfl
def f_view_View_edits : SFunc := { ntmps := 84, results := [.tmp 4], body :=
(q (r n [⟨s 3,.box (t 1),n,[]⟩,⟨s 4,m (l (.int .i64 0)),n,[]⟩])
(q (r n [⟨s 5,m (l (.int .i64 0)),n,[]⟩])
(q (q (r n [⟨s 7,f 0 (t 3),n,[]⟩,⟨s 8,d n (t 7),n,[0]⟩])
(o 0 (q (r n [⟨s 33,b .eql .int (t 8) (l (.int .i64 1)),n,[]⟩,⟨s 32,m (t 33),n,[0]⟩])
(i (t 32) (r (s [0,1,3,7,0,16,0,64,0,256,0,1024,4095,8191,16383,16383,65535]) [⟨s 35,m (t 0),n,[]⟩,⟨s 36,z (t 35),n,[0]⟩,⟨s 37,f 0 (t 36),n,[1]⟩,⟨s 38,d n (t 37),n,[2]⟩,⟨s 39,f 1 (t 3),n,[]⟩,⟨s 40,d n (t 39),n,[4]⟩,⟨s 41,f 2 (t 3),n,[]⟩,⟨s 42,d n (t 41),n,[6]⟩,⟨s 43,f 3 (t 3),n,[]⟩,⟨s 44,d n (t 43),n,[8]⟩,⟨s 45,f 4 (t 3),n,[]⟩,⟨s 46,d n (t 45),n,[10]⟩,⟨s 47,c (l (.fn 30 [])) [(t 38),(t 40),(t 42),(t 44),(t 46)],n,[3,5,7,9,11]⟩,⟨s 34,m (t 47),n,[12]⟩,⟨s 48,.ext (t 34) 0,n,[13]⟩,⟨s 49,.ext (t 34) 1,n,[13]⟩,⟨s 5,m (t 49),n,[15,12,0,1,2,3,4,5,6,7,8,9,10,11,12,13,14,15]⟩]) (q (r n [⟨s 51,b .eql .int (t 8) (l (.int .i64 2)),n,[]⟩,⟨s 50,m (t 51),n,[0]⟩])
(i (t 50) (r (s [0,1,3,7,0,16,63,127,255,255,1023]) [⟨s 53,m (t 0),n,[]⟩,⟨s 54,z (t 53),n,[0]⟩,⟨s 55,f 0 (t 54),n,[1]⟩,⟨s 56,d n (t 55),n,[2]⟩,⟨s 57,f 2 (t 3),n,[]⟩,⟨s 58,d n (t 57),n,[4]⟩,⟨s 59,c (l (.fn 31 [])) [(t 56),(t 58)],n,[3,5]⟩,⟨s 52,m (t 59),n,[6]⟩,⟨s 60,.ext (t 52) 0,n,[7]⟩,⟨s 61,.ext (t 52) 1,n,[7]⟩,⟨s 5,m (t 61),n,[9,6,0,1,2,3,4,5,6,7,8,9]⟩]) (q (r n [⟨s 63,b .eql .int (t 8) (l (.int .i64 5)),n,[]⟩,⟨s 62,m (t 63),n,[0]⟩])
(i (t 62) (r (s [0,1,3,7,0,16,0,64,0,256,768,1792,0,4096,16176,32767,65535,131071,131071,524287]) [⟨s 65,m (t 0),n,[]⟩,⟨s 66,z (t 65),n,[0]⟩,⟨s 67,f 0 (t 66),n,[1]⟩,⟨s 68,d n (t 67),n,[2]⟩,⟨s 69,m (t 0),n,[]⟩,⟨s 70,c (l (.fn 8 [])) [(t 69)],n,[4]⟩,⟨s 71,f 2 (t 3),n,[]⟩,⟨s 72,d n (t 71),n,[6]⟩,⟨s 73,m (t 0),n,[]⟩,⟨s 74,z (t 73),n,[8]⟩,⟨s 75,f 2 (t 74),n,[9]⟩,⟨s 76,d n (t 75),n,[10]⟩,⟨s 77,f 7 (t 3),n,[]⟩,⟨s 78,d n (t 77),n,[12]⟩,⟨s 79,c (l (.fn 32 [])) [(t 76),(t 78)],n,[11,13,5]⟩,⟨s 80,c (l (.fn 30 [])) [(t 68),(t 70),(t 72),(l (.int .i64 0)),(t 79)],n,[3,5,7,14,14]⟩,⟨s 64,m (t 80),n,[15]⟩,⟨s 81,.ext (t 64) 0,n,[16]⟩,⟨s 82,.ext (t 64) 1,n,[16]⟩,⟨s 5,m (t 82),n,[18,15,0,1,2,3,4,5,6,7,8,9,10,11,12,13,14,15,16,17,18]⟩]) (q (r (s [0,1,3,7,0,16,63,127]) [⟨s 9,m (t 0),n,[]⟩,⟨s 10,z (t 9),n,[0]⟩,⟨s 11,f 2 (t 10),n,[1]⟩,⟨s 12,d n (t 11),n,[2]⟩,⟨s 13,m (t 0),n,[]⟩,⟨s 14,c (l (.fn 7 [])) [(t 13)],n,[4]⟩,⟨s 15,c (l (.fn 33 [])) [(t 12),(t 14)],n,[3,5,5]⟩,⟨s 6,m (t 15),n,[6,6,0,1,2,3,4,5,6]⟩])
(q (r n [⟨s 16,m (t 6),n,[]⟩,⟨s 17,g (t 16),n,[0]⟩,⟨s 18,b .gtr .int (t 17) (l (.int .i64 0)),n,[1]⟩])
(i (t 18) (r (s [0,1,3,7,0,16,0,64,0,511,1023,2047,2047,8191]) [⟨s 20,m (t 0),n,[]⟩,⟨s 21,z (t 20),n,[0]⟩,⟨s 22,f 0 (t 21),n,[1]⟩,⟨s 23,d n (t 22),n,[2]⟩,⟨s 24,m (t 0),n,[]⟩,⟨s 25,c (l (.fn 8 [])) [(t 24)],n,[4]⟩,⟨s 26,f 2 (t 3),n,[]⟩,⟨s 27,d n (t 26),n,[6]⟩,⟨s 28,m (t 6),n,[]⟩,⟨s 29,c (l (.fn 30 [])) [(t 23),(t 25),(t 27),(l (.int .i64 0)),(t 28)],n,[3,5,7,8,5]⟩,⟨s 19,m (t 29),n,[9]⟩,⟨s 30,.ext (t 19) 0,n,[10]⟩,⟨s 31,.ext (t 19) 1,n,[10]⟩,⟨s 5,m (t 31),n,[12,9,0,1,2,3,4,5,6,7,8,9,10,11,12]⟩]) .skip)))))))))))
(q (r n [⟨s 83,m (t 5),n,[]⟩,⟨s 4,m (t 83),n,[0,0]⟩])
.ret))))}
theorem c_view_View_edits : cFunc Tryz.prog n_view_View_edits = some f_view_View_edits := by kernel_rfl
def f_view_View_follows : SFunc := { ntmps := 65, results := [.tmp 4], body :=
(q (r n [⟨s 4,m (l (.int .i64 0)),n,[]⟩])
(q (.regA [0,1,3,7,0,16,0,112,255,511,1023,1023,0,6143,16383] [⟨s 8,m (t 0),n,[]⟩,⟨s 9,z (t 8),n,[0]⟩,⟨s 10,f 0 (t 9),n,[1]⟩,⟨s 11,d n (t 10),n,[2]⟩,⟨s 12,m (t 1),n,[]⟩,⟨s 13,c (l (.fn 8 [])) [(t 12)],n,[4]⟩,⟨s 14,m (t 0),n,[]⟩,⟨s 15,c (l (.fn 8 [])) [(t 14)],n,[6,5]⟩,⟨s 16,c (l (.fn 34 [])) [(t 11),(t 13),(t 15)],n,[3,5,7,7]⟩,⟨s 7,m (t 16),n,[8]⟩,⟨s 17,.ext (t 7) 0,n,[9]⟩,⟨s 18,.ext (t 7) 1,n,[9]⟩,⟨s 5,.lay 0 [(.int .i64 0),.nils],n,[]⟩,⟨n,e 2 (t 5) (t 17),n,[12,10,8,0,1,2,3,4,5,6,7,8,9,10,12]⟩,⟨s 6,m (t 18),n,[11,13,0,1,2,3,4,5,6,7,8,9,10,11,12,13]⟩])
(q (q (r n [⟨s 19,m (t 6),n,[]⟩,⟨s 20,b .neq .int (t 19) (l (.int .i64 0)),n,[0]⟩])
(i (t 20) (q (r n [⟨s 21,m (t 6),n,[]⟩,⟨s 4,m (t 21),n,[0,0]⟩])
.ret) .skip))
(q (q (r (s [0,0,2,6,14,0,62,126,254,254,511,1535,3583,8191]) [⟨s 23,m (t 0),n,[]⟩,⟨s 24,m (t 0),n,[]⟩,⟨s 25,z (t 24),n,[1]⟩,⟨s 26,f 2 (t 25),n,[2]⟩,⟨s 27,d n (t 26),n,[3]⟩,⟨s 28,d (s 2) (t 5),n,[]⟩,⟨s 29,c (l (.fn 35 [])) [(t 27),(t 28)],n,[4,5]⟩,⟨s 22,m (t 29),n,[6]⟩,⟨s 30,.ext (t 22) 0,n,[7]⟩,⟨s 31,.ext (t 22) 1,n,[7]⟩,⟨s 32,z (t 23),n,[0,0,1,2,3,4,5,6,7,8]⟩,⟨s 33,f 2 (t 32),n,[10,0,1,2,3,4,5,6,7,8]⟩,⟨n,e 1 (t 33) (t 30),n,[11,8,6,0,1,2,3,4,5,6,7,8]⟩,⟨s 6,m (t 31),n,[9,12,0,1,2,3,4,5,6,7,8,9,10,11,12]⟩])
(q (r n [⟨s 34,m (t 6),n,[]⟩,⟨s 35,b .neq .int (t 34) (l (.int .i64 0)),n,[0]⟩])
(i (t 35) (q (r n [⟨s 36,m (t 6),n,[]⟩,⟨s 4,m (t 36),n,[0,0]⟩])
.ret) .skip)))
(q (q (r (s [0,0,2,6,14,0,62,126,254,254,511,1535,3583,8191]) [⟨s 38,m (t 0),n,[]⟩,⟨s 39,m (t 0),n,[]⟩,⟨s 40,z (t 39),n,[1]⟩,⟨s 41,f 3 (t 40),n,[2]⟩,⟨s 42,d n (t 41),n,[3]⟩,⟨s 43,d (s 2) (t 5),n,[]⟩,⟨s 44,c (l (.fn 36 [])) [(t 42),(t 43)],n,[4,5]⟩,⟨s 37,m (t 44),n,[6]⟩,⟨s 45,.ext (t 37) 0,n,[7]⟩,⟨s 46,.ext (t 37) 1,n,[7]⟩,⟨s 47,z (t 38),n,[0,0,1,2,3,4,5,6,7,8]⟩,⟨s 48,f 3 (t 47),n,[10,0,1,2,3,4,5,6,7,8]⟩,⟨n,e 1 (t 48) (t 45),n,[11,8,6,0,1,2,3,4,5,6,7,8]⟩,⟨s 6,m (t 46),n,[9,12,0,1,2,3,4,5,6,7,8,9,10,11,12]⟩])
(q (r n [⟨s 49,m (t 6),n,[]⟩,⟨s 50,b .neq .int (t 49) (l (.int .i64 0)),n,[0]⟩])
(i (t 50) (q (r n [⟨s 51,m (t 6),n,[]⟩,⟨s 4,m (t 51),n,[0,0]⟩])
.ret) .skip)))
(q (r (s [0,0,2,6,14,0,62,126,254,254,511,1535,3583,8191]) [⟨s 53,m (t 0),n,[]⟩,⟨s 54,m (t 0),n,[]⟩,⟨s 55,z (t 54),n,[1]⟩,⟨s 56,f 4 (t 55),n,[2]⟩,⟨s 57,d n (t 56),n,[3]⟩,⟨s 58,d (s 2) (t 5),n,[]⟩,⟨s 59,c (l (.fn 37 [])) [(t 57),(t 58)],n,[4,5]⟩,⟨s 52,m (t 59),n,[6]⟩,⟨s 60,.ext (t 52) 0,n,[7]⟩,⟨s 61,.ext (t 52) 1,n,[7]⟩,⟨s 62,z (t 53),n,[0,0,1,2,3,4,5,6,7,8]⟩,⟨s 63,f 4 (t 62),n,[10,0,1,2,3,4,5,6,7,8]⟩,⟨n,e 1 (t 63) (t 60),n,[11,8,6,0,1,2,3,4,5,6,7,8]⟩,⟨s 6,m (t 61),n,[9,12,0,1,2,3,4,5,6,7,8,9,10,11,12]⟩])
(q (r n [⟨s 64,m (t 6),n,[]⟩,⟨s 4,m (t 64),n,[0,0]⟩])
.ret)))))))}
theorem c_view_View_follows : cFunc Tryz.prog n_view_View_follows = some f_view_View_follows := by kernel_rfl
def f_view_View_marks : SFunc := { ntmps := 111, results := [.tmp 4], body :=
(q (r n [⟨s 3,.box (t 1),n,[]⟩,⟨s 4,m (l (.int .i64 0)),n,[]⟩])
(q (r n [⟨s 5,m (l (.int .i64 0)),n,[]⟩])
(q (r n [⟨s 8,m (t 0),n,[]⟩,⟨s 9,c (l (.fn 7 [])) [(t 8)],n,[0]⟩,⟨s 6,m (t 9),n,[1,1,0,1]⟩])
(q (q (r n [⟨s 10,f 0 (t 3),n,[]⟩,⟨s 11,d n (t 10),n,[0]⟩])
(o 0 (q (r n [⟨s 43,b .eql .int (t 11) (l (.int .i64 3)),n,[]⟩,⟨s 42,m (t 43),n,[0]⟩])
(i (t 42) (q (r (s [0,1,3,7,0,16,63,127]) [⟨s 44,m (t 0),n,[]⟩,⟨s 45,z (t 44),n,[0]⟩,⟨s 46,f 0 (t 45),n,[1]⟩,⟨s 47,d n (t 46),n,[2]⟩,⟨s 48,f 5 (t 3),n,[]⟩,⟨s 49,d n (t 48),n,[4]⟩,⟨s 50,c (l (.fn 38 [])) [(t 47),(t 49)],n,[3,5]⟩,⟨s 4,m (t 50),n,[6,6,0,1,2,3,4,5,6]⟩])
.ret) (q (r n [⟨s 52,b .eql .int (t 11) (l (.int .i64 4)),n,[]⟩,⟨s 51,m (t 52),n,[0]⟩])
(i (t 51) (r n [⟨s 54,m (t 0),n,[]⟩,⟨s 55,f 6 (t 3),n,[]⟩,⟨s 56,d n (t 55),n,[1]⟩,⟨s 57,m (t 6),n,[]⟩,⟨s 58,c (l (.fn 39 [])) [(t 56),(t 57)],n,[2,3]⟩,⟨s 53,m (t 58),n,[4]⟩,⟨s 59,.ext (t 53) 0,n,[5]⟩,⟨s 60,.ext (t 53) 1,n,[5]⟩,⟨s 61,z (t 54),n,[0,0,1,2,3,4,5,6]⟩,⟨s 62,f 2 (t 61),n,[8,0,1,2,3,4,5,6]⟩,⟨n,e 1 (t 62) (t 59),n,[9,6,4,0,1,2,3,4,5,6]⟩,⟨s 5,m (t 60),n,[7,10,0,1,2,3,4,5,6,7,8,9,10]⟩]) (q (r n [⟨s 64,b .eql .int (t 11) (l (.int .i64 7)),n,[]⟩,⟨s 63,m (t 64),n,[0]⟩])
(i (t 63) (q (r n [⟨s 65,f 8 (t 3),n,[]⟩,⟨s 66,d (s 3) (t 65),n,[0]⟩,⟨s 7,.alloc [(.int .i64 0),(.int .i64 0),(.int .i64 0)],n,[]⟩,⟨n,e 3 (t 7) (t 66),n,[2,1,0,1,2]⟩])
(q (o 2 (q (r n [⟨s 68,f 0 (t 7),n,[]⟩,⟨s 69,d n (t 68),n,[0]⟩,⟨s 70,b .lss .int (t 69) (l (.int .i64 0)),n,[1]⟩,⟨s 71,m (t 70),n,[2]⟩,⟨s 72,f 0 (t 7),s (71,false),[3]⟩,⟨s 73,d n (t 72),s (71,false),[4,3]⟩,⟨s 74,f 1 (t 7),s (71,false),[3]⟩,⟨s 75,d n (t 74),s (71,false),[6,3]⟩,⟨s 76,b .gtr .int (t 73) (t 75),s (71,false),[5,7,3]⟩,⟨s 77,k (t 71) (l (.bool true)) (t 76),n,[3,8]⟩,⟨s 78,m (t 77),n,[9,3]⟩,⟨s 79,f 1 (t 7),s (78,false),[10]⟩,⟨s 80,d n (t 79),s (78,false),[11,10]⟩,⟨s 81,m (t 6),s (78,false),[10]⟩,⟨s 82,.lenS (t 81),s (78,false),[13,10]⟩,⟨s 83,b .gtr .int (t 80) (t 82),s (78,false),[12,14,10]⟩,⟨s 84,k (t 78) (l (.bool true)) (t 83),n,[10,15]⟩,⟨s 67,m (t 84),n,[16,10]⟩])
(i (t 67) (q (r n [⟨s 4,m (l (.int .i64 10)),n,[]⟩])
.ret) (q (r n [⟨s 86,m (t 6),n,[]⟩,⟨s 87,f 0 (t 7),n,[]⟩,⟨s 88,d n (t 87),n,[1]⟩,⟨s 89,c (l (.fn 40 [])) [(t 86),(t 88)],n,[0,2]⟩,⟨s 90,.not (t 89),n,[3]⟩,⟨s 91,m (t 90),n,[4,3]⟩,⟨s 92,m (t 6),s (91,false),[5]⟩,⟨s 93,f 1 (t 7),s (91,false),[5]⟩,⟨s 94,d n (t 93),s (91,false),[7,5]⟩,⟨s 95,c (l (.fn 40 [])) [(t 92),(t 94)],s (91,false),[6,8,5,5]⟩,⟨s 96,.not (t 95),s (91,false),[9,5]⟩,⟨s 97,k (t 91) (l (.bool true)) (t 96),n,[5,10]⟩,⟨s 85,m (t 97),n,[11,9]⟩])
(i (t 85) (q (r n [⟨s 4,m (l (.int .i64 11)),n,[]⟩])
.ret) .skip)))))
(r (s [0,0,2,6,14,0,62,126,254,254,511,1535,3583,8191]) [⟨s 99,m (t 0),n,[]⟩,⟨s 100,m (t 0),n,[]⟩,⟨s 101,z (t 100),n,[1]⟩,⟨s 102,f 3 (t 101),n,[2]⟩,⟨s 103,d n (t 102),n,[3]⟩,⟨s 104,d (s 3) (t 7),n,[]⟩,⟨s 105,c (l (.fn 41 [])) [(t 103),(t 104)],n,[4,5]⟩,⟨s 98,m (t 105),n,[6]⟩,⟨s 106,.ext (t 98) 0,n,[7]⟩,⟨s 107,.ext (t 98) 1,n,[7]⟩,⟨s 108,z (t 99),n,[0,0,1,2,3,4,5,6,7,8]⟩,⟨s 109,f 3 (t 108),n,[10,0,1,2,3,4,5,6,7,8]⟩,⟨n,e 1 (t 109) (t 106),n,[11,8,6,0,1,2,3,4,5,6,7,8]⟩,⟨s 5,m (t 107),n,[9,12,0,1,2,3,4,5,6,7,8,9,10,11,12]⟩]))) (q (o 1 (q (r n [⟨s 13,f 1 (t 3),n,[]⟩,⟨s 14,d n (t 13),n,[0]⟩,⟨s 15,b .leq .int (t 14) (l (.int .i64 0)),n,[1]⟩,⟨s 16,m (t 15),n,[2]⟩,⟨s 17,f 1 (t 3),s (16,false),[3]⟩,⟨s 18,d n (t 17),s (16,false),[4,3]⟩,⟨s 19,m (t 6),s (16,false),[3]⟩,⟨s 20,.lenS (t 19),s (16,false),[6,3]⟩,⟨s 21,b .geq .int (t 18) (t 20),s (16,false),[5,7,3]⟩,⟨s 22,k (t 16) (l (.bool true)) (t 21),n,[3,8]⟩,⟨s 12,m (t 22),n,[9,3]⟩])
(i (t 12) (q (r n [⟨s 4,m (l (.int .i64 10)),n,[]⟩])
.ret) (q (r n [⟨s 24,m (t 6),n,[]⟩,⟨s 25,f 1 (t 3),n,[]⟩,⟨s 26,d n (t 25),n,[1]⟩,⟨s 27,c (l (.fn 40 [])) [(t 24),(t 26)],n,[0,2]⟩,⟨s 28,.not (t 27),n,[3]⟩,⟨s 23,m (t 28),n,[4,3]⟩])
(i (t 23) (q (r n [⟨s 4,m (l (.int .i64 11)),n,[]⟩])
.ret) .skip)))))
(r (s [0,0,2,6,14,0,32,126,254,510,510,1023,3071,7167,16383]) [⟨s 30,m (t 0),n,[]⟩,⟨s 31,m (t 0),n,[]⟩,⟨s 32,z (t 31),n,[1]⟩,⟨s 33,f 4 (t 32),n,[2]⟩,⟨s 34,d n (t 33),n,[3]⟩,⟨s 35,f 1 (t 3),n,[]⟩,⟨s 36,d n (t 35),n,[5]⟩,⟨s 37,c (l (.fn 42 [])) [(t 34),(t 36)],n,[4,6]⟩,⟨s 29,m (t 37),n,[7]⟩,⟨s 38,.ext (t 29) 0,n,[8]⟩,⟨s 39,.ext (t 29) 1,n,[8]⟩,⟨s 40,z (t 30),n,[0,0,1,2,3,4,5,6,7,8,9]⟩,⟨s 41,f 4 (t 40),n,[11,0,1,2,3,4,5,6,7,8,9]⟩,⟨n,e 1 (t 41) (t 38),n,[12,9,7,0,1,2,3,4,5,6,7,8,9]⟩,⟨s 5,m (t 39),n,[10,13,0,1,2,3,4,5,6,7,8,9,10,11,12,13]⟩]))))))))))
(q (r n [⟨s 110,m (t 5),n,[]⟩,⟨s 4,m (t 110),n,[0,0]⟩])
.ret)))))}
theorem c_view_View_marks : cFunc Tryz.prog n_view_View_marks = some f_view_View_marks := by kernel_rfl
def f_rope_Rope_String : SFunc := { ntmps := 20, results := [.tmp 2], body :=
(q (r n [⟨s 2,m (l (.str [])),n,[]⟩])
(q (r n [⟨s 3,.allocT 91 [.nilp,.nils],n,[]⟩])
(q (q (r n [⟨s 6,m (t 0),n,[]⟩,⟨s 7,z (t 6),n,[0]⟩,⟨s 8,f 0 (t 7),n,[1]⟩,⟨s 9,d (s 1) (t 8),n,[2]⟩,⟨s 10,c (l (.fn 43 [])) [(t 9)],n,[3]⟩,⟨s 11,g (t 10),n,[4]⟩,⟨s 12,m (l (.int .i64 0)),n,[]⟩])
(o 0 (.loop (q (r n [⟨s 13,b .lss .int (t 12) (t 11),n,[]⟩])
(q (i (t 13) .skip (.exit 0))
(q (o 1 (q (r n [⟨s 14,x 1 (t 10) (t 12),n,[]⟩,⟨s 15,d n (t 14),n,[0]⟩,⟨s 5,m (t 15),n,[1,0,1]⟩])
(r n [⟨s 16,m (t 5),n,[]⟩,⟨s 17,c (l (.fn 44 [])) [(t 3),(t 16)],n,[0]⟩])))
(r n [⟨s 18,b .add .int (t 12) (l (.int .i64 1)),n,[]⟩,⟨s 12,m (t 18),n,[0]⟩])))))))
(q (r n [⟨s 19,c (l (.fn 45 [])) [(t 3)],n,[]⟩,⟨s 2,m (t 19),n,[0,0,0]⟩])
.ret))))}
theorem c_rope_Rope_String : cFunc Tryz.prog n_rope_Rope_String = some f_rope_Rope_String := by kernel_rfl
def f_engine_Engine_Head : SFunc := { ntmps := 8, results := [.tmp 2], body :=
(q (r n [⟨s 2,m (l (.int .i64 0)),n,[]⟩])
(q (r n [⟨s 3,m (t 0),n,[]⟩,⟨s 4,z (t 3),n,[0]⟩,⟨s 5,f 1 (t 4),n,[1]⟩,⟨s 6,d n (t 5),n,[2]⟩,⟨s 7,c (l (.fn 46 [])) [(t 6)],n,[3]⟩,⟨s 2,m (t 7),n,[4,4,0,1,2,3,4]⟩])
.ret))}
theorem c_engine_Engine_Head : cFunc Tryz.prog n_engine_Engine_Head = some f_engine_Engine_Head := by kernel_rfl
def f_view_copied_api_Span : SFunc := { ntmps := 11, results := [.tmp 2], body :=
(q (r n [⟨s 2,m (l .nils),n,[]⟩])
(q (r n [⟨s 4,m (t 0),n,[]⟩,⟨s 5,g (t 4),n,[0]⟩,⟨s 6,.mslc 3 24 [(.int .i64 0),(.int .i64 0),(.int .i64 0)] (t 5) (t 5),n,[1,1]⟩,⟨s 3,m (t 6),n,[2,0,1,2]⟩])
(q (r n [⟨s 7,m (t 3),n,[]⟩,⟨s 8,m (t 0),n,[]⟩,⟨s 9,.copy 3 (t 7) (t 8),n,[0,1]⟩])
(q (r n [⟨s 10,m (t 3),n,[]⟩,⟨s 2,m (t 10),n,[0,0]⟩])
.ret))))}
theorem c_view_copied_api_Span : cFunc Tryz.prog n_view_copied_api_Span = some f_view_copied_api_Span := by kernel_rfl
def f_view_copied_int : SFunc := { ntmps := 11, results := [.tmp 2], body :=
(q (r n [⟨s 2,m (l .nils),n,[]⟩])
(q (r n [⟨s 4,m (t 0),n,[]⟩,⟨s 5,g (t 4),n,[0]⟩,⟨s 6,.mslc 1 8 [(.int .i64 0)] (t 5) (t 5),n,[1,1]⟩,⟨s 3,m (t 6),n,[2,0,1,2]⟩])
(q (r n [⟨s 7,m (t 3),n,[]⟩,⟨s 8,m (t 0),n,[]⟩,⟨s 9,.copy 1 (t 7) (t 8),n,[0,1]⟩])
(q (r n [⟨s 10,m (t 3),n,[]⟩,⟨s 2,m (t 10),n,[0,0]⟩])
.ret))))}
theorem c_view_copied_int : cFunc Tryz.prog n_view_copied_int = some f_view_copied_int := by kernel_rfl
def f_view_copied_api_Region : SFunc := { ntmps := 11, results := [.tmp 2], body :=
(q (r n [⟨s 2,m (l .nils),n,[]⟩])
(q (r n [⟨s 4,m (t 0),n,[]⟩,⟨s 5,g (t 4),n,[0]⟩,⟨s 6,.mslc 2 16 [(.int .i64 0),(.int .i64 0)] (t 5) (t 5),n,[1,1]⟩,⟨s 3,m (t 6),n,[2,0,1,2]⟩])
(q (r n [⟨s 7,m (t 3),n,[]⟩,⟨s 8,m (t 0),n,[]⟩,⟨s 9,.copy 2 (t 7) (t 8),n,[0,1]⟩])
(q (r n [⟨s 10,m (t 3),n,[]⟩,⟨s 2,m (t 10),n,[0,0]⟩])
.ret))))}
theorem c_view_copied_api_Region : cFunc Tryz.prog n_view_copied_api_Region = some f_view_copied_api_Region := by kernel_rfl
def f_metric_Convert : SFunc := { ntmps := 36, results := [.tmp 8, .tmp 9], body :=
(q (r n [⟨s 8,m (l (.int .i64 0)),n,[]⟩,⟨s 9,m (l (.int .i64 0)),n,[0]⟩])
(q (q (r n [⟨s 12,m (t 1),n,[]⟩,⟨s 13,c (l (.fn 47 [])) [(t 12)],n,[0]⟩,⟨s 14,.not (t 13),n,[1]⟩,⟨s 15,m (t 14),n,[2,1]⟩,⟨s 16,m (t 2),s (15,false),[3]⟩,⟨s 17,c (l (.fn 47 [])) [(t 16)],s (15,false),[4,3,3]⟩,⟨s 18,.not (t 17),s (15,false),[5,3]⟩,⟨s 19,k (t 15) (l (.bool true)) (t 18),n,[3,6]⟩])
(i (t 19) (q (r n [⟨s 8,m (l (.int .i64 0)),n,[]⟩,⟨s 9,m (l (.int .i64 12)),n,[0,0]⟩])
.ret) .skip))
(q (r n [⟨s 21,m (t 0),n,[]⟩,⟨s 22,m (t 1),n,[]⟩,⟨s 23,m (t 3),n,[]⟩,⟨s 24,c (l (.fn 48 [])) [(t 21),(t 22),(t 23)],n,[0,1,2]⟩,⟨s 20,m (t 24),n,[3]⟩,⟨s 25,.ext (t 20) 0,n,[4]⟩,⟨s 26,.ext (t 20) 1,n,[4]⟩,⟨s 10,m (t 25),n,[5,3,0,1,2,3,4,5]⟩,⟨s 11,m (t 26),n,[6,7,0,1,2,3,4,5,6,7]⟩])
(q (q (r n [⟨s 27,m (t 11),n,[]⟩,⟨s 28,b .neq .int (t 27) (l (.int .i64 0)),n,[0]⟩])
(i (t 28) (q (r n [⟨s 29,m (t 11),n,[]⟩,⟨s 8,m (l (.int .i64 0)),n,[]⟩,⟨s 9,m (t 29),n,[0,1,0,1]⟩])
.ret) .skip))
(q (r n [⟨s 30,m (t 0),n,[]⟩,⟨s 31,m (t 2),n,[]⟩,⟨s 32,m (t 10),n,[]⟩,⟨s 33,c (l (.fn 49 [])) [(t 30),(t 31),(t 32)],n,[0,1,2]⟩,⟨s 34,.ext (t 33) 0,n,[3]⟩,⟨s 35,.ext (t 33) 1,n,[3]⟩,⟨s 8,m (t 34),n,[4,3,0,1,2,3,4,5]⟩,⟨s 9,m (t 35),n,[5,6,0,1,2,3,4,5,6]⟩])
.ret)))))}
theorem c_metric_Convert : cFunc Tryz.prog n_metric_Convert = some f_metric_Convert := by kernel_rfl
def f_rev_New : SFunc := { ntmps := 7, results := [.tmp 0], body :=
(q (r n [⟨s 0,m (l .nilp),n,[]⟩])
(q (r n [⟨s 1,.mmap,n,[]⟩,⟨s 2,.bslc 1 [(.raw (.map n))] 1 [(0,1,(t 1))],n,[0]⟩,⟨s 3,.mmap,n,[]⟩,⟨s 4,.mmap,n,[]⟩,⟨s 5,.build [.nils,(.int .i64 0),(.raw (.map n)),(.raw (.map n))] [(0,1,(t 2)),(2,1,(t 3)),(3,1,(t 4))],n,[1,2,3]⟩,⟨s 6,.box (t 5),n,[4]⟩,⟨s 0,m (t 6),n,[5,0,1,2,3,4,5]⟩])
.ret))}
theorem c_rev_New : cFunc Tryz.prog n_rev_New = some f_rev_New := by kernel_rfl
def f_engine_Engine_Text : SFunc := { ntmps := 19, results := [.tmp 4, .tmp 5], body :=
(q (r n [⟨s 4,m (l (.str [])),n,[]⟩,⟨s 5,m (l (.int .i64 0)),n,[0]⟩])
(q (q (r n [⟨s 6,m (t 0),n,[]⟩,⟨s 7,m (t 1),n,[]⟩,⟨s 8,c (l (.fn 50 [])) [(t 6),(t 7)],n,[0,1]⟩,⟨s 9,.not (t 8),n,[2]⟩])
(i (t 9) (q (r n [⟨s 4,m (l (.str [])),n,[]⟩,⟨s 5,m (l (.int .i64 190)),n,[0,0]⟩])
.ret) .skip))
(q (r (s [0,1,3,7,0,0,0,96,255,511,1023]) [⟨s 10,m (t 0),n,[]⟩,⟨s 11,z (t 10),n,[0]⟩,⟨s 12,f 0 (t 11),n,[1]⟩,⟨s 13,d n (t 12),n,[2]⟩,⟨s 14,m (t 1),n,[]⟩,⟨s 15,m (t 0),n,[]⟩,⟨s 16,m (t 1),n,[]⟩,⟨s 17,c (l (.fn 52 [])) [(t 15),(t 16)],n,[5,6]⟩,⟨s 18,c (l (.fn 51 [])) [(t 13),(t 14),(t 17)],n,[3,4,7,7]⟩,⟨s 4,m (t 18),n,[8,8,0,1,2,3,4,5,6,7,8]⟩,⟨s 5,m (l (.int .i64 0)),n,[9,0,1,2,3,4,5,6,7,8,9]⟩])
.ret)))}
theorem c_engine_Engine_Text : cFunc Tryz.prog n_engine_Engine_Text = some f_engine_Engine_Text := by kernel_rfl
def f_rope_New : SFunc := { ntmps := 13, results := [.tmp 2, .tmp 3], body :=
(q (r n [⟨s 2,m (l .nilp),n,[]⟩,⟨s 3,m (l (.int .i64 0)),n,[0]⟩])
(q (r n [⟨s 4,m (t 0),n,[]⟩,⟨s 5,c (l (.fn 53 [])) [(t 4)],n,[0]⟩,⟨s 0,m (t 5),n,[1,1,0,1]⟩])
(q (q (r n [⟨s 6,m (t 0),n,[]⟩,⟨s 7,.lenS (t 6),n,[0]⟩,⟨s 8,b .gtr .int (t 7) (l (.int .i64 20000)),n,[1]⟩])
(i (t 8) (q (r n [⟨s 2,m (l .nilp),n,[]⟩,⟨s 3,m (l (.int .i64 13)),n,[0,0]⟩])
.ret) .skip))
(q (r n [⟨s 9,m (t 0),n,[]⟩,⟨s 10,c (l (.fn 54 [])) [(t 9)],n,[0]⟩,⟨s 11,.build [.nilp] [(0,1,(t 10))],n,[1]⟩,⟨s 12,.box (t 11),n,[2]⟩,⟨s 2,m (t 12),n,[3,1,0,1,2,3]⟩,⟨s 3,m (l (.int .i64 0)),n,[4,0,1,2,3,4]⟩])
.ret))))}
theorem c_rope_New : cFunc Tryz.prog n_rope_New = some f_rope_New := by kernel_rfl
def f_engine_Engine_Copy : SFunc := { ntmps := 15, results := [.tmp 2], body :=
(q (r n [⟨s 2,m (l .nilp),n,[]⟩])
(q (r (s [0,1,3,7,15,0,32,96,224,511,1023,2047,4095]) [⟨s 3,m (t 0),n,[]⟩,⟨s 4,z (t 3),n,[0]⟩,⟨s 5,f 0 (t 4),n,[1]⟩,⟨s 6,d n (t 5),n,[2]⟩,⟨s 7,c (l (.fn 55 [])) [(t 6)],n,[3]⟩,⟨s 8,m (t 0),n,[]⟩,⟨s 9,z (t 8),n,[5]⟩,⟨s 10,f 1 (t 9),n,[6]⟩,⟨s 11,d n (t 10),n,[7]⟩,⟨s 12,c (l (.fn 56 [])) [(t 11)],n,[8,4]⟩,⟨s 13,.build [.nils,.nilp] [(0,1,(t 7)),(1,1,(t 12))],n,[4,9]⟩,⟨s 14,.box (t 13),n,[10]⟩,⟨s 2,m (t 14),n,[11,9,0,1,2,3,4,5,6,7,8,9,10,11]⟩])
.ret))}
theorem c_engine_Engine_Copy : cFunc Tryz.prog n_engine_Engine_Copy = some f_engine_Engine_Copy := by kernel_rfl
def f_engine_Engine_Edit : SFunc := { ntmps := 87, results := [.tmp 10, .tmp 11], body :=
(q (r n [⟨s 10,m (l (.int .i64 0)),n,[]⟩,⟨s 11,m (l (.int .i64 0)),n,[0]⟩])
(q (r n [⟨s 18,m (t 0),n,[]⟩,⟨s 19,m (t 1),n,[]⟩,⟨s 20,c (l (.fn 27 [])) [(t 18),(t 19)],n,[0,1]⟩,⟨s 17,m (t 20),n,[2]⟩,⟨s 21,.ext (t 17) 0,n,[3]⟩,⟨s 22,.ext (t 17) 1,n,[3]⟩,⟨s 12,m (t 21),n,[4,2,0,1,2,3,4]⟩,⟨s 13,m (t 22),n,[5,6,0,1,2,3,4,5,6]⟩])
(q (q (r n [⟨s 23,m (t 13),n,[]⟩,⟨s 24,b .neq .int (t 23) (l (.int .i64 0)),n,[0]⟩])
(i (t 24) (q (r n [⟨s 25,m (t 13),n,[]⟩,⟨s 10,m (l (.int .i64 0)),n,[]⟩,⟨s 11,m (t 25),n,[0,1,0,1]⟩])
.ret) .skip))
(q (q (r n [⟨s 26,m (t 12),n,[]⟩,⟨s 27,m (t 4),n,[]⟩,⟨s 28,c (l (.fn 57 [])) [(t 26),(t 27)],n,[0,1]⟩,⟨s 14,m (t 28),n,[2,2,0,1,2]⟩])
(q (r n [⟨s 29,m (t 14),n,[]⟩,⟨s 30,b .neq .int (t 29) (l (.int .i64 0)),n,[0]⟩])
(i (t 30) (q (r n [⟨s 31,m (t 14),n,[]⟩,⟨s 10,m (l (.int .i64 0)),n,[]⟩,⟨s 11,m (t 31),n,[0,1,0,1]⟩])
.ret) .skip)))
(q (r n [⟨s 32,m (t 0),n,[]⟩,⟨s 33,c (l (.fn 29 [])) [(t 32)],n,[0]⟩,⟨s 15,m (t 33),n,[1,1,0,1]⟩])
(q (r n [⟨s 35,m (t 15),n,[]⟩,⟨s 36,z (t 35),n,[0]⟩,⟨s 37,f 1 (t 36),n,[1]⟩,⟨s 38,d n (t 37),n,[2]⟩,⟨s 39,m (t 2),n,[]⟩,⟨s 40,c (l (.fn 58 [])) [(t 38),(t 39)],n,[3,4]⟩,⟨s 34,m (t 40),n,[5]⟩,⟨s 41,.ext (t 34) 0,n,[6]⟩,⟨s 42,.ext (t 34) 1,n,[6]⟩,⟨s 16,m (t 41),n,[7,5,0,1,2,3,4,5,6,7]⟩,⟨s 13,m (t 42),n,[8,9,0,1,2,3,4,5,6,7,8,9]⟩])
(q (o 0 (q (r n [⟨s 44,m (t 13),n,[]⟩,⟨s 45,b .neq .int (t 44) (l (.int .i64 0)),n,[0]⟩,⟨s 43,m (t 45),n,[1]⟩])
(i (t 43) (q (r n [⟨s 46,m (t 13),n,[]⟩,⟨s 10,m (l (.int .i64 0)),n,[]⟩,⟨s 11,m (t 46),n,[0,1,0,1]⟩])
.ret) (q (r n [⟨s 48,m (t 3),n,[]⟩,⟨s 49,b .lss .int (t 48) (l (.int .i64 0)),n,[0]⟩,⟨s 50,m (t 49),n,[1]⟩,⟨s 51,m (t 3),s (50,false),[2]⟩,⟨s 52,b .gtr .int (t 51) (l (.int .i64 1000000)),s (50,false),[3,2]⟩,⟨s 53,k (t 50) (l (.bool true)) (t 52),n,[2,4]⟩,⟨s 47,m (t 53),n,[5,2]⟩])
(i (t 47) (q (r n [⟨s 10,m (l (.int .i64 0)),n,[]⟩,⟨s 11,m (l (.int .i64 10)),n,[0,0]⟩])
.ret) .skip)))))
(q (r (s [0,0,2,6,14,0,0,0,192,0,0,0,0,8190,16383,32767,65535]) [⟨s 54,m (t 15),n,[]⟩,⟨s 55,m (t 0),n,[]⟩,⟨s 56,z (t 55),n,[1]⟩,⟨s 57,f 0 (t 56),n,[2]⟩,⟨s 58,d n (t 57),n,[3]⟩,⟨s 59,m (t 1),n,[]⟩,⟨s 60,m (t 0),n,[]⟩,⟨s 61,m (t 1),n,[]⟩,⟨s 62,c (l (.fn 52 [])) [(t 60),(t 61)],n,[6,7]⟩,⟨s 63,m (t 4),n,[]⟩,⟨s 64,m (t 16),n,[]⟩,⟨s 65,m (t 2),n,[]⟩,⟨s 66,m (t 3),n,[]⟩,⟨s 67,c (l (.fn 59 [])) [(t 58),(t 59),(t 62),(t 63),(t 64),(t 65),(t 66)],n,[4,5,8,9,10,11,12,8]⟩,⟨s 68,z (t 54),n,[0,0,1,2,3,4,5,6,7,8,9,10,11,12,13]⟩,⟨s 69,f 0 (t 68),n,[14,0,1,2,3,4,5,6,7,8,9,10,11,12,13]⟩,⟨n,e 1 (t 69) (t 67),n,[15,13,13,0,1,2,3,4,5,6,7,8,9,10,11,12,13]⟩])
(q (o 1 (q (r n [⟨s 71,m (t 15),n,[]⟩,⟨s 72,z (t 71),n,[0]⟩,⟨s 73,f 0 (t 72),n,[1]⟩,⟨s 74,d n (t 73),n,[2]⟩,⟨s 75,g (t 74),n,[3]⟩,⟨s 76,b .gtr .int (t 75) (l (.int .i64 4000)),n,[4]⟩,⟨s 70,m (t 76),n,[5]⟩])
(i (t 70) (q (r n [⟨s 10,m (l (.int .i64 0)),n,[]⟩,⟨s 11,m (l (.int .i64 70)),n,[0,0]⟩])
.ret) (q (r n [⟨s 78,m (t 15),n,[]⟩,⟨s 79,c (l (.fn 60 [])) [(t 78)],n,[0]⟩,⟨s 80,.not (t 79),n,[1]⟩,⟨s 77,m (t 80),n,[2,1]⟩])
(i (t 77) (q (r n [⟨s 10,m (l (.int .i64 0)),n,[]⟩,⟨s 11,m (l (.int .i64 13)),n,[0,0]⟩])
.ret) .skip)))))
(q (r n [⟨s 81,m (t 0),n,[]⟩,⟨s 82,m (t 15),n,[]⟩,⟨s 83,z (t 82),n,[1]⟩,⟨s 84,d (s 2) (t 83),n,[2]⟩,⟨s 85,z (t 81),n,[0,0,1,2,3]⟩,⟨n,e 2 (t 85) (t 84),n,[4,3,0,1,2,3]⟩])
(q (r n [⟨s 86,m (t 16),n,[]⟩,⟨s 10,m (t 86),n,[0,0]⟩,⟨s 11,m (l (.int .i64 0)),n,[1,0,1]⟩])
.ret)))))))))))}
theorem c_engine_Engine_Edit : cFunc Tryz.prog n_engine_Engine_Edit = some f_engine_Engine_Edit := by kernel_rfl
def f_engine_Engine_Toggle : SFunc := { ntmps := 34, results := [.tmp 4, .tmp 5], body :=
(q (r n [⟨s 4,m (l (.int .i64 0)),n,[]⟩,⟨s 5,m (l (.int .i64 0)),n,[0]⟩])
(q (r n [⟨s 9,m (t 0),n,[]⟩,⟨s 10,c (l (.fn 29 [])) [(t 9)],n,[0]⟩,⟨s 6,m (t 10),n,[1,1,0,1]⟩])
(q (r n [⟨s 12,m (t 6),n,[]⟩,⟨s 13,z (t 12),n,[0]⟩,⟨s 14,f 1 (t 13),n,[1]⟩,⟨s 15,d n (t 14),n,[2]⟩,⟨s 16,m (t 1),n,[]⟩,⟨s 17,c (l (.fn 61 [])) [(t 15),(t 16)],n,[3,4]⟩,⟨s 11,m (t 17),n,[5]⟩,⟨s 18,.ext (t 11) 0,n,[6]⟩,⟨s 19,.ext (t 11) 1,n,[6]⟩,⟨s 7,m (t 18),n,[7,5,0,1,2,3,4,5,6,7]⟩,⟨s 8,m (t 19),n,[8,9,0,1,2,3,4,5,6,7,8,9]⟩])
(q (o 0 (q (r n [⟨s 21,m (t 8),n,[]⟩,⟨s 22,b .neq .int (t 21) (l (.int .i64 0)),n,[0]⟩,⟨s 20,m (t 22),n,[1]⟩])
(i (t 20) (q (r n [⟨s 23,m (t 8),n,[]⟩,⟨s 4,m (l (.int .i64 0)),n,[]⟩,⟨s 5,m (t 23),n,[0,1,0,1]⟩])
.ret) (q (r n [⟨s 25,m (t 6),n,[]⟩,⟨s 26,c (l (.fn 60 [])) [(t 25)],n,[0]⟩,⟨s 27,.not (t 26),n,[1]⟩,⟨s 24,m (t 27),n,[2,1]⟩])
(i (t 24) (q (r n [⟨s 4,m (l (.int .i64 0)),n,[]⟩,⟨s 5,m (l (.int .i64 13)),n,[0,0]⟩])
.ret) .skip)))))
(q (r n [⟨s 28,m (t 0),n,[]⟩,⟨s 29,m (t 6),n,[]⟩,⟨s 30,z (t 29),n,[1]⟩,⟨s 31,d (s 2) (t 30),n,[2]⟩,⟨s 32,z (t 28),n,[0,0,1,2,3]⟩,⟨n,e 2 (t 32) (t 31),n,[4,3,0,1,2,3]⟩])
(q (r n [⟨s 33,m (t 7),n,[]⟩,⟨s 4,m (t 33),n,[0,0]⟩,⟨s 5,m (l (.int .i64 0)),n,[1,0,1]⟩])
.ret))))))}
theorem c_engine_Engine_Toggle : cFunc Tryz.prog n_engine_Engine_Toggle = some f_engine_Engine_Toggle := by kernel_rfl
def f_carets_Type : SFunc := { ntmps := 28, results := [.tmp 4], body :=
(q (r n [⟨s 4,m (l .nils),n,[]⟩])
(q (r n [⟨s 5,m (l .nils),n,[]⟩])
(q (q (r n [⟨s 9,m (t 0),n,[]⟩,⟨s 10,g (t 9),n,[0]⟩,⟨s 11,m (l (.int .i64 0)),n,[]⟩])
(o 0 (.loop (q (r n [⟨s 12,b .lss .int (t 11) (t 10),n,[]⟩])
(q (i (t 12) .skip (.exit 0))
(q (o 1 (q (r n [⟨s 13,x 2 (t 9) (t 11),n,[]⟩,⟨s 14,d (s 2) (t 13),n,[0]⟩,⟨s 7,.alloc [(.int .i64 0),(.int .i64 0)],n,[]⟩,⟨n,e 2 (t 7) (t 14),n,[2,1,0,1,2]⟩])
(q (r n [⟨s 15,d (s 2) (t 7),n,[]⟩,⟨s 16,c (l (.fn 62 [])) [(t 15)],n,[0]⟩,⟨s 8,.alloc [(.int .i64 0),(.int .i64 0)],n,[]⟩,⟨n,e 2 (t 8) (t 16),n,[2,1,1,0,1,2]⟩])
(r n [⟨s 17,m (t 5),n,[]⟩,⟨s 18,f 0 (t 8),n,[]⟩,⟨s 19,d n (t 18),n,[1]⟩,⟨s 20,f 1 (t 8),n,[]⟩,⟨s 21,d n (t 20),n,[3]⟩,⟨s 22,m (t 1),n,[]⟩,⟨s 23,.build [(.int .i64 0),(.int .i64 0),(.str [])] [(0,1,(t 19)),(1,1,(t 21)),(2,1,(t 22))],n,[2,4,5]⟩,⟨s 24,.bslc 3 [(.int .i64 0),(.int .i64 0),(.str [])] 1 [(0,3,(t 23))],n,[6]⟩,⟨s 25,.app 124 3 32 (t 17) (t 24),n,[0,7]⟩,⟨s 5,m (t 25),n,[8,8,0,1,2,3,4,5,6,7,8]⟩]))))
(r n [⟨s 26,b .add .int (t 11) (l (.int .i64 1)),n,[]⟩,⟨s 11,m (t 26),n,[0]⟩])))))))
(q (r n [⟨s 27,m (t 5),n,[]⟩,⟨s 4,m (t 27),n,[0,0]⟩])
.ret))))}
theorem c_carets_Type : cFunc Tryz.prog n_carets_Type = some f_carets_Type := by kernel_rfl
def f_diff_Between : SFunc := { ntmps := 35, results := [.cell 6 (some 2), .tmp 7], body :=
(q (r n [⟨s 6,.alloc [(.int .i64 0),.nils],n,[]⟩,⟨s 7,m (l (.int .i64 0)),n,[]⟩])
(q (r n [⟨s 14,m (t 0),n,[]⟩,⟨s 15,m (t 1),n,[]⟩,⟨s 16,c (l (.fn 27 [])) [(t 14),(t 15)],n,[0,1]⟩,⟨s 13,m (t 16),n,[2]⟩,⟨s 17,.ext (t 13) 0,n,[3]⟩,⟨s 18,.ext (t 13) 1,n,[3]⟩,⟨s 8,m (t 17),n,[4,2,0,1,2,3,4]⟩,⟨s 9,m (t 18),n,[5,6,0,1,2,3,4,5,6]⟩])
(q (r n [⟨s 19,m (t 8),n,[]⟩,⟨s 20,.lenS (t 19),n,[0]⟩,⟨s 21,c (l (.fn 65 [])) [(t 20)],n,[1]⟩,⟨s 10,.alloc [.nilp],n,[]⟩,⟨n,e 1 (t 10) (t 21),n,[3,2,2,0,1,2,3]⟩])
(q (r n [⟨s 11,.alloc [(.int .i64 0)],n,[]⟩,⟨n,e 1 (t 11) (l (.int .i64 0)),n,[0,0]⟩])
(q (r n [⟨s 22,m (t 0),n,[]⟩,⟨s 23,m (t 1),n,[]⟩,⟨s 24,m (t 2),n,[]⟩,⟨s 25,.mkfn 67 [(t 10),(t 11)],n,[]⟩,⟨s 26,c (l (.fn 66 [])) [(t 22),(t 23),(t 24),(t 25)],n,[0,1,2,3]⟩,⟨s 12,m (t 26),n,[4,4,0,1,2,3,4]⟩])
(q (q (r n [⟨s 27,m (t 12),n,[]⟩,⟨s 28,b .neq .int (t 27) (l (.int .i64 0)),n,[0]⟩])
(i (t 28) (q (r n [⟨s 29,.build [(.int .i64 0),.nils] [],n,[]⟩,⟨s 30,m (t 12),n,[]⟩,⟨n,e 2 (t 6) (t 29),n,[0,0]⟩,⟨s 7,m (t 30),n,[1,2,0,1,2]⟩])
.ret) .skip))
(q (r n [⟨s 31,d n (t 10),n,[]⟩,⟨s 32,c (l (.fn 70 [])) [(t 31)],n,[0]⟩,⟨s 33,.ext (t 32) 0,n,[1]⟩,⟨s 34,.ext (t 32) 1,n,[1]⟩,⟨n,e 2 (t 6) (t 33),n,[2,1,0,1,2,3]⟩,⟨s 7,m (t 34),n,[3,4,0,1,2,3,4]⟩])
.ret)))))))}
theorem c_diff_Between : cFunc Tryz.prog n_diff_Between = some f_diff_Between := by kernel_rfl
def f_region_Move : SFunc := { ntmps := 50, results := [.tmp 4, .tmp 5], body :=
(q (r n [⟨s 3,.box (t 1),n,[]⟩,⟨s 4,m (l .nils),n,[]⟩,⟨s 5,m (l (.int .i64 0)),n,[1]⟩])
(q (q (r n [⟨s 10,d (s 2) (t 3),n,[]⟩,⟨s 11,c (l (.fn 71 [])) [(t 10)],n,[0]⟩,⟨s 12,.not (t 11),n,[1]⟩,⟨s 13,m (t 12),n,[2,1]⟩,⟨s 14,m (t 0),s (13,false),[3]⟩,⟨s 15,g (t 14),s (13,false),[4,3]⟩,⟨s 16,b .eql .int (t 15) (l (.int .i64 0)),s (13,false),[5,3]⟩,⟨s 17,k (t 13) (l (.bool true)) (t 16),n,[3,6]⟩,⟨s 18,m (t 17),n,[7,3]⟩,⟨s 19,m (t 0),s (18,false),[8]⟩,⟨s 20,.mkfn 73 [(t 3)],s (18,false),[8]⟩,⟨s 21,c (l (.fn 72 [])) [(t 19),(t 20)],s (18,false),[9,10,8,8]⟩,⟨s 22,.not (t 21),s (18,false),[11,8]⟩,⟨s 23,k (t 18) (l (.bool true)) (t 22),n,[8,12]⟩])
(i (t 23) (q (r n [⟨s 4,m (l .nils),n,[]⟩,⟨s 5,m (l (.int .i64 12)),n,[0,0]⟩])
.ret) .skip))
(q (q (r n [⟨s 24,m (t 0),n,[]⟩,⟨s 25,c (l (.fn 75 [])) [(t 24)],n,[0]⟩,⟨s 6,m (t 25),n,[1,1,0,1]⟩])
(q (r n [⟨s 26,m (t 6),n,[]⟩,⟨s 27,b .neq .int (t 26) (l (.int .i64 0)),n,[0]⟩])
(i (t 27) (q (r n [⟨s 28,m (t 6),n,[]⟩,⟨s 4,m (l .nils),n,[]⟩,⟨s 5,m (t 28),n,[0,1,0,1]⟩])
.ret) .skip)))
(q (r n [⟨s 7,m (l .nils),n,[]⟩])
(q (q (r n [⟨s 29,m (t 0),n,[]⟩,⟨s 30,g (t 29),n,[0]⟩,⟨s 31,m (l (.int .i64 0)),n,[]⟩])
(o 0 (.loop (q (r n [⟨s 32,b .lss .int (t 31) (t 30),n,[]⟩])
(q (i (t 32) .skip (.exit 0))
(q (o 1 (q (r n [⟨s 33,x 2 (t 29) (t 31),n,[]⟩,⟨s 34,d (s 2) (t 33),n,[0]⟩,⟨s 9,.alloc [(.int .i64 0),(.int .i64 0)],n,[]⟩,⟨n,e 2 (t 9) (t 34),n,[2,1,0,1,2]⟩])
(r (s [0,0,0,4,14,0,0,64,254,510,1022,2047,4095]) [⟨s 35,m (t 7),n,[]⟩,⟨s 36,d (s 2) (t 3),n,[]⟩,⟨s 37,f 0 (t 9),n,[]⟩,⟨s 38,d n (t 37),n,[2]⟩,⟨s 39,c (l (.fn 76 [])) [(t 36),(t 38),(l (.bool true))],n,[1,3]⟩,⟨s 40,d (s 2) (t 3),n,[]⟩,⟨s 41,f 1 (t 9),n,[]⟩,⟨s 42,d n (t 41),n,[6]⟩,⟨s 43,c (l (.fn 76 [])) [(t 40),(t 42),(l (.bool true))],n,[5,7,4]⟩,⟨s 44,.build [(.int .i64 0),(.int .i64 0)] [(0,1,(t 39)),(1,1,(t 43))],n,[4,8]⟩,⟨s 45,.bslc 2 [(.int .i64 0),(.int .i64 0)] 1 [(0,2,(t 44))],n,[9]⟩,⟨s 46,.app 36 2 16 (t 35) (t 45),n,[0,10,8]⟩,⟨s 7,m (t 46),n,[11,11,0,1,2,3,4,5,6,7,8,9,10,11]⟩])))
(r n [⟨s 47,b .add .int (t 31) (l (.int .i64 1)),n,[]⟩,⟨s 31,m (t 47),n,[0]⟩])))))))
(q (r n [⟨s 48,m (t 7),n,[]⟩,⟨s 49,c (l (.fn 77 [])) [(t 48)],n,[0]⟩,⟨s 4,m (t 49),n,[1,1,0,1]⟩,⟨s 5,m (l (.int .i64 0)),n,[2,0,1,2]⟩])
.ret))))))}
theorem c_region_Move : cFunc Tryz.prog n_region_Move = some f_region_Move := by kernel_rfl
def f_spans_Edit : SFunc := { ntmps := 45, results := [.tmp 4, .tmp 5], body :=
(q (r n [⟨s 3,.box (t 1),n,[]⟩,⟨s 4,m (l .nils),n,[]⟩,⟨s 5,m (l (.int .i64 0)),n,[1]⟩])
(q (q (r n [⟨s 10,d (s 2) (t 3),n,[]⟩,⟨s 11,c (l (.fn 71 [])) [(t 10)],n,[0]⟩,⟨s 12,.not (t 11),n,[1]⟩,⟨s 13,m (t 12),n,[2,1]⟩,⟨s 14,m (t 0),s (13,false),[3]⟩,⟨s 15,f 0 (t 3),s (13,false),[3]⟩,⟨s 16,d n (t 15),s (13,false),[5,3]⟩,⟨s 17,c (l (.fn 78 [])) [(t 14),(t 16)],s (13,false),[4,6,3,3]⟩,⟨s 18,.not (t 17),s (13,false),[7,3]⟩,⟨s 19,k (t 13) (l (.bool true)) (t 18),n,[3,8]⟩])
(i (t 19) (q (r n [⟨s 4,m (l .nils),n,[]⟩,⟨s 5,m (l (.int .i64 12)),n,[0,0]⟩])
.ret) .skip))
(q (r n [⟨s 6,.alloc [.nils],n,[]⟩])
(q (q (r n [⟨s 20,m (t 0),n,[]⟩,⟨s 21,g (t 20),n,[0]⟩,⟨s 22,m (l (.int .i64 0)),n,[]⟩])
(o 0 (.loop (q (r n [⟨s 23,b .lss .int (t 22) (t 21),n,[]⟩])
(q (i (t 23) .skip (.exit 0))
(q (o 1 (q (r n [⟨s 24,x 3 (t 20) (t 22),n,[]⟩,⟨s 25,d (s 3) (t 24),n,[0]⟩,⟨s 8,.alloc [(.int .i64 0),(.int .i64 0),(.int .i64 0)],n,[]⟩,⟨n,e 3 (t 8) (t 25),n,[2,1,0,1,2]⟩])
(q (r n [⟨s 26,d (s 2) (t 3),n,[]⟩,⟨s 27,f 0 (t 8),n,[]⟩,⟨s 28,d n (t 27),n,[1]⟩,⟨s 29,f 1 (t 8),n,[]⟩,⟨s 30,d n (t 29),n,[3]⟩,⟨s 31,.build [(.int .i64 0),(.int .i64 0)] [(0,1,(t 28)),(1,1,(t 30))],n,[2,4]⟩,⟨s 32,c (l (.fn 79 [])) [(t 26),(t 31)],n,[0,5]⟩,⟨s 9,.alloc [(.int .i64 0),(.int .i64 0)],n,[]⟩,⟨n,e 2 (t 9) (t 32),n,[7,6,6,0,1,2,3,4,5,6,7]⟩])
(r n [⟨s 33,f 0 (t 9),n,[]⟩,⟨s 34,d n (t 33),n,[0]⟩,⟨s 35,f 1 (t 9),n,[]⟩,⟨s 36,d n (t 35),n,[2]⟩,⟨s 37,f 2 (t 8),n,[]⟩,⟨s 38,d n (t 37),n,[4]⟩,⟨s 39,c (l (.fn 80 [])) [(t 6),(t 34),(t 36),(t 38)],n,[1,3,5]⟩]))))
(r n [⟨s 40,b .add .int (t 22) (l (.int .i64 1)),n,[]⟩,⟨s 22,m (t 40),n,[0]⟩])))))))
(q (r n [⟨s 41,d n (t 6),n,[]⟩,⟨s 42,c (l (.fn 81 [])) [(t 41)],n,[0]⟩,⟨s 43,.ext (t 42) 0,n,[1]⟩,⟨s 44,.ext (t 42) 1,n,[1]⟩,⟨s 4,m (t 43),n,[2,1,0,1,2,3]⟩,⟨s 5,m (t 44),n,[3,4,0,1,2,3,4]⟩])
.ret)))))}
theorem c_spans_Edit : cFunc Tryz.prog n_spans_Edit = some f_spans_Edit := by kernel_rfl
def f_breaks_Edit : SFunc := { ntmps := 60, results := [.tmp 4, .tmp 5], body :=
(q (r n [⟨s 3,.box (t 1),n,[]⟩,⟨s 4,m (l .nils),n,[]⟩,⟨s 5,m (l (.int .i64 0)),n,[1]⟩])
(q (q (r n [⟨s 11,d (s 2) (t 3),n,[]⟩,⟨s 12,c (l (.fn 71 [])) [(t 11)],n,[0]⟩,⟨s 13,.not (t 12),n,[1]⟩,⟨s 14,m (t 13),n,[2,1]⟩,⟨s 15,m (t 0),s (14,false),[3]⟩,⟨s 16,f 0 (t 3),s (14,false),[3]⟩,⟨s 17,d n (t 16),s (14,false),[5,3]⟩,⟨s 18,c (l (.fn 82 [])) [(t 15),(t 17)],s (14,false),[4,6,3,3]⟩,⟨s 19,.not (t 18),s (14,false),[7,3]⟩,⟨s 20,k (t 14) (l (.bool true)) (t 19),n,[3,8]⟩])
(i (t 20) (q (r n [⟨s 4,m (l .nils),n,[]⟩,⟨s 5,m (l (.int .i64 12)),n,[0,0]⟩])
.ret) .skip))
(q (r n [⟨s 6,m (l .nils),n,[]⟩])
(q (r n [⟨s 21,d (s 2) (t 3),n,[]⟩,⟨s 22,c (l (.fn 83 [])) [(t 21)],n,[0]⟩,⟨s 7,m (t 22),n,[1,1,0,1]⟩])
(q (q (r n [⟨s 23,m (t 0),n,[]⟩,⟨s 24,g (t 23),n,[0]⟩,⟨s 25,m (l (.int .i64 0)),n,[]⟩])
(o 0 (.loop (q (r n [⟨s 26,b .lss .int (t 25) (t 24),n,[]⟩])
(q (i (t 26) .skip (.exit 0))
(q (o 1 (q (r n [⟨s 27,x 1 (t 23) (t 25),n,[]⟩,⟨s 28,d n (t 27),n,[0]⟩,⟨s 9,m (t 28),n,[1,0,1]⟩])
(q (r n [⟨s 29,d (s 2) (t 3),n,[]⟩,⟨s 30,m (t 9),n,[]⟩,⟨s 31,c (l (.fn 76 [])) [(t 29),(t 30),(l (.bool false))],n,[0,1]⟩,⟨s 10,m (t 31),n,[2,2,0,1,2]⟩])
(q (r n [⟨s 32,m (t 10),n,[]⟩,⟨s 33,b .gtr .int (t 32) (l (.int .i64 0)),n,[0]⟩,⟨s 34,m (t 33),n,[1]⟩,⟨s 35,m (t 10),s (34,true),[2]⟩,⟨s 36,m (t 7),s (34,true),[2]⟩,⟨s 37,b .lss .int (t 35) (t 36),s (34,true),[3,4,2]⟩,⟨s 38,k (t 34) (t 37) (l (.bool false)),n,[2,5]⟩,⟨s 39,m (t 38),n,[6,2]⟩,⟨s 40,m (t 6),s (39,true),[7]⟩,⟨s 41,g (t 40),s (39,true),[8,7]⟩,⟨s 42,b .eql .int (t 41) (l (.int .i64 0)),s (39,true),[9,7]⟩,⟨s 43,m (t 42),s (39,true),[10,7,7]⟩,⟨s 44,m (t 6),s (43,false),[11]⟩,⟨s 45,m (t 6),s (43,false),[11]⟩,⟨s 46,g (t 45),s (43,false),[13,11]⟩,⟨s 47,b .sub .int (t 46) (l (.int .i64 1)),s (43,false),[14,11]⟩,⟨s 48,x 1 (t 44) (t 47),s (43,false),[12,15,11]⟩,⟨s 49,d n (t 48),s (43,false),[16,11]⟩,⟨s 50,m (t 10),s (43,false),[11]⟩,⟨s 51,b .neq .int (t 49) (t 50),s (43,false),[17,18,11]⟩,⟨s 52,k (t 43) (l (.bool true)) (t 51),s (39,true),[11,19,7]⟩,⟨s 53,k (t 39) (t 52) (l (.bool false)),n,[7,20]⟩])
(i (t 53) (r n [⟨s 54,m (t 6),n,[]⟩,⟨s 55,m (t 10),n,[]⟩,⟨s 56,.bslc 1 [(.int .i64 0)] 1 [(0,1,(t 55))],n,[1]⟩,⟨s 57,.app 3 1 8 (t 54) (t 56),n,[0,2]⟩,⟨s 6,m (t 57),n,[3,3,0,1,2,3]⟩]) .skip)))))
(r n [⟨s 58,b .add .int (t 25) (l (.int .i64 1)),n,[]⟩,⟨s 25,m (t 58),n,[0]⟩])))))))
(q (r n [⟨s 59,m (t 6),n,[]⟩,⟨s 4,m (t 59),n,[0,0]⟩,⟨s 5,m (l (.int .i64 0)),n,[1,0,1]⟩])
.ret))))))}
theorem c_breaks_Edit : cFunc Tryz.prog n_breaks_Edit = some f_breaks_Edit := by kernel_rfl
def f_engine_Engine_Forget : SFunc := { ntmps := 28, results := [.tmp 4], body :=
(q (r n [⟨s 4,m (l (.int .i64 0)),n,[]⟩])
(q (r n [⟨s 7,m (t 0),n,[]⟩,⟨s 8,c (l (.fn 84 [])) [(t 7)],n,[0]⟩,⟨s 5,m (t 8),n,[1,1,0,1]⟩])
(q (q (r n [⟨s 9,m (t 0),n,[]⟩,⟨s 10,z (t 9),n,[0]⟩,⟨s 11,f 1 (t 10),n,[1]⟩,⟨s 12,d n (t 11),n,[2]⟩,⟨s 13,m (t 1),n,[]⟩,⟨s 14,c (l (.fn 85 [])) [(t 12),(t 13)],n,[3,4]⟩,⟨s 6,m (t 14),n,[5,5,0,1,2,3,4,5]⟩])
(q (r n [⟨s 15,m (t 6),n,[]⟩,⟨s 16,b .neq .int (t 15) (l (.int .i64 0)),n,[0]⟩])
(i (t 16) (q (r n [⟨s 17,m (t 6),n,[]⟩,⟨s 4,m (t 17),n,[0,0]⟩])
.ret) .skip)))
(q (r n [⟨s 18,m (t 0),n,[]⟩,⟨s 19,m (t 0),n,[]⟩,⟨s 20,z (t 19),n,[1]⟩,⟨s 21,f 0 (t 20),n,[2]⟩,⟨s 22,d n (t 21),n,[3]⟩,⟨s 23,m (t 1),n,[]⟩,⟨s 24,m (t 5),n,[]⟩,⟨s 25,c (l (.fn 86 [])) [(t 22),(t 23),(t 24)],n,[4,5,6]⟩,⟨s 26,z (t 18),n,[0,0,1,2,3,4,5,6,7]⟩,⟨s 27,f 0 (t 26),n,[8,0,1,2,3,4,5,6,7]⟩,⟨n,e 1 (t 27) (t 25),n,[9,7,7,0,1,2,3,4,5,6,7]⟩])
(q (r n [⟨s 4,m (l (.int .i64 0)),n,[]⟩])
.ret)))))}
theorem c_engine_Engine_Forget : cFunc Tryz.prog n_engine_Engine_Forget = some f_engine_Engine_Forget := by kernel_rfl
def f_region_Make : SFunc := { ntmps := 26, results := [.tmp 4, .tmp 5], body :=
(q (r n [⟨s 4,m (l .nils),n,[]⟩,⟨s 5,m (l (.int .i64 0)),n,[0]⟩])
(q (q (r n [⟨s 7,m (t 0),n,[]⟩,⟨s 8,c (l (.fn 75 [])) [(t 7)],n,[0]⟩,⟨s 6,m (t 8),n,[1,1,0,1]⟩])
(q (r n [⟨s 9,m (t 6),n,[]⟩,⟨s 10,b .neq .int (t 9) (l (.int .i64 0)),n,[0]⟩])
(i (t 10) (q (r n [⟨s 11,m (t 6),n,[]⟩,⟨s 4,m (l .nils),n,[]⟩,⟨s 5,m (t 11),n,[0,1,0,1]⟩])
.ret) .skip)))
(q (o 0 (q (r n [⟨s 13,m (t 0),n,[]⟩,⟨s 14,m (t 1),n,[]⟩,⟨s 15,c (l (.fn 87 [])) [(t 14)],n,[1]⟩,⟨s 16,c (l (.fn 72 [])) [(t 13),(t 15)],n,[0,2,2]⟩,⟨s 17,.not (t 16),n,[3]⟩,⟨s 12,m (t 17),n,[4,3]⟩])
(i (t 12) (q (r n [⟨s 4,m (l .nils),n,[]⟩,⟨s 5,m (l (.int .i64 10)),n,[0,0]⟩])
.ret) (q (r n [⟨s 19,m (t 0),n,[]⟩,⟨s 20,m (t 1),n,[]⟩,⟨s 21,c (l (.fn 88 [])) [(t 20)],n,[1]⟩,⟨s 22,c (l (.fn 72 [])) [(t 19),(t 21)],n,[0,2,2]⟩,⟨s 23,.not (t 22),n,[3]⟩,⟨s 18,m (t 23),n,[4,3]⟩])
(i (t 18) (q (r n [⟨s 4,m (l .nils),n,[]⟩,⟨s 5,m (l (.int .i64 11)),n,[0,0]⟩])
.ret) .skip)))))
(q (r n [⟨s 24,m (t 0),n,[]⟩,⟨s 25,c (l (.fn 77 [])) [(t 24)],n,[0]⟩,⟨s 4,m (t 25),n,[1,1,0,1]⟩,⟨s 5,m (l (.int .i64 0)),n,[2,0,1,2]⟩])
.ret))))}
theorem c_region_Make : cFunc Tryz.prog n_region_Make = some f_region_Make := by kernel_rfl
def f_utf_IsEdge : SFunc := { ntmps := 30, results := [.tmp 4], body :=
(q (r n [⟨s 4,m (l (.bool false)),n,[]⟩])
(q (r n [⟨s 5,m (t 1),n,[]⟩,⟨s 6,b .geq .int (t 5) (l (.int .i64 0)),n,[0]⟩,⟨s 7,m (t 6),n,[1]⟩,⟨s 8,m (t 1),s (7,true),[2]⟩,⟨s 9,m (t 0),s (7,true),[2]⟩,⟨s 10,.lenS (t 9),s (7,true),[4,2]⟩,⟨s 11,b .leq .int (t 8) (t 10),s (7,true),[3,5,2]⟩,⟨s 12,k (t 7) (t 11) (l (.bool false)),n,[2,6]⟩,⟨s 13,m (t 12),n,[7,2]⟩,⟨s 14,m (t 1),s (13,true),[8]⟩,⟨s 15,m (t 0),s (13,true),[8]⟩,⟨s 16,.lenS (t 15),s (13,true),[10,8]⟩,⟨s 17,b .eql .int (t 14) (t 16),s (13,true),[9,11,8]⟩,⟨s 18,m (t 17),s (13,true),[12,8,8]⟩,⟨s 19,m (t 0),s (18,false),[13]⟩,⟨s 20,m (t 1),s (18,false),[13]⟩,⟨s 21,.idxS (t 19) (t 20),s (18,false),[14,15,13]⟩,⟨s 22,b .and .int (t 21) (l (.int .u8 192)),s (18,false),[16,13]⟩,⟨s 23,b .neq .int (t 22) (l (.int .u8 128)),s (18,false),[17,13]⟩,⟨s 24,k (t 18) (l (.bool true)) (t 23),s (13,true),[13,18,8]⟩,⟨s 25,k (t 13) (t 24) (l (.bool false)),n,[8,19]⟩,⟨s 26,m (t 25),n,[20,13]⟩,⟨s 27,m (t 0),s (26,true),[21]⟩,⟨s 28,c (l (.fn 89 [])) [(t 27)],s (26,true),[22,21,21]⟩,⟨s 29,k (t 26) (t 28) (l (.bool false)),n,[21,23]⟩,⟨s 4,m (t 29),n,[24,23,0,1,2,3,4,5,6,7,8,9,10,11,12,13,14,15,16,17,18,19,20,21,22,23,24]⟩])
.ret))}
theorem c_utf_IsEdge : cFunc Tryz.prog n_utf_IsEdge = some f_utf_IsEdge := by kernel_rfl
def f_spans_Put : SFunc := { ntmps := 88, results := [.tmp 4, .tmp 5], body :=
(q (r n [⟨s 3,.box (t 1),n,[]⟩,⟨s 4,m (l .nils),n,[]⟩,⟨s 5,m (l (.int .i64 0)),n,[1]⟩])
(q (q (r n [⟨s 9,m (t 0),n,[]⟩,⟨s 10,c (l (.fn 78 [])) [(t 9),(l (.int .i64 20000))],n,[0]⟩,⟨s 11,.not (t 10),n,[1]⟩,⟨s 12,m (t 11),n,[2,1]⟩,⟨s 13,f 2 (t 3),s (12,false),[3]⟩,⟨s 14,d n (t 13),s (12,false),[4,3]⟩,⟨s 15,c (l (.fn 90 [])) [(t 14),(l (.int .i64 0)),(l (.int .i64 100))],s (12,false),[5,3,3]⟩,⟨s 16,.not (t 15),s (12,false),[6,3]⟩,⟨s 17,k (t 12) (l (.bool true)) (t 16),n,[3,7]⟩,⟨s 18,m (t 17),n,[8,6]⟩,⟨s 19,f 0 (t 3),s (18,false),[9]⟩,⟨s 20,d n (t 19),s (18,false),[10,9]⟩,⟨s 21,b .lss .int (t 20) (l (.int .i64 0)),s (18,false),[11,9]⟩,⟨s 22,k (t 18) (l (.bool true)) (t 21),n,[9,12]⟩,⟨s 23,m (t 22),n,[13,9]⟩,⟨s 24,f 0 (t 3),s (23,false),[14]⟩,⟨s 25,d n (t 24),s (23,false),[15,14]⟩,⟨s 26,f 1 (t 3),s (23,false),[14]⟩,⟨s 27,d n (t 26),s (23,false),[17,14]⟩,⟨s 28,b .gtr .int (t 25) (t 27),s (23,false),[16,18,14]⟩,⟨s 29,k (t 23) (l (.bool true)) (t 28),n,[14,19]⟩,⟨s 30,m (t 29),n,[20,14]⟩,⟨s 31,f 1 (t 3),s (30,false),[21]⟩,⟨s 32,d n (t 31),s (30,false),[22,21]⟩,⟨s 33,b .gtr .int (t 32) (l (.int .i64 20000)),s (30,false),[23,21]⟩,⟨s 34,k (t 30) (l (.bool true)) (t 33),n,[21,24]⟩])
(i (t 34) (q (r n [⟨s 4,m (l .nils),n,[]⟩,⟨s 5,m (l (.int .i64 12)),n,[0,0]⟩])
.ret) .skip))
(q (r n [⟨s 6,.alloc [.nils],n,[]⟩])
(q (q (r n [⟨s 35,m (t 0),n,[]⟩,⟨s 36,g (t 35),n,[0]⟩,⟨s 37,m (l (.int .i64 0)),n,[]⟩])
(o 0 (.loop (q (r n [⟨s 38,b .lss .int (t 37) (t 36),n,[]⟩])
(q (i (t 38) .skip (.exit 0))
(q (o 1 (q (r n [⟨s 39,x 3 (t 35) (t 37),n,[]⟩,⟨s 40,d (s 3) (t 39),n,[0]⟩,⟨s 8,.alloc [(.int .i64 0),(.int .i64 0),(.int .i64 0)],n,[]⟩,⟨n,e 3 (t 8) (t 40),n,[2,1,0,1,2]⟩])
(q (q (r n [⟨s 41,f 0 (t 3),n,[]⟩,⟨s 42,d n (t 41),n,[0]⟩,⟨s 43,f 1 (t 3),n,[]⟩,⟨s 44,d n (t 43),n,[2]⟩,⟨s 45,b .eql .int (t 42) (t 44),n,[1,3]⟩])
(i (t 45) (q (r n [⟨s 46,f 0 (t 8),n,[]⟩,⟨s 47,d n (t 46),n,[0]⟩,⟨s 48,f 1 (t 8),n,[]⟩,⟨s 49,d n (t 48),n,[2]⟩,⟨s 50,f 2 (t 8),n,[]⟩,⟨s 51,d n (t 50),n,[4]⟩,⟨s 52,c (l (.fn 80 [])) [(t 6),(t 47),(t 49),(t 51)],n,[1,3,5]⟩])
(.exit 1)) .skip))
(q (r n [⟨s 53,f 0 (t 8),n,[]⟩,⟨s 54,d n (t 53),n,[0]⟩,⟨s 55,f 1 (t 8),n,[]⟩,⟨s 56,d n (t 55),n,[2]⟩,⟨s 57,f 0 (t 3),n,[]⟩,⟨s 58,d n (t 57),n,[4]⟩,⟨s 59,.mins (t 56) [(t 58)],n,[3,5]⟩,⟨s 60,f 2 (t 8),n,[]⟩,⟨s 61,d n (t 60),n,[7]⟩,⟨s 62,c (l (.fn 80 [])) [(t 6),(t 54),(t 59),(t 61)],n,[1,6,8]⟩])
(r n [⟨s 63,f 0 (t 8),n,[]⟩,⟨s 64,d n (t 63),n,[0]⟩,⟨s 65,f 1 (t 3),n,[]⟩,⟨s 66,d n (t 65),n,[2]⟩,⟨s 67,.maxs (t 64) [(t 66)],n,[1,3]⟩,⟨s 68,f 1 (t 8),n,[]⟩,⟨s 69,d n (t 68),n,[5]⟩,⟨s 70,f 2 (t 8),n,[]⟩,⟨s 71,d n (t 70),n,[7]⟩,⟨s 72,c (l (.fn 80 [])) [(t 6),(t 67),(t 69),(t 71)],n,[4,6,8]⟩])))))
(r n [⟨s 73,b .add .int (t 37) (l (.int .i64 1)),n,[]⟩,⟨s 37,m (t 73),n,[0]⟩])))))))
(q (q (r n [⟨s 74,f 2 (t 3),n,[]⟩,⟨s 75,d n (t 74),n,[0]⟩,⟨s 76,b .gtr .int (t 75) (l (.int .i64 0)),n,[1]⟩])
(i (t 76) (r n [⟨s 77,f 0 (t 3),n,[]⟩,⟨s 78,d n (t 77),n,[0]⟩,⟨s 79,f 1 (t 3),n,[]⟩,⟨s 80,d n (t 79),n,[2]⟩,⟨s 81,f 2 (t 3),n,[]⟩,⟨s 82,d n (t 81),n,[4]⟩,⟨s 83,c (l (.fn 80 [])) [(t 6),(t 78),(t 80),(t 82)],n,[1,3,5]⟩]) .skip))
(q (r n [⟨s 84,d n (t 6),n,[]⟩,⟨s 85,c (l (.fn 81 [])) [(t 84)],n,[0]⟩,⟨s 86,.ext (t 85) 0,n,[1]⟩,⟨s 87,.ext (t 85) 1,n,[1]⟩,⟨s 4,m (t 86),n,[2,1,0,1,2,3]⟩,⟨s 5,m (t 87),n,[3,4,0,1,2,3,4]⟩])
.ret))))))}
theorem c_spans_Put : cFunc Tryz.prog n_spans_Put = some f_spans_Put := by kernel_rfl
def f_tree_Seq_rope_piece_rope_counts_All : SFunc := { ntmps := 15, results := [.tmp 2], body :=
(q (r n [⟨s 1,.box (t 0),n,[]⟩,⟨s 2,m (l .nils),n,[]⟩])
(q (r n [⟨s 4,d (s 1) (t 1),n,[]⟩,⟨s 5,c (l (.fn 93 [])) [(t 4)],n,[0]⟩,⟨s 6,.mslc 1 16 [(.str [])] (l (.int .i64 0)) (t 5),n,[1]⟩,⟨s 3,m (t 6),n,[2,1,0,1,2]⟩])
(q (q (r n [⟨s 7,f 0 (t 1),n,[]⟩,⟨s 8,d n (t 7),n,[0]⟩,⟨s 9,b .neq .ptr (t 8) (l .nilp),n,[1]⟩])
(i (t 9) (r n [⟨s 10,f 0 (t 1),n,[]⟩,⟨s 11,d n (t 10),n,[0]⟩,⟨s 12,m (t 3),n,[]⟩,⟨s 13,c (l (.fn 94 [])) [(t 11),(t 12)],n,[1,2]⟩,⟨s 3,m (t 13),n,[3,3,0,1,2,3]⟩]) .skip))
(q (r n [⟨s 14,m (t 3),n,[]⟩,⟨s 2,m (t 14),n,[0,0]⟩])
.ret))))}
theorem c_tree_Seq_rope_piece_rope_counts_All : cFunc Tryz.prog n_tree_Seq_rope_piece_rope_counts_All = some f_tree_Seq_rope_piece_rope_counts_All := by kernel_rfl
def f_strings_Builder_WriteString : SFunc := { ntmps := 19, results := [.tmp 4, .tmp 5], body :=
(q (r n [⟨s 4,m (l (.int .i64 0)),n,[]⟩,⟨s 5,m (l (.raw .nilIface)),n,[0]⟩])
(q (r n [⟨s 6,m (t 0),n,[]⟩,⟨s 7,c (l (.fn 95 [])) [(t 6)],n,[0]⟩])
(q (r n [⟨s 8,m (t 0),n,[]⟩,⟨s 9,m (t 0),n,[]⟩,⟨s 10,z (t 9),n,[1]⟩,⟨s 11,f 1 (t 10),n,[2]⟩,⟨s 12,d n (t 11),n,[3]⟩,⟨s 13,m (t 1),n,[]⟩,⟨s 14,.app 5 1 1 (t 12) (t 13),n,[4,5]⟩,⟨s 15,z (t 8),n,[0,0,1,2,3,4,5,6]⟩,⟨s 16,f 1 (t 15),n,[7,0,1,2,3,4,5,6]⟩,⟨n,e 1 (t 16) (t 14),n,[8,6,6,0,1,2,3,4,5,6]⟩])
(q (r n [⟨s 17,m (t 1),n,[]⟩,⟨s 18,.lenS (t 17),n,[0]⟩,⟨s 4,m (t 18),n,[1,0,1]⟩,⟨s 5,m (l (.raw .nilIface)),n,[2,0,1,2]⟩])
.ret))))}
theorem c_strings_Builder_WriteString : cFunc Tryz.prog n_strings_Builder_WriteString = some f_strings_Builder_WriteString := by kernel_rfl
def f_rev_Revs_Head : SFunc := { ntmps := 14, results := [.tmp 2], body :=
(q (r n [⟨s 2,m (l (.int .i64 0)),n,[]⟩])
(q (r (s [0,1,3,7,0,16,48,112,240,511,1023,2047]) [⟨s 3,m (t 0),n,[]⟩,⟨s 4,z (t 3),n,[0]⟩,⟨s 5,f 1 (t 4),n,[1]⟩,⟨s 6,d n (t 5),n,[2]⟩,⟨s 7,m (t 0),n,[]⟩,⟨s 8,z (t 7),n,[4]⟩,⟨s 9,f 0 (t 8),n,[5]⟩,⟨s 10,d n (t 9),n,[6]⟩,⟨s 11,g (t 10),n,[7]⟩,⟨s 12,b .add .int (t 6) (t 11),n,[3,8]⟩,⟨s 13,b .sub .int (t 12) (l (.int .i64 1)),n,[9]⟩,⟨s 2,m (t 13),n,[10,0,1,2,3,4,5,6,7,8,9,10]⟩])
.ret))}
theorem c_rev_Revs_Head : cFunc Tryz.prog n_rev_Revs_Head = some f_rev_Revs_Head := by kernel_rfl
def f_count_Is : SFunc := { ntmps := 9, results := [.tmp 2], body :=
(q (r n [⟨s 2,m (l (.bool false)),n,[]⟩])
(q (r n [⟨s 3,m (t 0),n,[]⟩,⟨s 4,b .geq .int (t 3) (l (.int .i64 0)),n,[0]⟩,⟨s 5,m (t 4),n,[1]⟩,⟨s 6,m (t 0),s (5,true),[2]⟩,⟨s 7,b .leq .int (t 6) (l (.int .i64 3)),s (5,true),[3,2]⟩,⟨s 8,k (t 5) (t 7) (l (.bool false)),n,[2,4]⟩,⟨s 2,m (t 8),n,[5,2,0,1,2,3,4,5]⟩])
.ret))}
theorem c_count_Is : cFunc Tryz.prog n_count_Is = some f_count_Is := by kernel_rfl
def f_metric_To : SFunc := { ntmps := 55, results := [.tmp 6, .tmp 7], body :=
(q (r n [⟨s 6,m (l (.int .i64 0)),n,[]⟩,⟨s 7,m (l (.int .i64 0)),n,[0]⟩])
(q (o 0 (q (r n [⟨s 13,m (t 1),n,[]⟩,⟨s 14,c (l (.fn 47 [])) [(t 13)],n,[0]⟩,⟨s 15,.not (t 14),n,[1]⟩,⟨s 12,m (t 15),n,[2,1]⟩])
(i (t 12) (q (r n [⟨s 6,m (l (.int .i64 0)),n,[]⟩,⟨s 7,m (l (.int .i64 12)),n,[0,0]⟩])
.ret) (q (r n [⟨s 17,m (t 2),n,[]⟩,⟨s 18,b .lss .int (t 17) (l (.int .i64 0)),n,[0]⟩,⟨s 19,m (t 18),n,[1]⟩,⟨s 20,m (t 2),s (19,false),[2]⟩,⟨s 21,m (t 0),s (19,false),[2]⟩,⟨s 22,m (t 1),s (19,false),[2]⟩,⟨s 23,c (l (.fn 96 [])) [(t 21),(t 22)],s (19,false),[4,5,2,2]⟩,⟨s 24,b .gtr .int (t 20) (t 23),s (19,false),[3,6,2]⟩,⟨s 25,k (t 19) (l (.bool true)) (t 24),n,[2,7]⟩,⟨s 16,m (t 25),n,[8,6]⟩])
(i (t 16) (q (r n [⟨s 6,m (l (.int .i64 0)),n,[]⟩,⟨s 7,m (l (.int .i64 10)),n,[0,0]⟩])
.ret) (q (r n [⟨s 27,m (t 2),n,[]⟩,⟨s 28,b .eql .int (t 27) (l (.int .i64 0)),n,[0]⟩,⟨s 26,m (t 28),n,[1]⟩])
(i (t 26) (q (r n [⟨s 6,m (l (.int .i64 0)),n,[]⟩,⟨s 7,m (l (.int .i64 0)),n,[0,0]⟩])
.ret) .skip)))))))
(q (r n [⟨s 30,m (t 0),n,[]⟩,⟨s 31,m (t 1),n,[]⟩,⟨s 32,m (t 2),n,[]⟩,⟨s 33,c (l (.fn 97 [])) [(t 30),(t 31),(t 32)],n,[0,1,2]⟩,⟨s 29,m (t 33),n,[3]⟩,⟨s 34,.ext (t 29) 0,n,[4]⟩,⟨s 35,.ext (t 29) 1,n,[4]⟩,⟨s 9,.alloc [(.int .i64 0),(.int .i64 0),(.int .i64 0),(.int .i64 0)],n,[]⟩,⟨s 8,m (t 34),n,[5,3,0,1,2,3,4,5,7]⟩,⟨n,e 4 (t 9) (t 35),n,[7,6,8,0,1,2,3,4,5,6,7,8]⟩])
(q (r n [⟨s 37,m (t 8),n,[]⟩,⟨s 38,m (t 1),n,[]⟩,⟨s 39,m (t 2),n,[]⟩,⟨s 40,d (s 4) (t 9),n,[]⟩,⟨s 41,m (t 1),n,[]⟩,⟨s 42,c (l (.fn 99 [])) [(t 40),(t 41)],n,[3,4]⟩,⟨s 43,b .sub .int (t 39) (t 42),n,[2,5]⟩,⟨s 44,c (l (.fn 98 [])) [(t 37),(t 38),(t 43)],n,[0,1,6,5]⟩,⟨s 36,m (t 44),n,[7]⟩,⟨s 45,.ext (t 36) 0,n,[8]⟩,⟨s 46,.ext (t 36) 1,n,[8]⟩,⟨s 10,m (t 45),n,[9,7,0,1,2,3,4,5,6,7,8,9]⟩,⟨s 11,m (t 46),n,[10,11,0,1,2,3,4,5,6,7,8,9,10,11]⟩])
(q (r n [⟨s 47,f 0 (t 9),n,[]⟩,⟨s 48,d n (t 47),n,[0]⟩,⟨s 49,m (t 10),n,[]⟩,⟨s 50,b .add .int (t 48) (t 49),n,[1,2]⟩,⟨s 51,m (t 11),n,[]⟩,⟨s 52,c (l (.fn 100 [])) [(t 50),(t 51)],n,[3,4]⟩,⟨s 53,.ext (t 52) 0,n,[5]⟩,⟨s 54,.ext (t 52) 1,n,[5]⟩,⟨s 6,m (t 53),n,[6,5,0,1,2,3,4,5,6,7]⟩,⟨s 7,m (t 54),n,[7,8,0,1,2,3,4,5,6,7,8]⟩])
.ret)))))}
theorem c_metric_To : cFunc Tryz.prog n_metric_To = some f_metric_To := by kernel_rfl
def f_metric_From : SFunc := { ntmps := 53, results := [.tmp 6, .tmp 7], body :=
(q (r n [⟨s 6,m (l (.int .i64 0)),n,[]⟩,⟨s 7,m (l (.int .i64 0)),n,[0]⟩])
(q (o 0 (q (r n [⟨s 13,m (t 1),n,[]⟩,⟨s 14,c (l (.fn 47 [])) [(t 13)],n,[0]⟩,⟨s 15,.not (t 14),n,[1]⟩,⟨s 12,m (t 15),n,[2,1]⟩])
(i (t 12) (q (r n [⟨s 6,m (l (.int .i64 0)),n,[]⟩,⟨s 7,m (l (.int .i64 12)),n,[0,0]⟩])
.ret) (q (r n [⟨s 17,m (t 2),n,[]⟩,⟨s 18,b .lss .int (t 17) (l (.int .i64 0)),n,[0]⟩,⟨s 19,m (t 18),n,[1]⟩,⟨s 20,m (t 2),s (19,false),[2]⟩,⟨s 21,m (t 0),s (19,false),[2]⟩,⟨s 22,c (l (.fn 96 [])) [(t 21),(l (.int .i64 0))],s (19,false),[4,2,2]⟩,⟨s 23,b .gtr .int (t 20) (t 22),s (19,false),[3,5,2]⟩,⟨s 24,k (t 19) (l (.bool true)) (t 23),n,[2,6]⟩,⟨s 16,m (t 24),n,[7,5]⟩])
(i (t 16) (q (r n [⟨s 6,m (l (.int .i64 0)),n,[]⟩,⟨s 7,m (l (.int .i64 10)),n,[0,0]⟩])
.ret) (q (r n [⟨s 26,m (t 2),n,[]⟩,⟨s 27,b .eql .int (t 26) (l (.int .i64 0)),n,[0]⟩,⟨s 25,m (t 27),n,[1]⟩])
(i (t 25) (q (r n [⟨s 6,m (l (.int .i64 0)),n,[]⟩,⟨s 7,m (l (.int .i64 0)),n,[0,0]⟩])
.ret) .skip)))))))
(q (r n [⟨s 29,m (t 0),n,[]⟩,⟨s 30,m (t 2),n,[]⟩,⟨s 31,c (l (.fn 97 [])) [(t 29),(l (.int .i64 0)),(t 30)],n,[0,1]⟩,⟨s 28,m (t 31),n,[2]⟩,⟨s 32,.ext (t 28) 0,n,[3]⟩,⟨s 33,.ext (t 28) 1,n,[3]⟩,⟨s 9,.alloc [(.int .i64 0),(.int .i64 0),(.int .i64 0),(.int .i64 0)],n,[]⟩,⟨s 8,m (t 32),n,[4,2,0,1,2,3,4,6]⟩,⟨n,e 4 (t 9) (t 33),n,[6,5,7,0,1,2,3,4,5,6,7]⟩])
(q (r n [⟨s 35,m (t 8),n,[]⟩,⟨s 36,m (t 1),n,[]⟩,⟨s 37,m (t 2),n,[]⟩,⟨s 38,f 0 (t 9),n,[]⟩,⟨s 39,d n (t 38),n,[3]⟩,⟨s 40,b .sub .int (t 37) (t 39),n,[2,4]⟩,⟨s 41,c (l (.fn 101 [])) [(t 35),(t 36),(t 40)],n,[0,1,5]⟩,⟨s 34,m (t 41),n,[6]⟩,⟨s 42,.ext (t 34) 0,n,[7]⟩,⟨s 43,.ext (t 34) 1,n,[7]⟩,⟨s 10,m (t 42),n,[8,6,0,1,2,3,4,5,6,7,8]⟩,⟨s 11,m (t 43),n,[9,10,0,1,2,3,4,5,6,7,8,9,10]⟩])
(q (r n [⟨s 44,d (s 4) (t 9),n,[]⟩,⟨s 45,m (t 1),n,[]⟩,⟨s 46,c (l (.fn 99 [])) [(t 44),(t 45)],n,[0,1]⟩,⟨s 47,m (t 10),n,[]⟩,⟨s 48,b .add .int (t 46) (t 47),n,[2,3]⟩,⟨s 49,m (t 11),n,[]⟩,⟨s 50,c (l (.fn 100 [])) [(t 48),(t 49)],n,[4,5,2]⟩,⟨s 51,.ext (t 50) 0,n,[6]⟩,⟨s 52,.ext (t 50) 1,n,[6]⟩,⟨s 6,m (t 51),n,[7,6,0,1,2,3,4,5,6,7,8]⟩,⟨s 7,m (t 52),n,[8,9,0,1,2,3,4,5,6,7,8,9]⟩])
.ret)))))}
theorem c_metric_From : cFunc Tryz.prog n_metric_From = some f_metric_From := by kernel_rfl
def f_engine_Engine_Live : SFunc := { ntmps := 11, results := [.tmp 4], body :=
(q (r n [⟨s 4,m (l (.bool false)),n,[]⟩])
(q (r n [⟨s 5,m (t 0),n,[]⟩,⟨s 6,z (t 5),n,[0]⟩,⟨s 7,f 1 (t 6),n,[1]⟩,⟨s 8,d n (t 7),n,[2]⟩,⟨s 9,m (t 1),n,[]⟩,⟨s 10,c (l (.fn 102 [])) [(t 8),(t 9)],n,[3,4]⟩,⟨s 4,m (t 10),n,[5,5,0,1,2,3,4,5]⟩])
.ret))}
theorem c_engine_Engine_Live : cFunc Tryz.prog n_engine_Engine_Live = some f_engine_Engine_Live := by kernel_rfl
def f_atom_Text : SFunc := { ntmps := 25, results := [.tmp 6], body :=
(q (r n [⟨s 6,m (l (.str [])),n,[]⟩])
(q (r n [⟨s 7,.allocT 91 [.nilp,.nils],n,[]⟩])
(q (q (r n [⟨s 10,m (t 0),n,[]⟩,⟨s 11,g (t 10),n,[0]⟩,⟨s 12,m (l (.int .i64 0)),n,[]⟩])
(o 0 (.loop (q (r n [⟨s 13,b .lss .int (t 12) (t 11),n,[]⟩])
(q (i (t 13) .skip (.exit 0))
(q (o 1 (q (r n [⟨s 14,x 5 (t 10) (t 12),n,[]⟩,⟨s 15,d (s 5) (t 14),n,[0]⟩,⟨s 9,.alloc [(.str []),(.int .i64 0),(.int .i64 0),(.int .i64 0),.nils],n,[]⟩,⟨n,e 5 (t 9) (t 15),n,[2,1,0,1,2]⟩])
(q (r n [⟨s 16,d (s 5) (t 9),n,[]⟩,⟨s 17,m (t 1),n,[]⟩,⟨s 18,m (t 2),n,[]⟩,⟨s 19,c (l (.fn 103 [])) [(t 16),(t 17),(t 18)],n,[0,1,2]⟩])
(i (t 19) (r n [⟨s 20,f 0 (t 9),n,[]⟩,⟨s 21,d n (t 20),n,[0]⟩,⟨s 22,c (l (.fn 44 [])) [(t 7),(t 21)],n,[1]⟩]) .skip))))
(r n [⟨s 23,b .add .int (t 12) (l (.int .i64 1)),n,[]⟩,⟨s 12,m (t 23),n,[0]⟩])))))))
(q (r n [⟨s 24,c (l (.fn 45 [])) [(t 7)],n,[]⟩,⟨s 6,m (t 24),n,[0,0,0]⟩])
.ret))))}
theorem c_atom_Text : cFunc Tryz.prog n_atom_Text = some f_atom_Text := by kernel_rfl
def f_engine_Engine_UndoneAt : SFunc := { ntmps := 11, results := [.tmp 4], body :=
(q (r n [⟨s 4,m (l .nils),n,[]⟩])
(q (r n [⟨s 5,m (t 0),n,[]⟩,⟨s 6,z (t 5),n,[0]⟩,⟨s 7,f 1 (t 6),n,[1]⟩,⟨s 8,d n (t 7),n,[2]⟩,⟨s 9,m (t 1),n,[]⟩,⟨s 10,c (l (.fn 104 [])) [(t 8),(t 9)],n,[3,4]⟩,⟨s 4,m (t 10),n,[5,5,0,1,2,3,4,5]⟩])
.ret))}
theorem c_engine_Engine_UndoneAt : cFunc Tryz.prog n_engine_Engine_UndoneAt = some f_engine_Engine_UndoneAt := by kernel_rfl
def f_utf_Clean : SFunc := { ntmps := 9, results := [.tmp 2], body :=
(q (r n [⟨s 2,m (l (.str [])),n,[]⟩])
(q (q (r n [⟨s 3,m (t 0),n,[]⟩,⟨s 4,c (l (.fn 89 [])) [(t 3)],n,[0]⟩])
(i (t 4) (q (r n [⟨s 5,m (t 0),n,[]⟩,⟨s 2,m (t 5),n,[0,0]⟩])
.ret) .skip))
(q (r n [⟨s 6,m (t 0),n,[]⟩,⟨s 7,c (l (.fn 106 [])) [(t 6)],n,[0]⟩,⟨s 8,c (l (.fn 105 [])) [(t 7)],n,[1,1]⟩,⟨s 2,m (t 8),n,[2,2,0,1,2]⟩])
.ret)))}
theorem c_utf_Clean : cFunc Tryz.prog n_utf_Clean = some f_utf_Clean := by kernel_rfl
def f_rope_made : SFunc := { ntmps := 29, results := [.cell 2 (some 1)], body :=
(q (r n [⟨s 2,.alloc [.nilp],n,[]⟩])
(q (r n [⟨s 3,m (l .nils),n,[]⟩])
(q (o 0 (.loop (q (q (r n [⟨s 5,m (t 0),n,[]⟩,⟨s 6,b .neq .str (t 5) (l (.str [])),n,[0]⟩])
(i (t 6) .skip (.exit 0)))
(o 1 (q (r n [⟨s 7,m (t 0),n,[]⟩,⟨s 8,.lenS (t 7),n,[0]⟩,⟨s 4,m (t 8),n,[1,0,1]⟩])
(q (q (r n [⟨s 9,m (t 4),n,[]⟩,⟨s 10,b .gtr .int (t 9) (l (.int .i64 64)),n,[0]⟩])
(i (t 10) (q (r n [⟨s 4,m (l (.int .i64 64)),n,[]⟩])
(o 2 (.loop (q (q (r n [⟨s 11,m (t 0),n,[]⟩,⟨s 12,m (t 4),n,[]⟩,⟨s 13,.idxS (t 11) (t 12),n,[0,1]⟩,⟨s 14,b .and .int (t 13) (l (.int .u8 192)),n,[2]⟩,⟨s 15,b .eql .int (t 14) (l (.int .u8 128)),n,[3]⟩])
(i (t 15) .skip (.exit 2)))
(q (o 3 .skip)
(r n [⟨s 16,m (t 4),n,[]⟩,⟨s 17,b .sub .int (t 16) (l (.int .i64 1)),n,[0]⟩,⟨s 4,m (t 17),n,[1,0,1]⟩])))))) .skip))
(q (r n [⟨s 18,m (t 3),n,[]⟩,⟨s 19,m (t 0),n,[]⟩,⟨s 20,m (t 4),n,[]⟩,⟨s 21,.slcS (t 19) n (s (t 20)),n,[1,2]⟩,⟨s 22,.bslc 1 [(.str [])] 1 [(0,1,(t 21))],n,[3]⟩,⟨s 23,.app 99 1 16 (t 18) (t 22),n,[0,4]⟩,⟨s 3,m (t 23),n,[5,5,0,1,2,3,4,5]⟩])
(r n [⟨s 24,m (t 0),n,[]⟩,⟨s 25,m (t 4),n,[]⟩,⟨s 26,.slcS (t 24) (s (t 25)) n,n,[0,1]⟩,⟨s 0,m (t 26),n,[2,0,1,2]⟩]))))))))
(q (r n [⟨s 27,m (t 3),n,[]⟩,⟨s 28,c (l (.fn 107 [])) [(t 27)],n,[0]⟩,⟨n,e 1 (t 2) (t 28),n,[1,1,0,1]⟩])
.ret))))}
theorem c_rope_made : cFunc Tryz.prog n_rope_made = some f_rope_made := by kernel_rfl
def f_atom_Copy : SFunc := { ntmps := 28, results := [.tmp 2], body :=
(q (r n [⟨s 2,m (l .nils),n,[]⟩])
(q (r n [⟨s 5,m (t 0),n,[]⟩,⟨s 6,g (t 5),n,[0]⟩,⟨s 7,.mslc 5 64 [(.str []),(.int .i64 0),(.int .i64 0),(.int .i64 0),.nils] (t 6) (t 6),n,[1,1]⟩,⟨s 3,m (t 7),n,[2,0,1,2]⟩])
(q (r n [⟨s 8,m (t 3),n,[]⟩,⟨s 9,m (t 0),n,[]⟩,⟨s 10,.copy 5 (t 8) (t 9),n,[0,1]⟩])
(q (q (r n [⟨s 11,m (t 3),n,[]⟩,⟨s 12,g (t 11),n,[0]⟩,⟨s 13,m (l (.int .i64 0)),n,[]⟩])
(o 0 (.loop (q (r n [⟨s 14,b .lss .int (t 13) (t 12),n,[]⟩])
(q (i (t 14) .skip (.exit 0))
(q (o 1 (q (r n [⟨s 15,m (t 13),n,[]⟩,⟨s 4,m (t 15),n,[0,0]⟩])
(r n [⟨s 16,m (t 3),n,[]⟩,⟨s 17,m (t 4),n,[]⟩,⟨s 18,m (t 3),n,[]⟩,⟨s 19,m (t 4),n,[]⟩,⟨s 20,x 5 (t 18) (t 19),n,[2,3]⟩,⟨s 21,f 4 (t 20),n,[4]⟩,⟨s 22,d n (t 21),n,[5]⟩,⟨s 23,c (l (.fn 108 [])) [(t 22)],n,[6]⟩,⟨s 24,x 5 (t 16) (t 17),n,[0,1,0,1,2,3,4,5,6,7]⟩,⟨s 25,f 4 (t 24),n,[8,0,1,2,3,4,5,6,7]⟩,⟨n,e 1 (t 25) (t 23),n,[9,7,7,0,1,2,3,4,5,6,7]⟩])))
(r n [⟨s 26,b .add .int (t 13) (l (.int .i64 1)),n,[]⟩,⟨s 13,m (t 26),n,[0]⟩])))))))
(q (r n [⟨s 27,m (t 3),n,[]⟩,⟨s 2,m (t 27),n,[0,0]⟩])
.ret)))))}
theorem c_atom_Copy : cFunc Tryz.prog n_atom_Copy = some f_atom_Copy := by kernel_rfl
def f_rev_Revs_Copy : SFunc := { ntmps := 44, results := [.tmp 2], body :=
(q (r n [⟨s 2,m (l .nilp),n,[]⟩])
(q (r (s [0,1,3,7,0,16,48,112,240,0,512,1536,3584,8176,16383,32767,65535]) [⟨s 6,m (t 0),n,[]⟩,⟨s 7,z (t 6),n,[0]⟩,⟨s 8,f 1 (t 7),n,[1]⟩,⟨s 9,d n (t 8),n,[2]⟩,⟨s 10,m (t 0),n,[]⟩,⟨s 11,z (t 10),n,[4]⟩,⟨s 12,f 2 (t 11),n,[5]⟩,⟨s 13,d n (t 12),n,[6]⟩,⟨s 14,c (l (.fn 109 [])) [(t 13)],n,[7]⟩,⟨s 15,m (t 0),n,[]⟩,⟨s 16,z (t 15),n,[9]⟩,⟨s 17,f 3 (t 16),n,[10]⟩,⟨s 18,d n (t 17),n,[11]⟩,⟨s 19,c (l (.fn 109 [])) [(t 18)],n,[12,8]⟩,⟨s 20,.build [.nils,(.int .i64 0),(.raw (.map n)),(.raw (.map n))] [(1,1,(t 9)),(2,1,(t 14)),(3,1,(t 19))],n,[3,8,13]⟩,⟨s 21,.box (t 20),n,[14]⟩,⟨s 3,m (t 21),n,[15,13,0,1,2,3,4,5,6,7,8,9,10,11,12,13,14,15]⟩])
(q (q (r n [⟨s 22,m (t 0),n,[]⟩,⟨s 23,z (t 22),n,[0]⟩,⟨s 24,f 0 (t 23),n,[1]⟩,⟨s 25,d n (t 24),n,[2]⟩,⟨s 26,g (t 25),n,[3]⟩,⟨s 27,m (l (.int .i64 0)),n,[]⟩])
(o 0 (.loop (q (r n [⟨s 28,b .lss .int (t 27) (t 26),n,[]⟩])
(q (i (t 28) .skip (.exit 0))
(q (o 1 (q (r n [⟨s 29,x 1 (t 25) (t 27),n,[]⟩,⟨s 30,d n (t 29),n,[0]⟩,⟨s 5,m (t 30),n,[1,0,1]⟩])
(r (s [0,0,2,6,14,0,32,96,254,511,1023,2047]) [⟨s 31,m (t 3),n,[]⟩,⟨s 32,m (t 3),n,[]⟩,⟨s 33,z (t 32),n,[1]⟩,⟨s 34,f 0 (t 33),n,[2]⟩,⟨s 35,d n (t 34),n,[3]⟩,⟨s 36,m (t 5),n,[]⟩,⟨s 37,c (l (.fn 109 [])) [(t 36)],n,[5]⟩,⟨s 38,.bslc 1 [(.raw (.map n))] 1 [(0,1,(t 37))],n,[6]⟩,⟨s 39,.app 109 1 8 (t 35) (t 38),n,[4,7,6]⟩,⟨s 40,z (t 31),n,[0,0,1,2,3,4,5,6,7,8]⟩,⟨s 41,f 0 (t 40),n,[9,0,1,2,3,4,5,6,7,8]⟩,⟨n,e 1 (t 41) (t 39),n,[10,8,8,0,1,2,3,4,5,6,7,8]⟩])))
(r n [⟨s 42,b .add .int (t 27) (l (.int .i64 1)),n,[]⟩,⟨s 27,m (t 42),n,[0]⟩])))))))
(q (r n [⟨s 43,m (t 3),n,[]⟩,⟨s 2,m (t 43),n,[0,0]⟩])
.ret))))}
theorem c_rev_Revs_Copy : cFunc Tryz.prog n_rev_Revs_Copy = some f_rev_Revs_Copy := by kernel_rfl
def f_edit_Check : SFunc := { ntmps := 40, results := [.tmp 4], body :=
(q (r n [⟨s 2,.box (t 0),n,[]⟩,⟨s 4,m (l (.int .i64 0)),n,[]⟩])
(q (o 0 (q (r n [⟨s 9,d n (t 2),n,[]⟩,⟨s 10,c (l (.fn 89 [])) [(t 9)],n,[0]⟩,⟨s 11,.not (t 10),n,[1]⟩,⟨s 8,m (t 11),n,[2,1]⟩])
(i (t 8) (q (r n [⟨s 4,m (l (.int .i64 12)),n,[]⟩])
.ret) (q (r n [⟨s 13,m (t 1),n,[]⟩,⟨s 14,g (t 13),n,[0]⟩,⟨s 15,b .gtr .int (t 14) (l (.int .i64 8)),n,[1]⟩,⟨s 12,m (t 15),n,[2]⟩])
(i (t 12) (q (r n [⟨s 4,m (l (.int .i64 70)),n,[]⟩])
.ret) .skip)))))
(q (r n [⟨s 16,.mkfn 110 [(t 2)],n,[]⟩,⟨s 5,.alloc [(.raw .nilFunc)],n,[]⟩,⟨n,e 1 (t 5) (t 16),n,[1,0,0,1]⟩])
(q (q (r (s [0,0,3,0,0,31,0,127,0,511,0,0,4095,8191,16383,0]) [⟨s 17,m (t 1),n,[]⟩,⟨s 18,.mkfn 112 [(t 2)],n,[]⟩,⟨s 19,c (l (.fn 111 [])) [(t 17),(l (.int .i64 10)),(t 18)],n,[0,1]⟩,⟨s 20,m (t 1),n,[]⟩,⟨s 21,.mkfn 113 [(t 5)],n,[]⟩,⟨s 22,c (l (.fn 111 [])) [(t 20),(l (.int .i64 11)),(t 21)],n,[3,4,2]⟩,⟨s 23,m (t 1),n,[]⟩,⟨s 24,c (l (.fn 114 [])) [(t 23)],n,[6,5]⟩,⟨s 25,m (t 1),n,[]⟩,⟨s 26,c (l (.fn 111 [])) [(t 25),(l (.int .i64 12)),(l (.fn 115 []))],n,[8,7]⟩,⟨s 27,d n (t 2),n,[]⟩,⟨s 28,m (t 1),n,[]⟩,⟨s 29,c (l (.fn 116 [])) [(t 27),(t 28)],n,[10,11,9]⟩,⟨s 30,.bslc 1 [(.int .i64 0)] 5 [(0,1,(t 19)),(1,1,(t 22)),(2,1,(t 24)),(3,1,(t 26)),(4,1,(t 29))],n,[2,5,7,9,12]⟩,⟨s 31,g (t 30),n,[13]⟩,⟨s 32,m (l (.int .i64 0)),n,[]⟩])
(o 1 (.loop (q (r n [⟨s 33,b .lss .int (t 32) (t 31),n,[]⟩])
(q (i (t 33) .skip (.exit 1))
(q (o 2 (q (r n [⟨s 34,x 1 (t 30) (t 32),n,[]⟩,⟨s 35,d n (t 34),n,[0]⟩,⟨s 7,m (t 35),n,[1,0,1]⟩])
(q (r n [⟨s 36,m (t 7),n,[]⟩,⟨s 37,b .neq .int (t 36) (l (.int .i64 0)),n,[0]⟩])
(i (t 37) (q (r n [⟨s 38,m (t 7),n,[]⟩,⟨s 4,m (t 38),n,[0,0]⟩])
.ret) .skip))))
(r n [⟨s 39,b .add .int (t 32) (l (.int .i64 1)),n,[]⟩,⟨s 32,m (t 39),n,[0]⟩])))))))
(q (r n [⟨s 4,m (l (.int .i64 0)),n,[]⟩])
.ret)))))}
theorem c_edit_Check : cFunc Tryz.prog n_edit_Check = some f_edit_Check := by kernel_rfl
def f_rev_Revs_Add : SFunc := { ntmps := 44, results := [.tmp 4, .tmp 5], body :=
(q (r n [⟨s 4,m (l (.int .i64 0)),n,[]⟩,⟨s 5,m (l (.int .i64 0)),n,[0]⟩])
(q (q (r n [⟨s 11,m (t 0),n,[]⟩,⟨s 12,z (t 11),n,[0]⟩,⟨s 13,f 3 (t 12),n,[1]⟩,⟨s 14,d n (t 13),n,[2]⟩,⟨s 15,m (t 1),n,[]⟩,⟨s 16,.look (.agg []) true (t 14) (t 15),n,[3,4]⟩,⟨s 10,m (t 16),n,[5]⟩,⟨s 17,.ext (t 10) 0,n,[6]⟩,⟨s 18,.ext (t 10) 1,n,[6]⟩,⟨s 6,.alloc [],n,[]⟩,⟨n,e 0 (t 6) (t 17),n,[9,7,0,1,2,3,4,5,6,7,9]⟩,⟨s 7,m (t 18),n,[8,10,0,1,2,3,4,5,6,7,8,9,10]⟩])
(q (r n [⟨s 19,m (t 7),n,[]⟩,⟨s 20,m (t 19),n,[0]⟩,⟨s 21,m (t 1),s (20,false),[1]⟩,⟨s 22,b .lss .int (t 21) (l (.int .i64 0)),s (20,false),[2,1]⟩,⟨s 23,k (t 20) (l (.bool true)) (t 22),n,[1,3]⟩,⟨s 24,m (t 23),n,[4,1]⟩,⟨s 25,m (t 1),s (24,false),[5]⟩,⟨s 26,b .geq .int (t 25) (l (.int .i64 60)),s (24,false),[6,5]⟩,⟨s 27,k (t 24) (l (.bool true)) (t 26),n,[5,7]⟩])
(i (t 27) (q (r n [⟨s 4,m (l (.int .i64 0)),n,[]⟩,⟨s 5,m (l (.int .i64 210)),n,[0,0]⟩])
.ret) .skip)))
(q (q (r n [⟨s 29,m (t 0),n,[]⟩,⟨s 30,c (l (.fn 117 [])) [(t 29)],n,[0]⟩,⟨s 28,m (t 30),n,[1]⟩,⟨s 31,.ext (t 28) 0,n,[2]⟩,⟨s 32,.ext (t 28) 1,n,[2]⟩,⟨s 8,m (t 31),n,[3,1,0,1,2,3]⟩,⟨s 9,m (t 32),n,[4,5,0,1,2,3,4,5]⟩])
(q (r n [⟨s 33,m (t 9),n,[]⟩,⟨s 34,b .neq .int (t 33) (l (.int .i64 0)),n,[0]⟩])
(i (t 34) (q (r n [⟨s 35,m (t 9),n,[]⟩,⟨s 4,m (l (.int .i64 0)),n,[]⟩,⟨s 5,m (t 35),n,[0,1,0,1]⟩])
.ret) .skip)))
(q (r n [⟨s 36,m (t 0),n,[]⟩,⟨s 37,z (t 36),n,[0]⟩,⟨s 38,f 2 (t 37),n,[1]⟩,⟨s 39,d n (t 38),n,[2]⟩,⟨s 40,m (t 1),n,[]⟩,⟨s 41,.build [] [],n,[]⟩,⟨n,.mapUp (t 39) (t 40) (t 41),n,[3,4,5,0,1,2,3,4,5]⟩])
(q (r n [⟨s 42,m (t 0),n,[]⟩,⟨s 43,c (l (.fn 46 [])) [(t 42)],n,[0]⟩,⟨s 4,m (t 43),n,[1,1,0,1]⟩,⟨s 5,m (l (.int .i64 0)),n,[2,0,1,2]⟩])
.ret)))))}
theorem c_rev_Revs_Add : cFunc Tryz.prog n_rev_Revs_Add = some f_rev_Revs_Add := by kernel_rfl
def f_edit_Upon : SFunc := { ntmps := 125, results := [.tmp 14], body :=
(q (r n [⟨s 14,m (l .nils),n,[]⟩])
(q (r n [⟨s 25,m (t 0),n,[]⟩,⟨s 26,m (t 1),n,[]⟩,⟨s 27,m (t 2),n,[]⟩,⟨s 28,m (t 3),n,[]⟩,⟨s 29,m (t 6),n,[]⟩,⟨s 30,c (l (.fn 118 [])) [(t 25),(t 26),(t 27),(t 28),(t 29)],n,[0,1,2,3,4]⟩,⟨s 15,m (t 30),n,[5,5,0,1,2,3,4,5]⟩])
(q (q (r n [⟨s 31,m (t 0),n,[]⟩,⟨s 32,m (t 1),n,[]⟩,⟨s 33,m (t 2),n,[]⟩,⟨s 34,c (l (.fn 51 [])) [(t 31),(t 32),(t 33)],n,[0,1,2]⟩,⟨s 35,m (t 3),n,[]⟩,⟨s 36,c (l (.fn 57 [])) [(t 34),(t 35)],n,[3,4,3]⟩,⟨s 37,b .neq .int (t 36) (l (.int .i64 0)),n,[5]⟩])
(i (t 37) (q (r n [⟨s 38,m (t 0),n,[]⟩,⟨s 39,c (l (.fn 55 [])) [(t 38)],n,[0]⟩,⟨s 14,m (t 39),n,[1,1,0,1]⟩])
.ret) .skip))
(q (r n [⟨s 40,m (t 0),n,[]⟩,⟨s 41,g (t 40),n,[0]⟩,⟨s 42,.mslc 5 64 [(.str []),(.int .i64 0),(.int .i64 0),(.int .i64 0),.nils] (l (.int .i64 0)) (t 41),n,[1]⟩,⟨s 16,m (t 42),n,[2,0,1,2]⟩])
(q (r n [⟨s 43,m (t 0),n,[]⟩,⟨s 44,g (t 43),n,[0]⟩,⟨s 45,.mslc 1 1 [(.bool false)] (t 44) (t 44),n,[1,1]⟩,⟨s 17,m (t 45),n,[2,0,1,2]⟩])
(q (q (r n [⟨s 46,m (t 0),n,[]⟩,⟨s 47,m (t 1),n,[]⟩,⟨s 48,m (t 2),n,[]⟩,⟨s 49,m (t 3),n,[]⟩,⟨s 50,c (l (.fn 119 [])) [(t 46),(t 47),(t 48),(t 49)],n,[0,1,2,3]⟩,⟨s 51,g (t 50),n,[4]⟩,⟨s 52,m (l (.int .i64 0)),n,[]⟩])
(o 0 (.loop (q (r n [⟨s 53,b .lss .int (t 52) (t 51),n,[]⟩])
(q (i (t 53) .skip (.exit 0))
(q (o 1 (q (r n [⟨s 54,x 1 (t 50) (t 52),n,[]⟩,⟨s 55,d n (t 54),n,[0]⟩,⟨s 19,m (t 55),n,[1,0,1]⟩])
(r n [⟨s 56,m (t 17),n,[]⟩,⟨s 57,m (t 19),n,[]⟩,⟨s 58,x 1 (t 56) (t 57),n,[0,1,0,1]⟩,⟨n,e 1 (t 58) (l (.bool true)),n,[2,0,1]⟩])))
(r n [⟨s 59,b .add .int (t 52) (l (.int .i64 1)),n,[]⟩,⟨s 52,m (t 59),n,[0]⟩])))))))
(q (r n [⟨s 60,m (t 0),n,[]⟩,⟨s 61,g (t 60),n,[0]⟩,⟨s 62,.mslc 5 64 [(.str []),(.int .i64 0),(.int .i64 0),(.int .i64 0),.nils] (t 61) (t 61),n,[1,1]⟩,⟨s 20,m (t 62),n,[2,0,1,2]⟩])
(q (r n [⟨s 63,m (t 20),n,[]⟩,⟨s 64,m (t 0),n,[]⟩,⟨s 65,c (l (.fn 55 [])) [(t 64)],n,[1]⟩,⟨s 66,.copy 5 (t 63) (t 65),n,[0,2,2]⟩])
(q (q (r n [⟨s 67,m (t 20),n,[]⟩,⟨s 68,g (t 67),n,[0]⟩,⟨s 69,m (l (.int .i64 0)),n,[]⟩])
(o 2 (.loop (q (r n [⟨s 70,b .lss .int (t 69) (t 68),n,[]⟩])
(q (i (t 70) .skip (.exit 2))
(q (o 3 (q (r n [⟨s 71,m (t 69),n,[]⟩,⟨s 21,m (t 71),n,[0,0]⟩])
(q (r n [⟨s 72,m (t 17),n,[]⟩,⟨s 73,m (t 21),n,[]⟩,⟨s 74,x 1 (t 72) (t 73),n,[0,1]⟩,⟨s 75,d n (t 74),n,[2]⟩])
(i (t 75) (r n [⟨s 76,m (t 20),n,[]⟩,⟨s 77,m (t 21),n,[]⟩,⟨s 78,m (t 20),n,[]⟩,⟨s 79,m (t 21),n,[]⟩,⟨s 80,x 5 (t 78) (t 79),n,[2,3]⟩,⟨s 81,f 4 (t 80),n,[4]⟩,⟨s 82,d n (t 81),n,[5]⟩,⟨s 83,m (t 4),n,[]⟩,⟨s 84,m (t 5),n,[]⟩,⟨s 85,.build [(.int .i64 0),(.int .i64 0)] [(0,1,(t 83)),(1,1,(t 84))],n,[7,8]⟩,⟨s 86,.bslc 2 [(.int .i64 0),(.int .i64 0)] 1 [(0,2,(t 85))],n,[9]⟩,⟨s 87,.app 173 2 16 (t 82) (t 86),n,[6,10]⟩,⟨s 88,x 5 (t 76) (t 77),n,[0,1,0,1,2,3,4,5,6,7,8,9,10,11]⟩,⟨s 89,f 4 (t 88),n,[12,0,1,2,3,4,5,6,7,8,9,10,11]⟩,⟨n,e 1 (t 89) (t 87),n,[13,11,11,0,1,2,3,4,5,6,7,8,9,10,11]⟩]) .skip))))
(r n [⟨s 90,b .add .int (t 69) (l (.int .i64 1)),n,[]⟩,⟨s 69,m (t 90),n,[0]⟩])))))))
(q (r n [⟨s 22,m (l (.int .i64 0)),n,[]⟩])
(q (q (r n [⟨s 91,m (t 3),n,[]⟩,⟨s 92,g (t 91),n,[0]⟩,⟨s 93,m (l (.int .i64 0)),n,[]⟩])
(o 4 (.loop (q (r n [⟨s 94,b .lss .int (t 93) (t 92),n,[]⟩])
(q (i (t 94) .skip (.exit 4))
(q (o 5 (q (r n [⟨s 95,m (t 93),n,[]⟩,⟨s 96,x 3 (t 91) (t 93),n,[]⟩,⟨s 97,d (s 3) (t 96),n,[1]⟩,⟨s 24,.alloc [(.int .i64 0),(.int .i64 0),(.str [])],n,[]⟩,⟨s 23,m (t 95),n,[0,0,1,2,3]⟩,⟨n,e 3 (t 24) (t 97),n,[3,2,4,0,1,2,3,4]⟩])
(q (r n [⟨s 98,m (t 16),n,[]⟩,⟨s 99,m (t 20),n,[]⟩,⟨s 100,m (t 22),n,[]⟩,⟨s 101,m (t 15),n,[]⟩,⟨s 102,m (t 23),n,[]⟩,⟨s 103,x 1 (t 101) (t 102),n,[3,4]⟩,⟨s 104,d n (t 103),n,[5]⟩,⟨s 105,.slc 5 (t 99) (s (t 100)) (s (t 104)) n,n,[1,2,6]⟩,⟨s 106,.app 166 5 64 (t 98) (t 105),n,[0,7]⟩,⟨s 16,m (t 106),n,[8,8,0,1,2,3,4,5,6,7,8]⟩])
(q (r n [⟨s 107,m (t 16),n,[]⟩,⟨s 108,f 2 (t 24),n,[]⟩,⟨s 109,d n (t 108),n,[1]⟩,⟨s 110,m (t 4),n,[]⟩,⟨s 111,m (t 5),n,[]⟩,⟨s 112,m (t 6),n,[]⟩,⟨s 113,c (l (.fn 120 [])) [(l .nils),(l (.int .i64 0)),(t 109),(t 110),(t 111),(t 112)],n,[2,3,4,5]⟩,⟨s 114,.app 166 5 64 (t 107) (t 113),n,[0,6,6]⟩,⟨s 16,m (t 114),n,[7,7,0,1,2,3,4,5,6,7]⟩])
(r n [⟨s 115,m (t 15),n,[]⟩,⟨s 116,m (t 23),n,[]⟩,⟨s 117,x 1 (t 115) (t 116),n,[0,1]⟩,⟨s 118,d n (t 117),n,[2]⟩,⟨s 22,m (t 118),n,[3,0,1,2,3]⟩])))))
(r n [⟨s 119,b .add .int (t 93) (l (.int .i64 1)),n,[]⟩,⟨s 93,m (t 119),n,[0]⟩])))))))
(q (r n [⟨s 120,m (t 16),n,[]⟩,⟨s 121,m (t 20),n,[]⟩,⟨s 122,m (t 22),n,[]⟩,⟨s 123,.slc 5 (t 121) (s (t 122)) n n,n,[1,2]⟩,⟨s 124,.app 166 5 64 (t 120) (t 123),n,[0,3]⟩,⟨s 14,m (t 124),n,[4,4,0,1,2,3,4]⟩])
.ret))))))))))))}
theorem c_edit_Upon : cFunc Tryz.prog n_edit_Upon = some f_edit_Upon := by kernel_rfl
def f_engine_Engine_fits : SFunc := { ntmps := 15, results := [.tmp 2], body :=
(q (r n [⟨s 2,m (l (.bool false)),n,[]⟩])
(q (r n [⟨s 6,m (t 0),n,[]⟩,⟨s 7,m (t 0),n,[]⟩,⟨s 8,c (l (.fn 21 [])) [(t 7)],n,[1]⟩,⟨s 9,c (l (.fn 27 [])) [(t 6),(t 8)],n,[0,2,2]⟩,⟨s 5,m (t 9),n,[3]⟩,⟨s 10,.ext (t 5) 0,n,[4]⟩,⟨s 11,.ext (t 5) 1,n,[4]⟩,⟨s 3,m (t 10),n,[5,3,0,1,2,3,4,5]⟩,⟨s 4,m (t 11),n,[6,7,0,1,2,3,4,5,6,7]⟩])
(q (r n [⟨s 12,m (t 3),n,[]⟩,⟨s 13,.lenS (t 12),n,[0]⟩,⟨s 14,b .leq .int (t 13) (l (.int .i64 20000)),n,[1]⟩,⟨s 2,m (t 14),n,[2,0,1,2]⟩])
.ret)))}
theorem c_engine_Engine_fits : cFunc Tryz.prog n_engine_Engine_fits = some f_engine_Engine_fits := by kernel_rfl
def f_rev_Revs_Toggle : SFunc := { ntmps := 36, results := [.tmp 4, .tmp 5], body :=
(q (r n [⟨s 4,m (l (.int .i64 0)),n,[]⟩,⟨s 5,m (l (.int .i64 0)),n,[0]⟩])
(q (q (r n [⟨s 10,m (t 0),n,[]⟩,⟨s 11,m (t 1),n,[]⟩,⟨s 12,c (l (.fn 121 [])) [(t 10),(t 11)],n,[0,1]⟩,⟨s 13,.not (t 12),n,[2]⟩])
(i (t 13) (q (r n [⟨s 4,m (l (.int .i64 0)),n,[]⟩,⟨s 5,m (l (.int .i64 210)),n,[0,0]⟩])
.ret) .skip))
(q (r n [⟨s 15,m (t 0),n,[]⟩,⟨s 16,c (l (.fn 117 [])) [(t 15)],n,[0]⟩,⟨s 14,m (t 16),n,[1]⟩,⟨s 17,.ext (t 14) 0,n,[2]⟩,⟨s 18,.ext (t 14) 1,n,[2]⟩,⟨s 6,m (t 17),n,[3,1,0,1,2,3]⟩,⟨s 7,m (t 18),n,[4,5,0,1,2,3,4,5]⟩])
(q (q (r n [⟨s 19,m (t 7),n,[]⟩,⟨s 20,b .neq .int (t 19) (l (.int .i64 0)),n,[0]⟩])
(i (t 20) (q (r n [⟨s 21,m (t 7),n,[]⟩,⟨s 4,m (l (.int .i64 0)),n,[]⟩,⟨s 5,m (t 21),n,[0,1,0,1]⟩])
.ret) .skip))
(q (q (r n [⟨s 23,m (t 6),n,[]⟩,⟨s 24,m (t 1),n,[]⟩,⟨s 25,.look (.agg []) true (t 23) (t 24),n,[0,1]⟩,⟨s 22,m (t 25),n,[2]⟩,⟨s 26,.ext (t 22) 0,n,[3]⟩,⟨s 27,.ext (t 22) 1,n,[3]⟩,⟨s 8,.alloc [],n,[]⟩,⟨n,e 0 (t 8) (t 26),n,[6,4,0,1,2,3,4,6]⟩,⟨s 9,m (t 27),n,[5,7,0,1,2,3,4,5,6,7]⟩])
(q (r n [⟨s 28,m (t 9),n,[]⟩])
(i (t 28) (r n [⟨s 29,m (t 6),n,[]⟩,⟨s 30,m (t 1),n,[]⟩,⟨n,.del (t 29) (t 30),n,[0,1]⟩]) (r n [⟨s 31,m (t 6),n,[]⟩,⟨s 32,m (t 1),n,[]⟩,⟨s 33,.build [] [],n,[]⟩,⟨n,.mapUp (t 31) (t 32) (t 33),n,[0,1,2,0,1,2]⟩]))))
(q (r n [⟨s 34,m (t 0),n,[]⟩,⟨s 35,c (l (.fn 46 [])) [(t 34)],n,[0]⟩,⟨s 4,m (t 35),n,[1,1,0,1]⟩,⟨s 5,m (l (.int .i64 0)),n,[2,0,1,2]⟩])
.ret))))))}
theorem c_rev_Revs_Toggle : cFunc Tryz.prog n_rev_Revs_Toggle = some f_rev_Revs_Toggle := by kernel_rfl
def f_region_Span : SFunc := { ntmps := 14, results := [.cell 2 (some 2)], body :=
(q (r n [⟨s 1,.box (t 0),n,[]⟩,⟨s 2,.alloc [(.int .i64 0),(.int .i64 0)],n,[]⟩])
(q (r n [⟨s 3,f 0 (t 1),n,[]⟩,⟨s 4,d n (t 3),n,[0]⟩,⟨s 5,f 1 (t 1),n,[]⟩,⟨s 6,d n (t 5),n,[2]⟩,⟨s 7,.mins (t 4) [(t 6)],n,[1,3]⟩,⟨s 8,f 0 (t 1),n,[]⟩,⟨s 9,d n (t 8),n,[5]⟩,⟨s 10,f 1 (t 1),n,[]⟩,⟨s 11,d n (t 10),n,[7]⟩,⟨s 12,.maxs (t 9) [(t 11)],n,[6,8]⟩,⟨s 13,.build [(.int .i64 0),(.int .i64 0)] [(0,1,(t 7)),(1,1,(t 12))],n,[4,9]⟩,⟨n,e 2 (t 2) (t 13),n,[10,0,1,2,3,4,5,6,7,8,9,10]⟩])
.ret))}
theorem c_region_Span : cFunc Tryz.prog n_region_Span = some f_region_Span := by kernel_rfl
def f_delta_NewMaker : SFunc := { ntmps := 7, results := [.tmp 2], body :=
(q (r n [⟨s 2,m (l .nilp),n,[]⟩])
(q (r n [⟨s 3,m (t 0),n,[]⟩,⟨s 4,.build [(.int .i64 0),.nils] [(0,1,(t 3))],n,[0]⟩,⟨s 5,.build [(.int .i64 0),.nils] [(0,2,(t 4))],n,[1]⟩,⟨s 6,.box (t 5),n,[2]⟩,⟨s 2,m (t 6),n,[3,0,1,2,3]⟩])
.ret))}
theorem c_delta_NewMaker : cFunc Tryz.prog n_delta_NewMaker = some f_delta_NewMaker := by kernel_rfl
def f_diff_each : SFunc := { ntmps := 59, results := [.tmp 8], body :=
(q (r n [⟨s 8,m (l (.int .i64 0)),n,[]⟩])
(q (q (r n [⟨s 15,m (t 0),n,[]⟩,⟨s 16,m (t 1),n,[]⟩,⟨s 17,c (l (.fn 50 [])) [(t 15),(t 16)],n,[0,1]⟩,⟨s 18,.not (t 17),n,[2]⟩,⟨s 19,m (t 18),n,[3,2]⟩,⟨s 20,m (t 0),s (19,false),[4]⟩,⟨s 21,m (t 2),s (19,false),[4]⟩,⟨s 22,c (l (.fn 50 [])) [(t 20),(t 21)],s (19,false),[5,6,4,4]⟩,⟨s 23,.not (t 22),s (19,false),[7,4]⟩,⟨s 24,k (t 19) (l (.bool true)) (t 23),n,[4,8]⟩])
(i (t 24) (q (r n [⟨s 8,m (l (.int .i64 190)),n,[]⟩])
.ret) .skip))
(q (r n [⟨s 25,m (t 0),n,[]⟩,⟨s 26,m (t 1),n,[]⟩,⟨s 27,c (l (.fn 52 [])) [(t 25),(t 26)],n,[0,1]⟩,⟨s 28,m (t 0),n,[]⟩,⟨s 29,m (t 2),n,[]⟩,⟨s 30,c (l (.fn 52 [])) [(t 28),(t 29)],n,[3,4,2]⟩,⟨s 9,m (t 27),n,[2,5,0,1,2]⟩,⟨s 10,m (t 30),n,[5,6,0,1,2,3,4,5,6]⟩])
(q .skip
(q (q (r n [⟨s 31,m (t 0),n,[]⟩,⟨s 32,c (l (.fn 122 [])) [(t 31)],n,[0]⟩,⟨s 33,g (t 32),n,[1]⟩,⟨s 34,m (l (.int .i64 0)),n,[]⟩])
(o 0 (.loop (q (r n [⟨s 35,b .lss .int (t 34) (t 33),n,[]⟩])
(q (i (t 35) .skip (.exit 0))
(q (o 1 (q (r n [⟨s 36,x 5 (t 32) (t 34),n,[]⟩,⟨s 37,d (s 5) (t 36),n,[0]⟩,⟨s 12,.alloc [(.str []),(.int .i64 0),(.int .i64 0),(.int .i64 0),.nils],n,[]⟩,⟨n,e 5 (t 12) (t 37),n,[2,1,0,1,2]⟩])
(q (r (s [0,0,0,7,0,0,0,127,255,511]) [⟨s 38,d (s 5) (t 12),n,[]⟩,⟨s 39,m (t 1),n,[]⟩,⟨s 40,m (t 9),n,[]⟩,⟨s 41,c (l (.fn 103 [])) [(t 38),(t 39),(t 40)],n,[0,1,2]⟩,⟨s 42,d (s 5) (t 12),n,[]⟩,⟨s 43,m (t 2),n,[]⟩,⟨s 44,m (t 10),n,[]⟩,⟨s 45,c (l (.fn 103 [])) [(t 42),(t 43),(t 44)],n,[4,5,6,3]⟩,⟨s 13,m (t 41),n,[3,7,0,1,2,3]⟩,⟨s 14,m (t 45),n,[7,8,0,1,2,3,4,5,6,7,8]⟩])
(q (q (r n [⟨s 46,m (t 13),n,[]⟩,⟨s 47,.not (t 46),n,[0]⟩,⟨s 48,m (t 47),n,[1]⟩,⟨s 49,m (t 14),s (48,true),[2]⟩,⟨s 50,.not (t 49),s (48,true),[3,2]⟩,⟨s 51,k (t 48) (t 50) (l (.bool false)),n,[2,4]⟩])
(i (t 51) (.exit 1) .skip))
(r n [⟨s 52,m (t 3),n,[]⟩,⟨s 53,f 0 (t 12),n,[]⟩,⟨s 54,d n (t 53),n,[1]⟩,⟨s 55,m (t 13),n,[]⟩,⟨s 56,m (t 14),n,[]⟩,⟨s 57,c (t 52) [(t 54),(t 55),(t 56)],n,[0,2,3,4]⟩])))))
(r n [⟨s 58,b .add .int (t 34) (l (.int .i64 1)),n,[]⟩,⟨s 34,m (t 58),n,[0]⟩])))))))
(q (r n [⟨s 8,m (l (.int .i64 0)),n,[]⟩])
.ret))))))}
theorem c_diff_each : cFunc Tryz.prog n_diff_each = some f_diff_each := by kernel_rfl
def f_diff_Between_1 : SFunc := { ntmps := 30, results := [], body :=
(q (o 0 (q (r n [⟨s 9,m (t 1),n,[]⟩,⟨s 10,m (t 9),n,[0]⟩,⟨s 11,m (t 2),s (10,true),[1]⟩,⟨s 12,k (t 10) (t 11) (l (.bool false)),n,[1,2]⟩,⟨s 8,m (t 12),n,[3,1]⟩])
(i (t 8) (r n [⟨s 13,d n (t 3),n,[]⟩,⟨s 14,d n (t 4),n,[]⟩,⟨s 15,d n (t 4),n,[]⟩,⟨s 16,m (t 0),n,[]⟩,⟨s 17,.lenS (t 16),n,[3]⟩,⟨s 18,b .add .int (t 15) (t 17),n,[2,4]⟩,⟨s 19,c (l (.fn 68 [])) [(t 13),(t 14),(t 18)],n,[0,1,5]⟩]) (q (r n [⟨s 21,m (t 2),n,[]⟩,⟨s 20,m (t 21),n,[0]⟩])
(i (t 20) (r n [⟨s 22,d n (t 3),n,[]⟩,⟨s 23,m (t 0),n,[]⟩,⟨s 24,c (l (.fn 69 [])) [(t 22),(t 23)],n,[0,1]⟩]) .skip)))))
(q (r n [⟨s 25,m (t 1),n,[]⟩])
(i (t 25) (r n [⟨s 26,d n (t 4),n,[]⟩,⟨s 27,m (t 0),n,[]⟩,⟨s 28,.lenS (t 27),n,[1]⟩,⟨s 29,b .add .int (t 26) (t 28),n,[0,2]⟩,⟨n,e 1 (t 4) (t 29),n,[3,0,1,2,3]⟩]) .skip)))}
theorem c_diff_Between_1 : cFunc Tryz.prog n_diff_Between_1 = some f_diff_Between_1 := by kernel_rfl
def f_delta_Maker_Copy : SFunc := { ntmps := 66, results := [], body :=
(q (q (r n [⟨s 7,m (t 1),n,[]⟩,⟨s 8,m (t 2),n,[]⟩,⟨s 9,b .eql .int (t 7) (t 8),n,[0,1]⟩])
(i (t 9) .ret .skip))
(q (r n [⟨s 10,m (t 0),n,[]⟩,⟨s 11,z (t 10),n,[0]⟩,⟨s 12,f 0 (t 11),n,[1]⟩,⟨s 13,f 1 (t 12),n,[2]⟩,⟨s 14,d n (t 13),n,[3]⟩,⟨s 15,g (t 14),n,[4]⟩,⟨s 16,b .sub .int (t 15) (l (.int .i64 1)),n,[5]⟩,⟨s 6,m (t 16),n,[6,0,1,2,3,4,5,6]⟩])
(q (r n [⟨s 17,m (t 6),n,[]⟩,⟨s 18,b .geq .int (t 17) (l (.int .i64 0)),n,[0]⟩,⟨s 19,m (t 18),n,[1]⟩,⟨s 20,m (t 0),s (19,true),[2]⟩,⟨s 21,z (t 20),s (19,true),[3,2]⟩,⟨s 22,f 0 (t 21),s (19,true),[4,2]⟩,⟨s 23,f 1 (t 22),s (19,true),[5,2]⟩,⟨s 24,d n (t 23),s (19,true),[6,2]⟩,⟨s 25,m (t 6),s (19,true),[2]⟩,⟨s 26,x 3 (t 24) (t 25),s (19,true),[7,8,2]⟩,⟨s 27,d (s 3) (t 26),s (19,true),[9,2]⟩,⟨s 28,c (l (.fn 123 [])) [(t 27)],s (19,true),[10,2,2]⟩,⟨s 29,k (t 19) (t 28) (l (.bool false)),n,[2,11]⟩,⟨s 30,m (t 29),n,[12,11]⟩,⟨s 31,m (t 0),s (30,true),[13]⟩,⟨s 32,z (t 31),s (30,true),[14,13]⟩,⟨s 33,f 0 (t 32),s (30,true),[15,13]⟩,⟨s 34,f 1 (t 33),s (30,true),[16,13]⟩,⟨s 35,d n (t 34),s (30,true),[17,13]⟩,⟨s 36,m (t 6),s (30,true),[13]⟩,⟨s 37,x 3 (t 35) (t 36),s (30,true),[18,19,13]⟩,⟨s 38,f 1 (t 37),s (30,true),[20,13]⟩,⟨s 39,d n (t 38),s (30,true),[21,13]⟩,⟨s 40,m (t 1),s (30,true),[13]⟩,⟨s 41,b .eql .int (t 39) (t 40),s (30,true),[22,23,13]⟩,⟨s 42,k (t 30) (t 41) (l (.bool false)),n,[13,24]⟩])
(i (t 42) (r n [⟨s 43,m (t 0),n,[]⟩,⟨s 44,z (t 43),n,[0]⟩,⟨s 45,f 0 (t 44),n,[1]⟩,⟨s 46,f 1 (t 45),n,[2]⟩,⟨s 47,d n (t 46),n,[3]⟩,⟨s 48,m (t 6),n,[]⟩,⟨s 49,m (t 2),n,[]⟩,⟨s 50,x 3 (t 47) (t 48),n,[4,5,0,1,2,3,4,5,6]⟩,⟨s 51,f 1 (t 50),n,[7,0,1,2,3,4,5,6]⟩,⟨n,e 1 (t 51) (t 49),n,[8,6,0,1,2,3,4,5,6]⟩]) (r n [⟨s 52,m (t 0),n,[]⟩,⟨s 53,m (t 0),n,[]⟩,⟨s 54,z (t 53),n,[1]⟩,⟨s 55,f 0 (t 54),n,[2]⟩,⟨s 56,f 1 (t 55),n,[3]⟩,⟨s 57,d n (t 56),n,[4]⟩,⟨s 58,m (t 1),n,[]⟩,⟨s 59,m (t 2),n,[]⟩,⟨s 60,.build [(.int .i64 0),(.int .i64 0),(.str [])] [(0,1,(t 58)),(1,1,(t 59))],n,[6,7]⟩,⟨s 61,.bslc 3 [(.int .i64 0),(.int .i64 0),(.str [])] 1 [(0,3,(t 60))],n,[8]⟩,⟨s 62,.app 191 3 32 (t 57) (t 61),n,[5,9]⟩,⟨s 63,z (t 52),n,[0,0,1,2,3,4,5,6,7,8,9,10]⟩,⟨s 64,f 0 (t 63),n,[11,0,1,2,3,4,5,6,7,8,9,10]⟩,⟨s 65,f 1 (t 64),n,[12,0,1,2,3,4,5,6,7,8,9,10]⟩,⟨n,e 1 (t 65) (t 62),n,[13,10,10,0,1,2,3,4,5,6,7,8,9,10]⟩])))))}
theorem c_delta_Maker_Copy : cFunc Tryz.prog n_delta_Maker_Copy = some f_delta_Maker_Copy := by kernel_rfl
def f_delta_Maker_Put : SFunc := { ntmps := 54, results := [], body :=
(q (q (r n [⟨s 5,m (t 1),n,[]⟩,⟨s 6,b .eql .str (t 5) (l (.str [])),n,[0]⟩])
(i (t 6) .ret .skip))
(q (r n [⟨s 7,m (t 0),n,[]⟩,⟨s 8,z (t 7),n,[0]⟩,⟨s 9,f 0 (t 8),n,[1]⟩,⟨s 10,f 1 (t 9),n,[2]⟩,⟨s 11,d n (t 10),n,[3]⟩,⟨s 12,g (t 11),n,[4]⟩,⟨s 13,b .sub .int (t 12) (l (.int .i64 1)),n,[5]⟩,⟨s 4,m (t 13),n,[6,0,1,2,3,4,5,6]⟩])
(q (r n [⟨s 14,m (t 4),n,[]⟩,⟨s 15,b .geq .int (t 14) (l (.int .i64 0)),n,[0]⟩,⟨s 16,m (t 15),n,[1]⟩,⟨s 17,m (t 0),s (16,true),[2]⟩,⟨s 18,z (t 17),s (16,true),[3,2]⟩,⟨s 19,f 0 (t 18),s (16,true),[4,2]⟩,⟨s 20,f 1 (t 19),s (16,true),[5,2]⟩,⟨s 21,d n (t 20),s (16,true),[6,2]⟩,⟨s 22,m (t 4),s (16,true),[2]⟩,⟨s 23,x 3 (t 21) (t 22),s (16,true),[7,8,2]⟩,⟨s 24,d (s 3) (t 23),s (16,true),[9,2]⟩,⟨s 25,c (l (.fn 123 [])) [(t 24)],s (16,true),[10,2,2]⟩,⟨s 26,.not (t 25),s (16,true),[11,2]⟩,⟨s 27,k (t 16) (t 26) (l (.bool false)),n,[2,12]⟩])
(i (t 27) (r n [⟨s 28,m (t 0),n,[]⟩,⟨s 29,z (t 28),n,[0]⟩,⟨s 30,f 0 (t 29),n,[1]⟩,⟨s 31,f 1 (t 30),n,[2]⟩,⟨s 32,d n (t 31),n,[3]⟩,⟨s 33,m (t 4),n,[]⟩,⟨s 34,x 3 (t 32) (t 33),n,[4,5]⟩,⟨s 35,f 2 (t 34),n,[6]⟩,⟨s 36,d n (t 35),n,[7]⟩,⟨s 37,m (t 1),n,[]⟩,⟨s 38,b .add .str (t 36) (t 37),n,[8,9]⟩,⟨s 39,x 3 (t 32) (t 33),n,[4,5,0,1,2,3,4,5,6,7,8,9,10]⟩,⟨s 40,f 2 (t 39),n,[11,0,1,2,3,4,5,6,7,8,9,10]⟩,⟨n,e 1 (t 40) (t 38),n,[12,10,0,1,2,3,4,5,6,7,8,9,10]⟩]) (r n [⟨s 41,m (t 0),n,[]⟩,⟨s 42,m (t 0),n,[]⟩,⟨s 43,z (t 42),n,[1]⟩,⟨s 44,f 0 (t 43),n,[2]⟩,⟨s 45,f 1 (t 44),n,[3]⟩,⟨s 46,d n (t 45),n,[4]⟩,⟨s 47,m (t 1),n,[]⟩,⟨s 48,.build [(.int .i64 0),(.int .i64 0),(.str [])] [(2,1,(t 47))],n,[6]⟩,⟨s 49,.bslc 3 [(.int .i64 0),(.int .i64 0),(.str [])] 1 [(0,3,(t 48))],n,[7]⟩,⟨s 50,.app 191 3 32 (t 46) (t 49),n,[5,8]⟩,⟨s 51,z (t 41),n,[0,0,1,2,3,4,5,6,7,8,9]⟩,⟨s 52,f 0 (t 51),n,[10,0,1,2,3,4,5,6,7,8,9]⟩,⟨s 53,f 1 (t 52),n,[11,0,1,2,3,4,5,6,7,8,9]⟩,⟨n,e 1 (t 53) (t 50),n,[12,9,9,0,1,2,3,4,5,6,7,8,9]⟩])))))}
theorem c_delta_Maker_Put : cFunc Tryz.prog n_delta_Maker_Put = some f_delta_Maker_Put := by kernel_rfl
def f_delta_Maker_Delta : SFunc := { ntmps := 16, results := [.cell 2 (some 2), .tmp 3], body :=
(q (r n [⟨s 2,.alloc [(.int .i64 0),.nils],n,[]⟩,⟨s 3,m (l (.int .i64 0)),n,[]⟩])
(q (q (r n [⟨s 4,m (t 0),n,[]⟩,⟨s 5,z (t 4),n,[0]⟩,⟨s 6,f 0 (t 5),n,[1]⟩,⟨s 7,f 1 (t 6),n,[2]⟩,⟨s 8,d n (t 7),n,[3]⟩,⟨s 9,g (t 8),n,[4]⟩,⟨s 10,b .gtr .int (t 9) (l (.int .i64 60)),n,[5]⟩])
(i (t 10) (q (r n [⟨s 11,.build [(.int .i64 0),.nils] [],n,[]⟩,⟨n,e 2 (t 2) (t 11),n,[0,0]⟩,⟨s 3,m (l (.int .i64 70)),n,[1,0,1]⟩])
.ret) .skip))
(q (r n [⟨s 12,m (t 0),n,[]⟩,⟨s 13,z (t 12),n,[0]⟩,⟨s 14,f 0 (t 13),n,[1]⟩,⟨s 15,d (s 2) (t 14),n,[2]⟩,⟨n,e 2 (t 2) (t 15),n,[3,0,1,2,3]⟩,⟨s 3,m (l (.int .i64 0)),n,[4,0,1,2,3,4]⟩])
.ret)))}
theorem c_delta_Maker_Delta : cFunc Tryz.prog n_delta_Maker_Delta = some f_delta_Maker_Delta := by kernel_rfl
def f_delta_Is : SFunc := { ntmps := 68, results := [.tmp 2], body :=
(q (r n [⟨s 1,.box (t 0),n,[]⟩,⟨s 2,m (l (.bool false)),n,[]⟩])
(q (q (r n [⟨s 8,f 0 (t 1),n,[]⟩,⟨s 9,d n (t 8),n,[0]⟩,⟨s 10,b .lss .int (t 9) (l (.int .i64 0)),n,[1]⟩,⟨s 11,m (t 10),n,[2]⟩,⟨s 12,f 0 (t 1),s (11,false),[3]⟩,⟨s 13,d n (t 12),s (11,false),[4,3]⟩,⟨s 14,b .gtr .int (t 13) (l (.int .i64 20000)),s (11,false),[5,3]⟩,⟨s 15,k (t 11) (l (.bool true)) (t 14),n,[3,6]⟩,⟨s 16,m (t 15),n,[7,3]⟩,⟨s 17,f 1 (t 1),s (16,false),[8]⟩,⟨s 18,d n (t 17),s (16,false),[9,8]⟩,⟨s 19,g (t 18),s (16,false),[10,8]⟩,⟨s 20,b .gtr .int (t 19) (l (.int .i64 60)),s (16,false),[11,8]⟩,⟨s 21,k (t 16) (l (.bool true)) (t 20),n,[8,12]⟩])
(i (t 21) (q (r n [⟨s 2,m (l (.bool false)),n,[]⟩])
.ret) .skip))
(q (r n [⟨s 3,m (l (.int .i64 0)),n,[]⟩,⟨s 4,m (l (.int .i64 0)),n,[0,0]⟩])
(q (q (r n [⟨s 22,f 1 (t 1),n,[]⟩,⟨s 23,d n (t 22),n,[0]⟩,⟨s 24,g (t 23),n,[1]⟩,⟨s 25,m (l (.int .i64 0)),n,[]⟩])
(o 0 (.loop (q (r n [⟨s 26,b .lss .int (t 25) (t 24),n,[]⟩])
(q (i (t 26) .skip (.exit 0))
(q (o 1 (q (r n [⟨s 27,m (t 25),n,[]⟩,⟨s 28,x 3 (t 23) (t 25),n,[]⟩,⟨s 29,d (s 3) (t 28),n,[1]⟩,⟨s 6,.alloc [(.int .i64 0),(.int .i64 0),(.str [])],n,[]⟩,⟨s 5,m (t 27),n,[0,0,1,2,3]⟩,⟨n,e 3 (t 6) (t 29),n,[3,2,4,0,1,2,3,4]⟩])
(q (r n [⟨s 30,m (t 5),n,[]⟩,⟨s 31,b .gtr .int (t 30) (l (.int .i64 0)),n,[0]⟩,⟨s 32,m (t 31),n,[1]⟩,⟨s 33,f 1 (t 1),s (32,true),[2]⟩,⟨s 34,d n (t 33),s (32,true),[3,2]⟩,⟨s 35,m (t 5),s (32,true),[2]⟩,⟨s 36,b .sub .int (t 35) (l (.int .i64 1)),s (32,true),[5,2]⟩,⟨s 37,x 3 (t 34) (t 36),s (32,true),[4,6,2]⟩,⟨s 38,d (s 3) (t 37),s (32,true),[7,2]⟩,⟨s 39,c (l (.fn 123 [])) [(t 38)],s (32,true),[8,2,2]⟩,⟨s 40,k (t 32) (t 39) (l (.bool false)),n,[2,9]⟩,⟨s 7,m (t 40),n,[10,9,0,1,2,3,4,5,6,7,8,9,10]⟩])
(q (q (r n [⟨s 41,d (s 3) (t 6),n,[]⟩,⟨s 42,f 0 (t 1),n,[]⟩,⟨s 43,d n (t 42),n,[1]⟩,⟨s 44,m (t 4),n,[]⟩,⟨s 45,m (t 5),n,[]⟩,⟨s 46,b .gtr .int (t 45) (l (.int .i64 0)),n,[4]⟩,⟨s 47,m (t 7),n,[]⟩,⟨s 48,c (l (.fn 124 [])) [(t 41),(t 43),(t 44),(t 46),(t 47)],n,[0,2,3,5,6]⟩,⟨s 49,.not (t 48),n,[7]⟩])
(i (t 49) (q (r n [⟨s 2,m (l (.bool false)),n,[]⟩])
.ret) .skip))
(q (q (r n [⟨s 50,d (s 3) (t 6),n,[]⟩,⟨s 51,c (l (.fn 123 [])) [(t 50)],n,[0]⟩])
(i (t 51) (r n [⟨s 52,f 1 (t 6),n,[]⟩,⟨s 53,d n (t 52),n,[0]⟩,⟨s 4,m (t 53),n,[1,0,1]⟩]) .skip))
(q (r n [⟨s 54,m (t 3),n,[]⟩,⟨s 55,f 1 (t 6),n,[]⟩,⟨s 56,d n (t 55),n,[1]⟩,⟨s 57,f 0 (t 6),n,[]⟩,⟨s 58,d n (t 57),n,[3]⟩,⟨s 59,b .sub .int (t 56) (t 58),n,[2,4]⟩,⟨s 60,f 2 (t 6),n,[]⟩,⟨s 61,d n (t 60),n,[6]⟩,⟨s 62,.lenS (t 61),n,[7]⟩,⟨s 63,b .add .int (t 59) (t 62),n,[5,8]⟩,⟨s 64,b .add .int (t 54) (t 63),n,[0,9]⟩,⟨s 3,m (t 64),n,[10,0,1,2,3,4,5,6,7,8,9,10]⟩])
(q (r n [⟨s 65,m (t 3),n,[]⟩,⟨s 66,b .gtr .int (t 65) (l (.int .i64 20000)),n,[0]⟩])
(i (t 66) (q (r n [⟨s 2,m (l (.bool false)),n,[]⟩])
.ret) .skip))))))))
(r n [⟨s 67,b .add .int (t 25) (l (.int .i64 1)),n,[]⟩,⟨s 25,m (t 67),n,[0]⟩])))))))
(q (r n [⟨s 2,m (l (.bool true)),n,[]⟩])
.ret)))))}
theorem c_delta_Is : cFunc Tryz.prog n_delta_Is = some f_delta_Is := by kernel_rfl
def f_region_every_api_Region : SFunc := { ntmps := 9, results := [.tmp 4], body :=
(q (r n [⟨s 3,.box (t 1),n,[]⟩,⟨s 4,m (l (.bool false)),n,[]⟩])
(q (r n [⟨s 5,m (t 0),n,[]⟩,⟨s 6,.mkfn 126 [(t 3)],n,[]⟩,⟨s 7,c (l (.fn 125 [])) [(t 5),(t 6)],n,[0,1]⟩,⟨s 8,.not (t 7),n,[2]⟩,⟨s 4,m (t 8),n,[3,2,0,1,2,3]⟩])
.ret))}
theorem c_region_every_api_Region : cFunc Tryz.prog n_region_every_api_Region = some f_region_every_api_Region := by kernel_rfl
def f_region_Move_1 : SFunc := { ntmps := 9, results := [.tmp 3], body :=
(q (r n [⟨s 2,.box (t 0),n,[]⟩,⟨s 3,m (l (.bool false)),n,[]⟩])
(q (r (s [0,1,0,4,15,31]) [⟨s 4,d (s 2) (t 2),n,[]⟩,⟨s 5,c (l (.fn 62 [])) [(t 4)],n,[0]⟩,⟨s 6,f 0 (t 1),n,[]⟩,⟨s 7,d n (t 6),n,[2]⟩,⟨s 8,c (l (.fn 74 [])) [(t 5),(t 7)],n,[1,3,1]⟩,⟨s 3,m (t 8),n,[4,4,0,1,2,3,4]⟩])
.ret))}
theorem c_region_Move_1 : cFunc Tryz.prog n_region_Move_1 = some f_region_Move_1 := by kernel_rfl
def f_interval_Is : SFunc := { ntmps := 21, results := [.tmp 4], body :=
(q (r n [⟨s 2,.box (t 0),n,[]⟩,⟨s 4,m (l (.bool false)),n,[]⟩])
(q (r n [⟨s 5,f 0 (t 2),n,[]⟩,⟨s 6,d n (t 5),n,[0]⟩,⟨s 7,b .geq .int (t 6) (l (.int .i64 0)),n,[1]⟩,⟨s 8,m (t 7),n,[2]⟩,⟨s 9,f 0 (t 2),s (8,true),[3]⟩,⟨s 10,d n (t 9),s (8,true),[4,3]⟩,⟨s 11,f 1 (t 2),s (8,true),[3]⟩,⟨s 12,d n (t 11),s (8,true),[6,3]⟩,⟨s 13,b .leq .int (t 10) (t 12),s (8,true),[5,7,3]⟩,⟨s 14,k (t 8) (t 13) (l (.bool false)),n,[3,8]⟩,⟨s 15,m (t 14),n,[9,3]⟩,⟨s 16,f 1 (t 2),s (15,true),[10]⟩,⟨s 17,d n (t 16),s (15,true),[11,10]⟩,⟨s 18,m (t 1),s (15,true),[10]⟩,⟨s 19,b .leq .int (t 17) (t 18),s (15,true),[12,13,10]⟩,⟨s 20,k (t 15) (t 19) (l (.bool false)),n,[10,14]⟩,⟨s 4,m (t 20),n,[15,10,0,1,2,3,4,5,6,7,8,9,10,11,12,13,14,15]⟩])
.ret))}
theorem c_interval_Is : cFunc Tryz.prog n_interval_Is = some f_interval_Is := by kernel_rfl
def f_region_count : SFunc := { ntmps := 11, results := [.tmp 2], body :=
(q (r n [⟨s 2,m (l (.int .i64 0)),n,[]⟩])
(q (o 0 (q (r n [⟨s 4,m (t 0),n,[]⟩,⟨s 5,g (t 4),n,[0]⟩,⟨s 6,b .eql .int (t 5) (l (.int .i64 0)),n,[1]⟩,⟨s 3,m (t 6),n,[2]⟩])
(i (t 3) (q (r n [⟨s 2,m (l (.int .i64 12)),n,[]⟩])
.ret) (q (r n [⟨s 8,m (t 0),n,[]⟩,⟨s 9,g (t 8),n,[0]⟩,⟨s 10,b .gtr .int (t 9) (l (.int .i64 8)),n,[1]⟩,⟨s 7,m (t 10),n,[2]⟩])
(i (t 7) (q (r n [⟨s 2,m (l (.int .i64 70)),n,[]⟩])
.ret) .skip)))))
(q (r n [⟨s 2,m (l (.int .i64 0)),n,[]⟩])
.ret)))}
theorem c_region_count : cFunc Tryz.prog n_region_count = some f_region_count := by kernel_rfl
def f_offset_Move : SFunc := { ntmps := 61, results := [.tmp 6], body :=
(q (r n [⟨s 3,.box (t 0),n,[]⟩,⟨s 6,m (l (.int .i64 0)),n,[]⟩])
(q (q (r n [⟨s 11,d (s 2) (t 3),n,[]⟩,⟨s 12,c (l (.fn 71 [])) [(t 11)],n,[0]⟩,⟨s 13,.not (t 12),n,[1]⟩])
(i (t 13) (q (r n [⟨s 6,m (l (.int .i64 0)),n,[]⟩])
.ret) .skip))
(q (r n [⟨s 14,m (t 1),n,[]⟩,⟨s 15,.maxs (t 14) [(l (.int .i64 0))],n,[0]⟩,⟨s 16,f 0 (t 3),n,[]⟩,⟨s 17,d n (t 16),n,[2]⟩,⟨s 18,.mins (t 15) [(t 17)],n,[1,3]⟩,⟨s 1,m (t 18),n,[4,0,1,2,3,4]⟩])
(q (r n [⟨s 7,m (l (.int .i64 0)),n,[]⟩,⟨s 8,m (l (.int .i64 0)),n,[0,0]⟩])
(q .skip
(q (q (r n [⟨s 19,f 1 (t 3),n,[]⟩,⟨s 20,d n (t 19),n,[0]⟩,⟨s 21,g (t 20),n,[1]⟩,⟨s 22,m (l (.int .i64 0)),n,[]⟩])
(o 0 (.loop (q (r n [⟨s 23,b .lss .int (t 22) (t 21),n,[]⟩])
(q (i (t 23) .skip (.exit 0))
(q (o 1 (q (r n [⟨s 24,x 3 (t 20) (t 22),n,[]⟩,⟨s 25,d (s 3) (t 24),n,[0]⟩,⟨s 10,.alloc [(.int .i64 0),(.int .i64 0),(.str [])],n,[]⟩,⟨n,e 3 (t 10) (t 25),n,[2,1,0,1,2]⟩])
(o 2 (q (r n [⟨s 42,d (s 3) (t 10),n,[]⟩,⟨s 43,c (l (.fn 123 [])) [(t 42)],n,[0]⟩,⟨s 44,.not (t 43),n,[1]⟩,⟨s 41,m (t 44),n,[2,1]⟩])
(i (t 41) (r n [⟨s 45,m (t 8),n,[]⟩,⟨s 46,f 2 (t 10),n,[]⟩,⟨s 47,d n (t 46),n,[1]⟩,⟨s 48,.lenS (t 47),n,[2]⟩,⟨s 49,b .add .int (t 45) (t 48),n,[0,3]⟩,⟨s 8,m (t 49),n,[4,0,1,2,3,4]⟩]) (q (r n [⟨s 51,f 0 (t 10),n,[]⟩,⟨s 52,d n (t 51),n,[0]⟩,⟨s 53,m (t 1),n,[]⟩,⟨s 54,b .geq .int (t 52) (t 53),n,[1,2]⟩,⟨s 50,m (t 54),n,[3]⟩])
(i (t 50) (.exit 0) (q (r n [⟨s 26,m (t 7),n,[]⟩,⟨s 27,m (t 8),n,[]⟩,⟨s 28,f 1 (t 10),n,[]⟩,⟨s 29,d n (t 28),n,[2]⟩,⟨s 30,m (t 1),n,[]⟩,⟨s 31,.mins (t 29) [(t 30)],n,[3,4]⟩,⟨s 32,b .add .int (t 27) (t 31),n,[1,5]⟩,⟨s 33,f 0 (t 10),n,[]⟩,⟨s 34,d n (t 33),n,[7]⟩,⟨s 35,b .sub .int (t 32) (t 34),n,[6,8]⟩,⟨s 36,b .add .int (t 26) (t 35),n,[0,9]⟩,⟨s 7,m (t 36),n,[10,0,1,2,3,4,5,6,7,8,9,10]⟩])
(q (r n [⟨s 8,m (l (.int .i64 0)),n,[]⟩])
(q (r n [⟨s 37,f 1 (t 10),n,[]⟩,⟨s 38,d n (t 37),n,[0]⟩,⟨s 39,m (t 1),n,[]⟩,⟨s 40,b .gtr .int (t 38) (t 39),n,[1,2]⟩])
(i (t 40) (.exit 0) .skip)))))))))))
(r n [⟨s 55,b .add .int (t 22) (l (.int .i64 1)),n,[]⟩,⟨s 22,m (t 55),n,[0]⟩])))))))
(q (q (r n [⟨s 56,m (t 2),n,[]⟩])
(i (t 56) (r n [⟨s 57,m (t 7),n,[]⟩,⟨s 58,m (t 8),n,[]⟩,⟨s 59,b .add .int (t 57) (t 58),n,[0,1]⟩,⟨s 7,m (t 59),n,[2,0,1,2]⟩]) .skip))
(q (r n [⟨s 60,m (t 7),n,[]⟩,⟨s 6,m (t 60),n,[0,0]⟩])
.ret))))))))}
theorem c_offset_Move : cFunc Tryz.prog n_offset_Move = some f_offset_Move := by kernel_rfl
def f_region_apart : SFunc := { ntmps := 9, results := [.tmp 2], body :=
(q (r n [⟨s 2,m (l .nils),n,[]⟩])
(q (r n [⟨s 3,m (t 0),n,[]⟩,⟨s 4,c (l (.fn 127 [])) [(t 3)],n,[0]⟩,⟨s 0,m (t 4),n,[1,1,0,1]⟩])
(q (r n [⟨s 5,m (t 0),n,[]⟩,⟨s 6,c (l (.fn 128 [])) [(t 5),(l (.fn 129 []))],n,[0]⟩])
(q (r n [⟨s 7,m (t 0),n,[]⟩,⟨s 8,c (l (.fn 132 [])) [(t 7),(l (.fn 133 [])),(l (.fn 135 []))],n,[0]⟩,⟨s 2,m (t 8),n,[1,1,0,1]⟩])
.ret))))}
theorem c_region_apart : cFunc Tryz.prog n_region_apart = some f_region_apart := by kernel_rfl
def f_spans_Is : SFunc := { ntmps := 77, results := [.tmp 4], body :=
(q (r n [⟨s 4,m (l (.bool false)),n,[]⟩])
(q (r n [⟨s 7,m (t 1),n,[]⟩,⟨s 8,.mins (t 7) [(l (.int .i64 20000))],n,[0]⟩,⟨s 1,m (t 8),n,[1,0,1]⟩])
(q (q (r n [⟨s 9,m (t 0),n,[]⟩,⟨s 10,g (t 9),n,[0]⟩,⟨s 11,b .gtr .int (t 10) (l (.int .i64 60)),n,[1]⟩])
(i (t 11) (q (r n [⟨s 4,m (l (.bool false)),n,[]⟩])
.ret) .skip))
(q (q (r n [⟨s 12,m (t 0),n,[]⟩,⟨s 13,g (t 12),n,[0]⟩,⟨s 14,m (l (.int .i64 0)),n,[]⟩])
(o 0 (.loop (q (r n [⟨s 15,b .lss .int (t 14) (t 13),n,[]⟩])
(q (i (t 15) .skip (.exit 0))
(q (o 1 (q (r n [⟨s 16,m (t 14),n,[]⟩,⟨s 17,x 3 (t 12) (t 14),n,[]⟩,⟨s 18,d (s 3) (t 17),n,[1]⟩,⟨s 6,.alloc [(.int .i64 0),(.int .i64 0),(.int .i64 0)],n,[]⟩,⟨s 5,m (t 16),n,[0,0,1,2,3]⟩,⟨n,e 3 (t 6) (t 18),n,[3,2,4,0,1,2,3,4]⟩])
(q (q (r n [⟨s 19,f 2 (t 6),n,[]⟩,⟨s 20,d n (t 19),n,[0]⟩,⟨s 21,c (l (.fn 90 [])) [(t 20),(l (.int .i64 1)),(l (.int .i64 100))],n,[1]⟩,⟨s 22,.not (t 21),n,[2]⟩,⟨s 23,m (t 22),n,[3,2]⟩,⟨s 24,f 0 (t 6),s (23,false),[4]⟩,⟨s 25,d n (t 24),s (23,false),[5,4]⟩,⟨s 26,b .lss .int (t 25) (l (.int .i64 0)),s (23,false),[6,4]⟩,⟨s 27,k (t 23) (l (.bool true)) (t 26),n,[4,7]⟩,⟨s 28,m (t 27),n,[8,4]⟩,⟨s 29,f 0 (t 6),s (28,false),[9]⟩,⟨s 30,d n (t 29),s (28,false),[10,9]⟩,⟨s 31,f 1 (t 6),s (28,false),[9]⟩,⟨s 32,d n (t 31),s (28,false),[12,9]⟩,⟨s 33,b .geq .int (t 30) (t 32),s (28,false),[11,13,9]⟩,⟨s 34,k (t 28) (l (.bool true)) (t 33),n,[9,14]⟩,⟨s 35,m (t 34),n,[15,9]⟩,⟨s 36,f 1 (t 6),s (35,false),[16]⟩,⟨s 37,d n (t 36),s (35,false),[17,16]⟩,⟨s 38,m (t 1),s (35,false),[16]⟩,⟨s 39,b .gtr .int (t 37) (t 38),s (35,false),[18,19,16]⟩,⟨s 40,k (t 35) (l (.bool true)) (t 39),n,[16,20]⟩])
(i (t 40) (q (r n [⟨s 4,m (l (.bool false)),n,[]⟩])
.ret) .skip))
(q (r (s [0,1,3,7,15,7,7,71,231,487,999,2047,4095,8191,16383,8191,8191,73727,237567,499711,1023999,2097151,4194303,8388607,16777215,8388607,8388607,75497471,243269631,511705087,1048575999,2147483647,4294967295,8589934591,17179869183]) [⟨s 41,m (t 5),n,[]⟩,⟨s 42,b .gtr .int (t 41) (l (.int .i64 0)),n,[0]⟩,⟨s 43,m (t 42),n,[1]⟩,⟨s 44,f 0 (t 6),s (43,true),[2]⟩,⟨s 45,d n (t 44),s (43,true),[3,2]⟩,⟨s 46,m (t 0),s (43,true),[2]⟩,⟨s 47,m (t 5),s (43,true),[2]⟩,⟨s 48,b .sub .int (t 47) (l (.int .i64 1)),s (43,true),[6,2]⟩,⟨s 49,x 3 (t 46) (t 48),s (43,true),[5,7,2]⟩,⟨s 50,f 1 (t 49),s (43,true),[8,2]⟩,⟨s 51,d n (t 50),s (43,true),[9,2]⟩,⟨s 52,b .lss .int (t 45) (t 51),s (43,true),[4,10,2]⟩,⟨s 53,m (t 52),s (43,true),[11,2,2]⟩,⟨s 54,f 0 (t 6),s (53,false),[12]⟩,⟨s 55,d n (t 54),s (53,false),[13,12]⟩,⟨s 56,m (t 0),s (53,false),[12]⟩,⟨s 57,m (t 5),s (53,false),[12]⟩,⟨s 58,b .sub .int (t 57) (l (.int .i64 1)),s (53,false),[16,12]⟩,⟨s 59,x 3 (t 56) (t 58),s (53,false),[15,17,12]⟩,⟨s 60,f 1 (t 59),s (53,false),[18,12]⟩,⟨s 61,d n (t 60),s (53,false),[19,12]⟩,⟨s 62,b .eql .int (t 55) (t 61),s (53,false),[14,20,12]⟩,⟨s 63,m (t 62),s (53,false),[21,12,12]⟩,⟨s 64,f 2 (t 6),s (63,true),[22]⟩,⟨s 65,d n (t 64),s (63,true),[23,22]⟩,⟨s 66,m (t 0),s (63,true),[22]⟩,⟨s 67,m (t 5),s (63,true),[22]⟩,⟨s 68,b .sub .int (t 67) (l (.int .i64 1)),s (63,true),[26,22]⟩,⟨s 69,x 3 (t 66) (t 68),s (63,true),[25,27,22]⟩,⟨s 70,f 2 (t 69),s (63,true),[28,22]⟩,⟨s 71,d n (t 70),s (63,true),[29,22]⟩,⟨s 72,b .eql .int (t 65) (t 71),s (63,true),[24,30,22]⟩,⟨s 73,k (t 63) (t 72) (l (.bool false)),s (53,false),[22,31,12]⟩,⟨s 74,k (t 53) (l (.bool true)) (t 73),s (43,true),[12,32,2]⟩,⟨s 75,k (t 43) (t 74) (l (.bool false)),n,[2,33]⟩])
(i (t 75) (q (r n [⟨s 4,m (l (.bool false)),n,[]⟩])
.ret) .skip)))))
(r n [⟨s 76,b .add .int (t 14) (l (.int .i64 1)),n,[]⟩,⟨s 14,m (t 76),n,[0]⟩])))))))
(q (r n [⟨s 4,m (l (.bool true)),n,[]⟩])
.ret)))))}
theorem c_spans_Is : cFunc Tryz.prog n_spans_Is = some f_spans_Is := by kernel_rfl
def f_spans_told : SFunc := { ntmps := 30, results := [.tmp 2, .tmp 3], body :=
(q (r n [⟨s 2,m (l .nils),n,[]⟩,⟨s 3,m (l (.int .i64 0)),n,[0]⟩])
(q (r n [⟨s 7,m (t 0),n,[]⟩,⟨s 8,c (l (.fn 136 [])) [(t 7)],n,[0]⟩,⟨s 0,m (t 8),n,[1,1,0,1]⟩])
(q (q (r n [⟨s 9,m (t 0),n,[]⟩,⟨s 10,g (t 9),n,[0]⟩,⟨s 11,b .gtr .int (t 10) (l (.int .i64 60)),n,[1]⟩])
(i (t 11) (q (r n [⟨s 2,m (l .nils),n,[]⟩,⟨s 3,m (l (.int .i64 70)),n,[0,0]⟩])
.ret) .skip))
(q (r n [⟨s 4,m (l .nils),n,[]⟩])
(q (q (r n [⟨s 12,m (t 0),n,[]⟩,⟨s 13,g (t 12),n,[0]⟩,⟨s 14,m (l (.int .i64 0)),n,[]⟩])
(o 0 (.loop (q (r n [⟨s 15,b .lss .int (t 14) (t 13),n,[]⟩])
(q (i (t 15) .skip (.exit 0))
(q (o 1 (q (r n [⟨s 16,x 3 (t 12) (t 14),n,[]⟩,⟨s 17,d (s 3) (t 16),n,[0]⟩,⟨s 6,.alloc [(.int .i64 0),(.int .i64 0),(.int .i64 0)],n,[]⟩,⟨n,e 3 (t 6) (t 17),n,[2,1,0,1,2]⟩])
(r n [⟨s 18,m (t 4),n,[]⟩,⟨s 19,f 0 (t 6),n,[]⟩,⟨s 20,d n (t 19),n,[1]⟩,⟨s 21,f 1 (t 6),n,[]⟩,⟨s 22,d n (t 21),n,[3]⟩,⟨s 23,f 2 (t 6),n,[]⟩,⟨s 24,d n (t 23),n,[5]⟩,⟨s 25,.build [(.int .i64 0),(.int .i64 0),(.int .i64 0)] [(0,1,(t 20)),(1,1,(t 22)),(2,1,(t 24))],n,[2,4,6]⟩,⟨s 26,.bslc 3 [(.int .i64 0),(.int .i64 0),(.int .i64 0)] 1 [(0,3,(t 25))],n,[7]⟩,⟨s 27,.app 32 3 24 (t 18) (t 26),n,[0,8]⟩,⟨s 4,m (t 27),n,[9,9,0,1,2,3,4,5,6,7,8,9]⟩])))
(r n [⟨s 28,b .add .int (t 14) (l (.int .i64 1)),n,[]⟩,⟨s 14,m (t 28),n,[0]⟩])))))))
(q (r n [⟨s 29,m (t 4),n,[]⟩,⟨s 2,m (t 29),n,[0,0]⟩,⟨s 3,m (l (.int .i64 0)),n,[1,0,1]⟩])
.ret))))))}
theorem c_spans_told : cFunc Tryz.prog n_spans_told = some f_spans_told := by kernel_rfl
def f_breaks_Is : SFunc := { ntmps := 40, results := [.tmp 4], body :=
(q (r n [⟨s 4,m (l (.bool false)),n,[]⟩])
(q (r n [⟨s 7,m (t 1),n,[]⟩,⟨s 8,.mins (t 7) [(l (.int .i64 20000))],n,[0]⟩,⟨s 1,m (t 8),n,[1,0,1]⟩])
(q (q (r n [⟨s 9,m (t 0),n,[]⟩,⟨s 10,g (t 9),n,[0]⟩,⟨s 11,m (l (.int .i64 0)),n,[]⟩])
(o 0 (.loop (q (r n [⟨s 12,b .lss .int (t 11) (t 10),n,[]⟩])
(q (i (t 12) .skip (.exit 0))
(q (o 1 (q (r n [⟨s 13,m (t 11),n,[]⟩,⟨s 14,x 1 (t 9) (t 11),n,[]⟩,⟨s 15,d n (t 14),n,[1]⟩,⟨s 5,m (t 13),n,[0,0,1,2]⟩,⟨s 6,m (t 15),n,[2,3,0,1,2,3]⟩])
(q (r n [⟨s 16,m (t 6),n,[]⟩,⟨s 17,b .leq .int (t 16) (l (.int .i64 0)),n,[0]⟩,⟨s 18,m (t 17),n,[1]⟩,⟨s 19,m (t 6),s (18,false),[2]⟩,⟨s 20,m (t 1),s (18,false),[2]⟩,⟨s 21,b .geq .int (t 19) (t 20),s (18,false),[3,4,2]⟩,⟨s 22,k (t 18) (l (.bool true)) (t 21),n,[2,5]⟩,⟨s 23,m (t 22),n,[6,2]⟩,⟨s 24,m (t 5),s (23,false),[7]⟩,⟨s 25,b .gtr .int (t 24) (l (.int .i64 0)),s (23,false),[8,7]⟩,⟨s 26,m (t 25),s (23,false),[9,7,7]⟩,⟨s 27,m (t 6),s (26,true),[10]⟩,⟨s 28,m (t 0),s (26,true),[10]⟩,⟨s 29,m (t 5),s (26,true),[10]⟩,⟨s 30,b .sub .int (t 29) (l (.int .i64 1)),s (26,true),[13,10]⟩,⟨s 31,x 1 (t 28) (t 30),s (26,true),[12,14,10]⟩,⟨s 32,d n (t 31),s (26,true),[15,10]⟩,⟨s 33,b .leq .int (t 27) (t 32),s (26,true),[11,16,10]⟩,⟨s 34,k (t 26) (t 33) (l (.bool false)),s (23,false),[10,17,7]⟩,⟨s 35,k (t 23) (l (.bool true)) (t 34),n,[7,18]⟩])
(i (t 35) (q (r n [⟨s 4,m (l (.bool false)),n,[]⟩])
.ret) .skip))))
(r n [⟨s 36,b .add .int (t 11) (l (.int .i64 1)),n,[]⟩,⟨s 11,m (t 36),n,[0]⟩])))))))
(q (r n [⟨s 37,m (t 0),n,[]⟩,⟨s 38,g (t 37),n,[0]⟩,⟨s 39,b .leq .int (t 38) (l (.int .i64 60)),n,[1]⟩,⟨s 4,m (t 39),n,[2,0,1,2]⟩])
.ret))))}
theorem c_breaks_Is : cFunc Tryz.prog n_breaks_Is = some f_breaks_Is := by kernel_rfl
def f_delta_Size : SFunc := { ntmps := 13, results := [.tmp 2], body :=
(q (r n [⟨s 1,.box (t 0),n,[]⟩,⟨s 2,m (l (.int .i64 0)),n,[]⟩])
(q (r n [⟨s 6,d (s 2) (t 1),n,[]⟩,⟨s 7,c (l (.fn 137 [])) [(t 6)],n,[0]⟩,⟨s 5,m (t 7),n,[1]⟩,⟨s 8,.ext (t 5) 0,n,[2]⟩,⟨s 9,.ext (t 5) 1,n,[2]⟩,⟨s 3,m (t 8),n,[3,1,0,1,2,3]⟩,⟨s 4,m (t 9),n,[4,5,0,1,2,3,4,5]⟩])
(q (r n [⟨s 10,m (t 3),n,[]⟩,⟨s 11,m (t 4),n,[]⟩,⟨s 12,b .add .int (t 10) (t 11),n,[0,1]⟩,⟨s 2,m (t 12),n,[2,0,1,2]⟩])
.ret)))}
theorem c_delta_Size : cFunc Tryz.prog n_delta_Size = some f_delta_Size := by kernel_rfl
def f_engine_Engine_Undone : SFunc := { ntmps := 10, results := [.tmp 2], body :=
(q (r n [⟨s 2,m (l .nils),n,[]⟩])
(q (r (s [0,1,3,7,0,16,63,127]) [⟨s 3,m (t 0),n,[]⟩,⟨s 4,z (t 3),n,[0]⟩,⟨s 5,f 1 (t 4),n,[1]⟩,⟨s 6,d n (t 5),n,[2]⟩,⟨s 7,m (t 0),n,[]⟩,⟨s 8,c (l (.fn 21 [])) [(t 7)],n,[4]⟩,⟨s 9,c (l (.fn 104 [])) [(t 6),(t 8)],n,[3,5,5]⟩,⟨s 2,m (t 9),n,[6,6,0,1,2,3,4,5,6]⟩])
.ret))}
theorem c_engine_Engine_Undone : cFunc Tryz.prog n_engine_Engine_Undone = some f_engine_Engine_Undone := by kernel_rfl
def f_region_inside : SFunc := { ntmps := 4, results := [.tmp 2], body :=
(q (r n [⟨s 1,.box (t 0),n,[]⟩,⟨s 2,m (l .nilf),n,[]⟩])
(q (r n [⟨s 3,.mkfn 145 [(t 1)],n,[]⟩,⟨s 2,m (t 3),n,[0,0]⟩])
.ret))}
theorem c_region_inside : cFunc Tryz.prog n_region_inside = some f_region_inside := by kernel_rfl
def f_region_edges : SFunc := { ntmps := 4, results := [.tmp 2], body :=
(q (r n [⟨s 1,.box (t 0),n,[]⟩,⟨s 2,m (l .nilf),n,[]⟩])
(q (r n [⟨s 3,.mkfn 146 [(t 1)],n,[]⟩,⟨s 2,m (t 3),n,[0,0]⟩])
.ret))}
theorem c_region_edges : cFunc Tryz.prog n_region_edges = some f_region_edges := by kernel_rfl
def f_utf_Valid : SFunc := { ntmps := 17, results := [.tmp 2], body :=
(q (r n [⟨s 2,m (l (.bool false)),n,[]⟩])
(q (q (r n [⟨s 3,m (l (.int .i64 0)),n,[]⟩])
(o 0 (.loop (q (q (r n [⟨s 5,m (t 3),n,[]⟩,⟨s 6,m (t 0),n,[]⟩,⟨s 7,.lenS (t 6),n,[1]⟩,⟨s 8,b .lss .int (t 5) (t 7),n,[0,2]⟩])
(i (t 8) .skip (.exit 0)))
(o 1 (q (r n [⟨s 9,m (t 0),n,[]⟩,⟨s 10,m (t 3),n,[]⟩,⟨s 11,c (l (.fn 147 [])) [(t 9),(t 10)],n,[0,1]⟩,⟨s 4,m (t 11),n,[2,2,0,1,2]⟩])
(q (q (r n [⟨s 12,m (t 4),n,[]⟩,⟨s 13,b .eql .int (t 12) (l (.int .i64 0)),n,[0]⟩])
(i (t 13) (q (r n [⟨s 2,m (l (.bool false)),n,[]⟩])
.ret) .skip))
(r n [⟨s 14,m (t 3),n,[]⟩,⟨s 15,m (t 4),n,[]⟩,⟨s 16,b .add .int (t 14) (t 15),n,[0,1]⟩,⟨s 3,m (t 16),n,[2,0,1,2]⟩]))))))))
(q (r n [⟨s 2,m (l (.bool true)),n,[]⟩])
.ret)))}
theorem c_utf_Valid : cFunc Tryz.prog n_utf_Valid = some f_utf_Valid := by kernel_rfl
def f_spans_within : SFunc := { ntmps := 15, results := [.tmp 6], body :=
(q (r n [⟨s 6,m (l (.bool false)),n,[]⟩])
(q (r n [⟨s 7,m (t 0),n,[]⟩,⟨s 8,m (t 1),n,[]⟩,⟨s 9,b .geq .int (t 7) (t 8),n,[0,1]⟩,⟨s 10,m (t 9),n,[2]⟩,⟨s 11,m (t 0),s (10,true),[3]⟩,⟨s 12,m (t 2),s (10,true),[3]⟩,⟨s 13,b .leq .int (t 11) (t 12),s (10,true),[4,5,3]⟩,⟨s 14,k (t 10) (t 13) (l (.bool false)),n,[3,6]⟩,⟨s 6,m (t 14),n,[7,3,0,1,2,3,4,5,6,7]⟩])
.ret))}
theorem c_spans_within : cFunc Tryz.prog n_spans_within = some f_spans_within := by kernel_rfl
def f_tree_Seq_rope_piece_rope_counts_Len : SFunc := { ntmps := 11, results := [.tmp 2], body :=
(q (r n [⟨s 1,.box (t 0),n,[]⟩,⟨s 2,m (l (.int .i64 0)),n,[]⟩])
(q (q (r n [⟨s 3,f 0 (t 1),n,[]⟩,⟨s 4,d n (t 3),n,[0]⟩,⟨s 5,b .eql .ptr (t 4) (l .nilp),n,[1]⟩])
(i (t 5) (q (r n [⟨s 2,m (l (.int .i64 0)),n,[]⟩])
.ret) .skip))
(q (r n [⟨s 6,f 0 (t 1),n,[]⟩,⟨s 7,d n (t 6),n,[0]⟩,⟨s 8,z (t 7),n,[1]⟩,⟨s 9,f 2 (t 8),n,[2]⟩,⟨s 10,d n (t 9),n,[3]⟩,⟨s 2,m (t 10),n,[4,0,1,2,3,4]⟩])
.ret)))}
theorem c_tree_Seq_rope_piece_rope_counts_Len : cFunc Tryz.prog n_tree_Seq_rope_piece_rope_counts_Len = some f_tree_Seq_rope_piece_rope_counts_Len := by kernel_rfl
def f_tree_node_rope_piece_rope_counts_all : SFunc := { ntmps := 27, results := [.tmp 4], body :=
(q (r n [⟨s 4,m (l .nils),n,[]⟩])
(q (r n [⟨s 7,m (t 1),n,[]⟩,⟨s 8,m (t 0),n,[]⟩,⟨s 9,z (t 8),n,[1]⟩,⟨s 10,f 1 (t 9),n,[2]⟩,⟨s 11,d n (t 10),n,[3]⟩,⟨s 12,.app 99 1 16 (t 7) (t 11),n,[0,4]⟩,⟨s 1,m (t 12),n,[5,5,0,1,2,3,4,5]⟩])
(q (q (r n [⟨s 13,m (t 0),n,[]⟩,⟨s 14,z (t 13),n,[0]⟩,⟨s 15,f 0 (t 14),n,[1]⟩,⟨s 16,d n (t 15),n,[2]⟩,⟨s 17,g (t 16),n,[3]⟩,⟨s 18,m (l (.int .i64 0)),n,[]⟩])
(o 0 (.loop (q (r n [⟨s 19,b .lss .int (t 18) (t 17),n,[]⟩])
(q (i (t 19) .skip (.exit 0))
(q (o 1 (q (r n [⟨s 20,x 1 (t 16) (t 18),n,[]⟩,⟨s 21,d n (t 20),n,[0]⟩,⟨s 6,m (t 21),n,[1,0,1]⟩])
(r n [⟨s 22,m (t 6),n,[]⟩,⟨s 23,m (t 1),n,[]⟩,⟨s 24,c (l (.fn 94 [])) [(t 22),(t 23)],n,[0,1]⟩,⟨s 1,m (t 24),n,[2,2,0,1,2]⟩])))
(r n [⟨s 25,b .add .int (t 18) (l (.int .i64 1)),n,[]⟩,⟨s 18,m (t 25),n,[0]⟩])))))))
(q (r n [⟨s 26,m (t 1),n,[]⟩,⟨s 4,m (t 26),n,[0,0]⟩])
.ret))))}
theorem c_tree_node_rope_piece_rope_counts_all : cFunc Tryz.prog n_tree_node_rope_piece_rope_counts_all = some f_tree_node_rope_piece_rope_counts_all := by kernel_rfl
def f_metric_Whole : SFunc := { ntmps := 11, results := [.tmp 4], body :=
(q (r n [⟨s 4,m (l (.int .i64 0)),n,[]⟩])
(q (q (r n [⟨s 5,m (t 0),n,[]⟩,⟨s 6,b .eql .ptr (t 5) (l .nilp),n,[0]⟩])
(i (t 6) (q (r n [⟨s 4,m (l (.int .i64 0)),n,[]⟩])
.ret) .skip))
(q (r n [⟨s 7,m (t 0),n,[]⟩,⟨s 8,c (l (.fn 153 [])) [(t 7)],n,[0]⟩,⟨s 9,m (t 1),n,[]⟩,⟨s 10,c (l (.fn 99 [])) [(t 8),(t 9)],n,[1,2,1]⟩,⟨s 4,m (t 10),n,[3,3,0,1,2,3]⟩])
.ret)))}
theorem c_metric_Whole : cFunc Tryz.prog n_metric_Whole = some f_metric_Whole := by kernel_rfl
def f_rope_Rope_Upto : SFunc := { ntmps := 34, results := [.tmp 6, .cell 7 (some 4)], body :=
(q (r n [⟨s 4,.box (t 1),n,[]⟩,⟨s 5,.box (t 2),n,[]⟩,⟨s 6,m (l (.str [])),n,[]⟩,⟨s 7,.alloc [(.int .i64 0),(.int .i64 0),(.int .i64 0),(.int .i64 0)],n,[]⟩])
(q (r n [⟨s 11,m (t 0),n,[]⟩,⟨s 12,z (t 11),n,[0]⟩,⟨s 13,f 0 (t 12),n,[1]⟩,⟨s 14,d (s 1) (t 13),n,[2]⟩,⟨s 15,.mkfn 155 [(t 4),(t 5)],n,[]⟩,⟨s 16,c (l (.fn 154 [])) [(t 14),(t 15)],n,[3,4]⟩,⟨s 10,m (t 16),n,[5]⟩,⟨s 17,.ext (t 10) 0,n,[6]⟩,⟨s 18,.ext (t 10) 1,n,[6]⟩,⟨s 9,.alloc [(.int .i64 0),(.int .i64 0),(.int .i64 0),(.int .i64 0)],n,[]⟩,⟨s 8,m (t 17),n,[7,5,0,1,2,3,4,5,6,7,9]⟩,⟨n,e 4 (t 9) (t 18),n,[9,8,10,0,1,2,3,4,5,6,7,8,9,10]⟩])
(q (q (r n [⟨s 19,m (t 8),n,[]⟩,⟨s 20,m (t 0),n,[]⟩,⟨s 21,z (t 20),n,[1]⟩,⟨s 22,f 0 (t 21),n,[2]⟩,⟨s 23,d (s 1) (t 22),n,[3]⟩,⟨s 24,c (l (.fn 93 [])) [(t 23)],n,[4]⟩,⟨s 25,b .eql .int (t 19) (t 24),n,[0,5]⟩])
(i (t 25) (q (r (s [0,0,3]) [⟨s 26,d (s 4) (t 9),n,[]⟩,⟨s 6,m (l (.str [])),n,[]⟩,⟨n,e 4 (t 7) (t 26),n,[0,1,0,1]⟩])
.ret) .skip))
(q (r (s [0,1,3,7,0,31,0,63,255]) [⟨s 27,m (t 0),n,[]⟩,⟨s 28,z (t 27),n,[0]⟩,⟨s 29,f 0 (t 28),n,[1]⟩,⟨s 30,d (s 1) (t 29),n,[2]⟩,⟨s 31,m (t 8),n,[]⟩,⟨s 32,c (l (.fn 156 [])) [(t 30),(t 31)],n,[3,4]⟩,⟨s 33,d (s 4) (t 9),n,[]⟩,⟨s 6,m (t 32),n,[5,5,0,1,2,3,4,5]⟩,⟨n,e 4 (t 7) (t 33),n,[6,7,0,1,2,3,4,5,6,7]⟩])
.ret))))}
theorem c_rope_Rope_Upto : cFunc Tryz.prog n_rope_Rope_Upto = some f_rope_Rope_Upto := by kernel_rfl
def f_count_To : SFunc := { ntmps := 54, results := [.tmp 6, .tmp 7], body :=
(q (r n [⟨s 6,m (l (.int .i64 0)),n,[]⟩,⟨s 7,m (l (.int .i64 0)),n,[0]⟩])
(q (q (r n [⟨s 11,m (t 1),n,[]⟩,⟨s 12,c (l (.fn 47 [])) [(t 11)],n,[0]⟩,⟨s 13,.not (t 12),n,[1]⟩,⟨s 14,m (t 13),n,[2,1]⟩,⟨s 15,m (t 0),s (14,false),[3]⟩,⟨s 16,c (l (.fn 89 [])) [(t 15)],s (14,false),[4,3,3]⟩,⟨s 17,.not (t 16),s (14,false),[5,3]⟩,⟨s 18,k (t 14) (l (.bool true)) (t 17),n,[3,6]⟩])
(i (t 18) (q (r n [⟨s 6,m (l (.int .i64 0)),n,[]⟩,⟨s 7,m (l (.int .i64 12)),n,[0,0]⟩])
.ret) .skip))
(q (q (r n [⟨s 19,m (t 2),n,[]⟩,⟨s 20,b .lss .int (t 19) (l (.int .i64 0)),n,[0]⟩,⟨s 21,m (t 20),n,[1]⟩,⟨s 22,m (t 2),s (21,false),[2]⟩,⟨s 23,m (t 0),s (21,false),[2]⟩,⟨s 24,c (l (.fn 157 [])) [(t 23)],s (21,false),[4,2,2]⟩,⟨s 25,m (t 1),s (21,false),[2]⟩,⟨s 26,c (l (.fn 99 [])) [(t 24),(t 25)],s (21,false),[5,6,5,2]⟩,⟨s 27,b .gtr .int (t 22) (t 26),s (21,false),[3,7,2]⟩,⟨s 28,k (t 21) (l (.bool true)) (t 27),n,[2,8]⟩])
(i (t 28) (q (r n [⟨s 6,m (l (.int .i64 0)),n,[]⟩,⟨s 7,m (l (.int .i64 10)),n,[0,0]⟩])
.ret) .skip))
(q (r n [⟨s 8,.alloc [(.int .i64 0),(.int .i64 0),(.int .i64 0),(.int .i64 0)],n,[]⟩])
(q (q (r n [⟨s 29,m (t 0),n,[]⟩,⟨s 30,.iter (t 29),n,[0]⟩])
(o 0 (.loop (q (r n [⟨s 31,.next (t 30),n,[]⟩,⟨s 32,.ext (t 31) 0,n,[0]⟩])
(q (i (t 32) .skip (.exit 0))
(o 1 (q (r n [⟨s 33,.ext (t 31) 2,n,[]⟩,⟨s 10,m (t 33),n,[0,0]⟩])
(q (q (r n [⟨s 34,d (s 4) (t 8),n,[]⟩,⟨s 35,m (t 1),n,[]⟩,⟨s 36,c (l (.fn 99 [])) [(t 34),(t 35)],n,[0,1]⟩,⟨s 37,m (t 2),n,[]⟩,⟨s 38,b .geq .int (t 36) (t 37),n,[2,3]⟩])
(i (t 38) (.exit 0) .skip))
(r (s [0,0,2,7,15]) [⟨s 39,d (s 4) (t 8),n,[]⟩,⟨s 40,m (t 10),n,[]⟩,⟨s 41,c (l (.fn 159 [])) [(t 40)],n,[1]⟩,⟨s 42,c (l (.fn 158 [])) [(t 39),(t 41)],n,[0,2,2]⟩,⟨n,e 4 (t 8) (t 42),n,[3,3,0,1,2,3]⟩])))))))))
(q (o 2 (q (r n [⟨s 44,d (s 4) (t 8),n,[]⟩,⟨s 45,m (t 1),n,[]⟩,⟨s 46,c (l (.fn 99 [])) [(t 44),(t 45)],n,[0,1]⟩,⟨s 47,m (t 2),n,[]⟩,⟨s 48,b .eql .int (t 46) (t 47),n,[2,3]⟩,⟨s 43,m (t 48),n,[4,2]⟩])
(i (t 43) (q (r n [⟨s 49,f 0 (t 8),n,[]⟩,⟨s 50,d n (t 49),n,[0]⟩,⟨s 6,m (t 50),n,[1,0,1]⟩,⟨s 7,m (l (.int .i64 0)),n,[2,0,1,2]⟩])
.ret) (q (r n [⟨s 52,m (t 1),n,[]⟩,⟨s 53,b .eql .int (t 52) (l (.int .i64 2)),n,[0]⟩,⟨s 51,m (t 53),n,[1]⟩])
(i (t 51) (q (r n [⟨s 6,m (l (.int .i64 0)),n,[]⟩,⟨s 7,m (l (.int .i64 50)),n,[0,0]⟩])
.ret) .skip)))))
(q (r n [⟨s 6,m (l (.int .i64 0)),n,[]⟩,⟨s 7,m (l (.int .i64 11)),n,[0,0]⟩])
.ret)))))))}
theorem c_count_To : cFunc Tryz.prog n_count_To = some f_count_To := by kernel_rfl
def f_count_Get : SFunc := { ntmps := 19, results := [.tmp 4], body :=
(q (r n [⟨s 2,.box (t 0),n,[]⟩,⟨s 4,m (l (.int .i64 0)),n,[]⟩])
(q (q (r n [⟨s 5,m (t 1),n,[]⟩,⟨s 6,c (l (.fn 47 [])) [(t 5)],n,[0]⟩,⟨s 7,.not (t 6),n,[1]⟩])
(i (t 7) (q (r n [⟨s 4,m (l (.int .i64 0)),n,[]⟩])
.ret) .skip))
(q (r n [⟨s 8,f 0 (t 2),n,[]⟩,⟨s 9,d n (t 8),n,[0]⟩,⟨s 10,f 1 (t 2),n,[]⟩,⟨s 11,d n (t 10),n,[2]⟩,⟨s 12,f 2 (t 2),n,[]⟩,⟨s 13,d n (t 12),n,[4]⟩,⟨s 14,f 3 (t 2),n,[]⟩,⟨s 15,d n (t 14),n,[6]⟩,⟨s 16,.build [(.int .i64 0),(.int .i64 0),(.int .i64 0),(.int .i64 0)] [(0,1,(t 9)),(1,1,(t 11)),(2,1,(t 13)),(3,1,(t 15))],n,[1,3,5,7]⟩,⟨s 17,m (t 1),n,[]⟩,⟨s 18,.idxG 4 1 false (t 16) (t 17),n,[8,9]⟩,⟨s 4,m (t 18),n,[10,0,1,2,3,4,5,6,7,8,9,10]⟩])
.ret)))}
theorem c_count_Get : cFunc Tryz.prog n_count_Get = some f_count_Get := by kernel_rfl
def f_metric_told_int : SFunc := { ntmps := 10, results := [.tmp 4, .tmp 5], body :=
(q (r n [⟨s 4,m (l (.int .i64 0)),n,[]⟩,⟨s 5,m (l (.int .i64 0)),n,[0]⟩])
(q (q (r n [⟨s 6,m (t 1),n,[]⟩,⟨s 7,b .neq .int (t 6) (l (.int .i64 0)),n,[0]⟩])
(i (t 7) (q (r n [⟨s 8,m (t 1),n,[]⟩,⟨s 4,m (l (.int .i64 0)),n,[]⟩,⟨s 5,m (t 8),n,[0,1,0,1]⟩])
.ret) .skip))
(q (r n [⟨s 9,m (t 0),n,[]⟩,⟨s 4,m (t 9),n,[0,0]⟩,⟨s 5,m (l (.int .i64 0)),n,[1,0,1]⟩])
.ret)))}
theorem c_metric_told_int : cFunc Tryz.prog n_metric_told_int = some f_metric_told_int := by kernel_rfl
def f_count_From : SFunc := { ntmps := 48, results := [.tmp 6, .tmp 7], body :=
(q (r n [⟨s 6,m (l (.int .i64 0)),n,[]⟩,⟨s 7,m (l (.int .i64 0)),n,[0]⟩])
(q (o 0 (q (r n [⟨s 11,m (t 1),n,[]⟩,⟨s 12,c (l (.fn 47 [])) [(t 11)],n,[0]⟩,⟨s 13,.not (t 12),n,[1]⟩,⟨s 14,m (t 13),n,[2,1]⟩,⟨s 15,m (t 0),s (14,false),[3]⟩,⟨s 16,c (l (.fn 89 [])) [(t 15)],s (14,false),[4,3,3]⟩,⟨s 17,.not (t 16),s (14,false),[5,3]⟩,⟨s 18,k (t 14) (l (.bool true)) (t 17),n,[3,6]⟩,⟨s 10,m (t 18),n,[7,5]⟩])
(i (t 10) (q (r n [⟨s 6,m (l (.int .i64 0)),n,[]⟩,⟨s 7,m (l (.int .i64 12)),n,[0,0]⟩])
.ret) (q (r n [⟨s 20,m (t 2),n,[]⟩,⟨s 21,b .lss .int (t 20) (l (.int .i64 0)),n,[0]⟩,⟨s 22,m (t 21),n,[1]⟩,⟨s 23,m (t 2),s (22,false),[2]⟩,⟨s 24,m (t 0),s (22,false),[2]⟩,⟨s 25,.lenS (t 24),s (22,false),[4,2]⟩,⟨s 26,b .gtr .int (t 23) (t 25),s (22,false),[3,5,2]⟩,⟨s 27,k (t 22) (l (.bool true)) (t 26),n,[2,6]⟩,⟨s 19,m (t 27),n,[7,2]⟩])
(i (t 19) (q (r n [⟨s 6,m (l (.int .i64 0)),n,[]⟩,⟨s 7,m (l (.int .i64 10)),n,[0,0]⟩])
.ret) (q (r n [⟨s 29,m (t 0),n,[]⟩,⟨s 30,m (t 2),n,[]⟩,⟨s 31,c (l (.fn 40 [])) [(t 29),(t 30)],n,[0,1]⟩,⟨s 32,.not (t 31),n,[2]⟩,⟨s 28,m (t 32),n,[3,2]⟩])
(i (t 28) (q (r n [⟨s 6,m (l (.int .i64 0)),n,[]⟩,⟨s 7,m (l (.int .i64 11)),n,[0,0]⟩])
.ret) .skip)))))))
(q (r n [⟨s 33,m (t 0),n,[]⟩,⟨s 34,m (t 2),n,[]⟩,⟨s 35,.slcS (t 33) n (s (t 34)),n,[0,1]⟩,⟨s 36,c (l (.fn 157 [])) [(t 35)],n,[2]⟩,⟨s 8,.alloc [(.int .i64 0),(.int .i64 0),(.int .i64 0),(.int .i64 0)],n,[]⟩,⟨n,e 4 (t 8) (t 36),n,[4,3,3,0,1,2,3,4]⟩])
(q (q (r n [⟨s 37,m (t 0),n,[]⟩,⟨s 38,c (l (.fn 157 [])) [(t 37)],n,[0]⟩,⟨s 9,.alloc [(.int .i64 0),(.int .i64 0),(.int .i64 0),(.int .i64 0)],n,[]⟩,⟨n,e 4 (t 9) (t 38),n,[2,1,1,0,1,2]⟩])
(q (r n [⟨s 39,d (s 4) (t 8),n,[]⟩,⟨s 40,d (s 4) (t 9),n,[]⟩,⟨s 41,b .eql (.flat [.int,.int,.int,.int]) (t 39) (t 40),n,[0,1]⟩])
(i (t 41) (q (r n [⟨s 42,d (s 4) (t 9),n,[]⟩,⟨s 43,m (t 1),n,[]⟩,⟨s 44,c (l (.fn 99 [])) [(t 42),(t 43)],n,[0,1]⟩,⟨s 6,m (t 44),n,[2,2,0,1,2]⟩,⟨s 7,m (l (.int .i64 0)),n,[3,0,1,2,3]⟩])
.ret) .skip)))
(q (r n [⟨s 45,d (s 4) (t 8),n,[]⟩,⟨s 46,m (t 1),n,[]⟩,⟨s 47,c (l (.fn 99 [])) [(t 45),(t 46)],n,[0,1]⟩,⟨s 6,m (t 47),n,[2,2,0,1,2]⟩,⟨s 7,m (l (.int .i64 0)),n,[3,0,1,2,3]⟩])
.ret)))))}
theorem c_count_From : cFunc Tryz.prog n_count_From = some f_count_From := by kernel_rfl
def f_rev_Revs_Live : SFunc := { ntmps := 17, results := [.tmp 4], body :=
(q (r n [⟨s 4,m (l (.bool false)),n,[]⟩])
(q (r n [⟨s 5,m (t 1),n,[]⟩,⟨s 6,m (t 0),n,[]⟩,⟨s 7,z (t 6),n,[1]⟩,⟨s 8,f 1 (t 7),n,[2]⟩,⟨s 9,d n (t 8),n,[3]⟩,⟨s 10,b .geq .int (t 5) (t 9),n,[0,4]⟩,⟨s 11,m (t 10),n,[5]⟩,⟨s 12,m (t 1),s (11,true),[6]⟩,⟨s 13,m (t 0),s (11,true),[6]⟩,⟨s 14,c (l (.fn 46 [])) [(t 13)],s (11,true),[8,6,6]⟩,⟨s 15,b .leq .int (t 12) (t 14),s (11,true),[7,9,6]⟩,⟨s 16,k (t 11) (t 15) (l (.bool false)),n,[6,10]⟩,⟨s 4,m (t 16),n,[11,9,0,1,2,3,4,5,6,7,8,9,10,11]⟩])
.ret))}
theorem c_rev_Revs_Live : cFunc Tryz.prog n_rev_Revs_Live = some f_rev_Revs_Live := by kernel_rfl
def f_atom_Visible : SFunc := { ntmps := 23, results := [.tmp 6], body :=
(q (r n [⟨s 3,.box (t 0),n,[]⟩,⟨s 4,.box (t 1),n,[]⟩,⟨s 5,.box (t 2),n,[]⟩,⟨s 6,m (l (.bool false)),n,[]⟩])
(q (q (r n [⟨s 7,f 1 (t 3),n,[]⟩,⟨s 8,d n (t 7),n,[0]⟩,⟨s 9,d n (t 4),n,[]⟩,⟨s 10,b .gtr .int (t 8) (t 9),n,[1,2]⟩,⟨s 11,m (t 10),n,[3]⟩,⟨s 12,f 2 (t 3),s (11,false),[4]⟩,⟨s 13,d n (t 12),s (11,false),[5,4]⟩,⟨s 14,d n (t 5),s (11,false),[4]⟩,⟨s 15,c (l (.fn 160 [])) [(t 13),(t 14)],s (11,false),[6,7,4,4]⟩,⟨s 16,.not (t 15),s (11,false),[8,4]⟩,⟨s 17,k (t 11) (l (.bool true)) (t 16),n,[4,9]⟩])
(i (t 17) (q (r n [⟨s 6,m (l (.bool false)),n,[]⟩])
.ret) .skip))
(q (r n [⟨s 18,f 4 (t 3),n,[]⟩,⟨s 19,d n (t 18),n,[0]⟩,⟨s 20,.mkfn 161 [(t 4),(t 5)],n,[]⟩,⟨s 21,c (l (.fn 141 [])) [(t 19),(t 20)],n,[1,2]⟩,⟨s 22,.not (t 21),n,[3]⟩,⟨s 6,m (t 22),n,[4,3,0,1,2,3,4]⟩])
.ret)))}
theorem c_atom_Visible : cFunc Tryz.prog n_atom_Visible = some f_atom_Visible := by kernel_rfl
def f_rev_Revs_Undone : SFunc := { ntmps := 22, results := [.tmp 4], body :=
(q (r n [⟨s 4,m (l .nils),n,[]⟩])
(q (q (r n [⟨s 5,m (t 0),n,[]⟩,⟨s 6,m (t 1),n,[]⟩,⟨s 7,c (l (.fn 102 [])) [(t 5),(t 6)],n,[0,1]⟩,⟨s 8,.not (t 7),n,[2]⟩])
(i (t 8) (q (r n [⟨s 4,m (l .nils),n,[]⟩])
.ret) .skip))
(q (r (s [0,1,3,7,0,0,32,96,224,496,1023,2047,4095,8191]) [⟨s 9,m (t 0),n,[]⟩,⟨s 10,z (t 9),n,[0]⟩,⟨s 11,f 0 (t 10),n,[1]⟩,⟨s 12,d n (t 11),n,[2]⟩,⟨s 13,m (t 1),n,[]⟩,⟨s 14,m (t 0),n,[]⟩,⟨s 15,z (t 14),n,[5]⟩,⟨s 16,f 1 (t 15),n,[6]⟩,⟨s 17,d n (t 16),n,[7]⟩,⟨s 18,b .sub .int (t 13) (t 17),n,[4,8]⟩,⟨s 19,x 1 (t 12) (t 18),n,[3,9]⟩,⟨s 20,d n (t 19),n,[10]⟩,⟨s 21,c (l (.fn 162 [])) [(t 20)],n,[11]⟩,⟨s 4,m (t 21),n,[12,12,0,1,2,3,4,5,6,7,8,9,10,11,12]⟩])
.ret)))}
theorem c_rev_Revs_Undone : cFunc Tryz.prog n_rev_Revs_Undone = some f_rev_Revs_Undone := by kernel_rfl
def f_tree_Make_rope_piece_rope_counts : SFunc := { ntmps := 19, results := [.cell 2 (some 1)], body :=
(q (r n [⟨s 2,.alloc [.nilp],n,[]⟩])
(q (q (r n [⟨s 4,m (t 0),n,[]⟩,⟨s 5,g (t 4),n,[0]⟩,⟨s 6,b .eql .int (t 5) (l (.int .i64 0)),n,[1]⟩])
(i (t 6) (q (r n [⟨s 7,.build [.nilp] [],n,[]⟩,⟨n,e 1 (t 2) (t 7),n,[0,0]⟩])
.ret) .skip))
(q (r n [⟨s 8,m (t 0),n,[]⟩,⟨s 9,c (l (.fn 166 [])) [(t 8),(l (.fn 167 []))],n,[0]⟩,⟨s 3,m (t 9),n,[1,1,0,1]⟩])
(q (o 0 (.loop (q (q (r n [⟨s 10,m (t 3),n,[]⟩,⟨s 11,g (t 10),n,[0]⟩,⟨s 12,b .gtr .int (t 11) (l (.int .i64 1)),n,[1]⟩])
(i (t 12) .skip (.exit 0)))
(o 1 (r n [⟨s 13,m (t 3),n,[]⟩,⟨s 14,c (l (.fn 168 [])) [(t 13),(l (.fn 169 []))],n,[0]⟩,⟨s 3,m (t 14),n,[1,1,0,1]⟩])))))
(q (r n [⟨s 15,m (t 3),n,[]⟩,⟨s 16,x 1 (t 15) (l (.int .i64 0)),n,[0]⟩,⟨s 17,d n (t 16),n,[1]⟩,⟨s 18,.build [.nilp] [(0,1,(t 17))],n,[2]⟩,⟨n,e 1 (t 2) (t 18),n,[3,0,1,2,3]⟩])
.ret)))))}
theorem c_tree_Make_rope_piece_rope_counts : cFunc Tryz.prog n_tree_Make_rope_piece_rope_counts = some f_tree_Make_rope_piece_rope_counts := by kernel_rfl
def f_slices_Clone_api_Cut_api_Cut : SFunc := { ntmps := 8, results := [.tmp 2], body :=
(q (r n [⟨s 2,m (l .nils),n,[]⟩])
(q (q (r n [⟨s 3,m (t 0),n,[]⟩,⟨s 4,b .eql .slc (t 3) (l .nils),n,[0]⟩])
(i (t 4) (q (r n [⟨s 2,m (l .nils),n,[]⟩])
.ret) .skip))
(q (r n [⟨s 5,.bslc 2 [(.int .i64 0),(.int .i64 0)] 0 [],n,[]⟩,⟨s 6,m (t 0),n,[]⟩,⟨s 7,.app 173 2 16 (t 5) (t 6),n,[0,1]⟩,⟨s 2,m (t 7),n,[2,2,0,1,2]⟩])
.ret)))}
theorem c_slices_Clone_api_Cut_api_Cut : cFunc Tryz.prog n_slices_Clone_api_Cut_api_Cut = some f_slices_Clone_api_Cut_api_Cut := by kernel_rfl
def f_edit_Check_1 : SFunc := { ntmps := 7, results := [.tmp 3], body :=
(q (r n [⟨s 3,m (l (.bool false)),n,[]⟩])
(q (r n [⟨s 4,d n (t 1),n,[]⟩,⟨s 5,m (t 0),n,[]⟩,⟨s 6,c (l (.fn 40 [])) [(t 4),(t 5)],n,[0,1]⟩,⟨s 3,m (t 6),n,[2,2,0,1,2]⟩])
.ret))}
theorem c_edit_Check_1 : cFunc Tryz.prog n_edit_Check_1 = some f_edit_Check_1 := by kernel_rfl
def f_edit_first : SFunc := { ntmps := 20, results := [.tmp 6], body :=
(q (r n [⟨s 6,m (l (.int .i64 0)),n,[]⟩])
(q (q (r n [⟨s 9,m (t 0),n,[]⟩,⟨s 10,g (t 9),n,[0]⟩,⟨s 11,m (l (.int .i64 0)),n,[]⟩])
(o 0 (.loop (q (r n [⟨s 12,b .lss .int (t 11) (t 10),n,[]⟩])
(q (i (t 12) .skip (.exit 0))
(q (o 1 (q (r n [⟨s 13,x 3 (t 9) (t 11),n,[]⟩,⟨s 14,d (s 3) (t 13),n,[0]⟩,⟨s 8,.alloc [(.int .i64 0),(.int .i64 0),(.str [])],n,[]⟩,⟨n,e 3 (t 8) (t 14),n,[2,1,0,1,2]⟩])
(q (r n [⟨s 15,m (t 2),n,[]⟩,⟨s 16,d (s 3) (t 8),n,[]⟩,⟨s 17,c (t 15) [(t 16)],n,[0,1]⟩])
(i (t 17) (q (r n [⟨s 18,m (t 1),n,[]⟩,⟨s 6,m (t 18),n,[0,0]⟩])
.ret) .skip))))
(r n [⟨s 19,b .add .int (t 11) (l (.int .i64 1)),n,[]⟩,⟨s 11,m (t 19),n,[0]⟩])))))))
(q (r n [⟨s 6,m (l (.int .i64 0)),n,[]⟩])
.ret)))}
theorem c_edit_first : cFunc Tryz.prog n_edit_first = some f_edit_first := by kernel_rfl
def f_edit_Check_2 : SFunc := { ntmps := 21, results := [.tmp 3], body :=
(q (r n [⟨s 2,.box (t 0),n,[]⟩,⟨s 3,m (l (.bool false)),n,[]⟩])
(q (r n [⟨s 4,f 0 (t 2),n,[]⟩,⟨s 5,d n (t 4),n,[0]⟩,⟨s 6,b .lss .int (t 5) (l (.int .i64 0)),n,[1]⟩,⟨s 7,m (t 6),n,[2]⟩,⟨s 8,f 0 (t 2),s (7,false),[3]⟩,⟨s 9,d n (t 8),s (7,false),[4,3]⟩,⟨s 10,f 1 (t 2),s (7,false),[3]⟩,⟨s 11,d n (t 10),s (7,false),[6,3]⟩,⟨s 12,b .gtr .int (t 9) (t 11),s (7,false),[5,7,3]⟩,⟨s 13,k (t 7) (l (.bool true)) (t 12),n,[3,8]⟩,⟨s 14,m (t 13),n,[9,3]⟩,⟨s 15,f 1 (t 2),s (14,false),[10]⟩,⟨s 16,d n (t 15),s (14,false),[11,10]⟩,⟨s 17,d n (t 1),s (14,false),[10]⟩,⟨s 18,.lenS (t 17),s (14,false),[13,10]⟩,⟨s 19,b .gtr .int (t 16) (t 18),s (14,false),[12,14,10]⟩,⟨s 20,k (t 14) (l (.bool true)) (t 19),n,[10,15]⟩,⟨s 3,m (t 20),n,[16,10,0,1,2,3,4,5,6,7,8,9,10,11,12,13,14,15,16]⟩])
.ret))}
theorem c_edit_Check_2 : cFunc Tryz.prog n_edit_Check_2 = some f_edit_Check_2 := by kernel_rfl
def f_edit_Check_3 : SFunc := { ntmps := 16, results := [.tmp 3], body :=
(q (r n [⟨s 2,.box (t 0),n,[]⟩,⟨s 3,m (l (.bool false)),n,[]⟩])
(q (r n [⟨s 4,d n (t 1),n,[]⟩,⟨s 5,f 0 (t 2),n,[]⟩,⟨s 6,d n (t 5),n,[1]⟩,⟨s 7,c (t 4) [(t 6)],n,[0,2]⟩,⟨s 8,.not (t 7),n,[3]⟩,⟨s 9,m (t 8),n,[4,3]⟩,⟨s 10,d n (t 1),s (9,false),[5]⟩,⟨s 11,f 1 (t 2),s (9,false),[5]⟩,⟨s 12,d n (t 11),s (9,false),[7,5]⟩,⟨s 13,c (t 10) [(t 12)],s (9,false),[6,8,5,5]⟩,⟨s 14,.not (t 13),s (9,false),[9,5]⟩,⟨s 15,k (t 9) (l (.bool true)) (t 14),n,[5,10]⟩,⟨s 3,m (t 15),n,[11,9,0,1,2,3,4,5,6,7,8,9,10,11]⟩])
.ret))}
theorem c_edit_Check_3 : cFunc Tryz.prog n_edit_Check_3 = some f_edit_Check_3 := by kernel_rfl
def f_edit_order : SFunc := { ntmps := 40, results := [.tmp 2], body :=
(q (r n [⟨s 2,m (l (.int .i64 0)),n,[]⟩])
(q (q (r n [⟨s 3,m (l (.int .i64 1)),n,[]⟩])
(o 0 (.loop (q (q (r n [⟨s 6,m (t 3),n,[]⟩,⟨s 7,m (t 0),n,[]⟩,⟨s 8,g (t 7),n,[1]⟩,⟨s 9,b .lss .int (t 6) (t 8),n,[0,2]⟩])
(i (t 9) .skip (.exit 0)))
(q (o 1 (q (.regA [0,0,2,7,15,0,0,96,224,0,0,1567,4095] [⟨s 12,m (t 0),n,[]⟩,⟨s 13,m (t 3),n,[]⟩,⟨s 14,b .sub .int (t 13) (l (.int .i64 1)),n,[1]⟩,⟨s 15,x 3 (t 12) (t 14),n,[0,2]⟩,⟨s 16,d (s 3) (t 15),n,[3]⟩,⟨s 17,m (t 0),n,[]⟩,⟨s 18,m (t 3),n,[]⟩,⟨s 19,x 3 (t 17) (t 18),n,[5,6]⟩,⟨s 20,d (s 3) (t 19),n,[7]⟩,⟨s 4,.lay 0 [(.int .i64 0),(.int .i64 0),(.str [])],n,[]⟩,⟨s 5,.lay 1 [(.int .i64 0),(.int .i64 0),(.str [])],n,[]⟩,⟨n,e 3 (t 4) (t 16),n,[9,4,0,1,2,3,4,9,10]⟩,⟨n,e 3 (t 5) (t 20),n,[10,8,11,0,1,2,3,4,5,6,7,8,9,10,11]⟩])
(q (r n [⟨s 21,f 0 (t 5),n,[]⟩,⟨s 22,d n (t 21),n,[0]⟩,⟨s 23,f 1 (t 4),n,[]⟩,⟨s 24,d n (t 23),n,[2]⟩,⟨s 25,b .lss .int (t 22) (t 24),n,[1,3]⟩,⟨s 26,m (t 25),n,[4]⟩,⟨s 27,f 0 (t 4),s (26,false),[5]⟩,⟨s 28,d n (t 27),s (26,false),[6,5]⟩,⟨s 29,f 0 (t 5),s (26,false),[5]⟩,⟨s 30,d n (t 29),s (26,false),[8,5]⟩,⟨s 31,b .eql .int (t 28) (t 30),s (26,false),[7,9,5]⟩,⟨s 32,m (t 31),s (26,false),[10,5,5]⟩,⟨s 33,f 1 (t 4),s (32,true),[11]⟩,⟨s 34,d n (t 33),s (32,true),[12,11]⟩,⟨s 35,f 0 (t 5),s (32,true),[11]⟩,⟨s 36,d n (t 35),s (32,true),[14,11]⟩,⟨s 37,b .eql .int (t 34) (t 36),s (32,true),[13,15,11]⟩,⟨s 38,k (t 32) (t 37) (l (.bool false)),s (26,false),[11,16,5]⟩,⟨s 39,k (t 26) (l (.bool true)) (t 38),n,[5,17]⟩])
(i (t 39) (q (r n [⟨s 2,m (l (.int .i64 180)),n,[]⟩])
.ret) .skip))))
(r n [⟨s 10,m (t 3),n,[]⟩,⟨s 11,b .add .int (t 10) (l (.int .i64 1)),n,[0]⟩,⟨s 3,m (t 11),n,[1,0,1]⟩]))))))
(q (r n [⟨s 2,m (l (.int .i64 0)),n,[]⟩])
.ret)))}
theorem c_edit_order : cFunc Tryz.prog n_edit_order = some f_edit_order := by kernel_rfl
def f_edit_Check_4 : SFunc := { ntmps := 7, results := [.tmp 2], body :=
(q (r n [⟨s 1,.box (t 0),n,[]⟩,⟨s 2,m (l (.bool false)),n,[]⟩])
(q (r n [⟨s 3,f 2 (t 1),n,[]⟩,⟨s 4,d n (t 3),n,[0]⟩,⟨s 5,c (l (.fn 89 [])) [(t 4)],n,[1]⟩,⟨s 6,.not (t 5),n,[2]⟩,⟨s 2,m (t 6),n,[3,2,0,1,2,3]⟩])
.ret))}
theorem c_edit_Check_4 : cFunc Tryz.prog n_edit_Check_4 = some f_edit_Check_4 := by kernel_rfl
def f_edit_long : SFunc := { ntmps := 50, results := [.tmp 4], body :=
(q (r n [⟨s 4,m (l (.int .i64 0)),n,[]⟩])
(q (r n [⟨s 10,m (t 0),n,[]⟩,⟨s 11,.lenS (t 10),n,[0]⟩,⟨s 12,b .sub .int (l (.int .i64 20000)) (t 11),n,[1]⟩,⟨s 5,m (t 12),n,[2,0,1,2]⟩])
(q (q (r n [⟨s 13,m (t 1),n,[]⟩,⟨s 14,g (t 13),n,[0]⟩,⟨s 15,m (l (.int .i64 0)),n,[]⟩])
(o 0 (.loop (q (r n [⟨s 16,b .lss .int (t 15) (t 14),n,[]⟩])
(q (i (t 16) .skip (.exit 0))
(q (o 1 (q (r n [⟨s 17,x 3 (t 13) (t 15),n,[]⟩,⟨s 18,d (s 3) (t 17),n,[0]⟩,⟨s 7,.alloc [(.int .i64 0),(.int .i64 0),(.str [])],n,[]⟩,⟨n,e 3 (t 7) (t 18),n,[2,1,0,1,2]⟩])
(r n [⟨s 19,m (t 5),n,[]⟩,⟨s 20,f 1 (t 7),n,[]⟩,⟨s 21,d n (t 20),n,[1]⟩,⟨s 22,f 0 (t 7),n,[]⟩,⟨s 23,d n (t 22),n,[3]⟩,⟨s 24,b .sub .int (t 21) (t 23),n,[2,4]⟩,⟨s 25,.maxs (t 24) [(l (.int .i64 0))],n,[5]⟩,⟨s 26,m (t 0),n,[]⟩,⟨s 27,.lenS (t 26),n,[7]⟩,⟨s 28,.mins (t 25) [(t 27)],n,[6,8]⟩,⟨s 29,b .add .int (t 19) (t 28),n,[0,9]⟩,⟨s 5,m (t 29),n,[10,0,1,2,3,4,5,6,7,8,9,10]⟩])))
(r n [⟨s 30,b .add .int (t 15) (l (.int .i64 1)),n,[]⟩,⟨s 15,m (t 30),n,[0]⟩])))))))
(q (q (r n [⟨s 31,m (t 1),n,[]⟩,⟨s 32,g (t 31),n,[0]⟩,⟨s 33,m (l (.int .i64 0)),n,[]⟩])
(o 2 (.loop (q (r n [⟨s 34,b .lss .int (t 33) (t 32),n,[]⟩])
(q (i (t 34) .skip (.exit 2))
(q (o 3 (q (r n [⟨s 35,x 3 (t 31) (t 33),n,[]⟩,⟨s 36,d (s 3) (t 35),n,[0]⟩,⟨s 9,.alloc [(.int .i64 0),(.int .i64 0),(.str [])],n,[]⟩,⟨n,e 3 (t 9) (t 36),n,[2,1,0,1,2]⟩])
(q (q (r n [⟨s 37,f 2 (t 9),n,[]⟩,⟨s 38,d n (t 37),n,[0]⟩,⟨s 39,.lenS (t 38),n,[1]⟩,⟨s 40,m (t 5),n,[]⟩,⟨s 41,b .gtr .int (t 39) (t 40),n,[2,3]⟩])
(i (t 41) (q (r n [⟨s 4,m (l (.int .i64 13)),n,[]⟩])
.ret) .skip))
(r n [⟨s 42,m (t 5),n,[]⟩,⟨s 43,f 2 (t 9),n,[]⟩,⟨s 44,d n (t 43),n,[1]⟩,⟨s 45,.lenS (t 44),n,[2]⟩,⟨s 46,b .sub .int (t 42) (t 45),n,[0,3]⟩,⟨s 5,m (t 46),n,[4,0,1,2,3,4]⟩]))))
(r n [⟨s 47,b .add .int (t 33) (l (.int .i64 1)),n,[]⟩,⟨s 33,m (t 47),n,[0]⟩])))))))
(q (q (r n [⟨s 48,m (t 5),n,[]⟩,⟨s 49,b .lss .int (t 48) (l (.int .i64 0)),n,[0]⟩])
(i (t 49) (q (r n [⟨s 4,m (l (.int .i64 13)),n,[]⟩])
.ret) .skip))
(q (r n [⟨s 4,m (l (.int .i64 0)),n,[]⟩])
.ret))))))}
theorem c_edit_long : cFunc Tryz.prog n_edit_long = some f_edit_long := by kernel_rfl
def f_rev_Revs_next : SFunc := { ntmps := 32, results := [.tmp 2, .tmp 3], body :=
(q (r n [⟨s 2,m (l .nilm),n,[]⟩,⟨s 3,m (l (.int .i64 0)),n,[0]⟩])
(q (q (r n [⟨s 5,m (t 0),n,[]⟩,⟨s 6,c (l (.fn 46 [])) [(t 5)],n,[0]⟩,⟨s 7,b .geq .int (t 6) (l (.int .i64 200)),n,[1]⟩])
(i (t 7) (q (r n [⟨s 2,m (l .nilm),n,[]⟩,⟨s 3,m (l (.int .i64 70)),n,[0,0]⟩])
.ret) .skip))
(q (r (s [0,1,3,7,0,16,48,112,240,496,1023,2047,4095,8191]) [⟨s 8,m (t 0),n,[]⟩,⟨s 9,z (t 8),n,[0]⟩,⟨s 10,f 0 (t 9),n,[1]⟩,⟨s 11,d n (t 10),n,[2]⟩,⟨s 12,m (t 0),n,[]⟩,⟨s 13,z (t 12),n,[4]⟩,⟨s 14,f 0 (t 13),n,[5]⟩,⟨s 15,d n (t 14),n,[6]⟩,⟨s 16,g (t 15),n,[7]⟩,⟨s 17,b .sub .int (t 16) (l (.int .i64 1)),n,[8]⟩,⟨s 18,x 1 (t 11) (t 17),n,[3,9]⟩,⟨s 19,d n (t 18),n,[10]⟩,⟨s 20,c (l (.fn 109 [])) [(t 19)],n,[11]⟩,⟨s 4,m (t 20),n,[12,12,0,1,2,3,4,5,6,7,8,9,10,11,12]⟩])
(q (r n [⟨s 21,m (t 0),n,[]⟩,⟨s 22,m (t 0),n,[]⟩,⟨s 23,z (t 22),n,[1]⟩,⟨s 24,f 0 (t 23),n,[2]⟩,⟨s 25,d n (t 24),n,[3]⟩,⟨s 26,m (t 4),n,[]⟩,⟨s 27,.bslc 1 [(.raw (.map n))] 1 [(0,1,(t 26))],n,[5]⟩,⟨s 28,.app 109 1 8 (t 25) (t 27),n,[4,6]⟩,⟨s 29,z (t 21),n,[0,0,1,2,3,4,5,6,7]⟩,⟨s 30,f 0 (t 29),n,[8,0,1,2,3,4,5,6,7]⟩,⟨n,e 1 (t 30) (t 28),n,[9,7,7,0,1,2,3,4,5,6,7]⟩])
(q (r n [⟨s 31,m (t 4),n,[]⟩,⟨s 2,m (t 31),n,[0,0]⟩,⟨s 3,m (l (.int .i64 0)),n,[1,0,1]⟩])
.ret)))))}
theorem c_rev_Revs_next : cFunc Tryz.prog n_rev_Revs_next = some f_rev_Revs_next := by kernel_rfl
def f_edit_Spots : SFunc := { ntmps := 45, results := [.tmp 10], body :=
(q (r n [⟨s 10,m (l .nils),n,[]⟩])
(q (q (r n [⟨s 15,m (t 0),n,[]⟩,⟨s 16,m (t 1),n,[]⟩,⟨s 17,m (t 2),n,[]⟩,⟨s 18,c (l (.fn 51 [])) [(t 15),(t 16),(t 17)],n,[0,1,2]⟩,⟨s 19,m (t 3),n,[]⟩,⟨s 20,c (l (.fn 57 [])) [(t 18),(t 19)],n,[3,4,3]⟩,⟨s 21,b .neq .int (t 20) (l (.int .i64 0)),n,[5]⟩])
(i (t 21) (q (r n [⟨s 10,m (l .nils),n,[]⟩])
.ret) .skip))
(q (r n [⟨s 22,m (t 0),n,[]⟩,⟨s 23,m (t 1),n,[]⟩,⟨s 24,m (t 2),n,[]⟩,⟨s 25,c (l (.fn 171 [])) [(t 22),(t 23),(t 24)],n,[0,1,2]⟩,⟨s 11,m (t 25),n,[3,3,0,1,2,3]⟩])
(q (r n [⟨s 12,m (l .nils),n,[]⟩])
(q (q (r n [⟨s 26,m (t 3),n,[]⟩,⟨s 27,g (t 26),n,[0]⟩,⟨s 28,m (l (.int .i64 0)),n,[]⟩])
(o 0 (.loop (q (r n [⟨s 29,b .lss .int (t 28) (t 27),n,[]⟩])
(q (i (t 29) .skip (.exit 0))
(q (o 1 (q (r n [⟨s 30,x 3 (t 26) (t 28),n,[]⟩,⟨s 31,d (s 3) (t 30),n,[0]⟩,⟨s 14,.alloc [(.int .i64 0),(.int .i64 0),(.str [])],n,[]⟩,⟨n,e 3 (t 14) (t 31),n,[2,1,0,1,2]⟩])
(r n [⟨s 32,m (t 12),n,[]⟩,⟨s 33,m (t 0),n,[]⟩,⟨s 34,m (t 11),n,[]⟩,⟨s 35,m (t 1),n,[]⟩,⟨s 36,m (t 2),n,[]⟩,⟨s 37,f 0 (t 14),n,[]⟩,⟨s 38,d n (t 37),n,[5]⟩,⟨s 39,m (t 4),n,[]⟩,⟨s 40,c (l (.fn 172 [])) [(t 33),(t 34),(t 35),(t 36),(t 38),(t 39)],n,[1,2,3,4,6,7]⟩,⟨s 41,.bslc 1 [(.int .i64 0)] 1 [(0,1,(t 40))],n,[8]⟩,⟨s 42,.app 3 1 8 (t 32) (t 41),n,[0,9,8]⟩,⟨s 12,m (t 42),n,[10,10,0,1,2,3,4,5,6,7,8,9,10]⟩])))
(r n [⟨s 43,b .add .int (t 28) (l (.int .i64 1)),n,[]⟩,⟨s 28,m (t 43),n,[0]⟩])))))))
(q (r n [⟨s 44,m (t 12),n,[]⟩,⟨s 10,m (t 44),n,[0,0]⟩])
.ret))))))}
theorem c_edit_Spots : cFunc Tryz.prog n_edit_Spots = some f_edit_Spots := by kernel_rfl
def f_edit_Cuts : SFunc := { ntmps := 67, results := [.tmp 8], body :=
(q (r n [⟨s 8,m (l .nils),n,[]⟩])
(q (q (r n [⟨s 15,m (t 0),n,[]⟩,⟨s 16,m (t 1),n,[]⟩,⟨s 17,m (t 2),n,[]⟩,⟨s 18,c (l (.fn 51 [])) [(t 15),(t 16),(t 17)],n,[0,1,2]⟩,⟨s 19,m (t 3),n,[]⟩,⟨s 20,c (l (.fn 57 [])) [(t 18),(t 19)],n,[3,4,3]⟩,⟨s 21,b .neq .int (t 20) (l (.int .i64 0)),n,[5]⟩])
(i (t 21) (q (r n [⟨s 8,m (l .nils),n,[]⟩])
.ret) .skip))
(q (r n [⟨s 22,m (t 0),n,[]⟩,⟨s 23,m (t 1),n,[]⟩,⟨s 24,m (t 2),n,[]⟩,⟨s 25,c (l (.fn 171 [])) [(t 22),(t 23),(t 24)],n,[0,1,2]⟩,⟨s 9,m (t 25),n,[3,3,0,1,2,3]⟩])
(q (r n [⟨s 10,m (l .nils),n,[]⟩])
(q .skip
(q (q (r n [⟨s 26,m (t 0),n,[]⟩,⟨s 27,g (t 26),n,[0]⟩,⟨s 28,m (l (.int .i64 0)),n,[]⟩])
(o 0 (.loop (q (r n [⟨s 29,b .lss .int (t 28) (t 27),n,[]⟩])
(q (i (t 29) .skip (.exit 0))
(q (o 1 (q (r n [⟨s 30,m (t 28),n,[]⟩,⟨s 31,x 5 (t 26) (t 28),n,[]⟩,⟨s 32,d (s 5) (t 31),n,[1]⟩,⟨s 12,.alloc [(.str []),(.int .i64 0),(.int .i64 0),(.int .i64 0),.nils],n,[]⟩,⟨s 11,m (t 30),n,[0,0,1,2,3]⟩,⟨n,e 5 (t 12) (t 32),n,[3,2,4,0,1,2,3,4]⟩])
(q (q (r n [⟨s 33,d (s 5) (t 12),n,[]⟩,⟨s 34,m (t 1),n,[]⟩,⟨s 35,m (t 2),n,[]⟩,⟨s 36,c (l (.fn 103 [])) [(t 33),(t 34),(t 35)],n,[0,1,2]⟩,⟨s 37,.not (t 36),n,[3]⟩])
(i (t 37) (.exit 1) .skip))
(q (r n [⟨s 38,m (t 3),n,[]⟩,⟨s 39,g (t 38),n,[0]⟩,⟨s 40,m (l (.int .i64 0)),n,[]⟩])
(o 2 (.loop (q (r n [⟨s 41,b .lss .int (t 40) (t 39),n,[]⟩])
(q (i (t 41) .skip (.exit 2))
(q (o 3 (q (r n [⟨s 42,x 3 (t 38) (t 40),n,[]⟩,⟨s 43,d (s 3) (t 42),n,[0]⟩,⟨s 14,.alloc [(.int .i64 0),(.int .i64 0),(.str [])],n,[]⟩,⟨n,e 3 (t 14) (t 43),n,[2,1,0,1,2]⟩])
(q (r (s [0,0,3,7,0,16,63,127,255,255,1023,2047,255,4351,16383,32767]) [⟨s 44,m (t 9),n,[]⟩,⟨s 45,m (t 11),n,[]⟩,⟨s 46,x 1 (t 44) (t 45),n,[0,1]⟩,⟨s 47,d n (t 46),n,[2]⟩,⟨s 48,f 0 (t 14),n,[]⟩,⟨s 49,d n (t 48),n,[4]⟩,⟨s 50,b .geq .int (t 47) (t 49),n,[3,5]⟩,⟨s 51,m (t 50),n,[6]⟩,⟨s 52,m (t 9),s (51,true),[7]⟩,⟨s 53,m (t 11),s (51,true),[7]⟩,⟨s 54,x 1 (t 52) (t 53),s (51,true),[8,9,7]⟩,⟨s 55,d n (t 54),s (51,true),[10,7]⟩,⟨s 56,f 1 (t 14),s (51,true),[7]⟩,⟨s 57,d n (t 56),s (51,true),[12,7]⟩,⟨s 58,b .lss .int (t 55) (t 57),s (51,true),[11,13,7]⟩,⟨s 59,k (t 51) (t 58) (l (.bool false)),n,[7,14]⟩])
(i (t 59) (q (r n [⟨s 60,m (t 10),n,[]⟩,⟨s 61,m (t 11),n,[]⟩,⟨s 62,.bslc 1 [(.int .i64 0)] 1 [(0,1,(t 61))],n,[1]⟩,⟨s 63,.app 3 1 8 (t 60) (t 62),n,[0,2]⟩,⟨s 10,m (t 63),n,[3,3,0,1,2,3]⟩])
(.exit 1)) .skip))))
(r n [⟨s 64,b .add .int (t 40) (l (.int .i64 1)),n,[]⟩,⟨s 40,m (t 64),n,[0]⟩]))))))))))
(r n [⟨s 65,b .add .int (t 28) (l (.int .i64 1)),n,[]⟩,⟨s 28,m (t 65),n,[0]⟩])))))))
(q (r n [⟨s 66,m (t 10),n,[]⟩,⟨s 8,m (t 66),n,[0,0]⟩])
.ret)))))))}
theorem c_edit_Cuts : cFunc Tryz.prog n_edit_Cuts = some f_edit_Cuts := by kernel_rfl
def f_atom_Put : SFunc := { ntmps := 46, results := [.tmp 12], body :=
(q (r n [⟨s 12,m (l .nils),n,[]⟩])
(q (r n [⟨s 16,m (t 1),n,[]⟩,⟨s 17,.maxs (t 16) [(l (.int .i64 0))],n,[0]⟩,⟨s 18,m (t 0),n,[]⟩,⟨s 19,g (t 18),n,[2]⟩,⟨s 20,.mins (t 17) [(t 19)],n,[1,3]⟩,⟨s 1,m (t 20),n,[4,0,1,2,3,4]⟩])
(q (r n [⟨s 21,m (t 0),n,[]⟩,⟨s 22,m (t 1),n,[]⟩,⟨s 23,.slc 5 (t 21) n (s (t 22)) n,n,[0,1]⟩,⟨s 24,c (l (.fn 55 [])) [(t 23)],n,[2]⟩,⟨s 13,m (t 24),n,[3,3,0,1,2,3]⟩])
(q (q (r n [⟨s 25,m (t 2),n,[]⟩,⟨s 26,c (l (.fn 53 [])) [(t 25)],n,[0]⟩,⟨s 27,.iter (t 26),n,[1]⟩])
(o 0 (.loop (q (r n [⟨s 28,.next (t 27),n,[]⟩,⟨s 29,.ext (t 28) 0,n,[0]⟩])
(q (i (t 29) .skip (.exit 0))
(o 1 (q (r n [⟨s 30,.ext (t 28) 2,n,[]⟩,⟨s 15,m (t 30),n,[0,0]⟩])
(r n [⟨s 31,m (t 13),n,[]⟩,⟨s 32,m (t 15),n,[]⟩,⟨s 33,.cstr (t 32),n,[1]⟩,⟨s 34,m (t 3),n,[]⟩,⟨s 35,m (t 4),n,[]⟩,⟨s 36,m (t 5),n,[]⟩,⟨s 37,.build [(.str []),(.int .i64 0),(.int .i64 0),(.int .i64 0),.nils] [(0,1,(t 33)),(1,1,(t 34)),(2,1,(t 35)),(3,1,(t 36))],n,[2,3,4,5]⟩,⟨s 38,.bslc 5 [(.str []),(.int .i64 0),(.int .i64 0),(.int .i64 0),.nils] 1 [(0,5,(t 37))],n,[6]⟩,⟨s 39,.app 166 5 64 (t 31) (t 38),n,[0,7]⟩,⟨s 13,m (t 39),n,[8,8,0,1,2,3,4,5,6,7,8]⟩]))))))))
(q (r n [⟨s 40,m (t 13),n,[]⟩,⟨s 41,m (t 0),n,[]⟩,⟨s 42,m (t 1),n,[]⟩,⟨s 43,.slc 5 (t 41) (s (t 42)) n n,n,[1,2]⟩,⟨s 44,c (l (.fn 55 [])) [(t 43)],n,[3]⟩,⟨s 45,.app 166 5 64 (t 40) (t 44),n,[0,4,4]⟩,⟨s 12,m (t 45),n,[5,5,0,1,2,3,4,5]⟩])
.ret)))))}
theorem c_atom_Put : cFunc Tryz.prog n_atom_Put = some f_atom_Put := by kernel_rfl
def f_rev_Revs_has : SFunc := { ntmps := 17, results := [.tmp 4], body :=
(q (r n [⟨s 4,m (l (.bool false)),n,[]⟩])
(q (r n [⟨s 8,m (t 0),n,[]⟩,⟨s 9,z (t 8),n,[0]⟩,⟨s 10,f 2 (t 9),n,[1]⟩,⟨s 11,d n (t 10),n,[2]⟩,⟨s 12,m (t 1),n,[]⟩,⟨s 13,.look (.agg []) true (t 11) (t 12),n,[3,4]⟩,⟨s 7,m (t 13),n,[5]⟩,⟨s 14,.ext (t 7) 0,n,[6]⟩,⟨s 15,.ext (t 7) 1,n,[6]⟩,⟨s 5,.alloc [],n,[]⟩,⟨n,e 0 (t 5) (t 14),n,[9,7,0,1,2,3,4,5,6,7,9]⟩,⟨s 6,m (t 15),n,[8,10,0,1,2,3,4,5,6,7,8,9,10]⟩])
(q (r n [⟨s 16,m (t 6),n,[]⟩,⟨s 4,m (t 16),n,[0,0]⟩])
.ret)))}
theorem c_rev_Revs_has : cFunc Tryz.prog n_rev_Revs_has = some f_rev_Revs_has := by kernel_rfl
def f_engine_Engine_Atoms : SFunc := { ntmps := 8, results := [.tmp 2], body :=
(q (r n [⟨s 2,m (l .nils),n,[]⟩])
(q (r n [⟨s 3,m (t 0),n,[]⟩,⟨s 4,z (t 3),n,[0]⟩,⟨s 5,f 0 (t 4),n,[1]⟩,⟨s 6,d n (t 5),n,[2]⟩,⟨s 7,c (l (.fn 55 [])) [(t 6)],n,[3]⟩,⟨s 2,m (t 7),n,[4,4,0,1,2,3,4]⟩])
.ret))}
theorem c_engine_Engine_Atoms : cFunc Tryz.prog n_engine_Engine_Atoms = some f_engine_Engine_Atoms := by kernel_rfl
def f_delta_IsCopy : SFunc := { ntmps := 6, results := [.tmp 2], body :=
(q (r n [⟨s 1,.box (t 0),n,[]⟩,⟨s 2,m (l (.bool false)),n,[]⟩])
(q (r n [⟨s 3,f 2 (t 1),n,[]⟩,⟨s 4,d n (t 3),n,[0]⟩,⟨s 5,b .eql .str (t 4) (l (.str [])),n,[1]⟩,⟨s 2,m (t 5),n,[2,0,1,2]⟩])
.ret))}
theorem c_delta_IsCopy : cFunc Tryz.prog n_delta_IsCopy = some f_delta_IsCopy := by kernel_rfl
def f_delta_elem : SFunc := { ntmps := 65, results := [.tmp 10], body :=
(q (r n [⟨s 5,.box (t 0),n,[]⟩,⟨s 10,m (l (.bool false)),n,[]⟩])
(q (q (r n [⟨s 12,d (s 3) (t 5),n,[]⟩,⟨s 13,c (l (.fn 123 [])) [(t 12)],n,[0]⟩])
(i (t 13) (q (r n [⟨s 14,f 0 (t 5),n,[]⟩,⟨s 15,d n (t 14),n,[0]⟩,⟨s 16,m (t 2),n,[]⟩,⟨s 17,b .geq .int (t 15) (t 16),n,[1,2]⟩,⟨s 18,m (t 17),n,[3]⟩,⟨s 19,f 0 (t 5),s (18,true),[4]⟩,⟨s 20,d n (t 19),s (18,true),[5,4]⟩,⟨s 21,m (t 2),s (18,true),[4]⟩,⟨s 22,b .gtr .int (t 20) (t 21),s (18,true),[6,7,4]⟩,⟨s 23,m (t 22),s (18,true),[8,4,4]⟩,⟨s 24,m (t 4),s (23,false),[9]⟩,⟨s 25,.not (t 24),s (23,false),[10,9]⟩,⟨s 26,k (t 23) (l (.bool true)) (t 25),s (18,true),[9,11,4]⟩,⟨s 27,k (t 18) (t 26) (l (.bool false)),n,[4,12]⟩,⟨s 28,m (t 27),n,[13,9]⟩,⟨s 29,f 0 (t 5),s (28,true),[14]⟩,⟨s 30,d n (t 29),s (28,true),[15,14]⟩,⟨s 31,f 1 (t 5),s (28,true),[14]⟩,⟨s 32,d n (t 31),s (28,true),[17,14]⟩,⟨s 33,b .lss .int (t 30) (t 32),s (28,true),[16,18,14]⟩,⟨s 34,k (t 28) (t 33) (l (.bool false)),n,[14,19]⟩,⟨s 35,m (t 34),n,[20,14]⟩,⟨s 36,f 1 (t 5),s (35,true),[21]⟩,⟨s 37,d n (t 36),s (35,true),[22,21]⟩,⟨s 38,m (t 1),s (35,true),[21]⟩,⟨s 39,b .leq .int (t 37) (t 38),s (35,true),[23,24,21]⟩,⟨s 40,k (t 35) (t 39) (l (.bool false)),n,[21,25]⟩,⟨s 10,m (t 40),n,[26,21,0,1,2,3,4,5,6,7,8,9,10,11,12,13,14,15,16,17,18,19,20,21,22,23,24,25,26]⟩])
.ret) .skip))
(q (r n [⟨s 41,f 2 (t 5),n,[]⟩,⟨s 42,d n (t 41),n,[0]⟩,⟨s 43,.build [(.int .i64 0),(.int .i64 0),(.str [])] [(2,1,(t 42))],n,[1]⟩,⟨s 11,.alloc [(.int .i64 0),(.int .i64 0),(.str [])],n,[]⟩,⟨n,e 3 (t 11) (t 43),n,[3,2,0,1,2,3]⟩])
(q (r n [⟨s 44,d (s 3) (t 5),n,[]⟩,⟨s 45,d (s 3) (t 11),n,[]⟩,⟨s 46,b .eql (.flat [.int,.int,.str]) (t 44) (t 45),n,[0,1]⟩,⟨s 47,m (t 46),n,[2]⟩,⟨s 48,m (t 3),s (47,true),[3]⟩,⟨s 49,.not (t 48),s (47,true),[4,3]⟩,⟨s 50,m (t 49),s (47,true),[5,3,3]⟩,⟨s 51,m (t 4),s (50,false),[6]⟩,⟨s 52,k (t 50) (l (.bool true)) (t 51),s (47,true),[6,7,3]⟩,⟨s 53,k (t 47) (t 52) (l (.bool false)),n,[3,8]⟩,⟨s 54,m (t 53),n,[9,6]⟩,⟨s 55,f 2 (t 5),s (54,true),[10]⟩,⟨s 56,d n (t 55),s (54,true),[11,10]⟩,⟨s 57,.lenS (t 56),s (54,true),[12,10]⟩,⟨s 58,b .leq .int (t 57) (l (.int .i64 20000)),s (54,true),[13,10]⟩,⟨s 59,k (t 54) (t 58) (l (.bool false)),n,[10,14]⟩,⟨s 60,m (t 59),n,[15,10]⟩,⟨s 61,f 2 (t 5),s (60,true),[16]⟩,⟨s 62,d n (t 61),s (60,true),[17,16]⟩,⟨s 63,c (l (.fn 89 [])) [(t 62)],s (60,true),[18,16,16]⟩,⟨s 64,k (t 60) (t 63) (l (.bool false)),n,[16,19]⟩,⟨s 10,m (t 64),n,[20,19,0,1,2,3,4,5,6,7,8,9,10,11,12,13,14,15,16,17,18,19,20]⟩])
.ret))))}
theorem c_delta_elem : cFunc Tryz.prog n_delta_elem = some f_delta_elem := by kernel_rfl
def f_slices_ContainsFunc_api_Region_api_Region : SFunc := { ntmps := 9, results := [.tmp 4], body :=
(q (r n [⟨s 4,m (l (.bool false)),n,[]⟩])
(q (r n [⟨s 5,m (t 0),n,[]⟩,⟨s 6,m (t 1),n,[]⟩,⟨s 7,c (l (.fn 173 [])) [(t 5),(t 6)],n,[0,1]⟩,⟨s 8,b .geq .int (t 7) (l (.int .i64 0)),n,[2]⟩,⟨s 4,m (t 8),n,[3,2,0,1,2,3]⟩])
.ret))}
theorem c_slices_ContainsFunc_api_Region_api_Region : cFunc Tryz.prog n_slices_ContainsFunc_api_Region_api_Region = some f_slices_ContainsFunc_api_Region_api_Region := by kernel_rfl
def f_region_every_api_Region_1 : SFunc := { ntmps := 8, results := [.tmp 3], body :=
(q (r n [⟨s 2,.box (t 0),n,[]⟩,⟨s 3,m (l (.bool false)),n,[]⟩])
(q (r n [⟨s 4,d n (t 1),n,[]⟩,⟨s 5,d (s 2) (t 2),n,[]⟩,⟨s 6,c (t 4) [(t 5)],n,[0,1]⟩,⟨s 7,.not (t 6),n,[2]⟩,⟨s 3,m (t 7),n,[3,2,0,1,2,3]⟩])
.ret))}
theorem c_region_every_api_Region_1 : cFunc Tryz.prog n_region_every_api_Region_1 = some f_region_every_api_Region_1 := by kernel_rfl
def f_slices_Clone_api_Region_api_Region : SFunc := { ntmps := 8, results := [.tmp 2], body :=
(q (r n [⟨s 2,m (l .nils),n,[]⟩])
(q (q (r n [⟨s 3,m (t 0),n,[]⟩,⟨s 4,b .eql .slc (t 3) (l .nils),n,[0]⟩])
(i (t 4) (q (r n [⟨s 2,m (l .nils),n,[]⟩])
.ret) .skip))
(q (r n [⟨s 5,.bslc 2 [(.int .i64 0),(.int .i64 0)] 0 [],n,[]⟩,⟨s 6,m (t 0),n,[]⟩,⟨s 7,.app 36 2 16 (t 5) (t 6),n,[0,1]⟩,⟨s 2,m (t 7),n,[2,2,0,1,2]⟩])
.ret)))}
theorem c_slices_Clone_api_Region_api_Region : cFunc Tryz.prog n_slices_Clone_api_Region_api_Region = some f_slices_Clone_api_Region_api_Region := by kernel_rfl
def f_slices_SortStableFunc_api_Region_api_Region : SFunc := { ntmps := 9, results := [], body :=
(r n [⟨s 4,m (t 0),n,[]⟩,⟨s 5,m (t 0),n,[]⟩,⟨s 6,g (t 5),n,[1]⟩,⟨s 7,m (t 1),n,[]⟩,⟨s 8,c (l (.fn 174 [])) [(t 4),(t 6),(t 7)],n,[0,2,3]⟩])}
theorem c_slices_SortStableFunc_api_Region_api_Region : cFunc Tryz.prog n_slices_SortStableFunc_api_Region_api_Region = some f_slices_SortStableFunc_api_Region_api_Region := by kernel_rfl
def f_interval_Folded_api_Region : SFunc := { ntmps := 47, results := [.tmp 6], body :=
(q (r n [⟨s 6,m (l .nils),n,[]⟩])
(q (r n [⟨s 7,m (l .nils),n,[]⟩])
(q (q (r n [⟨s 11,m (t 0),n,[]⟩,⟨s 12,g (t 11),n,[0]⟩,⟨s 13,m (l (.int .i64 0)),n,[]⟩])
(o 0 (.loop (q (r n [⟨s 14,b .lss .int (t 13) (t 12),n,[]⟩])
(q (i (t 14) .skip (.exit 0))
(q (o 1 (q (r n [⟨s 15,x 2 (t 11) (t 13),n,[]⟩,⟨s 16,d (s 2) (t 15),n,[0]⟩,⟨s 9,.alloc [(.int .i64 0),(.int .i64 0)],n,[]⟩,⟨n,e 2 (t 9) (t 16),n,[2,1,0,1,2]⟩])
(q (q (r n [⟨s 17,m (t 7),n,[]⟩,⟨s 18,g (t 17),n,[0]⟩,⟨s 19,b .sub .int (t 18) (l (.int .i64 1)),n,[1]⟩,⟨s 10,m (t 19),n,[2,0,1,2]⟩])
(q (r (s [0,1,3,7,7,7,55,119,7,511,1023]) [⟨s 20,m (t 10),n,[]⟩,⟨s 21,b .geq .int (t 20) (l (.int .i64 0)),n,[0]⟩,⟨s 22,m (t 21),n,[1]⟩,⟨s 23,m (t 1),s (22,true),[2]⟩,⟨s 24,m (t 7),s (22,true),[2]⟩,⟨s 25,m (t 10),s (22,true),[2]⟩,⟨s 26,x 2 (t 24) (t 25),s (22,true),[4,5,2]⟩,⟨s 27,d (s 2) (t 26),s (22,true),[6,2]⟩,⟨s 28,d (s 2) (t 9),s (22,true),[2]⟩,⟨s 29,c (t 23) [(t 27),(t 28)],s (22,true),[3,7,8,2,2]⟩,⟨s 30,k (t 22) (t 29) (l (.bool false)),n,[2,9]⟩])
(i (t 30) (q (r (s [0,0,0,0,0,24,56,0,252,511,1023]) [⟨s 31,m (t 7),n,[]⟩,⟨s 32,m (t 10),n,[]⟩,⟨s 33,m (t 2),n,[]⟩,⟨s 34,m (t 7),n,[]⟩,⟨s 35,m (t 10),n,[]⟩,⟨s 36,x 2 (t 34) (t 35),n,[3,4]⟩,⟨s 37,d (s 2) (t 36),n,[5]⟩,⟨s 38,d (s 2) (t 9),n,[]⟩,⟨s 39,c (t 33) [(t 37),(t 38)],n,[2,6,7]⟩,⟨s 40,x 2 (t 31) (t 32),n,[0,1,0,1,2,3,4,5,6,7,8]⟩,⟨n,e 2 (t 40) (t 39),n,[9,8,8,0,1,2,3,4,5,6,7,8]⟩])
(.exit 1)) .skip)))
(r n [⟨s 41,m (t 7),n,[]⟩,⟨s 42,d (s 2) (t 9),n,[]⟩,⟨s 43,.bslc 2 [(.int .i64 0),(.int .i64 0)] 1 [(0,2,(t 42))],n,[1]⟩,⟨s 44,.app 36 2 16 (t 41) (t 43),n,[0,2]⟩,⟨s 7,m (t 44),n,[3,3,0,1,2,3]⟩]))))
(r n [⟨s 45,b .add .int (t 13) (l (.int .i64 1)),n,[]⟩,⟨s 13,m (t 45),n,[0]⟩])))))))
(q (r n [⟨s 46,m (t 7),n,[]⟩,⟨s 6,m (t 46),n,[0,0]⟩])
.ret))))}
theorem c_interval_Folded_api_Region : cFunc Tryz.prog n_interval_Folded_api_Region = some f_interval_Folded_api_Region := by kernel_rfl
def f_spans_row_int_sorted : SFunc := { ntmps := 52, results := [.tmp 2], body :=
(q (r n [⟨s 2,m (l .nils),n,[]⟩])
(q (r n [⟨s 7,m (t 0),n,[]⟩,⟨s 8,c (l (.fn 177 [])) [(t 7),(l (.fn 178 []))],n,[0]⟩])
(q (r n [⟨s 3,m (l .nils),n,[]⟩])
(q (q (r n [⟨s 9,m (t 0),n,[]⟩,⟨s 10,g (t 9),n,[0]⟩,⟨s 11,m (l (.int .i64 0)),n,[]⟩])
(o 0 (.loop (q (r n [⟨s 12,b .lss .int (t 11) (t 10),n,[]⟩])
(q (i (t 12) .skip (.exit 0))
(q (o 1 (q (r n [⟨s 13,x 3 (t 9) (t 11),n,[]⟩,⟨s 14,d (s 3) (t 13),n,[0]⟩,⟨s 5,.alloc [(.int .i64 0),(.int .i64 0),(.int .i64 0)],n,[]⟩,⟨n,e 3 (t 5) (t 14),n,[2,1,0,1,2]⟩])
(q (q (r n [⟨s 15,m (t 3),n,[]⟩,⟨s 16,g (t 15),n,[0]⟩,⟨s 17,b .sub .int (t 16) (l (.int .i64 1)),n,[1]⟩,⟨s 6,m (t 17),n,[2,0,1,2]⟩])
(q (r (s [0,1,3,7,7,31,63,127,7,263,1023,2047,4095,8191,8191,32767,65535,131071,8191,270335,1048575,2097151]) [⟨s 18,m (t 6),n,[]⟩,⟨s 19,b .geq .int (t 18) (l (.int .i64 0)),n,[0]⟩,⟨s 20,m (t 19),n,[1]⟩,⟨s 21,m (t 3),s (20,true),[2]⟩,⟨s 22,m (t 6),s (20,true),[2]⟩,⟨s 23,x 3 (t 21) (t 22),s (20,true),[3,4,2]⟩,⟨s 24,f 2 (t 23),s (20,true),[5,2]⟩,⟨s 25,d n (t 24),s (20,true),[6,2]⟩,⟨s 26,f 2 (t 5),s (20,true),[2]⟩,⟨s 27,d n (t 26),s (20,true),[8,2]⟩,⟨s 28,b .eql .int (t 25) (t 27),s (20,true),[7,9,2]⟩,⟨s 29,k (t 20) (t 28) (l (.bool false)),n,[2,10]⟩,⟨s 30,m (t 29),n,[11,2]⟩,⟨s 31,m (t 3),s (30,true),[12]⟩,⟨s 32,m (t 6),s (30,true),[12]⟩,⟨s 33,x 3 (t 31) (t 32),s (30,true),[13,14,12]⟩,⟨s 34,f 1 (t 33),s (30,true),[15,12]⟩,⟨s 35,d n (t 34),s (30,true),[16,12]⟩,⟨s 36,f 0 (t 5),s (30,true),[12]⟩,⟨s 37,d n (t 36),s (30,true),[18,12]⟩,⟨s 38,b .eql .int (t 35) (t 37),s (30,true),[17,19,12]⟩,⟨s 39,k (t 30) (t 38) (l (.bool false)),n,[12,20]⟩])
(i (t 39) (q (r n [⟨s 40,m (t 3),n,[]⟩,⟨s 41,m (t 6),n,[]⟩,⟨s 42,f 1 (t 5),n,[]⟩,⟨s 43,d n (t 42),n,[2]⟩,⟨s 44,x 3 (t 40) (t 41),n,[0,1,0,1,2,3]⟩,⟨s 45,f 1 (t 44),n,[4,0,1,2,3]⟩,⟨n,e 1 (t 45) (t 43),n,[5,3,0,1,2,3]⟩])
(.exit 1)) .skip)))
(r n [⟨s 46,m (t 3),n,[]⟩,⟨s 47,d (s 3) (t 5),n,[]⟩,⟨s 48,.bslc 3 [(.int .i64 0),(.int .i64 0),(.int .i64 0)] 1 [(0,3,(t 47))],n,[1]⟩,⟨s 49,.app 203 3 24 (t 46) (t 48),n,[0,2]⟩,⟨s 3,m (t 49),n,[3,3,0,1,2,3]⟩]))))
(r n [⟨s 50,b .add .int (t 11) (l (.int .i64 1)),n,[]⟩,⟨s 11,m (t 50),n,[0]⟩])))))))
(q (r n [⟨s 51,m (t 3),n,[]⟩,⟨s 2,m (t 51),n,[0,0]⟩])
.ret)))))}
theorem c_spans_row_int_sorted : cFunc Tryz.prog n_spans_row_int_sorted = some f_spans_row_int_sorted := by kernel_rfl
def f_delta_sums : SFunc := { ntmps := 33, results := [.tmp 2, .tmp 3], body :=
(q (r n [⟨s 1,.box (t 0),n,[]⟩,⟨s 2,m (l (.int .i64 0)),n,[]⟩,⟨s 3,m (l (.int .i64 0)),n,[1]⟩])
(q (r n [⟨s 4,m (l (.int .i64 0)),n,[]⟩,⟨s 5,m (l (.int .i64 0)),n,[0,0]⟩])
(q (q (r n [⟨s 8,d (s 2) (t 1),n,[]⟩,⟨s 9,c (l (.fn 71 [])) [(t 8)],n,[0]⟩,⟨s 10,.not (t 9),n,[1]⟩])
(i (t 10) (q (r n [⟨s 2,m (l (.int .i64 0)),n,[]⟩,⟨s 3,m (l (.int .i64 0)),n,[0,0]⟩])
.ret) .skip))
(q (q (r n [⟨s 11,f 1 (t 1),n,[]⟩,⟨s 12,d n (t 11),n,[0]⟩,⟨s 13,g (t 12),n,[1]⟩,⟨s 14,m (l (.int .i64 0)),n,[]⟩])
(o 0 (.loop (q (r n [⟨s 15,b .lss .int (t 14) (t 13),n,[]⟩])
(q (i (t 15) .skip (.exit 0))
(q (o 1 (q (r n [⟨s 16,x 3 (t 12) (t 14),n,[]⟩,⟨s 17,d (s 3) (t 16),n,[0]⟩,⟨s 7,.alloc [(.int .i64 0),(.int .i64 0),(.str [])],n,[]⟩,⟨n,e 3 (t 7) (t 17),n,[2,1,0,1,2]⟩])
(q (r n [⟨s 18,m (t 4),n,[]⟩,⟨s 19,f 1 (t 7),n,[]⟩,⟨s 20,d n (t 19),n,[1]⟩,⟨s 21,f 0 (t 7),n,[]⟩,⟨s 22,d n (t 21),n,[3]⟩,⟨s 23,b .sub .int (t 20) (t 22),n,[2,4]⟩,⟨s 24,b .add .int (t 18) (t 23),n,[0,5]⟩,⟨s 4,m (t 24),n,[6,0,1,2,3,4,5,6]⟩])
(r n [⟨s 25,m (t 5),n,[]⟩,⟨s 26,f 2 (t 7),n,[]⟩,⟨s 27,d n (t 26),n,[1]⟩,⟨s 28,.lenS (t 27),n,[2]⟩,⟨s 29,b .add .int (t 25) (t 28),n,[0,3]⟩,⟨s 5,m (t 29),n,[4,0,1,2,3,4]⟩]))))
(r n [⟨s 30,b .add .int (t 14) (l (.int .i64 1)),n,[]⟩,⟨s 14,m (t 30),n,[0]⟩])))))))
(q (r n [⟨s 31,m (t 4),n,[]⟩,⟨s 32,m (t 5),n,[]⟩,⟨s 2,m (t 31),n,[0,0]⟩,⟨s 3,m (t 32),n,[1,2,0,1,2]⟩])
.ret)))))}
theorem c_delta_sums : cFunc Tryz.prog n_delta_sums = some f_delta_sums := by kernel_rfl
def f_slices_Contains_int_int : SFunc := { ntmps := 9, results := [.tmp 4], body :=
(q (r n [⟨s 4,m (l (.bool false)),n,[]⟩])
(q (r n [⟨s 5,m (t 0),n,[]⟩,⟨s 6,m (t 1),n,[]⟩,⟨s 7,c (l (.fn 179 [])) [(t 5),(t 6)],n,[0,1]⟩,⟨s 8,b .geq .int (t 7) (l (.int .i64 0)),n,[2]⟩,⟨s 4,m (t 8),n,[3,2,0,1,2,3]⟩])
.ret))}
theorem c_slices_Contains_int_int : cFunc Tryz.prog n_slices_Contains_int_int = some f_slices_Contains_int_int := by kernel_rfl
def f_slices_ContainsFunc_api_Cut_api_Cut : SFunc := { ntmps := 9, results := [.tmp 4], body :=
(q (r n [⟨s 4,m (l (.bool false)),n,[]⟩])
(q (r n [⟨s 5,m (t 0),n,[]⟩,⟨s 6,m (t 1),n,[]⟩,⟨s 7,c (l (.fn 180 [])) [(t 5),(t 6)],n,[0,1]⟩,⟨s 8,b .geq .int (t 7) (l (.int .i64 0)),n,[2]⟩,⟨s 4,m (t 8),n,[3,2,0,1,2,3]⟩])
.ret))}
theorem c_slices_ContainsFunc_api_Cut_api_Cut : cFunc Tryz.prog n_slices_ContainsFunc_api_Cut_api_Cut = some f_slices_ContainsFunc_api_Cut_api_Cut := by kernel_rfl
def f_region_inside_1 : SFunc := { ntmps := 9, results := [.tmp 3], body :=
(q (r n [⟨s 2,.box (t 0),n,[]⟩,⟨s 3,m (l (.bool false)),n,[]⟩])
(q (r (s [0,1,0,4,15,31]) [⟨s 4,d (s 2) (t 2),n,[]⟩,⟨s 5,c (l (.fn 62 [])) [(t 4)],n,[0]⟩,⟨s 6,d n (t 1),n,[]⟩,⟨s 7,.lenS (t 6),n,[2]⟩,⟨s 8,c (l (.fn 74 [])) [(t 5),(t 7)],n,[1,3,1]⟩,⟨s 3,m (t 8),n,[4,4,0,1,2,3,4]⟩])
.ret))}
theorem c_region_inside_1 : cFunc Tryz.prog n_region_inside_1 = some f_region_inside_1 := by kernel_rfl
def f_region_edges_1 : SFunc := { ntmps := 14, results := [.tmp 3], body :=
(q (r n [⟨s 2,.box (t 0),n,[]⟩,⟨s 3,m (l (.bool false)),n,[]⟩])
(q (r n [⟨s 4,d n (t 1),n,[]⟩,⟨s 5,f 0 (t 2),n,[]⟩,⟨s 6,d n (t 5),n,[1]⟩,⟨s 7,c (l (.fn 40 [])) [(t 4),(t 6)],n,[0,2]⟩,⟨s 8,m (t 7),n,[3,3]⟩,⟨s 9,d n (t 1),s (8,true),[4]⟩,⟨s 10,f 1 (t 2),s (8,true),[4]⟩,⟨s 11,d n (t 10),s (8,true),[6,4]⟩,⟨s 12,c (l (.fn 40 [])) [(t 9),(t 11)],s (8,true),[5,7,4,4]⟩,⟨s 13,k (t 8) (t 12) (l (.bool false)),n,[4,8]⟩,⟨s 3,m (t 13),n,[9,8,0,1,2,3,4,5,6,7,8,9]⟩])
.ret))}
theorem c_region_edges_1 : cFunc Tryz.prog n_region_edges_1 = some f_region_edges_1 := by kernel_rfl
def f_utf_Size : SFunc := { ntmps := 14, results := [.tmp 4], body :=
(q (r n [⟨s 4,m (l (.int .i64 0)),n,[]⟩])
(q (r n [⟨s 8,m (t 0),n,[]⟩,⟨s 9,m (t 1),n,[]⟩,⟨s 10,c (l (.fn 165 [])) [(t 8),(t 9)],n,[0,1]⟩,⟨s 7,m (t 10),n,[2]⟩,⟨s 11,.ext (t 7) 0,n,[3]⟩,⟨s 12,.ext (t 7) 1,n,[3]⟩,⟨s 5,m (t 11),n,[4,2,0,1,2,3,4]⟩,⟨s 6,m (t 12),n,[5,6,0,1,2,3,4,5,6]⟩])
(q (r n [⟨s 13,m (t 6),n,[]⟩,⟨s 4,m (t 13),n,[0,0]⟩])
.ret)))}
theorem c_utf_Size : cFunc Tryz.prog n_utf_Size = some f_utf_Size := by kernel_rfl
def f_rope_Rope_Counts : SFunc := { ntmps := 8, results := [.cell 2 (some 4)], body :=
(q (r n [⟨s 2,.alloc [(.int .i64 0),(.int .i64 0),(.int .i64 0),(.int .i64 0)],n,[]⟩])
(q (r n [⟨s 3,m (t 0),n,[]⟩,⟨s 4,z (t 3),n,[0]⟩,⟨s 5,f 0 (t 4),n,[1]⟩,⟨s 6,d (s 1) (t 5),n,[2]⟩,⟨s 7,c (l (.fn 182 [])) [(t 6)],n,[3]⟩,⟨n,e 4 (t 2) (t 7),n,[4,4,0,1,2,3,4]⟩])
.ret))}
theorem c_rope_Rope_Counts : cFunc Tryz.prog n_rope_Rope_Counts = some f_rope_Rope_Counts := by kernel_rfl
def f_tree_Seq_rope_piece_rope_counts_Seek : SFunc := { ntmps := 95, results := [.tmp 4, .cell 5 (some 4)], body :=
(q (r n [⟨s 2,.box (t 0),n,[]⟩,⟨s 4,m (l (.int .i64 0)),n,[]⟩,⟨s 5,.alloc [(.int .i64 0),(.int .i64 0),(.int .i64 0),(.int .i64 0)],n,[]⟩])
(q (r n [⟨s 6,.alloc [(.int .i64 0),(.int .i64 0),(.int .i64 0),(.int .i64 0)],n,[]⟩])
(q (q (r n [⟨s 14,f 0 (t 2),n,[]⟩,⟨s 15,d n (t 14),n,[0]⟩,⟨s 16,b .eql .ptr (t 15) (l .nilp),n,[1]⟩,⟨s 17,m (t 16),n,[2]⟩,⟨s 18,m (t 1),s (17,false),[3]⟩,⟨s 19,f 0 (t 2),s (17,false),[3]⟩,⟨s 20,d n (t 19),s (17,false),[5,3]⟩,⟨s 21,z (t 20),s (17,false),[6,3]⟩,⟨s 22,f 4 (t 21),s (17,false),[7,3]⟩,⟨s 23,d (s 4) (t 22),s (17,false),[8,3]⟩,⟨s 24,c (t 18) [(t 23)],s (17,false),[4,9,3,3]⟩,⟨s 25,.not (t 24),s (17,false),[10,3]⟩,⟨s 26,k (t 17) (l (.bool true)) (t 25),n,[3,11]⟩])
(i (t 26) (q (r (s [0,1,0,7,15,31]) [⟨s 27,d (s 1) (t 2),n,[]⟩,⟨s 28,c (l (.fn 93 [])) [(t 27)],n,[0]⟩,⟨s 29,d (s 1) (t 2),n,[]⟩,⟨s 30,c (l (.fn 182 [])) [(t 29)],n,[2,1]⟩,⟨s 4,m (t 28),n,[1,3,0,1]⟩,⟨n,e 4 (t 5) (t 30),n,[3,4,0,1,2,3,4]⟩])
.ret) .skip))
(q (r n [⟨s 31,f 0 (t 2),n,[]⟩,⟨s 32,d n (t 31),n,[0]⟩,⟨s 7,m (t 32),n,[1,0,1]⟩,⟨s 8,m (l (.int .i64 0)),n,[2,0,1,2]⟩])
(q .skip
(q (o 0 (.loop (q (q (r n [⟨s 33,m (t 7),n,[]⟩,⟨s 34,z (t 33),n,[0]⟩,⟨s 35,f 3 (t 34),n,[1]⟩,⟨s 36,d n (t 35),n,[2]⟩,⟨s 37,b .gtr .int (t 36) (l (.int .i64 1)),n,[3]⟩])
(i (t 37) .skip (.exit 0)))
(o 1 (q (r n [⟨s 38,m (t 7),n,[]⟩,⟨s 39,z (t 38),n,[0]⟩,⟨s 40,f 0 (t 39),n,[1]⟩,⟨s 41,d n (t 40),n,[2]⟩,⟨s 42,g (t 41),n,[3]⟩,⟨s 43,m (l (.int .i64 0)),n,[]⟩])
(o 2 (.loop (q (r n [⟨s 44,b .lss .int (t 43) (t 42),n,[]⟩])
(q (i (t 44) .skip (.exit 2))
(q (o 3 (q (r n [⟨s 45,x 1 (t 41) (t 43),n,[]⟩,⟨s 46,d n (t 45),n,[0]⟩,⟨s 10,m (t 46),n,[1,0,1]⟩])
(q (q (r (s [0,0,2,0,8,24,56,126,255]) [⟨s 47,m (t 1),n,[]⟩,⟨s 48,d (s 4) (t 6),n,[]⟩,⟨s 49,.mkif 101 (t 48),n,[1]⟩,⟨s 50,m (t 10),n,[]⟩,⟨s 51,z (t 50),n,[3]⟩,⟨s 52,f 4 (t 51),n,[4]⟩,⟨s 53,d (s 4) (t 52),n,[5]⟩,⟨s 54,c (.meth [(101,243)] 49 [53]) [],n,[2,6]⟩,⟨s 55,c (t 47) [(t 54)],n,[0,7,7]⟩])
(i (t 55) (q (r n [⟨s 56,m (t 10),n,[]⟩,⟨s 7,m (t 56),n,[0,0]⟩])
(.exit 1)) .skip))
(q (r (s [0,1,0,4,12,28,63,127]) [⟨s 57,d (s 4) (t 6),n,[]⟩,⟨s 58,.mkif 101 (t 57),n,[0]⟩,⟨s 59,m (t 10),n,[]⟩,⟨s 60,z (t 59),n,[2]⟩,⟨s 61,f 4 (t 60),n,[3]⟩,⟨s 62,d (s 4) (t 61),n,[4]⟩,⟨s 63,c (.meth [(101,243)] 58 [62]) [],n,[1,5]⟩,⟨n,e 4 (t 6) (t 63),n,[6,6,0,1,2,3,4,5,6]⟩])
(r n [⟨s 64,m (t 8),n,[]⟩,⟨s 65,m (t 10),n,[]⟩,⟨s 66,z (t 65),n,[1]⟩,⟨s 67,f 2 (t 66),n,[2]⟩,⟨s 68,d n (t 67),n,[3]⟩,⟨s 69,b .add .int (t 64) (t 68),n,[0,4]⟩,⟨s 8,m (t 69),n,[5,0,1,2,3,4,5]⟩])))))
(r n [⟨s 70,b .add .int (t 43) (l (.int .i64 1)),n,[]⟩,⟨s 43,m (t 70),n,[0]⟩])))))))))))
(q (q (r n [⟨s 71,m (t 7),n,[]⟩,⟨s 72,z (t 71),n,[0]⟩,⟨s 73,f 1 (t 72),n,[1]⟩,⟨s 74,d n (t 73),n,[2]⟩,⟨s 75,g (t 74),n,[3]⟩,⟨s 76,m (l (.int .i64 0)),n,[]⟩])
(o 4 (.loop (q (r n [⟨s 77,b .lss .int (t 76) (t 75),n,[]⟩])
(q (i (t 77) .skip (.exit 4))
(q (o 5 (q (r n [⟨s 78,x 1 (t 74) (t 76),n,[]⟩,⟨s 79,d n (t 78),n,[0]⟩,⟨s 12,m (t 79),n,[1,0,1]⟩])
(q (.regA [0,1,0,4,12,31,0,127] [⟨s 80,d (s 4) (t 6),n,[]⟩,⟨s 81,.mkif 101 (t 80),n,[0]⟩,⟨s 82,m (t 12),n,[]⟩,⟨s 83,.mkif 99 (t 82),n,[2]⟩,⟨s 84,c (.meth [(95,182),(99,242)] 83 []) [],n,[3]⟩,⟨s 85,c (.meth [(101,243)] 81 [84]) [],n,[1,4,4]⟩,⟨s 13,.lay 0 [(.int .i64 0),(.int .i64 0),(.int .i64 0),(.int .i64 0)],n,[]⟩,⟨n,e 4 (t 13) (t 85),n,[6,5,5,0,1,2,3,4,5,6]⟩])
(q (q (r n [⟨s 86,m (t 1),n,[]⟩,⟨s 87,d (s 4) (t 13),n,[]⟩,⟨s 88,c (t 86) [(t 87)],n,[0,1]⟩])
(i (t 88) (.exit 4) .skip))
(q (r n [⟨s 89,d (s 4) (t 13),n,[]⟩,⟨n,e 4 (t 6) (t 89),n,[0,0]⟩])
(r n [⟨s 90,m (t 8),n,[]⟩,⟨s 91,b .add .int (t 90) (l (.int .i64 1)),n,[0]⟩,⟨s 8,m (t 91),n,[1,0,1]⟩]))))))
(r n [⟨s 92,b .add .int (t 76) (l (.int .i64 1)),n,[]⟩,⟨s 76,m (t 92),n,[0]⟩])))))))
(q (r (s [0,0,1,7]) [⟨s 93,m (t 8),n,[]⟩,⟨s 94,d (s 4) (t 6),n,[]⟩,⟨s 4,m (t 93),n,[0,0]⟩,⟨n,e 4 (t 5) (t 94),n,[1,2,0,1,2]⟩])
.ret))))))))}
theorem c_tree_Seq_rope_piece_rope_counts_Seek : cFunc Tryz.prog n_tree_Seq_rope_piece_rope_counts_Seek = some f_tree_Seq_rope_piece_rope_counts_Seek := by kernel_rfl
def f_rope_Rope_Upto_1 : SFunc := { ntmps := 10, results := [.tmp 4], body :=
(q (r n [⟨s 3,.box (t 0),n,[]⟩,⟨s 4,m (l (.bool false)),n,[]⟩])
(q (r (s [0,0,3,0,15,31]) [⟨s 5,d (s 4) (t 3),n,[]⟩,⟨s 6,d n (t 1),n,[]⟩,⟨s 7,c (l (.fn 99 [])) [(t 5),(t 6)],n,[0,1]⟩,⟨s 8,d n (t 2),n,[]⟩,⟨s 9,b .geq .int (t 7) (t 8),n,[2,3]⟩,⟨s 4,m (t 9),n,[4,2,0,1,2,3,4]⟩])
.ret))}
theorem c_rope_Rope_Upto_1 : cFunc Tryz.prog n_rope_Rope_Upto_1 = some f_rope_Rope_Upto_1 := by kernel_rfl
def f_tree_Seq_rope_piece_rope_counts_At : SFunc := { ntmps := 45, results := [.tmp 4], body :=
(q (r n [⟨s 2,.box (t 0),n,[]⟩,⟨s 4,m (l (.str [])),n,[]⟩])
(q (r n [⟨s 8,f 0 (t 2),n,[]⟩,⟨s 9,d n (t 8),n,[0]⟩,⟨s 5,m (t 9),n,[1,0,1]⟩])
(q .skip
(q (o 0 (.loop (q (q (r n [⟨s 10,m (t 5),n,[]⟩,⟨s 11,z (t 10),n,[0]⟩,⟨s 12,f 3 (t 11),n,[1]⟩,⟨s 13,d n (t 12),n,[2]⟩,⟨s 14,b .gtr .int (t 13) (l (.int .i64 1)),n,[3]⟩])
(i (t 14) .skip (.exit 0)))
(o 1 (q (r n [⟨s 15,m (t 5),n,[]⟩,⟨s 16,z (t 15),n,[0]⟩,⟨s 17,f 0 (t 16),n,[1]⟩,⟨s 18,d n (t 17),n,[2]⟩,⟨s 19,g (t 18),n,[3]⟩,⟨s 20,m (l (.int .i64 0)),n,[]⟩])
(o 2 (.loop (q (r n [⟨s 21,b .lss .int (t 20) (t 19),n,[]⟩])
(q (i (t 21) .skip (.exit 2))
(q (o 3 (q (r n [⟨s 22,x 1 (t 18) (t 20),n,[]⟩,⟨s 23,d n (t 22),n,[0]⟩,⟨s 7,m (t 23),n,[1,0,1]⟩])
(q (q (r n [⟨s 24,m (t 1),n,[]⟩,⟨s 25,m (t 7),n,[]⟩,⟨s 26,z (t 25),n,[1]⟩,⟨s 27,f 2 (t 26),n,[2]⟩,⟨s 28,d n (t 27),n,[3]⟩,⟨s 29,b .lss .int (t 24) (t 28),n,[0,4]⟩])
(i (t 29) (q (r n [⟨s 30,m (t 7),n,[]⟩,⟨s 5,m (t 30),n,[0,0]⟩])
(.exit 1)) .skip))
(r n [⟨s 31,m (t 1),n,[]⟩,⟨s 32,m (t 7),n,[]⟩,⟨s 33,z (t 32),n,[1]⟩,⟨s 34,f 2 (t 33),n,[2]⟩,⟨s 35,d n (t 34),n,[3]⟩,⟨s 36,b .sub .int (t 31) (t 35),n,[0,4]⟩,⟨s 1,m (t 36),n,[5,0,1,2,3,4,5]⟩]))))
(r n [⟨s 37,b .add .int (t 20) (l (.int .i64 1)),n,[]⟩,⟨s 20,m (t 37),n,[0]⟩])))))))))))
(q (r n [⟨s 38,m (t 5),n,[]⟩,⟨s 39,z (t 38),n,[0]⟩,⟨s 40,f 1 (t 39),n,[1]⟩,⟨s 41,d n (t 40),n,[2]⟩,⟨s 42,m (t 1),n,[]⟩,⟨s 43,x 1 (t 41) (t 42),n,[3,4]⟩,⟨s 44,d n (t 43),n,[5]⟩,⟨s 4,m (t 44),n,[6,0,1,2,3,4,5,6]⟩])
.ret)))))}
theorem c_tree_Seq_rope_piece_rope_counts_At : cFunc Tryz.prog n_tree_Seq_rope_piece_rope_counts_At = some f_tree_Seq_rope_piece_rope_counts_At := by kernel_rfl
def f_count_Of : SFunc := { ntmps := 17, results := [.cell 2 (some 4)], body :=
(q (r n [⟨s 2,.alloc [(.int .i64 0),(.int .i64 0),(.int .i64 0),(.int .i64 0)],n,[]⟩])
(q (r n [⟨s 3,.alloc [(.int .i64 0),(.int .i64 0),(.int .i64 0),(.int .i64 0)],n,[]⟩])
(q (q (r n [⟨s 6,m (t 0),n,[]⟩,⟨s 7,c (l (.fn 53 [])) [(t 6)],n,[0]⟩,⟨s 8,.iter (t 7),n,[1]⟩])
(o 0 (.loop (q (r n [⟨s 9,.next (t 8),n,[]⟩,⟨s 10,.ext (t 9) 0,n,[0]⟩])
(q (i (t 10) .skip (.exit 0))
(o 1 (q (r n [⟨s 11,.ext (t 9) 2,n,[]⟩,⟨s 5,m (t 11),n,[0,0]⟩])
(r (s [0,0,2,7,15]) [⟨s 12,d (s 4) (t 3),n,[]⟩,⟨s 13,m (t 5),n,[]⟩,⟨s 14,c (l (.fn 159 [])) [(t 13)],n,[1]⟩,⟨s 15,c (l (.fn 158 [])) [(t 12),(t 14)],n,[0,2,2]⟩,⟨n,e 4 (t 3) (t 15),n,[3,3,0,1,2,3]⟩]))))))))
(q (r n [⟨s 16,d (s 4) (t 3),n,[]⟩,⟨n,e 4 (t 2) (t 16),n,[0,0]⟩])
.ret))))}
theorem c_count_Of : cFunc Tryz.prog n_count_Of = some f_count_Of := by kernel_rfl
def f_count_Plus : SFunc := { ntmps := 26, results := [.cell 4 (some 4)], body :=
(q (r n [⟨s 2,.box (t 0),n,[]⟩,⟨s 3,.box (t 1),n,[]⟩,⟨s 4,.alloc [(.int .i64 0),(.int .i64 0),(.int .i64 0),(.int .i64 0)],n,[]⟩])
(q (r n [⟨s 5,f 0 (t 2),n,[]⟩,⟨s 6,d n (t 5),n,[0]⟩,⟨s 7,f 0 (t 3),n,[]⟩,⟨s 8,d n (t 7),n,[2]⟩,⟨s 9,b .add .int (t 6) (t 8),n,[1,3]⟩,⟨s 10,f 1 (t 2),n,[]⟩,⟨s 11,d n (t 10),n,[5]⟩,⟨s 12,f 1 (t 3),n,[]⟩,⟨s 13,d n (t 12),n,[7]⟩,⟨s 14,b .add .int (t 11) (t 13),n,[6,8]⟩,⟨s 15,f 2 (t 2),n,[]⟩,⟨s 16,d n (t 15),n,[10]⟩,⟨s 17,f 2 (t 3),n,[]⟩,⟨s 18,d n (t 17),n,[12]⟩,⟨s 19,b .add .int (t 16) (t 18),n,[11,13]⟩,⟨s 20,f 3 (t 2),n,[]⟩,⟨s 21,d n (t 20),n,[15]⟩,⟨s 22,f 3 (t 3),n,[]⟩,⟨s 23,d n (t 22),n,[17]⟩,⟨s 24,b .add .int (t 21) (t 23),n,[16,18]⟩,⟨s 25,.build [(.int .i64 0),(.int .i64 0),(.int .i64 0),(.int .i64 0)] [(0,1,(t 9)),(1,1,(t 14)),(2,1,(t 19)),(3,1,(t 24))],n,[4,9,14,19]⟩,⟨n,e 4 (t 4) (t 25),n,[20,0,1,2,3,4,5,6,7,8,9,10,11,12,13,14,15,16,17,18,19,20]⟩])
.ret))}
theorem c_count_Plus : cFunc Tryz.prog n_count_Plus = some f_count_Plus := by kernel_rfl
def f_count_of : SFunc := { ntmps := 14, results := [.cell 2 (some 4)], body :=
(q (r n [⟨s 2,.alloc [(.int .i64 0),(.int .i64 0),(.int .i64 0),(.int .i64 0)],n,[]⟩])
(q (r n [⟨s 4,m (t 0),n,[]⟩,⟨s 5,.cstr (t 4),n,[0]⟩,⟨s 6,.lenS (t 5),n,[1]⟩,⟨s 7,m (t 0),n,[]⟩,⟨s 8,c (l (.fn 183 [])) [(t 7)],n,[3]⟩,⟨s 9,.build [(.int .i64 0),(.int .i64 0),(.int .i64 0),(.int .i64 0)] [(0,1,(t 6)),(1,1,(l (.int .i64 1))),(2,1,(t 8))],n,[2,4]⟩,⟨s 3,.alloc [(.int .i64 0),(.int .i64 0),(.int .i64 0),(.int .i64 0)],n,[]⟩,⟨n,e 4 (t 3) (t 9),n,[6,5,4,0,1,2,3,4,5,6]⟩])
(q (q (r n [⟨s 10,m (t 0),n,[]⟩,⟨s 11,b .eql .int (t 10) (l (.int .i32 10)),n,[0]⟩])
(i (t 11) (r n [⟨s 12,f 3 (t 3),n,[]⟩,⟨n,e 1 (t 12) (l (.int .i64 1)),n,[0]⟩]) .skip))
(q (r n [⟨s 13,d (s 4) (t 3),n,[]⟩,⟨n,e 4 (t 2) (t 13),n,[0,0]⟩])
.ret))))}
theorem c_count_of : cFunc Tryz.prog n_count_of = some f_count_of := by kernel_rfl
def f_atom_holds : SFunc := { ntmps := 13, results := [.tmp 4], body :=
(q (r n [⟨s 4,m (l (.bool false)),n,[]⟩])
(q (r n [⟨s 5,m (t 0),n,[]⟩,⟨s 6,b .eql .int (t 5) (l (.int .i64 (-1))),n,[0]⟩,⟨s 7,m (t 6),n,[1]⟩,⟨s 8,m (t 1),s (7,false),[2]⟩,⟨s 9,m (t 0),s (7,false),[2]⟩,⟨s 10,c (l (.fn 139 [])) [(t 8),(t 9)],s (7,false),[3,4,2,2]⟩,⟨s 11,.not (t 10),s (7,false),[5,2]⟩,⟨s 12,k (t 7) (l (.bool true)) (t 11),n,[2,6]⟩,⟨s 4,m (t 12),n,[7,5,0,1,2,3,4,5,6,7]⟩])
.ret))}
theorem c_atom_holds : cFunc Tryz.prog n_atom_holds = some f_atom_holds := by kernel_rfl
def f_atom_Visible_1 : SFunc := { ntmps := 15, results := [.tmp 4], body :=
(q (r n [⟨s 3,.box (t 0),n,[]⟩,⟨s 4,m (l (.bool false)),n,[]⟩])
(q (r n [⟨s 5,f 0 (t 3),n,[]⟩,⟨s 6,d n (t 5),n,[0]⟩,⟨s 7,d n (t 1),n,[]⟩,⟨s 8,b .leq .int (t 6) (t 7),n,[1,2]⟩,⟨s 9,m (t 8),n,[3]⟩,⟨s 10,f 1 (t 3),s (9,true),[4]⟩,⟨s 11,d n (t 10),s (9,true),[5,4]⟩,⟨s 12,d n (t 2),s (9,true),[4]⟩,⟨s 13,c (l (.fn 160 [])) [(t 11),(t 12)],s (9,true),[6,7,4,4]⟩,⟨s 14,k (t 9) (t 13) (l (.bool false)),n,[4,8]⟩,⟨s 4,m (t 14),n,[9,8,0,1,2,3,4,5,6,7,8,9]⟩])
.ret))}
theorem c_atom_Visible_1 : cFunc Tryz.prog n_atom_Visible_1 = some f_atom_Visible_1 := by kernel_rfl
def f_rev_set_sorted : SFunc := { ntmps := 13, results := [.tmp 2], body :=
(q (r n [⟨s 2,m (l .nils),n,[]⟩])
(q (r n [⟨s 4,m (t 0),n,[]⟩,⟨s 5,.lenM (t 4),n,[0]⟩,⟨s 6,.mslc 1 8 [(.int .i64 0)] (t 5) (t 5),n,[1,1]⟩,⟨s 3,m (t 6),n,[2,1,0,1,2]⟩])
(q (r n [⟨s 7,m (t 3),n,[]⟩,⟨s 8,m (t 0),n,[]⟩,⟨s 9,c (l (.fn 185 [])) [(t 8)],n,[1]⟩,⟨s 10,c (l (.fn 184 [])) [(t 9)],n,[2,2]⟩,⟨s 11,.copy 1 (t 7) (t 10),n,[0,3,3]⟩])
(q (r n [⟨s 12,m (t 3),n,[]⟩,⟨s 2,m (t 12),n,[0,0]⟩])
.ret))))}
theorem c_rev_set_sorted : cFunc Tryz.prog n_rev_set_sorted = some f_rev_set_sorted := by kernel_rfl
def f_utf_isPoint : SFunc := { ntmps := 17, results := [.tmp 2], body :=
(q (r n [⟨s 2,m (l (.bool false)),n,[]⟩])
(q (r n [⟨s 3,m (t 0),n,[]⟩,⟨s 4,b .geq .int (t 3) (l (.int .i32 0)),n,[0]⟩,⟨s 5,m (t 4),n,[1]⟩,⟨s 6,m (t 0),s (5,true),[2]⟩,⟨s 7,b .leq .int (t 6) (l (.int .i32 1114111)),s (5,true),[3,2]⟩,⟨s 8,k (t 5) (t 7) (l (.bool false)),n,[2,4]⟩,⟨s 9,m (t 8),n,[5,2]⟩,⟨s 10,m (t 0),s (9,true),[6]⟩,⟨s 11,b .lss .int (t 10) (l (.int .i32 55296)),s (9,true),[7,6]⟩,⟨s 12,m (t 11),s (9,true),[8,6,6]⟩,⟨s 13,m (t 0),s (12,false),[9]⟩,⟨s 14,b .gtr .int (t 13) (l (.int .i32 57343)),s (12,false),[10,9]⟩,⟨s 15,k (t 12) (l (.bool true)) (t 14),s (9,true),[9,11,6]⟩,⟨s 16,k (t 9) (t 15) (l (.bool false)),n,[6,12]⟩,⟨s 2,m (t 16),n,[13,9,0,1,2,3,4,5,6,7,8,9,10,11,12,13]⟩])
.ret))}
theorem c_utf_isPoint : cFunc Tryz.prog n_utf_isPoint = some f_utf_isPoint := by kernel_rfl
def f_utf_point : SFunc := { ntmps := 39, results := [.tmp 4, .tmp 5], body :=
(q (r n [⟨s 4,m (l (.int .i32 0)),n,[]⟩,⟨s 5,m (l (.int .i64 0)),n,[0]⟩])
(q (q (r n [⟨s 8,m (t 1),n,[]⟩,⟨s 9,b .lss .int (t 8) (l (.int .i64 0)),n,[0]⟩,⟨s 10,m (t 9),n,[1]⟩,⟨s 11,m (t 1),s (10,false),[2]⟩,⟨s 12,m (t 0),s (10,false),[2]⟩,⟨s 13,.lenS (t 12),s (10,false),[4,2]⟩,⟨s 14,b .geq .int (t 11) (t 13),s (10,false),[3,5,2]⟩,⟨s 15,k (t 10) (l (.bool true)) (t 14),n,[2,6]⟩])
(i (t 15) (q (r n [⟨s 4,m (l (.int .i32 0)),n,[]⟩,⟨s 5,m (l (.int .i64 0)),n,[0,0]⟩])
.ret) .skip))
(q (q (r n [⟨s 16,c (l (.fn 187 [])) [],n,[]⟩,⟨s 17,m (l (.int .i64 0)),n,[]⟩])
(o 0 (.loop (q (r n [⟨s 18,b .lss .int (t 17) (l (.int .i64 4)),n,[]⟩])
(q (i (t 18) .skip (.exit 0))
(q (o 1 (q (r n [⟨s 19,m (t 17),n,[]⟩,⟨s 20,.idxG 4 3 true (t 16) (t 17),n,[]⟩,⟨s 7,.alloc [(.int .u8 0),(.int .u8 0),(.int .i32 0)],n,[]⟩,⟨s 6,m (t 19),n,[0,0,1,2]⟩,⟨n,e 3 (t 7) (t 20),n,[2,1,3,0,1,2,3]⟩])
(q (r (s [0,0,3,0,8,31,0,64,255]) [⟨s 21,m (t 0),n,[]⟩,⟨s 22,m (t 1),n,[]⟩,⟨s 23,.idxS (t 21) (t 22),n,[0,1]⟩,⟨s 24,f 0 (t 7),n,[]⟩,⟨s 25,d n (t 24),n,[3]⟩,⟨s 26,b .and .int (t 23) (t 25),n,[2,4]⟩,⟨s 27,f 1 (t 7),n,[]⟩,⟨s 28,d n (t 27),n,[6]⟩,⟨s 29,b .eql .int (t 26) (t 28),n,[5,7]⟩])
(i (t 29) (q (r n [⟨s 30,m (t 0),n,[]⟩,⟨s 31,m (t 1),n,[]⟩,⟨s 32,m (t 6),n,[]⟩,⟨s 33,b .add .int (t 32) (l (.int .i64 1)),n,[2]⟩,⟨s 34,d (s 3) (t 7),n,[]⟩,⟨s 35,c (l (.fn 188 [])) [(t 30),(t 31),(t 33),(t 34)],n,[0,1,3,4]⟩,⟨s 36,.ext (t 35) 0,n,[5]⟩,⟨s 37,.ext (t 35) 1,n,[5]⟩,⟨s 4,m (t 36),n,[6,5,0,1,2,3,4,5,6,7]⟩,⟨s 5,m (t 37),n,[7,8,0,1,2,3,4,5,6,7,8]⟩])
.ret) .skip))))
(r n [⟨s 38,b .add .int (t 17) (l (.int .i64 1)),n,[]⟩,⟨s 17,m (t 38),n,[0]⟩])))))))
(q (r n [⟨s 4,m (l (.int .i32 0)),n,[]⟩,⟨s 5,m (l (.int .i64 0)),n,[0,0]⟩])
.ret))))}
theorem c_utf_point : cFunc Tryz.prog n_utf_point = some f_utf_point := by kernel_rfl
def f_tree_spread_rope_piece_tree_node_rope_piece_rope_counts : SFunc := { ntmps := 42, results := [.tmp 4], body :=
(q (r n [⟨s 4,m (l .nils),n,[]⟩])
(q (r n [⟨s 9,m (t 0),n,[]⟩,⟨s 10,g (t 9),n,[0]⟩,⟨s 11,b .add .int (t 10) (l (.int .i64 16)),n,[1]⟩,⟨s 12,b .sub .int (t 11) (l (.int .i64 1)),n,[2]⟩,⟨s 13,b .quo .int (t 12) (l (.int .i64 16)),n,[3]⟩,⟨s 5,m (t 13),n,[4,0,1,2,3,4]⟩])
(q (r n [⟨s 6,m (l .nils),n,[]⟩])
(q (q (r n [⟨s 14,m (t 5),n,[]⟩,⟨s 15,m (l (.int .i64 0)),n,[]⟩])
(o 0 (.loop (q (r n [⟨s 16,b .lss .int (t 15) (t 14),n,[]⟩])
(q (i (t 16) .skip (.exit 0))
(q (o 1 (q (r n [⟨s 17,m (t 15),n,[]⟩,⟨s 7,m (t 17),n,[0,0]⟩])
(q (r (s [0,0,2,0,14,0,62,0,128,0,512,1920,0,8064,16383,32767]) [⟨s 18,m (t 0),n,[]⟩,⟨s 19,m (t 0),n,[]⟩,⟨s 20,g (t 19),n,[1]⟩,⟨s 21,m (t 7),n,[]⟩,⟨s 22,b .mul .int (t 20) (t 21),n,[2,3]⟩,⟨s 23,m (t 5),n,[]⟩,⟨s 24,b .quo .int (t 22) (t 23),n,[4,5]⟩,⟨s 25,m (t 0),n,[]⟩,⟨s 26,g (t 25),n,[7]⟩,⟨s 27,m (t 7),n,[]⟩,⟨s 28,b .add .int (t 27) (l (.int .i64 1)),n,[9]⟩,⟨s 29,b .mul .int (t 26) (t 28),n,[8,10]⟩,⟨s 30,m (t 5),n,[]⟩,⟨s 31,b .quo .int (t 29) (t 30),n,[11,12]⟩,⟨s 32,.slc 1 (t 18) (s (t 24)) (s (t 31)) n,n,[0,6,13]⟩,⟨s 8,m (t 32),n,[14,0,1,2,3,4,5,6,7,8,9,10,11,12,13,14]⟩])
(r n [⟨s 33,m (t 6),n,[]⟩,⟨s 34,m (t 1),n,[]⟩,⟨s 35,m (t 8),n,[]⟩,⟨s 36,.app 99 1 16 (l .nils) (t 35),n,[2]⟩,⟨s 37,c (t 34) [(t 36)],n,[1,3,3]⟩,⟨s 38,.bslc 1 [.nilp] 1 [(0,1,(t 37))],n,[4]⟩,⟨s 39,.app 93 1 8 (t 33) (t 38),n,[0,5,4]⟩,⟨s 6,m (t 39),n,[6,6,0,1,2,3,4,5,6]⟩]))))
(r n [⟨s 40,b .add .int (t 15) (l (.int .i64 1)),n,[]⟩,⟨s 15,m (t 40),n,[0]⟩])))))))
(q (r n [⟨s 41,m (t 6),n,[]⟩,⟨s 4,m (t 41),n,[0,0]⟩])
.ret)))))}
theorem c_tree_spread_rope_piece_tree_node_rope_piece_rope_counts : cFunc Tryz.prog n_tree_spread_rope_piece_tree_node_rope_piece_rope_counts = some f_tree_spread_rope_piece_tree_node_rope_piece_rope_counts := by kernel_rfl
def f_tree_leaf_rope_piece_rope_counts : SFunc := { ntmps := 31, results := [.tmp 2], body :=
(q (r n [⟨s 2,m (l .nilp),n,[]⟩])
(q (r n [⟨s 6,m (t 0),n,[]⟩,⟨s 7,m (t 0),n,[]⟩,⟨s 8,g (t 7),n,[1]⟩,⟨s 9,.build [.nils,.nils,(.int .i64 0),(.int .i64 0),(.int .i64 0),(.int .i64 0),(.int .i64 0),(.int .i64 0)] [(1,1,(t 6)),(2,1,(t 8)),(3,1,(l (.int .i64 1)))],n,[0,2]⟩,⟨s 10,.box (t 9),n,[3]⟩,⟨s 3,m (t 10),n,[4,0,1,2,3,4]⟩])
(q (q (r n [⟨s 11,m (t 0),n,[]⟩,⟨s 12,g (t 11),n,[0]⟩,⟨s 13,m (l (.int .i64 0)),n,[]⟩])
(o 0 (.loop (q (r n [⟨s 14,b .lss .int (t 13) (t 12),n,[]⟩])
(q (i (t 14) .skip (.exit 0))
(q (o 1 (q (r n [⟨s 15,x 1 (t 11) (t 13),n,[]⟩,⟨s 16,d n (t 15),n,[0]⟩,⟨s 5,m (t 16),n,[1,0,1]⟩])
(r (s [0,0,2,6,14,30,0,64,192,510,1023,2047,4095]) [⟨s 17,m (t 3),n,[]⟩,⟨s 18,m (t 3),n,[]⟩,⟨s 19,z (t 18),n,[1]⟩,⟨s 20,f 4 (t 19),n,[2]⟩,⟨s 21,d (s 4) (t 20),n,[3]⟩,⟨s 22,.mkif 101 (t 21),n,[4]⟩,⟨s 23,m (t 5),n,[]⟩,⟨s 24,.mkif 99 (t 23),n,[6]⟩,⟨s 25,c (.meth [(95,182),(99,242)] 24 []) [],n,[7]⟩,⟨s 26,c (.meth [(101,243)] 22 [25]) [],n,[5,8,8]⟩,⟨s 27,z (t 17),n,[0,0,1,2,3,4,5,6,7,8,9]⟩,⟨s 28,f 4 (t 27),n,[10,0,1,2,3,4,5,6,7,8,9]⟩,⟨n,e 4 (t 28) (t 26),n,[11,9,9,0,1,2,3,4,5,6,7,8,9]⟩])))
(r n [⟨s 29,b .add .int (t 13) (l (.int .i64 1)),n,[]⟩,⟨s 13,m (t 29),n,[0]⟩])))))))
(q (r n [⟨s 30,m (t 3),n,[]⟩,⟨s 2,m (t 30),n,[0,0]⟩])
.ret))))}
theorem c_tree_leaf_rope_piece_rope_counts : cFunc Tryz.prog n_tree_leaf_rope_piece_rope_counts = some f_tree_leaf_rope_piece_rope_counts := by kernel_rfl
def f_atom_Places : SFunc := { ntmps := 39, results := [.tmp 6], body :=
(q (r n [⟨s 6,m (l .nils),n,[]⟩])
(q (r n [⟨s 11,m (t 0),n,[]⟩,⟨s 12,g (t 11),n,[0]⟩,⟨s 13,b .add .int (t 12) (l (.int .i64 1)),n,[1]⟩,⟨s 14,.mslc 1 8 [(.int .i64 0)] (l (.int .i64 0)) (t 13),n,[2]⟩,⟨s 7,m (t 14),n,[3,0,1,2,3]⟩])
(q (r n [⟨s 8,m (l (.int .i64 0)),n,[]⟩])
(q (q (r n [⟨s 15,m (t 0),n,[]⟩,⟨s 16,g (t 15),n,[0]⟩,⟨s 17,m (l (.int .i64 0)),n,[]⟩])
(o 0 (.loop (q (r n [⟨s 18,b .lss .int (t 17) (t 16),n,[]⟩])
(q (i (t 18) .skip (.exit 0))
(q (o 1 (q (r n [⟨s 19,x 5 (t 15) (t 17),n,[]⟩,⟨s 20,d (s 5) (t 19),n,[0]⟩,⟨s 10,.alloc [(.str []),(.int .i64 0),(.int .i64 0),(.int .i64 0),.nils],n,[]⟩,⟨n,e 5 (t 10) (t 20),n,[2,1,0,1,2]⟩])
(q (r n [⟨s 21,m (t 7),n,[]⟩,⟨s 22,m (t 8),n,[]⟩,⟨s 23,.bslc 1 [(.int .i64 0)] 1 [(0,1,(t 22))],n,[1]⟩,⟨s 24,.app 3 1 8 (t 21) (t 23),n,[0,2]⟩,⟨s 7,m (t 24),n,[3,3,0,1,2,3]⟩])
(q (r n [⟨s 25,d (s 5) (t 10),n,[]⟩,⟨s 26,m (t 1),n,[]⟩,⟨s 27,m (t 2),n,[]⟩,⟨s 28,c (l (.fn 103 [])) [(t 25),(t 26),(t 27)],n,[0,1,2]⟩])
(i (t 28) (r n [⟨s 29,m (t 8),n,[]⟩,⟨s 30,f 0 (t 10),n,[]⟩,⟨s 31,d n (t 30),n,[1]⟩,⟨s 32,.lenS (t 31),n,[2]⟩,⟨s 33,b .add .int (t 29) (t 32),n,[0,3]⟩,⟨s 8,m (t 33),n,[4,0,1,2,3,4]⟩]) .skip)))))
(r n [⟨s 34,b .add .int (t 17) (l (.int .i64 1)),n,[]⟩,⟨s 17,m (t 34),n,[0]⟩])))))))
(q (r n [⟨s 35,m (t 7),n,[]⟩,⟨s 36,m (t 8),n,[]⟩,⟨s 37,.bslc 1 [(.int .i64 0)] 1 [(0,1,(t 36))],n,[1]⟩,⟨s 38,.app 3 1 8 (t 35) (t 37),n,[0,2]⟩,⟨s 6,m (t 38),n,[3,3,0,1,2,3]⟩])
.ret)))))}
theorem c_atom_Places : cFunc Tryz.prog n_atom_Places = some f_atom_Places := by kernel_rfl
def f_edit_spot : SFunc := { ntmps := 63, results := [.tmp 12], body :=
(q (r n [⟨s 12,m (l (.int .i64 0)),n,[]⟩])
(q (r n [⟨s 13,m (l (.int .i64 0)),n,[]⟩])
(q (q (r n [⟨s 16,m (t 0),n,[]⟩,⟨s 17,g (t 16),n,[0]⟩,⟨s 18,m (l (.int .i64 0)),n,[]⟩])
(o 0 (.loop (q (r n [⟨s 19,b .lss .int (t 18) (t 17),n,[]⟩])
(q (i (t 19) .skip (.exit 0))
(q (o 1 (q (r n [⟨s 20,m (t 18),n,[]⟩,⟨s 21,x 5 (t 16) (t 18),n,[]⟩,⟨s 22,d (s 5) (t 21),n,[1]⟩,⟨s 15,.alloc [(.str []),(.int .i64 0),(.int .i64 0),(.int .i64 0),.nils],n,[]⟩,⟨s 14,m (t 20),n,[0,0,1,2,3]⟩,⟨n,e 5 (t 15) (t 22),n,[3,2,4,0,1,2,3,4]⟩])
(q (r n [⟨s 23,m (t 1),n,[]⟩,⟨s 24,m (t 14),n,[]⟩,⟨s 25,x 1 (t 23) (t 24),n,[0,1]⟩,⟨s 26,d n (t 25),n,[2]⟩,⟨s 27,m (t 4),n,[]⟩,⟨s 28,b .lss .int (t 26) (t 27),n,[3,4]⟩,⟨s 29,m (t 28),n,[5]⟩,⟨s 30,d (s 5) (t 15),s (29,true),[6]⟩,⟨s 31,m (t 2),s (29,true),[6]⟩,⟨s 32,m (t 3),s (29,true),[6]⟩,⟨s 33,c (l (.fn 103 [])) [(t 30),(t 31),(t 32)],s (29,true),[7,8,9,6,6]⟩,⟨s 34,k (t 29) (t 33) (l (.bool false)),n,[6,10]⟩])
(i (t 34) (r n [⟨s 35,m (t 14),n,[]⟩,⟨s 36,b .add .int (t 35) (l (.int .i64 1)),n,[0]⟩,⟨s 13,m (t 36),n,[1,0,1]⟩]) .skip))))
(r n [⟨s 37,b .add .int (t 18) (l (.int .i64 1)),n,[]⟩,⟨s 18,m (t 37),n,[0]⟩])))))))
(q (o 2 (.loop (q (q (r n [⟨s 38,m (t 13),n,[]⟩,⟨s 39,m (t 0),n,[]⟩,⟨s 40,g (t 39),n,[1]⟩,⟨s 41,b .lss .int (t 38) (t 40),n,[0,2]⟩,⟨s 42,m (t 41),n,[3]⟩,⟨s 43,m (t 0),s (42,true),[4]⟩,⟨s 44,m (t 13),s (42,true),[4]⟩,⟨s 45,x 5 (t 43) (t 44),s (42,true),[5,6,4]⟩,⟨s 46,f 1 (t 45),s (42,true),[7,4]⟩,⟨s 47,d n (t 46),s (42,true),[8,4]⟩,⟨s 48,m (t 2),s (42,true),[4]⟩,⟨s 49,b .gtr .int (t 47) (t 48),s (42,true),[9,10,4]⟩,⟨s 50,k (t 42) (t 49) (l (.bool false)),n,[4,11]⟩,⟨s 51,m (t 50),n,[12,4]⟩,⟨s 52,m (t 0),s (51,true),[13]⟩,⟨s 53,m (t 13),s (51,true),[13]⟩,⟨s 54,x 5 (t 52) (t 53),s (51,true),[14,15,13]⟩,⟨s 55,f 3 (t 54),s (51,true),[16,13]⟩,⟨s 56,d n (t 55),s (51,true),[17,13]⟩,⟨s 57,m (t 5),s (51,true),[13]⟩,⟨s 58,b .leq .int (t 56) (t 57),s (51,true),[18,19,13]⟩,⟨s 59,k (t 51) (t 58) (l (.bool false)),n,[13,20]⟩])
(i (t 59) .skip (.exit 2)))
(o 3 (r n [⟨s 60,m (t 13),n,[]⟩,⟨s 61,b .add .int (t 60) (l (.int .i64 1)),n,[0]⟩,⟨s 13,m (t 61),n,[1,0,1]⟩])))))
(q (r n [⟨s 62,m (t 13),n,[]⟩,⟨s 12,m (t 62),n,[0,0]⟩])
.ret)))))}
theorem c_edit_spot : cFunc Tryz.prog n_edit_spot = some f_edit_spot := by kernel_rfl
def f_slices_IndexFunc_api_Region_api_Region : SFunc := { ntmps := 19, results := [.tmp 4], body :=
(q (r n [⟨s 4,m (l (.int .i64 0)),n,[]⟩])
(q (q (r n [⟨s 6,m (t 0),n,[]⟩,⟨s 7,g (t 6),n,[0]⟩,⟨s 8,m (l (.int .i64 0)),n,[]⟩])
(o 0 (.loop (q (r n [⟨s 9,b .lss .int (t 8) (t 7),n,[]⟩])
(q (i (t 9) .skip (.exit 0))
(q (o 1 (q (r n [⟨s 10,m (t 8),n,[]⟩,⟨s 5,m (t 10),n,[0,0]⟩])
(q (r n [⟨s 11,m (t 1),n,[]⟩,⟨s 12,m (t 0),n,[]⟩,⟨s 13,m (t 5),n,[]⟩,⟨s 14,x 2 (t 12) (t 13),n,[1,2]⟩,⟨s 15,d (s 2) (t 14),n,[3]⟩,⟨s 16,c (t 11) [(t 15)],n,[0,4]⟩])
(i (t 16) (q (r n [⟨s 17,m (t 5),n,[]⟩,⟨s 4,m (t 17),n,[0,0]⟩])
.ret) .skip))))
(r n [⟨s 18,b .add .int (t 8) (l (.int .i64 1)),n,[]⟩,⟨s 8,m (t 18),n,[0]⟩])))))))
(q (r n [⟨s 4,m (l (.int .i64 (-1))),n,[]⟩])
.ret)))}
theorem c_slices_IndexFunc_api_Region_api_Region : cFunc Tryz.prog n_slices_IndexFunc_api_Region_api_Region = some f_slices_IndexFunc_api_Region_api_Region := by kernel_rfl
def f_slices_stableCmpFunc_api_Region : SFunc := { ntmps := 63, results := [], body :=
(q (r n [⟨s 6,m (l (.int .i64 20)),n,[]⟩])
(q (r n [⟨s 10,m (t 6),n,[]⟩,⟨s 7,m (l (.int .i64 0)),n,[]⟩,⟨s 8,m (t 10),n,[0,1,0,1]⟩])
(q (o 0 (.loop (q (q (r n [⟨s 11,m (t 8),n,[]⟩,⟨s 12,m (t 1),n,[]⟩,⟨s 13,b .leq .int (t 11) (t 12),n,[0,1]⟩])
(i (t 13) .skip (.exit 0)))
(o 1 (q (r n [⟨s 14,m (t 0),n,[]⟩,⟨s 15,m (t 7),n,[]⟩,⟨s 16,m (t 8),n,[]⟩,⟨s 17,m (t 2),n,[]⟩,⟨s 18,c (l (.fn 189 [])) [(t 14),(t 15),(t 16),(t 17)],n,[0,1,2,3]⟩])
(q (r n [⟨s 19,m (t 8),n,[]⟩,⟨s 7,m (t 19),n,[0,0]⟩])
(r n [⟨s 20,m (t 8),n,[]⟩,⟨s 21,m (t 6),n,[]⟩,⟨s 22,b .add .int (t 20) (t 21),n,[0,1]⟩,⟨s 8,m (t 22),n,[2,0,1,2]⟩])))))))
(q (r n [⟨s 23,m (t 0),n,[]⟩,⟨s 24,m (t 7),n,[]⟩,⟨s 25,m (t 1),n,[]⟩,⟨s 26,m (t 2),n,[]⟩,⟨s 27,c (l (.fn 189 [])) [(t 23),(t 24),(t 25),(t 26)],n,[0,1,2,3]⟩])
(o 2 (.loop (q (q (r n [⟨s 28,m (t 6),n,[]⟩,⟨s 29,m (t 1),n,[]⟩,⟨s 30,b .lss .int (t 28) (t 29),n,[0,1]⟩])
(i (t 30) .skip (.exit 2)))
(o 3 (q (r n [⟨s 31,m (t 6),n,[]⟩,⟨s 32,b .mul .int (l (.int .i64 2)) (t 31),n,[0]⟩,⟨s 7,m (l (.int .i64 0)),n,[]⟩,⟨s 8,m (t 32),n,[1,2,0,1,2]⟩])
(q (o 4 (.loop (q (q (r n [⟨s 33,m (t 8),n,[]⟩,⟨s 34,m (t 1),n,[]⟩,⟨s 35,b .leq .int (t 33) (t 34),n,[0,1]⟩])
(i (t 35) .skip (.exit 4)))
(o 5 (q (r n [⟨s 36,m (t 0),n,[]⟩,⟨s 37,m (t 7),n,[]⟩,⟨s 38,m (t 7),n,[]⟩,⟨s 39,m (t 6),n,[]⟩,⟨s 40,b .add .int (t 38) (t 39),n,[2,3]⟩,⟨s 41,m (t 8),n,[]⟩,⟨s 42,m (t 2),n,[]⟩,⟨s 43,c (l (.fn 190 [])) [(t 36),(t 37),(t 40),(t 41),(t 42)],n,[0,1,4,5,6]⟩])
(q (r n [⟨s 44,m (t 8),n,[]⟩,⟨s 7,m (t 44),n,[0,0]⟩])
(r n [⟨s 45,m (t 8),n,[]⟩,⟨s 46,m (t 6),n,[]⟩,⟨s 47,b .mul .int (l (.int .i64 2)) (t 46),n,[1]⟩,⟨s 48,b .add .int (t 45) (t 47),n,[0,2]⟩,⟨s 8,m (t 48),n,[3,0,1,2,3]⟩])))))))
(q (q (r n [⟨s 49,m (t 7),n,[]⟩,⟨s 50,m (t 6),n,[]⟩,⟨s 51,b .add .int (t 49) (t 50),n,[0,1]⟩,⟨s 9,m (t 51),n,[2,0,1,2]⟩])
(q (r n [⟨s 52,m (t 9),n,[]⟩,⟨s 53,m (t 1),n,[]⟩,⟨s 54,b .lss .int (t 52) (t 53),n,[0,1]⟩])
(i (t 54) (r n [⟨s 55,m (t 0),n,[]⟩,⟨s 56,m (t 7),n,[]⟩,⟨s 57,m (t 9),n,[]⟩,⟨s 58,m (t 1),n,[]⟩,⟨s 59,m (t 2),n,[]⟩,⟨s 60,c (l (.fn 190 [])) [(t 55),(t 56),(t 57),(t 58),(t 59)],n,[0,1,2,3,4]⟩]) .skip)))
(r n [⟨s 61,m (t 6),n,[]⟩,⟨s 62,b .mul .int (t 61) (l (.int .i64 2)),n,[0]⟩,⟨s 6,m (t 62),n,[1,0,1]⟩]))))))))))))}
theorem c_slices_stableCmpFunc_api_Region : cFunc Tryz.prog n_slices_stableCmpFunc_api_Region = some f_slices_stableCmpFunc_api_Region := by kernel_rfl
def f_slices_SortStableFunc_spans_row_int_spans_run_int : SFunc := { ntmps := 9, results := [], body :=
(r n [⟨s 4,m (t 0),n,[]⟩,⟨s 5,m (t 0),n,[]⟩,⟨s 6,g (t 5),n,[1]⟩,⟨s 7,m (t 1),n,[]⟩,⟨s 8,c (l (.fn 191 [])) [(t 4),(t 6),(t 7)],n,[0,2,3]⟩])}
theorem c_slices_SortStableFunc_spans_row_int_spans_run_int : cFunc Tryz.prog n_slices_SortStableFunc_spans_row_int_spans_run_int = some f_slices_SortStableFunc_spans_row_int_spans_run_int := by kernel_rfl
def f_slices_Index_int_int : SFunc := { ntmps := 19, results := [.tmp 4], body :=
(q (r n [⟨s 4,m (l (.int .i64 0)),n,[]⟩])
(q (q (r n [⟨s 6,m (t 0),n,[]⟩,⟨s 7,g (t 6),n,[0]⟩,⟨s 8,m (l (.int .i64 0)),n,[]⟩])
(o 0 (.loop (q (r n [⟨s 9,b .lss .int (t 8) (t 7),n,[]⟩])
(q (i (t 9) .skip (.exit 0))
(q (o 1 (q (r n [⟨s 10,m (t 8),n,[]⟩,⟨s 5,m (t 10),n,[0,0]⟩])
(q (r n [⟨s 11,m (t 1),n,[]⟩,⟨s 12,m (t 0),n,[]⟩,⟨s 13,m (t 5),n,[]⟩,⟨s 14,x 1 (t 12) (t 13),n,[1,2]⟩,⟨s 15,d n (t 14),n,[3]⟩,⟨s 16,b .eql .int (t 11) (t 15),n,[0,4]⟩])
(i (t 16) (q (r n [⟨s 17,m (t 5),n,[]⟩,⟨s 4,m (t 17),n,[0,0]⟩])
.ret) .skip))))
(r n [⟨s 18,b .add .int (t 8) (l (.int .i64 1)),n,[]⟩,⟨s 8,m (t 18),n,[0]⟩])))))))
(q (r n [⟨s 4,m (l (.int .i64 (-1))),n,[]⟩])
.ret)))}
theorem c_slices_Index_int_int : cFunc Tryz.prog n_slices_Index_int_int = some f_slices_Index_int_int := by kernel_rfl
def f_slices_IndexFunc_api_Cut_api_Cut : SFunc := { ntmps := 19, results := [.tmp 4], body :=
(q (r n [⟨s 4,m (l (.int .i64 0)),n,[]⟩])
(q (q (r n [⟨s 6,m (t 0),n,[]⟩,⟨s 7,g (t 6),n,[0]⟩,⟨s 8,m (l (.int .i64 0)),n,[]⟩])
(o 0 (.loop (q (r n [⟨s 9,b .lss .int (t 8) (t 7),n,[]⟩])
(q (i (t 9) .skip (.exit 0))
(q (o 1 (q (r n [⟨s 10,m (t 8),n,[]⟩,⟨s 5,m (t 10),n,[0,0]⟩])
(q (r n [⟨s 11,m (t 1),n,[]⟩,⟨s 12,m (t 0),n,[]⟩,⟨s 13,m (t 5),n,[]⟩,⟨s 14,x 2 (t 12) (t 13),n,[1,2]⟩,⟨s 15,d (s 2) (t 14),n,[3]⟩,⟨s 16,c (t 11) [(t 15)],n,[0,4]⟩])
(i (t 16) (q (r n [⟨s 17,m (t 5),n,[]⟩,⟨s 4,m (t 17),n,[0,0]⟩])
.ret) .skip))))
(r n [⟨s 18,b .add .int (t 8) (l (.int .i64 1)),n,[]⟩,⟨s 8,m (t 18),n,[0]⟩])))))))
(q (r n [⟨s 4,m (l (.int .i64 (-1))),n,[]⟩])
.ret)))}
theorem c_slices_IndexFunc_api_Cut_api_Cut : cFunc Tryz.prog n_slices_IndexFunc_api_Cut_api_Cut = some f_slices_IndexFunc_api_Cut_api_Cut := by kernel_rfl
def f_tree_Seq_rope_piece_rope_counts_Sum : SFunc := { ntmps := 13, results := [.cell 2 (some 4)], body :=
(q (r n [⟨s 1,.box (t 0),n,[]⟩,⟨s 2,.alloc [(.int .i64 0),(.int .i64 0),(.int .i64 0),(.int .i64 0)],n,[]⟩])
(q (r n [⟨s 3,.alloc [(.int .i64 0),(.int .i64 0),(.int .i64 0),(.int .i64 0)],n,[]⟩])
(q (q (r n [⟨s 4,f 0 (t 1),n,[]⟩,⟨s 5,d n (t 4),n,[0]⟩,⟨s 6,b .neq .ptr (t 5) (l .nilp),n,[1]⟩])
(i (t 6) (r n [⟨s 7,f 0 (t 1),n,[]⟩,⟨s 8,d n (t 7),n,[0]⟩,⟨s 9,z (t 8),n,[1]⟩,⟨s 10,f 4 (t 9),n,[2]⟩,⟨s 11,d (s 4) (t 10),n,[3]⟩,⟨n,e 4 (t 3) (t 11),n,[4,0,1,2,3,4]⟩]) .skip))
(q (r n [⟨s 12,d (s 4) (t 3),n,[]⟩,⟨n,e 4 (t 2) (t 12),n,[0,0]⟩])
.ret))))}
theorem c_tree_Seq_rope_piece_rope_counts_Sum : cFunc Tryz.prog n_tree_Seq_rope_piece_rope_counts_Sum = some f_tree_Seq_rope_piece_rope_counts_Sum := by kernel_rfl
def f_count_units : SFunc := { ntmps := 5, results := [.tmp 2], body :=
(q (r n [⟨s 2,m (l (.int .i64 0)),n,[]⟩])
(q (q (r n [⟨s 3,m (t 0),n,[]⟩,⟨s 4,b .geq .int (t 3) (l (.int .i32 65536)),n,[0]⟩])
(i (t 4) (q (r n [⟨s 2,m (l (.int .i64 2)),n,[]⟩])
.ret) .skip))
(q (r n [⟨s 2,m (l (.int .i64 1)),n,[]⟩])
.ret)))}
theorem c_count_units : cFunc Tryz.prog n_count_units = some f_count_units := by kernel_rfl
def f_maps_Keys_rev_set_int_unit : SFunc := { ntmps := 4, results := [.tmp 2], body :=
(q (r n [⟨s 1,.box (t 0),n,[]⟩,⟨s 2,m (l .nilf),n,[]⟩])
(q (r n [⟨s 3,.mkfn 195 [(t 1)],n,[]⟩,⟨s 2,m (t 3),n,[0,0]⟩])
.ret))}
theorem c_maps_Keys_rev_set_int_unit : cFunc Tryz.prog n_maps_Keys_rev_set_int_unit = some f_maps_Keys_rev_set_int_unit := by kernel_rfl
def f_utf_forms : SFunc := { ntmps := 6, results := [.cell 0 (some 12)], body :=
(q (r n [⟨s 0,.alloc [(.int .u8 0),(.int .u8 0),(.int .i32 0),(.int .u8 0),(.int .u8 0),(.int .i32 0),(.int .u8 0),(.int .u8 0),(.int .i32 0),(.int .u8 0),(.int .u8 0),(.int .i32 0)],n,[]⟩])
(q (r n [⟨s 1,.build [(.int .u8 0),(.int .u8 0),(.int .i32 0)] [(0,1,(l (.int .u8 128))),(1,1,(l (.int .u8 0))),(2,1,(l (.int .i32 0)))],n,[]⟩,⟨s 2,.build [(.int .u8 0),(.int .u8 0),(.int .i32 0)] [(0,1,(l (.int .u8 224))),(1,1,(l (.int .u8 192))),(2,1,(l (.int .i32 128)))],n,[]⟩,⟨s 3,.build [(.int .u8 0),(.int .u8 0),(.int .i32 0)] [(0,1,(l (.int .u8 240))),(1,1,(l (.int .u8 224))),(2,1,(l (.int .i32 2048)))],n,[]⟩,⟨s 4,.build [(.int .u8 0),(.int .u8 0),(.int .i32 0)] [(0,1,(l (.int .u8 248))),(1,1,(l (.int .u8 240))),(2,1,(l (.int .i32 65536)))],n,[]⟩,⟨s 5,.build [(.int .u8 0),(.int .u8 0),(.int .i32 0),(.int .u8 0),(.int .u8 0),(.int .i32 0),(.int .u8 0),(.int .u8 0),(.int .i32 0),(.int .u8 0),(.int .u8 0),(.int .i32 0)] [(0,3,(t 1)),(3,3,(t 2)),(6,3,(t 3)),(9,3,(t 4))],n,[0,1,2,3]⟩,⟨n,e 12 (t 0) (t 5),n,[4,0,1,2,3,4]⟩])
.ret))}
theorem c_utf_forms : cFunc Tryz.prog n_utf_forms = some f_utf_forms := by kernel_rfl
def f_utf_long : SFunc := { ntmps := 56, results := [.tmp 8, .tmp 9], body :=
(q (r n [⟨s 7,.box (t 3),n,[]⟩,⟨s 8,m (l (.int .i32 0)),n,[]⟩,⟨s 9,m (l (.int .i64 0)),n,[1]⟩])
(q (q (r n [⟨s 13,m (t 0),n,[]⟩,⟨s 14,.lenS (t 13),n,[0]⟩,⟨s 15,m (t 1),n,[]⟩,⟨s 16,b .sub .int (t 14) (t 15),n,[1,2]⟩,⟨s 17,m (t 2),n,[]⟩,⟨s 18,b .lss .int (t 16) (t 17),n,[3,4]⟩])
(i (t 18) (q (r n [⟨s 8,m (l (.int .i32 0)),n,[]⟩,⟨s 9,m (l (.int .i64 0)),n,[0,0]⟩])
.ret) .skip))
(q (r (s [0,0,3,0,8,31,63,127]) [⟨s 19,m (t 0),n,[]⟩,⟨s 20,m (t 1),n,[]⟩,⟨s 21,.idxS (t 19) (t 20),n,[0,1]⟩,⟨s 22,f 0 (t 7),n,[]⟩,⟨s 23,d n (t 22),n,[3]⟩,⟨s 24,b .andNot .int (t 21) (t 23),n,[2,4]⟩,⟨s 25,.cint .i32 (t 24),n,[5]⟩,⟨s 10,m (t 25),n,[6,0,1,2,3,4,5,6]⟩])
(q (q (r n [⟨s 11,m (l (.int .i64 1)),n,[]⟩])
(o 0 (.loop (q (q (r n [⟨s 26,m (t 11),n,[]⟩,⟨s 27,m (t 2),n,[]⟩,⟨s 28,b .lss .int (t 26) (t 27),n,[0,1]⟩])
(i (t 28) .skip (.exit 0)))
(q (o 1 (q (r n [⟨s 31,m (t 0),n,[]⟩,⟨s 32,m (t 1),n,[]⟩,⟨s 33,m (t 11),n,[]⟩,⟨s 34,b .add .int (t 32) (t 33),n,[1,2]⟩,⟨s 35,.idxS (t 31) (t 34),n,[0,3]⟩,⟨s 12,m (t 35),n,[4,0,1,2,3,4]⟩])
(q (q (r n [⟨s 36,m (t 12),n,[]⟩,⟨s 37,b .and .int (t 36) (l (.int .u8 192)),n,[0]⟩,⟨s 38,b .neq .int (t 37) (l (.int .u8 128)),n,[1]⟩])
(i (t 38) (q (r n [⟨s 8,m (l (.int .i32 0)),n,[]⟩,⟨s 9,m (l (.int .i64 0)),n,[0,0]⟩])
.ret) .skip))
(r n [⟨s 39,m (t 10),n,[]⟩,⟨s 40,b .shl .int (t 39) (l (.int .u64 6)),n,[0]⟩,⟨s 41,m (t 12),n,[]⟩,⟨s 42,b .andNot .int (t 41) (l (.int .u8 192)),n,[2]⟩,⟨s 43,.cint .i32 (t 42),n,[3]⟩,⟨s 44,b .or .int (t 40) (t 43),n,[1,4]⟩,⟨s 10,m (t 44),n,[5,0,1,2,3,4,5]⟩]))))
(r n [⟨s 29,m (t 11),n,[]⟩,⟨s 30,b .add .int (t 29) (l (.int .i64 1)),n,[0]⟩,⟨s 11,m (t 30),n,[1,0,1]⟩]))))))
(q (q (r n [⟨s 45,m (t 10),n,[]⟩,⟨s 46,f 2 (t 7),n,[]⟩,⟨s 47,d n (t 46),n,[1]⟩,⟨s 48,b .lss .int (t 45) (t 47),n,[0,2]⟩,⟨s 49,m (t 48),n,[3]⟩,⟨s 50,m (t 10),s (49,false),[4]⟩,⟨s 51,c (l (.fn 163 [])) [(t 50)],s (49,false),[5,4,4]⟩,⟨s 52,.not (t 51),s (49,false),[6,4]⟩,⟨s 53,k (t 49) (l (.bool true)) (t 52),n,[4,7]⟩])
(i (t 53) (q (r n [⟨s 8,m (l (.int .i32 0)),n,[]⟩,⟨s 9,m (l (.int .i64 0)),n,[0,0]⟩])
.ret) .skip))
(q (r n [⟨s 54,m (t 10),n,[]⟩,⟨s 55,m (t 2),n,[]⟩,⟨s 8,m (t 54),n,[0,0]⟩,⟨s 9,m (t 55),n,[1,2,0,1,2]⟩])
.ret))))))}
theorem c_utf_long : cFunc Tryz.prog n_utf_long = some f_utf_long := by kernel_rfl
def f_slices_insertionSortCmpFunc_api_Region : SFunc := { ntmps := 53, results := [], body :=
(q (r n [⟨s 10,m (t 1),n,[]⟩,⟨s 11,b .add .int (t 10) (l (.int .i64 1)),n,[0]⟩,⟨s 8,m (t 11),n,[1,0,1]⟩])
(o 0 (.loop (q (q (r n [⟨s 12,m (t 8),n,[]⟩,⟨s 13,m (t 2),n,[]⟩,⟨s 14,b .lss .int (t 12) (t 13),n,[0,1]⟩])
(i (t 14) .skip (.exit 0)))
(q (o 1 (q (r n [⟨s 17,m (t 8),n,[]⟩,⟨s 9,m (t 17),n,[0,0]⟩])
(o 2 (.loop (q (q (r (s [0,0,3,7,15,15,15,111,239,15,15,1039,3599,7695,16383,32767,65535]) [⟨s 18,m (t 9),n,[]⟩,⟨s 19,m (t 1),n,[]⟩,⟨s 20,b .gtr .int (t 18) (t 19),n,[0,1]⟩,⟨s 21,m (t 20),n,[2]⟩,⟨s 22,m (t 3),s (21,true),[3]⟩,⟨s 23,m (t 0),s (21,true),[3]⟩,⟨s 24,m (t 9),s (21,true),[3]⟩,⟨s 25,x 2 (t 23) (t 24),s (21,true),[5,6,3]⟩,⟨s 26,d (s 2) (t 25),s (21,true),[7,3]⟩,⟨s 27,m (t 0),s (21,true),[3]⟩,⟨s 28,m (t 9),s (21,true),[3]⟩,⟨s 29,b .sub .int (t 28) (l (.int .i64 1)),s (21,true),[10,3]⟩,⟨s 30,x 2 (t 27) (t 29),s (21,true),[9,11,3]⟩,⟨s 31,d (s 2) (t 30),s (21,true),[12,3]⟩,⟨s 32,c (t 22) [(t 26),(t 31)],s (21,true),[4,8,13,3,3]⟩,⟨s 33,b .lss .int (t 32) (l (.int .i64 0)),s (21,true),[14,3]⟩,⟨s 34,k (t 21) (t 33) (l (.bool false)),n,[3,15]⟩])
(i (t 34) .skip (.exit 2)))
(q (o 3 (r (s [0,0,0,0,8,0,0,64,224,480,0,0,3072,7168,16355,32739,65535,131071]) [⟨s 37,m (t 0),n,[]⟩,⟨s 38,m (t 9),n,[]⟩,⟨s 39,m (t 0),n,[]⟩,⟨s 40,m (t 9),n,[]⟩,⟨s 41,b .sub .int (t 40) (l (.int .i64 1)),n,[3]⟩,⟨s 42,m (t 0),n,[]⟩,⟨s 43,m (t 9),n,[]⟩,⟨s 44,b .sub .int (t 43) (l (.int .i64 1)),n,[6]⟩,⟨s 45,x 2 (t 42) (t 44),n,[5,7]⟩,⟨s 46,d (s 2) (t 45),n,[8]⟩,⟨s 47,m (t 0),n,[]⟩,⟨s 48,m (t 9),n,[]⟩,⟨s 49,x 2 (t 47) (t 48),n,[10,11]⟩,⟨s 50,d (s 2) (t 49),n,[12]⟩,⟨s 51,x 2 (t 37) (t 38),n,[0,1,0,1,5,6,7,8,9,13]⟩,⟨n,e 2 (t 51) (t 46),n,[14,9,0,1,5,6,7,8,9,13]⟩,⟨s 52,x 2 (t 39) (t 41),n,[2,4,0,1,2,3,4,5,6,7,8,9,10,11,12,13,14,15]⟩,⟨n,e 2 (t 52) (t 50),n,[16,13,15,0,1,2,3,4,5,6,7,8,9,10,11,12,13,14,15]⟩]))
(r n [⟨s 35,m (t 9),n,[]⟩,⟨s 36,b .sub .int (t 35) (l (.int .i64 1)),n,[0]⟩,⟨s 9,m (t 36),n,[1,0,1]⟩])))))))
(r n [⟨s 15,m (t 8),n,[]⟩,⟨s 16,b .add .int (t 15) (l (.int .i64 1)),n,[0]⟩,⟨s 8,m (t 16),n,[1,0,1]⟩]))))))}
theorem c_slices_insertionSortCmpFunc_api_Region : cFunc Tryz.prog n_slices_insertionSortCmpFunc_api_Region = some f_slices_insertionSortCmpFunc_api_Region := by kernel_rfl
def f_slices_stableCmpFunc_spans_run_int : SFunc := { ntmps := 63, results := [], body :=
(q (r n [⟨s 6,m (l (.int .i64 20)),n,[]⟩])
(q (r n [⟨s 10,m (t 6),n,[]⟩,⟨s 7,m (l (.int .i64 0)),n,[]⟩,⟨s 8,m (t 10),n,[0,1,0,1]⟩])
(q (o 0 (.loop (q (q (r n [⟨s 11,m (t 8),n,[]⟩,⟨s 12,m (t 1),n,[]⟩,⟨s 13,b .leq .int (t 11) (t 12),n,[0,1]⟩])
(i (t 13) .skip (.exit 0)))
(o 1 (q (r n [⟨s 14,m (t 0),n,[]⟩,⟨s 15,m (t 7),n,[]⟩,⟨s 16,m (t 8),n,[]⟩,⟨s 17,m (t 2),n,[]⟩,⟨s 18,c (l (.fn 198 [])) [(t 14),(t 15),(t 16),(t 17)],n,[0,1,2,3]⟩])
(q (r n [⟨s 19,m (t 8),n,[]⟩,⟨s 7,m (t 19),n,[0,0]⟩])
(r n [⟨s 20,m (t 8),n,[]⟩,⟨s 21,m (t 6),n,[]⟩,⟨s 22,b .add .int (t 20) (t 21),n,[0,1]⟩,⟨s 8,m (t 22),n,[2,0,1,2]⟩])))))))
(q (r n [⟨s 23,m (t 0),n,[]⟩,⟨s 24,m (t 7),n,[]⟩,⟨s 25,m (t 1),n,[]⟩,⟨s 26,m (t 2),n,[]⟩,⟨s 27,c (l (.fn 198 [])) [(t 23),(t 24),(t 25),(t 26)],n,[0,1,2,3]⟩])
(o 2 (.loop (q (q (r n [⟨s 28,m (t 6),n,[]⟩,⟨s 29,m (t 1),n,[]⟩,⟨s 30,b .lss .int (t 28) (t 29),n,[0,1]⟩])
(i (t 30) .skip (.exit 2)))
(o 3 (q (r n [⟨s 31,m (t 6),n,[]⟩,⟨s 32,b .mul .int (l (.int .i64 2)) (t 31),n,[0]⟩,⟨s 7,m (l (.int .i64 0)),n,[]⟩,⟨s 8,m (t 32),n,[1,2,0,1,2]⟩])
(q (o 4 (.loop (q (q (r n [⟨s 33,m (t 8),n,[]⟩,⟨s 34,m (t 1),n,[]⟩,⟨s 35,b .leq .int (t 33) (t 34),n,[0,1]⟩])
(i (t 35) .skip (.exit 4)))
(o 5 (q (r n [⟨s 36,m (t 0),n,[]⟩,⟨s 37,m (t 7),n,[]⟩,⟨s 38,m (t 7),n,[]⟩,⟨s 39,m (t 6),n,[]⟩,⟨s 40,b .add .int (t 38) (t 39),n,[2,3]⟩,⟨s 41,m (t 8),n,[]⟩,⟨s 42,m (t 2),n,[]⟩,⟨s 43,c (l (.fn 199 [])) [(t 36),(t 37),(t 40),(t 41),(t 42)],n,[0,1,4,5,6]⟩])
(q (r n [⟨s 44,m (t 8),n,[]⟩,⟨s 7,m (t 44),n,[0,0]⟩])
(r n [⟨s 45,m (t 8),n,[]⟩,⟨s 46,m (t 6),n,[]⟩,⟨s 47,b .mul .int (l (.int .i64 2)) (t 46),n,[1]⟩,⟨s 48,b .add .int (t 45) (t 47),n,[0,2]⟩,⟨s 8,m (t 48),n,[3,0,1,2,3]⟩])))))))
(q (q (r n [⟨s 49,m (t 7),n,[]⟩,⟨s 50,m (t 6),n,[]⟩,⟨s 51,b .add .int (t 49) (t 50),n,[0,1]⟩,⟨s 9,m (t 51),n,[2,0,1,2]⟩])
(q (r n [⟨s 52,m (t 9),n,[]⟩,⟨s 53,m (t 1),n,[]⟩,⟨s 54,b .lss .int (t 52) (t 53),n,[0,1]⟩])
(i (t 54) (r n [⟨s 55,m (t 0),n,[]⟩,⟨s 56,m (t 7),n,[]⟩,⟨s 57,m (t 9),n,[]⟩,⟨s 58,m (t 1),n,[]⟩,⟨s 59,m (t 2),n,[]⟩,⟨s 60,c (l (.fn 199 [])) [(t 55),(t 56),(t 57),(t 58),(t 59)],n,[0,1,2,3,4]⟩]) .skip)))
(r n [⟨s 61,m (t 6),n,[]⟩,⟨s 62,b .mul .int (t 61) (l (.int .i64 2)),n,[0]⟩,⟨s 6,m (t 62),n,[1,0,1]⟩]))))))))))))}
theorem c_slices_stableCmpFunc_spans_run_int : cFunc Tryz.prog n_slices_stableCmpFunc_spans_run_int = some f_slices_stableCmpFunc_spans_run_int := by kernel_rfl
def f_slices_insertionSortCmpFunc_spans_run_int : SFunc := { ntmps := 53, results := [], body :=
(q (r n [⟨s 10,m (t 1),n,[]⟩,⟨s 11,b .add .int (t 10) (l (.int .i64 1)),n,[0]⟩,⟨s 8,m (t 11),n,[1,0,1]⟩])
(o 0 (.loop (q (q (r n [⟨s 12,m (t 8),n,[]⟩,⟨s 13,m (t 2),n,[]⟩,⟨s 14,b .lss .int (t 12) (t 13),n,[0,1]⟩])
(i (t 14) .skip (.exit 0)))
(q (o 1 (q (r n [⟨s 17,m (t 8),n,[]⟩,⟨s 9,m (t 17),n,[0,0]⟩])
(o 2 (.loop (q (q (r (s [0,0,3,7,15,15,15,111,239,15,15,1039,3599,7695,16383,32767,65535]) [⟨s 18,m (t 9),n,[]⟩,⟨s 19,m (t 1),n,[]⟩,⟨s 20,b .gtr .int (t 18) (t 19),n,[0,1]⟩,⟨s 21,m (t 20),n,[2]⟩,⟨s 22,m (t 3),s (21,true),[3]⟩,⟨s 23,m (t 0),s (21,true),[3]⟩,⟨s 24,m (t 9),s (21,true),[3]⟩,⟨s 25,x 3 (t 23) (t 24),s (21,true),[5,6,3]⟩,⟨s 26,d (s 3) (t 25),s (21,true),[7,3]⟩,⟨s 27,m (t 0),s (21,true),[3]⟩,⟨s 28,m (t 9),s (21,true),[3]⟩,⟨s 29,b .sub .int (t 28) (l (.int .i64 1)),s (21,true),[10,3]⟩,⟨s 30,x 3 (t 27) (t 29),s (21,true),[9,11,3]⟩,⟨s 31,d (s 3) (t 30),s (21,true),[12,3]⟩,⟨s 32,c (t 22) [(t 26),(t 31)],s (21,true),[4,8,13,3,3]⟩,⟨s 33,b .lss .int (t 32) (l (.int .i64 0)),s (21,true),[14,3]⟩,⟨s 34,k (t 21) (t 33) (l (.bool false)),n,[3,15]⟩])
(i (t 34) .skip (.exit 2)))
(q (o 3 (r (s [0,0,0,0,8,0,0,64,224,480,0,0,3072,7168,16355,32739,65535,131071]) [⟨s 37,m (t 0),n,[]⟩,⟨s 38,m (t 9),n,[]⟩,⟨s 39,m (t 0),n,[]⟩,⟨s 40,m (t 9),n,[]⟩,⟨s 41,b .sub .int (t 40) (l (.int .i64 1)),n,[3]⟩,⟨s 42,m (t 0),n,[]⟩,⟨s 43,m (t 9),n,[]⟩,⟨s 44,b .sub .int (t 43) (l (.int .i64 1)),n,[6]⟩,⟨s 45,x 3 (t 42) (t 44),n,[5,7]⟩,⟨s 46,d (s 3) (t 45),n,[8]⟩,⟨s 47,m (t 0),n,[]⟩,⟨s 48,m (t 9),n,[]⟩,⟨s 49,x 3 (t 47) (t 48),n,[10,11]⟩,⟨s 50,d (s 3) (t 49),n,[12]⟩,⟨s 51,x 3 (t 37) (t 38),n,[0,1,0,1,5,6,7,8,9,13]⟩,⟨n,e 3 (t 51) (t 46),n,[14,9,0,1,5,6,7,8,9,13]⟩,⟨s 52,x 3 (t 39) (t 41),n,[2,4,0,1,2,3,4,5,6,7,8,9,10,11,12,13,14,15]⟩,⟨n,e 3 (t 52) (t 50),n,[16,13,15,0,1,2,3,4,5,6,7,8,9,10,11,12,13,14,15]⟩]))
(r n [⟨s 35,m (t 9),n,[]⟩,⟨s 36,b .sub .int (t 35) (l (.int .i64 1)),n,[0]⟩,⟨s 9,m (t 36),n,[1,0,1]⟩])))))))
(r n [⟨s 15,m (t 8),n,[]⟩,⟨s 16,b .add .int (t 15) (l (.int .i64 1)),n,[0]⟩,⟨s 8,m (t 16),n,[1,0,1]⟩]))))))}
theorem c_slices_insertionSortCmpFunc_spans_run_int : cFunc Tryz.prog n_slices_insertionSortCmpFunc_spans_run_int = some f_slices_insertionSortCmpFunc_spans_run_int := by kernel_rfl
def f_rope_piece_Sum : SFunc := { ntmps := 5, results := [.cell 2 (some 4)], body :=
(q (r n [⟨s 2,.alloc [(.int .i64 0),(.int .i64 0),(.int .i64 0),(.int .i64 0)],n,[]⟩])
(q (r n [⟨s 3,m (t 0),n,[]⟩,⟨s 4,c (l (.fn 157 [])) [(t 3)],n,[0]⟩,⟨n,e 4 (t 2) (t 4),n,[1,1,0,1]⟩])
.ret))}
theorem c_rope_piece_Sum : cFunc Tryz.prog n_rope_piece_Sum = some f_rope_piece_Sum := by kernel_rfl
def f_rope_counts_Plus : SFunc := { ntmps := 8, results := [.cell 4 (some 4)], body :=
(q (r n [⟨s 2,.box (t 0),n,[]⟩,⟨s 3,.box (t 1),n,[]⟩,⟨s 4,.alloc [(.int .i64 0),(.int .i64 0),(.int .i64 0),(.int .i64 0)],n,[]⟩])
(q (r n [⟨s 5,d (s 4) (t 2),n,[]⟩,⟨s 6,d (s 4) (t 3),n,[]⟩,⟨s 7,c (l (.fn 158 [])) [(t 5),(t 6)],n,[0,1]⟩,⟨n,e 4 (t 4) (t 7),n,[2,2,0,1,2]⟩])
.ret))}
theorem c_rope_counts_Plus : cFunc Tryz.prog n_rope_counts_Plus = some f_rope_counts_Plus := by kernel_rfl
end
end Go.Proofs.YtmfeoicoegfpeaaGreat.M

import Derived.Test.YtgaibigpannjfaaGreatDoorW1
set_option maxRecDepth 100000
set_option linter.all false
namespace Go.Cb.CodeA
open Go Go.Cb Go.Cb.G
def k0:AV:=(.ptr 2 0)
def k1:AV:=(.sl 34 0 1 4)
def k3:AV:=(.int .u8 6)
def k4:AV:=(.int .i64 0)
def k5:AV:=(.str [])
def k6:AV:=(.list false [])
def k8:AV:=(.int .u8 1)
def k10:AV:=(.str [99,114,101,97,116,101,68,111,103])
def k11:AV:=(.str [105,100])
def k12:AV:=(.int .u8 2)
def k13:AV:=(.str [97])
def k14:AV:=(.str [105,110,112,117,116])
def k15:AV:=(.str [98,97,114,107,115])
def k16:AV:=(.list false [[k15]])
def k17:AV:=(.int .i64 1)
def k18:AV:=(.list false [[(.int .u8 3),k17,k5,k6,k6]])
def k19:AV:=(.list false [[k8,k5,k15,k5,k6,k6,k6]])
def k20:AV:=(.list true [[k11],[k14]])
def k21:AV:=(.list true [[k15]])
def k22:AV:=(.list true [[(.int .u8 3),k17,k5,k6,k6]])
def k23:AV:=(.bool false)
def k25:AV:=(.str [68,111,103])
def k26:AV:=(.agg [k25,k13,k16,k18])
def k28:AV:=(.bool true)
def k29:AV:=(.int .u8 0)
def k30:AV:=(.list false [[k11,k6,(.str [73,68]),k6,k28,k23,k29,k4,k5,k6,k6],[k14,k6,(.str [68,111,103,73,110]),k6,k28,k23,k29,k4,k5,k6,k6]])
def k31:AV:=(.list false [[k11],[k14]])
def k32:AV:=(.list false [[k12,k4,k13,k6,k6],[k3,k4,k5,k16,k18]])
def k33:AV:=(.ptr 32 0)
def k34:AV:=(.str [99,114,101,97,116,101])
def k35:AV:=(.box [k5,k5,k6,k6])
def k36:AV:=(.list true [])
def k37:AV:=(.str [66,111,111,108,101,97,110])
def k38:AV:=(.ptr 41 0)
def k39:AV:=(.ptr 48 0)
def k40:AV:=(.ptr 51 0)
def k41:AV:=(.tuple [])
def k42:AV:=(.ptr 49 0)
def k43:AV:=(.agg [k1,.nils])
def k44:AV:=(.box [k1,.nils])
def k46:AV:=(.ptr 45 0)
def k48:AV:=(.ptr 47 0)
def k50:AV:=(.agg [k3,k4,k5,k16,k18])
def k51:AV:=(.int .u8 8)
def k52:AV:=(.agg [k25,k6,k23])
def k54:AV:=(.box [k25,k6,k23])
def k59:AV:=(.int .i64 7)
def k60:AV:=(.agg [k29,k4,k5,k6,k6])
def k61:AV:=(.str [99,114,101,97,116,101,67,97,116])
def k62:AV:=(.str [98])
def k63:AV:=(.str [110,97,109,101])
def k64:AV:=(.str [108,105,118,101,115])
def k65:AV:=(.str [111,119,110,101,114])
def k66:AV:=(.list false [[k63],[k64],[k65]])
def k67:AV:=(.str [81])
def k68:AV:=(.int .i64 2)
def k69:AV:=(.list false [[k12,k4,k67,k6,k6],[k8,k68,k5,k6,k6],[k12,k4,k13,k6,k6]])
def k70:AV:=(.list false [[k8,k5,k63,k5,k6,k6,k6]])
def k71:AV:=(.str [67,97,116])
def k72:AV:=(.list false [[k64],[k63],[k65]])
def k73:AV:=(.list false [[k8,k68,k5,k6,k6],[k12,k4,k67,k6,k6],[k51,k4,k13,k6,k6]])
def k74:AV:=(.agg [k71,k62,k72,k73])
def k75:AV:=(.list true [[k63]])
def k76:AV:=(.list true [[k12,k4,k67,k6,k6]])
def k78:AV:=(.list false [[k11,k6,(.str [73,68]),k6,k28,k23,k29,k4,k5,k6,k6],[k14,k6,(.str [67,97,116,73,110]),k6,k28,k23,k29,k4,k5,k6,k6]])
def k79:AV:=(.list false [[k12,k4,k62,k6,k6],[k3,k4,k5,k66,k69]])
def k80:AV:=(.str [83,116,114,105,110,103])
def k81:AV:=(.str [73,110,116])
def k82:AV:=(.str [80,101,114,115,111,110])
def k83:AV:=(.list false [[(.str [78,97,109,101,100])]])
def k84:AV:=(.ptr 54 0)
def k85:AV:=(.ptr 55 0)
def k87:AV:=(.list false [[k63]])
def k88:AV:=(.list false [[k12,k4,k67,k6,k6]])
def k89:AV:=(.agg [k3,k4,k5,k87,k88])
def k90:AV:=(.agg [k71,k6,k23])
def k91:AV:=(.box [k71,k6,k23])
def k93:AV:=(.str [117,112,100,97,116,101,80,101,114,115,111,110])
def k94:AV:=(.str [99])
def k95:AV:=(.str [97,103,101])
def k96:AV:=(.str [102,114,105,101,110,100,115])
def k97:AV:=(.list false [[k95],[k96]])
def k98:AV:=(.int .i64 5)
def k99:AV:=(.list false [[k12,k4,k13,k6,k6]])
def b4s:AV:=(.list false [[k8,k98,k5,k6,k6],[(.int .u8 5),k4,k5,k6,k99]])
def c0J:AV:=(.list false [[k8,k5,k95,k5,k6,k6,k6]])
def d5J:AV:=(.list false [[k11,k6,(.str [73,68]),k6,k28,k23,k29,k4,k5,k6,k6],[k14,k6,(.str [80,101,114,115,111,110,73,110]),k6,k28,k23,k29,k4,k5,k6,k6]])
def d3p:AV:=(.list false [[k12,k4,k94,k6,k6],[k3,k4,k5,k97,b4s]])
def q8:AV:=(.int .i64 6)
def c8u:AV:=(.agg [k8,k98,k5,k6,k6])
def J4:AV:=(.ptr 42 0)
def a6Y:AV:=(.ptr 44 0)
def a3L:AV:=(.ptr 50 0)
def d4u:AV:=(.agg [k95,(.sl 55 0 1 7)])
def d6g:AV:=(.box [k95,(.sl 55 0 1 7)])
def c02:AV:=(.list true [[k95]])
def a8N:AV:=(.list false [[k95]])
def c9l:AV:=(.list false [[k8,k98,k5,k6,k6]])
def c1D:AV:=(.agg [k3,k4,k5,a8N,c9l])
def b9I:AV:=(.str [100,101,108,101,116,101,80,101,114,115,111,110])
def b5u:AV:=(.list false [[k11,k6,(.str [73,68]),k6,k28,k23,k29,k4,k5,k6,k6]])
def b48:AV:=(.list false [[k11]])
def a00:AV:=(.str [100,101,108,101,116,101])
def a4I:AV:=(.sl 45 0 1 2)
def a7d:AV:=(.sl 46 0 1 7)
def C5:AV:=(.ptr 38 0)
def b0A:AV:=(.agg [k81,k6,k23])
def b0C:AV:=(.agg [k95,a7d])
def d0R:AV:=(.box [k81,k6,k23])
def b3O:AV:=(.box [k95,a7d])
def d4E:AV:=(.list false [[k29,k4,k5,k6,k6]])
def c1F:AV:=(.agg [k3,k4,k5,a8N,d4E])
def c0z:AV:=(.str [100,101,108,101,116,101,67,97,116])
def a0A:AV:=(.str [95,95,116,121,112,101,110,97,109,101])
def c8n:AV:=(.list false [[k8,k5,a0A,k5,k6,k6,k6]])
def d3v:AV:=(.list false [[k12,k4,k62,k6,k6]])
def c9I:AV:=(.list false [[a0A]])
def d0E:AV:=(.list false [[k12,k4,k71,k6,k6]])
def b9A:AV:=(.agg [k3,k4,k5,c9I,d0E])
def a3h:AV:=(.sl 35 0 1 2)
def O3:AV:=(.ptr 52 0)
def a0v:AV:=(.ptr 46 0)
def a7g:AV:=(.ptr 43 0)
def c8a:AV:=(.agg [k95,(.sl 56 0 1 7)])
def d4F:AV:=(.box [k95,(.sl 56 0 1 7)])
def a4O:AV:=(.sl 46 0 1 2)
def a7z:AV:=(.sl 47 0 1 7)
def A9:AV:=(.ptr 39 0)
def b1i:AV:=(.agg [k95,a7z])
def b4c:AV:=(.box [k95,a7z])
section
variable [v:Lt]
def k2:AV:=(.sl 31 0 v.n 4)
def k7:AV:=(.int .i64 v.k0)
def k9:AV:=(.str v.al)
def k24:AV:=(.agg [k2])
def k27:AV:=(.sl 44 0 (.succ v.n) 4)
def k45:AV:=(.int .i64 v.k1)
def k47:AV:=(.list false [[k9]])
def k49:AV:=(.list true [[k9],[k15]])
def k53:AV:=(.agg [k9,(.sl 33 0 1 7)])
def k55:AV:=(.box [k9,(.sl 33 0 1 7)])
def k56:AV:=(.agg [k27,k28,k6])
def k57:AV:=(.list false v.K)
def k58:AV:=(.list false v.L)
def k77:AV:=(.sl 50 0 (.succ v.n) 4)
def k86:AV:=(.list true [[k9],[k63]])
def k92:AV:=(.agg [k77,k28,k6])
def c9Y:AV:=(.agg [k82,k94,k57,k58])
def c9s:AV:=(.agg [k82,k94,(.list false v.K2),(.list false v.L2)])
def a4v:AV:=(.sl 46 0 v.n 4)
def a8B:AV:=(.list false [[k9],[k95]])
def b3C:AV:=(.list true [[k9],[k95]])
def d2s:AV:=(.agg [a4v,k28,k6])
def d5d:AV:=(.agg [k82,k13,k57,k58])
def d0V:AV:=(.agg [k8,(.int .i64 v.m),k5,k6,k6])
def d3L:AV:=(.list false [[k8,(.int .i64 v.m),k5,k6,k6]])
def c00:AV:=(.agg [k3,k4,k5,a8N,d3L])
def b9o:AV:=(.agg [k2,k28,k6])
def d51:AV:=(.agg [k71,k62,k57,k58])
def a3O:AV:=(.sl 45 0 (.succ v.n) 4)
def d3q:AV:=(.agg [a3O,k28,k6])
def a4x:AV:=(.sl 51 0 (.succ v.n) 4)
def c9J:AV:=(.agg [a4x,k28,k6])
def a3P:AV:=(.sl 47 0 v.n 4)
def d1L:AV:=(.agg [a3P,k28,k6])
def p0:Obj:=.cells [k0,k1,.nils,k2,k3,k4,k5,k6,k6,.nils,k7]
def p1:Obj:=.cells [k8,k9,k10,k5,(.list false [[k11,k12,k4,k13,k6,k6],[k14,k3,k4,k5,k16,k18]]),k6,k19]
def p2:Obj:=.cells [k3,k4,k5,k20,(.list true [[k12,k4,k13,k6,k6],[k3,k4,k5,k16,k18]])]
def p3:Obj:=.cells [k3,k4,k5,k21,k22]
def p4:St:=(T_b0++[.cells v.C,p0,p1,.cells v.D,p2,.cells [k11],.cells [k14],p2,.cells [k15],p3])
def p5:AV:=(.tuple [(.agg [k5,k5,k6,k6]),k23])
abbrev Q0:Prop:=Ev e7 176 [k24,k13] p4 p5 p4
def p6:AV:=k26
def p7:Obj:=.cells [k25,k13,k21,k22]
def p8:St:=(p4++[.cells [k15],p7])
def p9:St:=(p8++[.dead,.cells v.C2])
abbrev Q1:Prop:=Ev e7 16 [k24,p6] p8 (.agg [k27]) p9
def p10:AV:=(.agg [k10,k30,k25,k6,k23,k23,k29,k4,k5,k6,k6])
def p11:AV:=(.agg [k3,k4,k5,k31,k32])
def p12:AV:=(.box [k10,k30,k25,k6,k23,k23,k29,k4,k5,k6,k6])
def p13:AV:=(.box [k3,k4,k5,k31,k32])
def p14:List AV:=[k33,p10,k13,p11,p12,p13,k4,k34,k25,.undef,.undef,.undef,.undef,.undef,.undef,.undef,.undef,.undef,.undef]
def p15:List AV:=((p14.set 9 k35).set 10 k23)
def p16:AV:=(.box [k25,k13,k36,k36])
def p17:AV:=(.box [k25,k13,k16,k18])
def p18:AV:=(.box [k8,k25,(.list false [[k15,k6,k37,k6,k23,k23,k29,k4,k5,k6,k6]]),k6])
def p19:AV:=(.box [k3,k4,k5,k16,k18])
def p20:List AV:=[k33,p10,k13,p11,p12,p13,k4,k34,k25,p17,k23,p18,p19,k4,k38,k4,k16,k17,k17]
def p21:Obj:=.cells [k0,k1,.nils,k27,k3,k4,k5,k6,k6,.nils,k7]
def p22:Obj:=.cells [k0,k1,.nils,k27,k28,k6,k3,k4,k5,k6,k6,.nils,k23,k7]
def p23:St:=((p9.set 32 p21)++[p22,.cells [k27,k28,k6]])
def p24:AV:=(.tuple [k26,k28])
abbrev Q3:Prop:=Ev e7 176 [(.agg [k27]),k13] p23 p24 p23
def p25:AV:=(.agg [k8,k5,k15,k5,k6,k6,k6])
def p26:Obj:=.cells [k3,k4,k5,k36,k36]
def p27:Obj:=.cells [k0,k1,.nils,k25,k3,k4,k5,k6,k6,k36,k36]
def p28:Obj:=.cells [k8,k5,k15,k5,k6,k6,k6]
def p29:St:=(p23++[p26,p27,p28,.cells [k39]])
def p30:AV:=(.box [k8,k5,k15,k5,k6,k6,k6])
def p31:List AV:=[k39,p25,p30,k40,k4,.undef,.undef,.undef]
def p32:Obj:=.cells [k0,k1,.nils,k25,k3,k4,k5,k6,k6,k36,(.sl 52 0 1 2)]
def p33:St:=((p29.set 48 p32)++[.cells [k15],.cells [k15,k36]])
def p34:List AV:=(((p31.set 5 p25).set 6 k4).set 7 (.sl 53 0 1 7))
def p35:St:=((p33.set 52 (.cells [k15,(.sl 53 0 1 7)]))++[p28])
def p36:AV:=k19
def p37:St:=(p23++[p26,p27])
def p38:List AV:=[k39,p36,.undef,.undef,p36,k17,k4,.undef]
def p39:List AV:=(((p38.set 2 k42).set 7 k8).set 6 k17)
def p40:AV:=(.agg [k3,k4,k5,k6,k6])
def p41:List AV:=[k0,k43,k25,p36,p40]
def p42:St:=(p23++[p26])
def p43:AV:=(.box [k3,k4,k5,k6,k6])
def p44:List AV:=[k0,k43,k25,p36,p40,k44,p43,k36,k39]
def p45:Obj:=.cells [k0,k1,.nils,k27,k28,k6,k3,k4,k5,k6,k6,.nils,k23,k45]
abbrev Q7:Prop:=Ev e7 264 [k46] p35 k28 (p35.set 45 p45)
def p46:List AV:=[k46,k25,p6,p36,k47]
def p47:AV:=(.box [k29,k4,k5,k36,k36])
def p48:List AV:=[k46,k25,p6,p36,k47,p17,p47,k23,k48,.undef,.undef,.undef,.undef,.undef,.undef,.undef,.undef,.undef]
def p49:List AV:=(((p48.set 15 (.sl 52 0 1 2)).set 16 k17).set 17 k4)
def p50:AV:=(.box [k15,k6,k37,k6,k23,k23,k29,k4,k5,k6,k6])
def p51:List AV:=(((p49.set 9 (.box [k15,(.sl 53 0 1 7)])).set 10 p50).set 11 k28)
def p52:Obj:=.cells [k37,k6,k23]
def p53:St:=(((p35.set 45 p45).set 47 p3)++[.cells [k0],p52])
def p54:AV:=(.box [(.int .u8 3),k17,k5,k6,k6])
def p55:List AV:=(((p51.set 12 k49).set 13 p54).set 14 k28)
def p56:List AV:=(((p55.set 17 k17).set 6 p19).set 7 k28)
def p57:AV:=(.tuple [k50,k28])
def p58:AV:=(.agg [k51,k4,k13,k6,k6])
def p59:List AV:=(((p46.set 1 k52).set 2 p58).set 3 k53)
def p60:St:=((p9.set 32 p21)++[p22])
def p61:AV:=(.box [k51,k4,k13,k6,k6])
def p62:List AV:=[k46,k52,p58,k53,k47,k54,p61,k55,p47,.undef,.undef,.undef,.undef,.undef,.undef,.undef,.undef,.undef,.undef,.undef]
def p63:List AV:=(((p62.set 14 p17).set 15 k28).set 16 p19)
def p64:AV:=k50
def p65:List AV:=[k46,k52,p58,k53,k47,k54,p61,k55,p47,k23,k4,.undef]
def p66:List AV:=(((p65.set 11 p19).set 8 p19).set 9 k28)
def p67:List AV:=[k0,k56,k43,p40,k52,k53,k13,k7]
def p68:List AV:=[k0,k56,k43,p40,k52,k53,k13,k7,(.box [k27,k28,k6]),k44,p43,k54,k55,p47,k36,k4,k46,.undef]
def p69:List AV:=((((p68.set 17 p19).set 13 p19).set 14 .nils).set 15 k45)
def p70:AV:=(.tuple [k50,.nils,k45])
def p71:List AV:=[k33,p10,k53]
def p72:St:=(T_b0++[.cells v.C,p0,p1,.cells v.D])
def p73:List AV:=[k33,p10,k53,p12,k55,p47,p13,k4,k5,.undef,.undef,.undef,.undef,.undef]
def p74:AV:=(.box [k12,k4,k13,k6,k6])
def p75:List AV:=(((((p73.set 8 k13).set 9 p74).set 10 p19).set 11 .nils).set 12 k45)
def p76:Obj:=.cells [k0,k1,.nils,k27,k3,k4,k5,k6,k6,.nils,k45]
def p77:List AV:=((p75.set 5 p19).set 13 k34)
def p78:AV:=(.tuple [(.agg [(.str v.t),k13,k57,k58]),k28])
abbrev Q13:Prop:=Ev e7 176 [k24,k13] ((p4.set 31 (.cells v.C)).set 32 p0) p78 ((p4.set 31 (.cells v.C)).set 32 p0)
def p79:AV:=(.box [(.str v.t),k13,k57,k58])
def p80:List AV:=(((p15.set 9 p16).set 9 p79).set 10 k28)
abbrev Q15:Prop:=Ev e7 112 [k33,p10,k13,p11] p4 k59 p4
def p81:List AV:=(((p73.set 8 k13).set 9 p74).set 7 k59)
def p82:Obj:=.cells [k0,k1,.nils,k2,k3,k4,k5,k6,k6,(.sl 41 0 1 2),k7]
def p83:St:=((p4.set 32 p82)++[.cells [k47,k59]])
def p84:AV:=k60
def p85:Obj:=.cells [k8,k9,k61,k5,(.list false [[k11,k12,k4,k62,k6,k6],[k14,k3,k4,k5,k66,k69]]),k6,k70]
def p86:Obj:=.cells [k3,k4,k5,k20,(.list true [[k12,k4,k62,k6,k6],[k3,k4,k5,k66,k69]])]
def p87:Obj:=.cells [k3,k4,k5,(.list true [[k63],[k64],[k65]]),(.list true [[k12,k4,k67,k6,k6],[k8,k68,k5,k6,k6],[k12,k4,k13,k6,k6]])]
def p88:St:=((p72.set 33 p85)++[p86,.cells [k11],.cells [k14],p86,.cells [k63],.cells [k64],.cells [k65],p87])
abbrev Q17:Prop:=Ev e7 176 [k24,k62] p88 p5 p88
def p89:AV:=k74
def p90:Obj:=.cells [k71,k62,k75,k76]
def p91:Obj:=.cells [k71,k62,(.list true [[k64],[k63]]),(.list true [[k8,k68,k5,k6,k6],[k12,k4,k67,k6,k6]])]
def p92:Obj:=.cells [k71,k62,(.list true [[k64],[k63],[k65]]),(.list true [[k8,k68,k5,k6,k6],[k12,k4,k67,k6,k6],[k51,k4,k13,k6,k6]])]
def p93:St:=(p88++[.cells [k63],p90,.cells [k64],p91,.cells [k65],p92])
def p94:St:=(p93++[.dead,.cells v.C2])
abbrev Q18:Prop:=Ev e7 16 [k24,p89] p93 (.agg [k77]) p94
def p95:AV:=(.agg [k61,k78,k71,k6,k23,k23,k29,k4,k5,k6,k6])
def p96:AV:=(.agg [k3,k4,k5,k31,k79])
def p97:AV:=(.box [k61,k78,k71,k6,k23,k23,k29,k4,k5,k6,k6])
def p98:AV:=(.box [k3,k4,k5,k31,k79])
def p99:List AV:=[k33,p95,k62,p96,p97,p98,k4,k34,k71,.undef,.undef,.undef,.undef,.undef,.undef,.undef,.undef,.undef,.undef]
def p100:List AV:=((p99.set 9 k35).set 10 k23)
def b85:AV:=(.box [k71,k62,k36,k36])
def a8V:AV:=(.box [k71,k62,k72,k73])
def e4I:AV:=(.box [k8,k71,(.list false [[k63,k6,k80,k6,k28,k23,k29,k4,k5,k6,k6],[k64,k6,k81,k6,k28,k23,k29,k4,k5,k6,k6],[k65,k6,k82,k6,k23,k23,k29,k4,k5,k6,k6]]),k83])
def e2N:AV:=(.box [k3,k4,k5,k66,k69])
def e10:AV:=k66
def p106:List AV:=[k33,p95,k62,p96,p97,p98,k4,k34,k71,a8V,k23,e4I,e2N,k68,k48,k68,e10,(.int .i64 3),(.int .i64 3)]
def a5c:Obj:=.cells [k0,k1,.nils,k77,k3,k4,k5,k6,k6,.nils,k7]
def d1u:Obj:=.cells [k0,k1,.nils,k77,k28,k6,k3,k4,k5,k6,k6,.nils,k23,k7]
def a2T:St:=((p94.set 32 a5c)++[d1u,.cells [k77,k28,k6]])
def d7j:AV:=(.tuple [k74,k28])
abbrev Q20:Prop:=Ev e7 176 [(.agg [k77]),k62] a2T d7j a2T
def b1b:AV:=(.agg [k8,k5,k63,k5,k6,k6,k6])
def a5z:Obj:=.cells [k0,k1,.nils,k71,k3,k4,k5,k6,k6,k36,k36]
def b6a:Obj:=.cells [k8,k5,k63,k5,k6,k6,k6]
def p114:St:=(a2T++[p26,a5z,b6a,.cells [k84]])
def e8H:AV:=(.box [k8,k5,k63,k5,k6,k6,k6])
def p116:List AV:=[k84,b1b,e8H,(.ptr 57 0),k4,.undef,.undef,.undef]
def e1G:Obj:=.cells [k0,k1,.nils,k71,k3,k4,k5,k6,k6,k36,(.sl 58 0 1 2)]
def p118:St:=((p114.set 54 e1G)++[.cells [k63],.cells [k63,k36]])
def e5C:List AV:=(((p116.set 5 b1b).set 6 k4).set 7 (.sl 59 0 1 7))
def p120:St:=((p118.set 58 (.cells [k63,(.sl 59 0 1 7)]))++[b6a])
def a2k:AV:=k70
def b4g:St:=(a2T++[p26,a5z])
def p123:List AV:=(((p38.set 0 k84).set 1 a2k).set 4 a2k)
def d3a:List AV:=(((p123.set 2 k85).set 7 k8).set 6 k17)
def d29:St:=(a2T++[p26])
def p126:List AV:=(((p44.set 2 k71).set 3 a2k).set 8 k84)
def a7p:Obj:=.cells [k0,k1,.nils,k77,k28,k6,k3,k4,k5,k6,k6,.nils,k23,k45]
abbrev Q24:Prop:=Ev e7 264 [k40] p120 k28 (p120.set 51 a7p)
def p128:List AV:=[k40,k71,p89,a2k,k47]
def p129:List AV:=[k40,k71,p89,a2k,k47,a8V,p47,k23,(.ptr 53 0),.undef,.undef,.undef,.undef,.undef,.undef,.undef,.undef,.undef]
def p130:List AV:=(((p129.set 15 (.sl 58 0 1 2)).set 16 k17).set 17 k4)
def d0r:AV:=(.box [k63,k6,k80,k6,k28,k23,k29,k4,k5,k6,k6])
def p132:List AV:=(((p130.set 9 (.box [k63,(.sl 59 0 1 7)])).set 10 d0r).set 11 k28)
def d1F:Obj:=.cells [k3,k4,k5,k75,k76]
def d05:Obj:=.cells [k80,k6,k23]
def p135:St:=(((p120.set 51 a7p).set 53 d1F)++[.cells [k0],d05])
def c8v:AV:=(.box [k12,k4,k67,k6,k6])
def p137:List AV:=(((p132.set 12 k86).set 13 c8v).set 14 k28)
def U9:AV:=(.box [k3,k4,k5,k87,k88])
def e7c:List AV:=(((p137.set 17 k17).set 6 U9).set 7 k28)
def b4D:AV:=(.tuple [k89,k28])
def c03:AV:=(.agg [k51,k4,k62,k6,k6])
def p142:List AV:=(((p128.set 1 k90).set 2 c03).set 3 k53)
def b5K:St:=((p94.set 32 a5c)++[d1u])
def d3B:AV:=(.box [k51,k4,k62,k6,k6])
def p145:List AV:=[k40,k90,c03,k53,k47,k91,d3B,k55,p47,.undef,.undef,.undef,.undef,.undef,.undef,.undef,.undef,.undef,.undef,.undef]
def p146:List AV:=(((p145.set 14 a8V).set 15 k28).set 16 U9)
def a8L:AV:=k89
def p148:List AV:=[k40,k90,c03,k53,k47,k91,d3B,k55,p47,k23,k4,.undef]
def p149:List AV:=(((p148.set 11 U9).set 8 U9).set 9 k28)
def p150:List AV:=(((p67.set 1 k92).set 4 k90).set 6 k62)
def p151:List AV:=[k0,k92,k43,p40,k90,k53,k62,k7,(.box [k77,k28,k6]),k44,p43,k91,k55,p47,k36,k4,k40,.undef]
def e68:List AV:=((((p151.set 17 U9).set 13 U9).set 14 .nils).set 15 k45)
def d2v:AV:=(.tuple [k89,.nils,k45])
def a5m:List AV:=[k33,p95,k53]
def a2r:AV:=(.box [k12,k4,k62,k6,k6])
def p156:List AV:=(((((p73.set 1 p95).set 3 p97).set 6 p98).set 8 k62).set 9 a2r)
def p157:List AV:=(((p156.set 10 U9).set 11 .nils).set 12 k45)
def b6r:Obj:=.cells [k0,k1,.nils,k77,k3,k4,k5,k6,k6,.nils,k45]
def d3b:List AV:=((p157.set 5 U9).set 13 k34)
def c8x:AV:=(.tuple [(.agg [(.str v.t),k62,k57,k58]),k28])
abbrev Q30:Prop:=Ev e7 176 [k24,k62] ((p88.set 31 (.cells v.C)).set 32 p0) c8x ((p88.set 31 (.cells v.C)).set 32 p0)
def e8r:AV:=(.box [(.str v.t),k62,k57,k58])
def p162:List AV:=(((p100.set 9 b85).set 9 e8r).set 10 k28)
abbrev Q32:Prop:=Ev e7 112 [k33,p95,k62,p96] p88 k59 p88
def e26:Obj:=.cells [k0,k1,.nils,k2,k3,k4,k5,k6,k6,(.sl 43 0 1 2),k7]
def b3K:St:=((p88.set 32 e26)++[.cells [k47,k59]])
def a1w:Obj:=.cells [k8,k9,k93,k5,(.list false [[k11,k12,k4,k94,k6,k6],[k14,k3,k4,k5,k97,b4s]]),k6,c0J]
def b4l:Obj:=.cells [k3,k4,k5,k20,(.list true [[k12,k4,k94,k6,k6],[k3,k4,k5,k97,b4s]])]
def d64:Obj:=.cells [k3,k4,k5,(.list true [[k95],[k96]]),(.list true [[k8,k98,k5,k6,k6],[(.int .u8 5),k4,k5,k6,k99]])]
def p168:St:=(((p72.set 33 p85).set 33 a1w)++[b4l,.cells [k11],.cells [k14],b4l,.cells [k95],.cells [k96],d64])
abbrev Q34:Prop:=Ev e7 176 [k24,k94] p168 p5 p168
def T0:AV:=(.agg [k93,d5J,k82,k6,k23,k23,k29,k4,k5,k6,k6])
def Z1:AV:=(.agg [k3,k4,k5,k31,d3p])
def d2B:AV:=(.box [k93,d5J,k82,k6,k23,k23,k29,k4,k5,k6,k6])
def d3H:AV:=(.box [k3,k4,k5,k31,d3p])
def p173:List AV:=[k33,T0,k94,Z1,d2B,d3H,k4,(.str [117,112,100,97,116,101]),k82,.undef,.undef,.undef,.undef,.undef,.undef,.undef,.undef,.undef,.undef]
def p174:List AV:=((p173.set 9 k35).set 10 k23)
def d3V:AV:=(.tuple [(.agg [k71,k94,k57,k58]),k28])
abbrev Q36:Prop:=Ev e7 176 [k24,k94] ((p168.set 31 (.cells v.C)).set 32 p0) d3V ((p168.set 31 (.cells v.C)).set 32 p0)
def b44:AV:=(.box [k71,k94,k57,k58])
def d0Z:List AV:=(((p174.set 9 b44).set 10 k28).set 6 q8)
def p178:St:=(((p168.set 31 (.cells v.C)).set 32 p0).set 31 (.cells v.C))
def d1h:AV:=(.tuple [(.agg [k25,k94,k57,k58]),k28])
abbrev Q38:Prop:=Ev e7 176 [k24,k94] p178 d1h p178
def e41:AV:=(.box [k25,k94,k57,k58])
def p181:List AV:=(((p174.set 9 b44).set 10 k28).set 9 e41)
def d0Q:AV:=(.tuple [c9Y,k28])
abbrev Q40:Prop:=Ev e7 176 [k24,k94] (p178.set 31 (.cells v.C)) d0Q (p178.set 31 (.cells v.C))
def b3W:AV:=c9Y
def b5f:AV:=c8u
def b4J:St:=((p178.set 31 (.cells v.C))++[.cells [k95]])
def b0r:AV:=(.agg [k82,k94,(.list false v.K1),(.list false v.L1)])
def c8G:Obj:=.cells [k82,k94,(.list true v.K1),(.list true v.L1)]
def a8f:St:=(b4J++[c8G])
abbrev Q41:Prop:=Ev e7 179 [b3W,k95,b5f] b4J b0r a8f
def e8S:AV:=(.agg [(.int .u8 5),k4,k5,k6,(.list false [[k51,k4,k13,k6,k6]])])
def b5T:List AV:=[b0r,k96,e8S]
def b4B:St:=(a8f++[.cells [k96]])
def a2R:AV:=c9s
def c83:Obj:=.cells [k82,k94,(.list true v.K2),(.list true v.L2)]
def a3S:St:=(b4B++[c83])
abbrev Q42:Prop:=Ev e7 179 b5T b4B a2R a3S
def p195:St:=(a3S++[.cells v.C2])
abbrev Q43:Prop:=Ev e7 16 [k24,a2R] a3S (.agg [a4v]) p195
def b9r:AV:=(.box [k82,k94,k57,k58])
def e4M:AV:=(.box [k8,k82,(.list false [[k63,k6,k80,k6,k28,k23,k29,k4,k5,k6,k6],[k95,k6,k81,k6,k23,k23,k29,k4,k5,k6,k6],[(.str [109,111,111,100]),k6,(.str [77,111,111,100]),k6,k23,k23,k29,k4,k5,k6,k6],[k96,k6,k5,(.list false [[k82,k6,k28]]),k23,k23,k29,k4,k5,k6,k6],[(.str [112,101,116]),k6,(.str [80,101,116]),k6,k23,k23,k29,k4,k5,k6,k6],[(.str [116,97,103,115]),k6,k5,(.list false [[k80,k6,k23]]),k23,k23,k29,k4,k5,k6,k6]]),k83])
def e9b:AV:=(.box [k3,k4,k5,k97,b4s])
def p199:List AV:=(((p181.set 9 b9r).set 11 e4M).set 12 e9b)
def e6j:AV:=k97
def p201:List AV:=(((p199.set 16 e6j).set 17 k68).set 18 k4)
def p202:List AV:=(((p201.set 13 k4).set 14 J4).set 15 k17)
def a8Z:AV:=(.box [k82,k94,(.list false v.K1),(.list false v.L1)])
def p204:List AV:=(((((p202.set 9 a8Z).set 18 k17).set 13 k17).set 14 a6Y).set 15 (.int .i64 3))
def a0U:AV:=(.box [k82,k94,(.list false v.K2),(.list false v.L2)])
def a5n:Obj:=.cells [k0,k1,.nils,a4v,k3,k4,k5,k6,k6,.nils,k7]
def d3R:Obj:=.cells [k0,k1,.nils,a4v,k28,k6,k3,k4,k5,k6,k6,.nils,k23,k7]
def a3o:St:=((p195.set 32 a5n)++[d3R,.cells [a4v,k28,k6]])
def d5s:AV:=(.tuple [c9s,k28])
abbrev Q45:Prop:=Ev e7 176 [(.agg [a4v]),k94] a3o d5s a3o
def a3U:AV:=(.agg [k8,k5,k95,k5,k6,k6,k6])
def a5w:Obj:=.cells [k0,k1,.nils,k82,k3,k4,k5,k6,k6,k36,k36]
def a5o:Obj:=.cells [k8,k5,k95,k5,k6,k6,k6]
def p213:St:=(a3o++[p26,a5w,a5o,.cells [a3L]])
def e8Y:AV:=(.box [k8,k5,k95,k5,k6,k6,k6])
def p215:List AV:=[a3L,a3U,e8Y,(.ptr 53 0),k4,.undef,.undef,.undef]
def e32:Obj:=.cells [k0,k1,.nils,k82,k3,k4,k5,k6,k6,k36,(.sl 54 0 1 2)]
def p217:St:=((p213.set 50 e32)++[.cells [k95],.cells [k95,k36]])
def e6G:List AV:=(((p215.set 5 a3U).set 6 k4).set 7 (.sl 55 0 1 7))
def p219:St:=((p217.set 54 (.cells [k95,(.sl 55 0 1 7)]))++[a5o])
def a2q:AV:=c0J
def b6w:St:=(a3o++[p26,a5w])
def p222:List AV:=(((p123.set 0 a3L).set 1 a2q).set 4 a2q)
def d1c:List AV:=(((p222.set 2 k40).set 7 k8).set 6 k17)
def b5H:List AV:=((((p41.set 2 k71).set 3 a2k).set 2 k82).set 3 a2q)
def c8W:St:=(a3o++[p26])
def p226:List AV:=(((p126.set 2 k82).set 3 a2q).set 8 a3L)
def a0w:Obj:=.cells [k0,k1,.nils,a4v,k28,k6,k3,k4,k5,k6,k6,.nils,k23,k45]
abbrev Q49:Prop:=Ev e7 264 [k48] p219 k28 (p219.set 47 a0w)
def b5m:AV:=(.agg [k3,k4,k5,(.list false v.K2),(.list false v.L2)])
def a8w:AV:=(.tuple [c8u,k28])
abbrev Q50:Prop:=Ev e7 105 [b5m,k95] (p219.set 47 a0w) a8w (p219.set 47 a0w)
def b9y:AV:=(.agg [k95,k6,k81,k6,k23,k23,k29,k4,k5,k6,k6])
def p231:List AV:=[k48,k82,a2R,b9y,d4u,a8B]
def a8F:AV:=(.box [k95,k6,k81,k6,k23,k23,k29,k4,k5,k6,k6])
def p233:List AV:=[k48,k82,a2R,b9y,d4u,a8B,a0U,a8F,d6g,p47,k23,.undef,.undef,.undef,.undef,.undef,.undef,.undef,.undef,.undef,.undef]
def a1D:AV:=(.box [k8,k98,k5,k6,k6])
def p235:St:=((p219.set 47 a0w)++[.cells [k0],.cells [k81,k6,k23]])
def e7Q:List AV:=(((p233.set 11 a1D).set 9 a1D).set 10 k28)
def p237:List AV:=[k48,k82,a2R,a2q,k47]
def p238:List AV:=[k48,k82,a2R,a2q,k47,a0U,p47,k23,k42,.undef,.undef,.undef,.undef,.undef,.undef,.undef,.undef,.undef]
def p239:List AV:=(((p238.set 15 (.sl 54 0 1 2)).set 16 k17).set 17 k4)
def p240:List AV:=(((p239.set 9 d6g).set 10 a8F).set 11 k28)
def p241:List AV:=(p240.set 12 b3C)
def E1:Obj:=.cells [k3,k4,k5,c02,(.list true [[k8,k98,k5,k6,k6]])]
def p243:List AV:=(((p241.set 13 a1D).set 14 k28).set 17 k17)
def V0:AV:=(.box [k3,k4,k5,a8N,c9l])
def b5O:AV:=(.tuple [c1D,k28])
def a8z:AV:=(.agg [k82,k6,k23])
def c1c:AV:=(.agg [k51,k4,k94,k6,k6])
def p248:List AV:=(((p237.set 1 a8z).set 2 c1c).set 3 k53)
def b3E:St:=((p195.set 32 a5n)++[d3R])
def b4Z:AV:=(.box [k82,k6,k23])
def d6H:AV:=(.box [k51,k4,k94,k6,k6])
def p252:List AV:=[k48,a8z,c1c,k53,k47,b4Z,d6H,k55,p47,.undef,.undef,.undef,.undef,.undef,.undef,.undef,.undef,.undef,.undef,.undef]
def p253:List AV:=(((p252.set 14 a0U).set 15 k28).set 16 V0)
def a8R:AV:=c1D
def p255:List AV:=[k48,a8z,c1c,k53,k47,b4Z,d6H,k55,p47,k23,k4,.undef]
def p256:List AV:=(((p255.set 11 V0).set 8 V0).set 9 k28)
def p257:List AV:=(((p150.set 1 d2s).set 4 a8z).set 6 k94)
def p258:List AV:=[k0,d2s,k43,p40,a8z,k53,k94,k7,(.box [a4v,k28,k6]),k44,p43,b4Z,k55,p47,k36,k4,k48,.undef]
def e74:List AV:=((((p258.set 17 V0).set 13 V0).set 14 .nils).set 15 k45)
def c8Y:AV:=(.tuple [c1D,.nils,k45])
def a5H:List AV:=[k33,T0,k53]
def p262:St:=((((p72.set 33 p85).set 31 (.cells v.C)).set 32 p0).set 33 a1w)
def p263:List AV:=((((((p73.set 1 p95).set 3 p97).set 6 p98).set 1 T0).set 3 d2B).set 6 d3H)
def a3d:AV:=(.box [k12,k4,k94,k6,k6])
def p265:List AV:=(((((p263.set 8 k94).set 9 a3d).set 10 V0).set 11 .nils).set 12 k45)
def b4U:Obj:=.cells [k0,k1,.nils,a4v,k3,k4,k5,k6,k6,.nils,k45]
def d0l:List AV:=((p265.set 5 V0).set 13 (.str [117,112,100,97,116,101]))
abbrev Q57:Prop:=Ev e7 112 [k33,T0,k94,Z1] p168 q8 p168
def b6v:List AV:=(((p263.set 8 k94).set 9 a3d).set 7 q8)
def e5T:Obj:=.cells [k0,k1,.nils,k2,k3,k4,k5,k6,k6,(.sl 42 0 1 2),k7]
def b4i:St:=((p168.set 32 e5T)++[.cells [k47,q8]])
def a3i:Obj:=.cells [k8,k9,b9I,k5,(.list false [[k11,k12,k4,k13,k6,k6]]),k6,c0J]
def b32:Obj:=.cells [k3,k4,k5,(.list true [[k11]]),(.list true [[k12,k4,k13,k6,k6]])]
def p273:St:=((((p72.set 33 p85).set 33 a1w).set 33 a3i)++[b32,.cells [k11],b32])
abbrev Q59:Prop:=Ev e7 176 [k24,k13] p273 p5 p273
def L3:AV:=(.agg [b9I,b5u,k82,k6,k23,k23,k29,k4,k5,k6,k6])
def X9:AV:=(.agg [k3,k4,k5,b48,k99])
def a4w:AV:=(.box [b9I,b5u,k82,k6,k23,k23,k29,k4,k5,k6,k6])
def a4h:AV:=(.box [k3,k4,k5,b48,k99])
def p278:List AV:=[k33,L3,k13,X9,a4w,a4h,k4,a00,k82,.undef,.undef,.undef,.undef,.undef,.undef,.undef,.undef,.undef,.undef]
def p279:List AV:=((p278.set 9 k35).set 10 k23)
def d7e:AV:=(.tuple [(.agg [k71,k13,k57,k58]),k28])
abbrev Q61:Prop:=Ev e7 176 [k24,k13] ((p273.set 31 (.cells v.C)).set 32 p0) d7e ((p273.set 31 (.cells v.C)).set 32 p0)
def b3H:AV:=(.box [k71,k13,k57,k58])
def d2W:List AV:=(((p279.set 9 b3H).set 10 k28).set 6 q8)
def p283:St:=(((p273.set 31 (.cells v.C)).set 32 p0).set 31 (.cells v.C))
def d2A:AV:=(.tuple [(.agg [k25,k13,k57,k58]),k28])
abbrev Q63:Prop:=Ev e7 176 [k24,k13] p283 d2A p283
def e3l:AV:=(.box [k25,k13,k57,k58])
def p286:List AV:=(((p279.set 9 b3H).set 10 k28).set 9 e3l)
def b3z:AV:=(.tuple [d5d,k28])
abbrev Q65:Prop:=Ev e7 176 [k24,k13] (p283.set 31 (.cells v.C)) b3z (p283.set 31 (.cells v.C))
def a1y:AV:=(.box [k82,k13,k57,k58])
def a5u:Obj:=.cells [k0,k1,.nils,k2,k28,k6,k3,k4,k5,k6,k6,.nils,k23,k7]
def a0P:St:=((p283.set 31 (.cells v.C))++[a5u,.cells [k2,k28,k6]])
abbrev Q67:Prop:=Ev e7 176 [k24,k13] a0P b3z a0P
def p291:St:=(a0P++[p26,a5w,a5o,.cells [k38]])
def e7g:Obj:=.cells [k0,k1,.nils,k82,k3,k4,k5,k6,k6,k36,a4I]
def p293:St:=((p291.set 41 e7g)++[.cells [k95],.cells [k95,k36]])
def e2f:List AV:=(((((p215.set 0 k38).set 3 a6Y).set 5 a3U).set 6 k4).set 7 a7d)
def p295:St:=((p293.set 45 (.cells [k95,a7d]))++[a5o])
def b3V:St:=(a0P++[p26,a5w])
def p297:List AV:=(((p222.set 0 k38).set 2 J4).set 7 k8)
def b9Q:St:=(a0P++[p26])
def l5:Obj:=.cells [k0,k1,.nils,k2,k28,k6,k3,k4,k5,k6,k6,.nils,k23,k45]
abbrev Q71:Prop:=Ev e7 264 [C5] p295 k28 (p295.set 38 l5)
def a4V:AV:=(.agg [k3,k4,k5,k57,k58])
def a5h:AV:=(.tuple [d0V,k28])
abbrev Q72:Prop:=Ev e7 105 [a4V,k95] (p295.set 38 l5) a5h (p295.set 38 l5)
def a4t:AV:=d0V
def d7A:List AV:=[k0,b0A,a4t]
def H8:AV:=(.box [k8,(.int .i64 v.m),k5,k6,k6])
def p305:List AV:=[k0,b0A,a4t,k48,k39,H8,k23,.undef,.undef,.undef]
def p306:St:=((p295.set 38 l5)++[.cells [k0],.cells [k81,k6,k23]])
def p307:List AV:=[C5,k81,a4t,H8,k23]
def p308:List AV:=((((p307.set 4 k28).set 1 b0A).set 3 b0C).set 4 a8B)
def p309:List AV:=[C5,b0A,a4t,b0C,a8B,d0R,H8,b3O,p47,.undef,.undef,.undef,.undef,.undef,.undef,.undef,.undef,.undef,.undef,.undef]
def p310:List AV:=[C5,b0A,a4t,b0C,a8B,d0R,H8,b3O,p47,k23,k4,.undef]
def e1J:List AV:=(((p310.set 11 H8).set 8 H8).set 9 k28)
def a8q:AV:=d5d
def p313:List AV:=(((p231.set 0 C5).set 2 a8q).set 4 b0C)
def p314:List AV:=[C5,k82,a8q,b9y,b0C,a8B,a1y,a8F,b3O,p47,k23,.undef,.undef,.undef,.undef,.undef,.undef,.undef,.undef,.undef,.undef]
def d5w:List AV:=(((p314.set 11 H8).set 9 H8).set 10 k28)
def p316:List AV:=[C5,k82,a8q,a2q,k47,a1y,p47,k23,(.ptr 40 0),.undef,.undef,.undef,.undef,.undef,.undef,.undef,.undef,.undef]
def p317:List AV:=(((p316.set 15 a4I).set 16 k17).set 17 k4)
def p318:List AV:=(((p317.set 9 b3O).set 10 a8F).set 11 k28)
def p319:List AV:=(p318.set 12 b3C)
def C7:Obj:=.cells [k3,k4,k5,c02,(.list true [[k8,(.int .i64 v.m),k5,k6,k6]])]
def p321:List AV:=(((p319.set 13 H8).set 14 k28).set 17 k17)
def N0:AV:=(.box [k3,k4,k5,a8N,d3L])
def b6e:AV:=(.tuple [c00,k28])
def a4L:St:=((p283.set 31 (.cells v.C))++[a5u])
def p325:List AV:=(((p252.set 0 C5).set 2 p58).set 6 p61)
def p326:List AV:=(((p325.set 14 a1y).set 15 k28).set 16 N0)
def a8m:AV:=c00
def p328:List AV:=(((p255.set 0 C5).set 2 p58).set 6 p61)
def p329:List AV:=(((p328.set 11 N0).set 8 N0).set 9 k28)
def b6k:List AV:=((p257.set 1 b9o).set 6 k13)
def p331:List AV:=[k0,b9o,k43,p40,a8z,k53,k13,k7,(.box [k2,k28,k6]),k44,p43,b4Z,k55,p47,k36,k4,C5,.undef]
def p332:List AV:=((((p331.set 17 N0).set 13 N0).set 14 .nils).set 15 k45)
def d2r:AV:=(.tuple [c00,.nils,k45])
def a5B:Obj:=.cells [k0,k1,.nils,k2,k3,k4,k5,k6,k6,.nils,k45]
def p335:St:=(((p306.set 40 C7).set 32 a5B)++[.dead,.cells v.C2])
abbrev Q82:Prop:=Ev e7 115 [k24,k13] ((p306.set 40 C7).set 32 a5B) (.agg [(.sl 50 0 (v.n - 1) 4)]) p335
def a1B:List AV:=[k33,L3,k53]
def p337:List AV:=(((((p263.set 1 L3).set 3 a4w).set 6 a4h).set 8 k13).set 9 p74)
def p338:List AV:=(((p337.set 10 N0).set 11 .nils).set 12 k45)
def a9W:Obj:=.cells [k0,k1,.nils,(.sl 50 0 (v.n - 1) 4),k3,k4,k5,k6,k6,.nils,k45]
def d37:List AV:=((p338.set 13 a00).set 5 N0)
def b3R:AV:=(.tuple [k60,k23])
abbrev Q84:Prop:=Ev e7 105 [a4V,k95] (p295.set 38 l5) b3R (p295.set 38 l5)
def a5a:AV:=(.box [k29,k4,k5,k6,k6])
def e6g:List AV:=((((p314.set 11 H8).set 11 a5a).set 9 a5a).set 10 k28)
def d7y:AV:=(.tuple [k60,k28])
def p345:List AV:=(((p319.set 13 H8).set 14 k28).set 13 a5a)
def G4:Obj:=.cells [k3,k4,k5,c02,(.list true [[k29,k4,k5,k6,k6]])]
def M1:AV:=(.box [k3,k4,k5,a8N,d4E])
def e2B:List AV:=(((p345.set 17 k17).set 6 M1).set 7 k28)
def b3L:AV:=(.tuple [c1F,k28])
def a8Y:AV:=c1F
def p351:List AV:=((((p328.set 11 N0).set 11 M1).set 8 M1).set 9 k28)
def c8i:AV:=(.tuple [c1F,.nils,k45])
def a8j:St:=(((p295.set 38 l5).set 40 G4).set 32 a5B)
def p354:St:=(a8j++[.dead,.cells v.C2])
abbrev Q90:Prop:=Ev e7 115 [k24,k13] a8j (.agg [(.sl 48 0 (v.n - 1) 4)]) p354
def p355:List AV:=((p338.set 10 M1).set 13 a00)
def a2W:Obj:=.cells [k0,k1,.nils,(.sl 48 0 (v.n - 1) 4),k3,k4,k5,k6,k6,.nils,k45]
abbrev Q92:Prop:=Ev e7 112 [k33,L3,k13,X9] p273 q8 p273
def p357:St:=(((p72.set 33 p85).set 33 a1w).set 33 a3i)
def d5t:Obj:=.cells [k0,k1,.nils,k2,k3,k4,k5,k6,k6,(.sl 38 0 1 2),k7]
def b4Q:St:=((p273.set 32 d5t)++[.cells [k47,q8]])
def a4Z:Obj:=.cells [k8,k9,c0z,k5,(.list false [[k11,k12,k4,k62,k6,k6]]),k6,c8n]
def b4d:Obj:=.cells [k3,k4,k5,(.list true [[k11]]),(.list true [[k12,k4,k62,k6,k6]])]
def p362:St:=((p357.set 33 a4Z)++[b4d,.cells [k11],b4d])
abbrev Q94:Prop:=Ev e7 176 [k24,k62] p362 p5 p362
def U3:AV:=(.agg [c0z,b5u,k71,k6,k23,k23,k29,k4,k5,k6,k6])
def Y5:AV:=(.agg [k3,k4,k5,b48,d3v])
def c9a:AV:=(.box [c0z,b5u,k71,k6,k23,k23,k29,k4,k5,k6,k6])
def d7s:AV:=(.box [k3,k4,k5,b48,d3v])
def p367:List AV:=[k33,U3,k62,Y5,c9a,d7s,k4,a00,k71,.undef,.undef,.undef,.undef,.undef,.undef,.undef,.undef,.undef,.undef]
def p368:List AV:=((p367.set 9 k35).set 10 k23)
def d27:AV:=(.tuple [(.agg [k82,k62,k57,k58]),k28])
abbrev Q96:Prop:=Ev e7 176 [k24,k62] ((p362.set 31 (.cells v.C)).set 32 p0) d27 ((p362.set 31 (.cells v.C)).set 32 p0)
def b5y:AV:=(.box [k82,k62,k57,k58])
def d4r:List AV:=(((p368.set 9 b5y).set 10 k28).set 6 q8)
def p372:St:=(((p362.set 31 (.cells v.C)).set 32 p0).set 31 (.cells v.C))
def d6o:AV:=(.tuple [(.agg [k25,k62,k57,k58]),k28])
abbrev Q98:Prop:=Ev e7 176 [k24,k62] p372 d6o p372
def e49:AV:=(.box [k25,k62,k57,k58])
def p375:List AV:=(((p368.set 9 b5y).set 10 k28).set 9 e49)
def b5e:AV:=(.tuple [d51,k28])
abbrev d6f:Prop:=Ev e7 176 [k24,k62] (p372.set 31 (.cells v.C)) b5e (p372.set 31 (.cells v.C))
def a8o:AV:=(.box [k71,k62,k57,k58])
def a2V:St:=((p372.set 31 (.cells v.C))++[a5u,.cells [k2,k28,k6]])
abbrev b45:Prop:=Ev e7 176 [k24,k62] a2V b5e a2V
def a8u:AV:=(.agg [k8,k5,a0A,k5,k6,k6,k6])
def b3N:Obj:=.cells [k8,k5,a0A,k5,k6,k6,k6]
def p381:St:=(a2V++[p26,a5z,b3N,.cells [k38]])
def c8E:AV:=(.box [k8,k5,a0A,k5,k6,k6,k6])
def p383:List AV:=((((p215.set 0 k38).set 3 a6Y).set 1 a8u).set 2 c8E)
def e9l:Obj:=.cells [k0,k1,.nils,k71,k3,k4,k5,k6,k6,k36,a4I]
def d54:Obj:=.cells [a0A,k36]
def p386:St:=((p381.set 41 e9l)++[.cells [a0A],d54])
def e4F:List AV:=(((p383.set 5 a8u).set 6 k4).set 7 a7d)
def e2J:Obj:=.cells [a0A,a7d]
def p389:St:=((p386.set 45 e2J)++[b3N])
def a5d:AV:=c8n
def b6d:St:=(a2V++[p26,a5z])
def p392:List AV:=(((p222.set 0 k38).set 1 a5d).set 4 a5d)
def d3d:List AV:=(((p392.set 2 J4).set 7 k8).set 6 k17)
def d1K:List AV:=(((p41.set 2 k71).set 3 a2k).set 3 a5d)
def d6v:St:=(a2V++[p26])
def p396:List AV:=(((p226.set 8 k38).set 2 k71).set 3 a5d)
abbrev a8T:Prop:=Ev e7 264 [C5] p389 k28 (p389.set 38 l5)
def d1Y:AV:=d51
def p398:List AV:=(((((p248.set 0 C5).set 2 p58).set 1 k71).set 2 d1Y).set 3 a5d)
def p399:List AV:=[C5,k71,d1Y,a5d,k47,a8o,p47,k23,(.ptr 40 0),.undef,.undef,.undef,.undef,.undef,.undef,.undef,.undef,.undef]
def p400:List AV:=(((p399.set 15 a4I).set 16 k17).set 17 k4)
def e27:AV:=(.box [a0A,a7d])
def d0J:AV:=(.box [a0A,k6,k80,k6,k28,k23,k29,k4,k5,k6,k6])
def p403:List AV:=(((p400.set 9 e27).set 10 d0J).set 11 k28)
def G3:Obj:=.cells [k3,k4,k5,(.list true [[a0A]]),(.list true [[k12,k4,k71,k6,k6]])]
def d4R:AV:=(.list true [[k9],[a0A]])
def d4N:AV:=(.box [k12,k4,k71,k6,k6])
def p407:List AV:=(((p403.set 12 d4R).set 13 d4N).set 14 k28)
def X6:AV:=(.box [k3,k4,k5,c9I,d0E])
def e9C:List AV:=(((p407.set 17 k17).set 6 X6).set 7 k28)
def b4a:AV:=(.tuple [b9A,k28])
def b5b:St:=((p372.set 31 (.cells v.C))++[a5u])
def p412:List AV:=(((p145.set 0 C5).set 14 a8o).set 15 k28)
def a8p:AV:=b9A
def p414:List AV:=((((p148.set 0 C5).set 11 X6).set 8 X6).set 9 k28)
def p415:List AV:=(p150.set 1 b9o)
def p416:List AV:=(((p331.set 4 k90).set 6 k62).set 11 k91)
def p417:List AV:=((((p416.set 17 X6).set 13 X6).set 14 .nils).set 15 k45)
def d6z:AV:=(.tuple [b9A,.nils,k45])
def a8C:St:=(((p389.set 38 l5).set 40 G3).set 32 a5B)
def p420:St:=(a8C++[.dead,.cells v.C2])
abbrev e3F:Prop:=Ev e7 115 [k24,k62] a8C (.agg [(.sl 48 0 (v.n - 1) 4)]) p420
def a4Y:List AV:=[k33,U3,k53]
def p422:St:=((((p262.set 31 (.cells v.C)).set 33 a3i).set 31 (.cells v.C)).set 33 a4Z)
def p423:List AV:=((((((p263.set 1 L3).set 3 a4w).set 6 a4h).set 1 U3).set 3 c9a).set 6 d7s)
def p424:List AV:=(((((p423.set 8 k62).set 9 a2r).set 10 X6).set 11 .nils).set 12 k45)
def c8T:List AV:=((p424.set 13 a00).set 5 X6)
abbrev b89:Prop:=Ev e7 112 [k33,U3,k62,Y5] p362 q8 p362
def b57:List AV:=(((p423.set 8 k62).set 9 a2r).set 7 q8)
def b6j:St:=((p362.set 32 d5t)++[.cells [k47,q8]])
def s9:Obj:=.cells [k0,k1,.nils,k2,k3,k4,k5,k6,k6,a3h,k7]
def p429:St:=((p72.set 32 s9)++[.cells [v.p0,v.p1],p2,.cells [k11],.cells [k14],p2,.cells [k15],p3])
abbrev c8c:Prop:=Ev e7 176 [k24,k13] p429 p5 p429
def b1h:St:=(p429++[.cells [k15],p7])
def p431:St:=(b1h++[.dead,.cells v.C2])
abbrev d5c:Prop:=Ev e7 16 [k24,p6] b1h (.agg [a3O]) p431
def a5O:Obj:=.cells [k0,k1,.nils,a3O,k3,k4,k5,k6,k6,a3h,k7]
def c77:Obj:=.cells [k0,k1,.nils,a3O,k28,k6,k3,k4,k5,k6,k6,.nils,k23,k7]
def a3e:St:=((p431.set 32 a5O)++[c77,.cells [a3O,k28,k6]])
abbrev b6H:Prop:=Ev e7 176 [(.agg [a3O]),k13] a3e p24 a3e
def p435:St:=(a3e++[p26,p27,p28,.cells [k42]])
def e6m:Obj:=.cells [k0,k1,.nils,k25,k3,k4,k5,k6,k6,k36,(.sl 53 0 1 2)]
def p437:St:=((p435.set 49 e6m)++[.cells [k15],.cells [k15,k36]])
def e4c:List AV:=(((((p31.set 0 k42).set 3 O3).set 5 p25).set 6 k4).set 7 (.sl 54 0 1 7))
def p439:St:=((p437.set 53 (.cells [k15,(.sl 54 0 1 7)]))++[p28])
def b4E:St:=(a3e++[p26,p27])
def p441:List AV:=(((p38.set 0 k42).set 2 a3L).set 7 k8)
def d0M:St:=(a3e++[p26])
def a7u:Obj:=.cells [k0,k1,.nils,a3O,k28,k6,k3,k4,k5,k6,k6,.nils,k23,k45]
abbrev a8U:Prop:=Ev e7 264 [a0v] p439 k28 (p439.set 46 a7u)
def p444:List AV:=(((((p48.set 0 a0v).set 8 k39).set 15 (.sl 53 0 1 2)).set 16 k17).set 17 k4)
def p445:List AV:=(((p444.set 9 (.box [k15,(.sl 54 0 1 7)])).set 10 p50).set 11 k28)
def p446:St:=(((p439.set 46 a7u).set 48 p3)++[.cells [k0],p52])
def p447:List AV:=(((p445.set 12 k49).set 13 p54).set 14 k28)
def e8V:List AV:=(((p447.set 17 k17).set 6 p19).set 7 k28)
def b4H:St:=((p431.set 32 a5O)++[c77])
def p450:List AV:=(((p62.set 14 p17).set 15 k28).set 0 a0v)
def e8s:List AV:=(p67.set 1 d3q)
def p452:List AV:=(((p68.set 1 d3q).set 8 (.box [a3O,k28,k6])).set 16 a0v)
def e3E:List AV:=((((p452.set 17 p19).set 13 p19).set 14 .nils).set 15 k45)
def p454:St:=((p72.set 32 s9)++[.cells [v.p0,v.p1]])
def b5W:Obj:=.cells [k0,k1,.nils,a3O,k3,k4,k5,k6,k6,a3h,k45]
abbrev e3w:Prop:=Ev e7 176 [k24,k13] ((p429.set 31 (.cells v.C)).set 32 s9) p78 ((p429.set 31 (.cells v.C)).set 32 s9)
abbrev b9B:Prop:=Ev e7 112 [k33,p10,k13,p11] p429 k59 p429
def e3U:Obj:=.cells [k0,k1,.nils,k2,k3,k4,k5,k6,k6,(.sl 42 0 2 2),k7]
def b54:St:=(((p429.set 32 e3U).set 35 (.dead))++[.cells [v.p0,v.p1,k47,k59]])
def p458:St:=((p454.set 33 p85)++[p86,.cells [k11],.cells [k14],p86,.cells [k63],.cells [k64],.cells [k65],p87])
abbrev d0F:Prop:=Ev e7 176 [k24,k62] p458 p5 p458
def b1B:St:=(p458++[.cells [k63],p90,.cells [k64],p91,.cells [k65],p92])
def p460:St:=(b1B++[.dead,.cells v.C2])
abbrev c8j:Prop:=Ev e7 16 [k24,p89] b1B (.agg [a4x]) p460
def a5G:Obj:=.cells [k0,k1,.nils,a4x,k3,k4,k5,k6,k6,a3h,k7]
def d4n:Obj:=.cells [k0,k1,.nils,a4x,k28,k6,k3,k4,k5,k6,k6,.nils,k23,k7]
def a3l:St:=((p460.set 32 a5G)++[d4n,.cells [a4x,k28,k6]])
abbrev b5R:Prop:=Ev e7 176 [(.agg [a4x]),k62] a3l d7j a3l
def p464:St:=(a3l++[p26,a5z,b6a,.cells [k85]])
def e8u:Obj:=.cells [k0,k1,.nils,k71,k3,k4,k5,k6,k6,k36,(.sl 59 0 1 2)]
def p466:St:=((p464.set 55 e8u)++[.cells [k63],.cells [k63,k36]])
def e8W:List AV:=(((((p116.set 0 k85).set 3 (.ptr 58 0)).set 5 b1b).set 6 k4).set 7 (.sl 60 0 1 7))
def p468:St:=((p466.set 59 (.cells [k63,(.sl 60 0 1 7)]))++[b6a])
def b3P:St:=(a3l++[p26,a5z])
def p470:List AV:=(((p123.set 0 k85).set 2 (.ptr 56 0)).set 7 k8)
def d2T:St:=(a3l++[p26])
def a6W:Obj:=.cells [k0,k1,.nils,a4x,k28,k6,k3,k4,k5,k6,k6,.nils,k23,k45]
abbrev a8l:Prop:=Ev e7 264 [O3] p468 k28 (p468.set 52 a6W)
def p473:List AV:=(((((p129.set 0 O3).set 8 k84).set 15 (.sl 59 0 1 2)).set 16 k17).set 17 k4)
def p474:List AV:=(((p473.set 9 (.box [k63,(.sl 60 0 1 7)])).set 10 d0r).set 11 k28)
def p475:St:=(((p468.set 52 a6W).set 54 d1F)++[.cells [k0],d05])
def p476:List AV:=(((p474.set 12 k86).set 13 c8v).set 14 k28)
def e57:List AV:=(((p476.set 17 k17).set 6 U9).set 7 k28)
def b3x:St:=((p460.set 32 a5G)++[d4n])
def p479:List AV:=(((p145.set 14 a8V).set 15 k28).set 0 O3)
def e2k:List AV:=(((p148.set 0 C5).set 0 O3).set 11 U9)
def e7y:List AV:=(p415.set 1 c9J)
def p482:List AV:=(((p416.set 1 c9J).set 8 (.box [a4x,k28,k6])).set 16 O3)
def e1V:List AV:=((((p482.set 17 U9).set 13 U9).set 14 .nils).set 15 k45)
def b35:Obj:=.cells [k0,k1,.nils,a4x,k3,k4,k5,k6,k6,a3h,k45]
abbrev e5d:Prop:=Ev e7 176 [k24,k62] ((p458.set 31 (.cells v.C)).set 32 s9) c8x ((p458.set 31 (.cells v.C)).set 32 s9)
abbrev b9N:Prop:=Ev e7 112 [k33,p95,k62,p96] p458 k59 p458
def e7t:Obj:=.cells [k0,k1,.nils,k2,k3,k4,k5,k6,k6,(.sl 44 0 2 2),k7]
def b6s:St:=(((p458.set 32 e7t).set 35 (.dead))++[.cells [v.p0,v.p1,k47,k59]])
def p487:St:=(((p454.set 33 p85).set 33 a1w)++[b4l,.cells [k11],.cells [k14],b4l,.cells [k95],.cells [k96],d64])
abbrev e4K:Prop:=Ev e7 176 [k24,k94] p487 p5 p487
abbrev e3G:Prop:=Ev e7 176 [k24,k94] ((p487.set 31 (.cells v.C)).set 32 s9) d3V ((p487.set 31 (.cells v.C)).set 32 s9)
def p488:St:=(((p487.set 31 (.cells v.C)).set 32 s9).set 31 (.cells v.C))
abbrev e83:Prop:=Ev e7 176 [k24,k94] p488 d1h p488
abbrev c8q:Prop:=Ev e7 176 [k24,k94] (p488.set 31 (.cells v.C)) d0Q (p488.set 31 (.cells v.C))
def b5a:St:=((p488.set 31 (.cells v.C))++[.cells [k95]])
def a8S:St:=(b5a++[c8G])
abbrev d5g:Prop:=Ev e7 179 [b3W,k95,b5f] b5a b0r a8S
def b4f:St:=(a8S++[.cells [k96]])
def a3Z:St:=(b4f++[c83])
abbrev c9r:Prop:=Ev e7 179 b5T b4f a2R a3Z
def p493:St:=(a3Z++[.cells v.C2])
abbrev d0C:Prop:=Ev e7 16 [k24,a2R] a3Z (.agg [a3P]) p493
def d1z:List AV:=(((p202.set 14 a7g).set 9 a8Z).set 18 k17)
def b3S:List AV:=(((p204.set 14 k46).set 9 a0U).set 18 k68)
def a5P:Obj:=.cells [k0,k1,.nils,a3P,k3,k4,k5,k6,k6,a3h,k7]
def d26:Obj:=.cells [k0,k1,.nils,a3P,k28,k6,k3,k4,k5,k6,k6,.nils,k23,k7]
def a2Q:St:=((p493.set 32 a5P)++[d26,.cells [a3P,k28,k6]])
abbrev b4P:Prop:=Ev e7 176 [(.agg [a3P]),k94] a2Q d5s a2Q
def p499:St:=(a2Q++[p26,a5w,a5o,.cells [k40]])
def p500:List AV:=((((p215.set 0 k38).set 3 a6Y).set 0 k40).set 3 k84)
def e8I:Obj:=.cells [k0,k1,.nils,k82,k3,k4,k5,k6,k6,k36,(.sl 55 0 1 2)]
def p502:St:=((p499.set 51 e8I)++[.cells [k95],.cells [k95,k36]])
def e5w:List AV:=(((p500.set 5 a3U).set 6 k4).set 7 (.sl 56 0 1 7))
def p504:St:=((p502.set 55 (.cells [k95,(.sl 56 0 1 7)]))++[a5o])
def b5v:St:=(a2Q++[p26,a5w])
def p506:List AV:=((((p222.set 0 k38).set 0 k40).set 2 O3).set 7 k8)
def d5q:St:=(a2Q++[p26])
def e3N:List AV:=(((p226.set 8 k38).set 8 k40).set 7 (.sl 55 0 1 2))
def a0x:Obj:=.cells [k0,k1,.nils,a3P,k28,k6,k3,k4,k5,k6,k6,.nils,k23,k45]
abbrev a8t:Prop:=Ev e7 264 [k39] p504 k28 (p504.set 48 a0x)
abbrev a8A:Prop:=Ev e7 105 [b5m,k95] (p504.set 48 a0x) a8w (p504.set 48 a0x)
def e17:List AV:=((p231.set 0 k39).set 4 c8a)
def p511:List AV:=(((p233.set 0 k39).set 4 c8a).set 8 d4F)
def p512:St:=((p504.set 48 a0x)++[.cells [k0],.cells [k81,k6,k23]])
def e7D:List AV:=(((p511.set 11 a1D).set 9 a1D).set 10 k28)
def p514:List AV:=(((((p238.set 0 k39).set 8 a3L).set 15 (.sl 55 0 1 2)).set 16 k17).set 17 k4)
def p515:List AV:=(((p514.set 9 d4F).set 10 a8F).set 11 k28)
def p516:List AV:=(p515.set 12 b3C)
def p517:List AV:=(((p516.set 13 a1D).set 14 k28).set 17 k17)
def b51:St:=((p493.set 32 a5P)++[d26])
def p519:List AV:=(((p252.set 14 a0U).set 15 k28).set 0 k39)
def e4i:List AV:=(p257.set 1 d1L)
def p521:List AV:=(((p258.set 1 d1L).set 8 (.box [a3P,k28,k6])).set 16 k39)
def e60:List AV:=((((p521.set 17 V0).set 13 V0).set 14 .nils).set 15 k45)
def c9y:St:=((p262.set 32 s9)++[.cells [v.p0,v.p1]])
def b5F:Obj:=.cells [k0,k1,.nils,a3P,k3,k4,k5,k6,k6,a3h,k45]
abbrev b9F:Prop:=Ev e7 112 [k33,T0,k94,Z1] p487 q8 p487
def e6y:Obj:=.cells [k0,k1,.nils,k2,k3,k4,k5,k6,k6,(.sl 43 0 2 2),k7]
def b6n:St:=(((p487.set 32 e6y).set 35 (.dead))++[.cells [v.p0,v.p1,k47,q8]])
def p527:St:=((((p454.set 33 p85).set 33 a1w).set 33 a3i)++[b32,.cells [k11],b32])
abbrev e1F:Prop:=Ev e7 176 [k24,k13] p527 p5 p527
abbrev e72:Prop:=Ev e7 176 [k24,k13] ((p527.set 31 (.cells v.C)).set 32 s9) d7e ((p527.set 31 (.cells v.C)).set 32 s9)
def p528:St:=(((p527.set 31 (.cells v.C)).set 32 s9).set 31 (.cells v.C))
abbrev e2g:Prop:=Ev e7 176 [k24,k13] p528 d2A p528
abbrev c1a:Prop:=Ev e7 176 [k24,k13] (p528.set 31 (.cells v.C)) b3z (p528.set 31 (.cells v.C))
def a0M:St:=((p528.set 31 (.cells v.C))++[a5u,.cells [k2,k28,k6]])
abbrev a4F:Prop:=Ev e7 176 [k24,k13] a0M b3z a0M
def p530:St:=(a0M++[p26,a5w,a5o,.cells [J4]])
def e8J:Obj:=.cells [k0,k1,.nils,k82,k3,k4,k5,k6,k6,k36,a4O]
def p532:St:=((p530.set 42 e8J)++[.cells [k95],.cells [k95,k36]])
def e6c:List AV:=(((((p500.set 0 J4).set 3 k46).set 5 a3U).set 6 k4).set 7 a7z)
def p534:St:=((p532.set 46 (.cells [k95,a7z]))++[a5o])
def b4N:St:=(a0M++[p26,a5w])
def p536:List AV:=(((p222.set 0 k38).set 0 k40).set 0 J4)
def d7t:List AV:=(((p536.set 2 a7g).set 7 k8).set 6 k17)
def b9x:St:=(a0M++[p26])
def p539:List AV:=(((p226.set 8 k38).set 8 k40).set 8 J4)
abbrev a2u:Prop:=Ev e7 264 [A9] p534 k28 (p534.set 39 l5)
abbrev a8O:Prop:=Ev e7 105 [a4V,k95] (p534.set 39 l5) a5h (p534.set 39 l5)
def p540:St:=((p534.set 39 l5)++[.cells [k0],.cells [k81,k6,k23]])
def p541:List AV:=(((p305.set 3 k39).set 4 k42).set 8 k81)
def c8Z:List AV:=((p308.set 0 A9).set 3 b1i)
def p543:List AV:=(((p309.set 0 A9).set 3 b1i).set 7 b4c)
def p544:List AV:=(((p310.set 0 A9).set 3 b1i).set 7 b4c)
def e5L:List AV:=(((p544.set 11 H8).set 8 H8).set 9 k28)
def d6p:List AV:=((p313.set 0 A9).set 4 b1i)
def p547:List AV:=(((p314.set 0 A9).set 4 b1i).set 8 b4c)
def c9W:List AV:=(((p547.set 11 H8).set 9 H8).set 10 k28)
def d28:List AV:=(((p237.set 0 C5).set 2 a8q).set 0 A9)
def p550:List AV:=(((((p316.set 0 A9).set 8 k38).set 15 a4O).set 16 k17).set 17 k4)
def p551:List AV:=(((p550.set 9 b4c).set 10 a8F).set 11 k28)
def p552:List AV:=(p551.set 12 b3C)
def p553:List AV:=(((p552.set 13 H8).set 14 k28).set 17 k17)
def b5U:List AV:=(((p248.set 0 C5).set 2 p58).set 0 A9)
def a5C:St:=((p528.set 31 (.cells v.C))++[a5u])
def p556:List AV:=(((p325.set 14 a1y).set 15 k28).set 0 A9)
def a5p:Obj:=.cells [k0,k1,.nils,k2,k3,k4,k5,k6,k6,a3h,k45]
def p558:St:=(((p540.set 41 C7).set 32 a5p)++[.dead,.cells v.C2])
abbrev e3X:Prop:=Ev e7 115 [k24,k13] ((p540.set 41 C7).set 32 a5p) (.agg [(.sl 51 0 (v.n - 1) 4)]) p558
def b31:St:=((((p262.set 31 (.cells v.C)).set 33 a3i).set 32 s9)++[.cells [v.p0,v.p1]])
def b1d:Obj:=.cells [k0,k1,.nils,(.sl 51 0 (v.n - 1) 4),k3,k4,k5,k6,k6,a3h,k45]
abbrev a8J:Prop:=Ev e7 105 [a4V,k95] (p534.set 39 l5) b3R (p534.set 39 l5)
def e7K:List AV:=((((p547.set 11 H8).set 11 a5a).set 9 a5a).set 10 k28)
def p562:List AV:=(((p552.set 13 H8).set 14 k28).set 13 a5a)
def e5l:List AV:=(((p562.set 17 k17).set 6 M1).set 7 k28)
def e9x:List AV:=(((p556.set 16 N0).set 16 M1).set 8 M1)
def e7R:List AV:=(((p328.set 0 A9).set 11 N0).set 11 M1)
def e1C:List AV:=(((p331.set 16 A9).set 17 N0).set 17 M1)
def e3I:List AV:=(((p332.set 13 M1).set 17 M1).set 16 A9)
def a8G:St:=(((p534.set 39 l5).set 41 G4).set 32 a5p)
def p569:St:=(a8G++[.dead,.cells v.C2])
abbrev e5m:Prop:=Ev e7 115 [k24,k13] a8G (.agg [(.sl 49 0 (v.n - 1) 4)]) p569
def a2X:Obj:=.cells [k0,k1,.nils,(.sl 49 0 (v.n - 1) 4),k3,k4,k5,k6,k6,a3h,k45]
abbrev b9v:Prop:=Ev e7 112 [k33,L3,k13,X9] p527 q8 p527
def p571:St:=(((p454.set 33 p85).set 33 a1w).set 33 a3i)
def d7i:Obj:=.cells [k0,k1,.nils,k2,k3,k4,k5,k6,k6,(.sl 39 0 2 2),k7]
def b6o:St:=(((p527.set 32 d7i).set 35 (.dead))++[.cells [v.p0,v.p1,k47,q8]])
def p574:St:=((p571.set 33 a4Z)++[b4d,.cells [k11],b4d])
abbrev e8P:Prop:=Ev e7 176 [k24,k62] p574 p5 p574
abbrev e70:Prop:=Ev e7 176 [k24,k62] ((p574.set 31 (.cells v.C)).set 32 s9) d27 ((p574.set 31 (.cells v.C)).set 32 s9)
def p575:St:=(((p574.set 31 (.cells v.C)).set 32 s9).set 31 (.cells v.C))
abbrev e2x:Prop:=Ev e7 176 [k24,k62] p575 d6o p575
abbrev d2V:Prop:=Ev e7 176 [k24,k62] (p575.set 31 (.cells v.C)) b5e (p575.set 31 (.cells v.C))
def a3n:St:=((p575.set 31 (.cells v.C))++[a5u,.cells [k2,k28,k6]])
abbrev b4K:Prop:=Ev e7 176 [k24,k62] a3n b5e a3n
def p577:St:=(a3n++[p26,a5z,b3N,.cells [J4]])
def p578:List AV:=((((p500.set 0 J4).set 3 k46).set 1 a8u).set 2 c8E)
def e1Z:Obj:=.cells [k0,k1,.nils,k71,k3,k4,k5,k6,k6,k36,a4O]
def p580:St:=((p577.set 42 e1Z)++[.cells [a0A],d54])
def e9h:List AV:=(((p578.set 5 a8u).set 6 k4).set 7 a7z)
def e5Q:Obj:=.cells [a0A,a7z]
def p583:St:=((p580.set 46 e5Q)++[b3N])
def b6y:St:=(a3n++[p26,a5z])
def p585:List AV:=(((p392.set 0 J4).set 2 a7g).set 7 k8)
def c9n:St:=(a3n++[p26])
abbrev a9d:Prop:=Ev e7 264 [A9] p583 k28 (p583.set 39 l5)
def p587:List AV:=(((((p399.set 0 A9).set 8 k38).set 15 a4O).set 16 k17).set 17 k4)
def e3B:AV:=(.box [a0A,a7z])
def p589:List AV:=(((p587.set 9 e3B).set 10 d0J).set 11 k28)
def p590:List AV:=(((p589.set 12 d4R).set 13 d4N).set 14 k28)
def e8t:List AV:=(((p590.set 17 k17).set 6 X6).set 7 k28)
def d3W:List AV:=(((p142.set 0 C5).set 0 O3).set 0 A9)
def b6B:St:=((p575.set 31 (.cells v.C))++[a5u])
def e3O:List AV:=(((p145.set 0 C5).set 0 O3).set 0 A9)
def e1U:List AV:=(((p412.set 0 A9).set 16 X6).set 8 X6)
def p596:List AV:=(((p148.set 0 C5).set 0 O3).set 0 A9)
def a8E:St:=(((p583.set 39 l5).set 41 G3).set 32 a5p)
def p598:St:=(a8E++[.dead,.cells v.C2])
abbrev e3D:Prop:=Ev e7 115 [k24,k62] a8E (.agg [(.sl 49 0 (v.n - 1) 4)]) p598
def d3m:St:=((p422.set 32 s9)++[.cells [v.p0,v.p1]])
abbrev c07:Prop:=Ev e7 112 [k33,U3,k62,Y5] p574 q8 p574
def b6x:St:=(((p574.set 32 d7i).set 35 (.dead))++[.cells [v.p0,v.p1,k47,q8]])
variable (hm:MOK v.m) (hn:v.n≤13)
include hm hn
theorem t2 (i:Q0) (j:Q1):Ev e7 112 [k33,p10,k13,p11] p4 k4 (p9.set 32 p21):=wF (fn:=a112) (wS 2 p14 p4 (XC.seq (wC 5 p15 p4 i) (XC.seq (wB0 (wU false (wT false p15 p4 (wN (p15.set 9 p16) p4) (b4I hn (P:=fun v=>tst (callG e7 400) [] a112r10 (.t 41) p15 p4=some (.bool false,p15,p4)) (fun _ _ _ _ _ _ _ _ _ _ _ _ _ _ _ _ _=>⟨(by kernel_rfl),(by kernel_rfl),(by kernel_rfl),(by kernel_rfl),(by kernel_rfl),(by kernel_rfl),(by kernel_rfl),(by kernel_rfl),(by kernel_rfl),(by kernel_rfl),(by kernel_rfl),(by kernel_rfl),(by kernel_rfl),(by kernel_rfl)⟩))))) (wS 4 p20 p8 (XC.seq (wC 6 p20 (p9.set 32 p21) j) (wR p20 (p9.set 32 p21)))))))
theorem t4:Ev e7 170 [k39,p25] p29 k41 p35:=wF (fn:=a170) (wS 5 p31 p33 (wO (.normal,p34,p35) (.normal,p31,p35) (.normal,p31,p35)))
theorem t5:Ev e7 109 [k39,p36] p37 k41 p35:=wF (fn:=a109) (wS 1 p38 p37 (wB1 (XC.loop (LX.step (wS 1 p38 p37 (XC.seq (wB0 (wS 3 ((p38.set 2 k42).set 7 k8) p29 (wB0 (wU true (wC 2 ((p38.set 2 k42).set 7 k8) p35 (t4 hm hn)))))) (wN p39 p35))) (wL 1 ((.exit 0),p39,p35))))))
theorem t6:Ev e7 43 p41 p42 (.sl 52 0 1 2) p35:=wF (fn:=a43) (wS 2 p44 p37 (XC.seq (wC 2 p44 p35 (t5 hm hn)) (wR (p44.set 7 (.sl 52 0 1 2)) p35)))
theorem t8 (i:Q7):Ev e7 268 p46 p23 p57 p53:=wF (fn:=a268) (wS 2 p48 p42 (XC.seq (XC.seq (wC 14 p49 p35 (t6 hm hn)) (wB1 (XC.loop (LX.step (wS 1 p49 p35 (XC.seq (wB0 (wS 3 p51 p35 (XC.seq (wD 1 false p51 (p35.set 45 p45) i (wN p51 (p35.set 45 p45))) (wN p55 p53)))) (wN (p55.set 17 k17) p53))) (wL 1 ((.exit 0),(p55.set 17 k17),p53)))))) (wR p56 p53)))
theorem t9 (i:Q3) (j:Q7):Ev e7 232 p59 p60 p64 p53:=wF (fn:=a232) (wS 3 p62 p23 (XC.seq (wC 7 ((p62.set 14 p17).set 15 k28) p23 i) (wS 1 ((p62.set 14 p17).set 15 k28) p23 (XC.seq (wC 7 p63 p53 (t8 hm hn j)) (wR (p63.set 8 p19) p53)))))
theorem t10 (i:Q3) (j:Q7):Ev e7 181 p59 p60 p57 p53:=wF (fn:=a181) (wS 2 p65 p60 (XC.seq (wC 5 (p65.set 11 p19) p53 (t9 hm hn i j)) (wR p66 p53)))
theorem t11 (i:Q3) (j:Q7):Ev e7 113 p67 (p9.set 32 p21) p70 p53:=wF (fn:=a113) (wS 2 p68 p60 (XC.seq (wC 8 (p68.set 17 p19) p53 (t10 hm hn i j)) (wR p69 p53)))
theorem e1Q (i:Q0) (j:Q1) (l:Q3) (t:Q7):Ev e7 45 p71 p72 p64 (p53.set 32 p76):=wF (fn:=a45) (wS 4 p73 p4 (XC.seq (wU true (wS 2 ((p73.set 8 k13).set 9 p74) p4 (wC 4 ((p73.set 8 k13).set 9 p74) (p9.set 32 p21) (t2 hm hn i j)))) (wS 1 ((p73.set 8 k13).set 9 p74) (p9.set 32 p21) (XC.seq (wC 25 p75 p53 (t11 hm hn l t)) (wR p77 (p53.set 32 p76))))))
theorem e29 (i:Q13):Ev e7 112 [k33,p10,k13,p11] ((p4.set 31 (.cells v.C)).set 32 p0) k59 ((p4.set 31 (.cells v.C)).set 32 p0):=wF (fn:=a112) (wS 2 p14 ((p4.set 31 (.cells v.C)).set 32 p0) (XC.seq (wC 5 p80 ((p4.set 31 (.cells v.C)).set 32 p0) i) (wZ (wB0 (wU true (wR (p80.set 6 k59) ((p4.set 31 (.cells v.C)).set 32 p0)))))))
theorem e23 (i:Q15):Ev e7 45 p71 p72 p84 p83:=wF (fn:=a45) (wS 4 p73 p4 (XC.seq (wU true (wS 2 ((p73.set 8 k13).set 9 p74) p4 (wC 4 p81 p4 i))) (wR p81 p83)))
theorem t19 (i:Q17) (j:Q18):Ev e7 112 [k33,p95,k62,p96] p88 k4 (p94.set 32 a5c):=wF (fn:=a112) (wS 2 p99 p88 (XC.seq (wC 5 p100 p88 i) (XC.seq (wB0 (wU false (wT false p100 p88 (wN (p100.set 9 b85) p88) (b4I hn (P:=fun v=>tst (callG e7 400) [] a112r10 (.t 41) p100 p88=some (.bool false,p100,p88)) (fun _ _ _ _ _ _ _ _ _ _ _ _ _ _ _ _ _=>⟨(by kernel_rfl),(by kernel_rfl),(by kernel_rfl),(by kernel_rfl),(by kernel_rfl),(by kernel_rfl),(by kernel_rfl),(by kernel_rfl),(by kernel_rfl),(by kernel_rfl),(by kernel_rfl),(by kernel_rfl),(by kernel_rfl),(by kernel_rfl)⟩))))) (wS 4 p106 p93 (XC.seq (wC 6 p106 (p94.set 32 a5c) j) (wR p106 (p94.set 32 a5c)))))))
theorem t21:Ev e7 170 [k84,b1b] p114 k41 p120:=wF (fn:=a170) (wS 5 p116 p118 (wO (.normal,e5C,p120) (.normal,p116,p120) (.normal,p116,p120)))
theorem t22:Ev e7 109 [k84,a2k] b4g k41 p120:=wF (fn:=a109) (wS 1 p123 b4g (wB1 (XC.loop (LX.step (wS 1 p123 b4g (XC.seq (wB0 (wS 3 ((p123.set 2 k85).set 7 k8) p114 (wB0 (wU true (wC 2 ((p123.set 2 k85).set 7 k8) p120 (t21 hm hn)))))) (wN d3a p120))) (wL 1 ((.exit 0),d3a,p120))))))
theorem t23:Ev e7 43 ((p41.set 2 k71).set 3 a2k) d29 (.sl 58 0 1 2) p120:=wF (fn:=a43) (wS 2 p126 b4g (XC.seq (wC 2 p126 p120 (t22 hm hn)) (wR (p126.set 7 (.sl 58 0 1 2)) p120)))
theorem t25 (i:Q24):Ev e7 268 p128 a2T b4D p135:=wF (fn:=a268) (wS 2 p129 d29 (XC.seq (XC.seq (wC 14 p130 p120 (t23 hm hn)) (wB1 (XC.loop (LX.step (wS 1 p130 p120 (XC.seq (wB0 (wS 3 p132 p120 (XC.seq (wD 1 false p132 (p120.set 51 a7p) i (wN p132 (p120.set 51 a7p))) (wN p137 p135)))) (wN (p137.set 17 k17) p135))) (wL 1 ((.exit 0),(p137.set 17 k17),p135)))))) (wR e7c p135)))
theorem t26 (i:Q20) (j:Q24):Ev e7 232 p142 b5K a8L p135:=wF (fn:=a232) (wS 3 p145 a2T (XC.seq (wC 7 ((p145.set 14 a8V).set 15 k28) a2T i) (wS 1 ((p145.set 14 a8V).set 15 k28) a2T (XC.seq (wC 7 p146 p135 (t25 hm hn j)) (wR (p146.set 8 U9) p135)))))
theorem t27 (i:Q20) (j:Q24):Ev e7 181 p142 b5K b4D p135:=wF (fn:=a181) (wS 2 p148 b5K (XC.seq (wC 5 (p148.set 11 U9) p135 (t26 hm hn i j)) (wR p149 p135)))
theorem t28 (i:Q20) (j:Q24):Ev e7 113 p150 (p94.set 32 a5c) d2v p135:=wF (fn:=a113) (wS 2 p151 b5K (XC.seq (wC 8 (p151.set 17 U9) p135 (t27 hm hn i j)) (wR e68 p135)))
theorem e9m (i:Q17) (j:Q18) (l:Q20) (t:Q24):Ev e7 45 a5m (p72.set 33 p85) a8L (p135.set 32 b6r):=wF (fn:=a45) (wS 4 (((p73.set 1 p95).set 3 p97).set 6 p98) p88 (XC.seq (wU true (wS 2 p156 p88 (wC 4 p156 (p94.set 32 a5c) (t19 hm hn i j)))) (wS 1 p156 (p94.set 32 a5c) (XC.seq (wC 25 p157 p135 (t28 hm hn l t)) (wR d3b (p135.set 32 b6r))))))
theorem e7P (i:Q30):Ev e7 112 [k33,p95,k62,p96] ((p88.set 31 (.cells v.C)).set 32 p0) k59 ((p88.set 31 (.cells v.C)).set 32 p0):=wF (fn:=a112) (wS 2 p99 ((p88.set 31 (.cells v.C)).set 32 p0) (XC.seq (wC 5 p162 ((p88.set 31 (.cells v.C)).set 32 p0) i) (wZ (wB0 (wU true (wR (p162.set 6 k59) ((p88.set 31 (.cells v.C)).set 32 p0)))))))
theorem e6w (i:Q32):Ev e7 45 a5m (p72.set 33 p85) p84 b3K:=wF (fn:=a45) (wS 4 (((p73.set 1 p95).set 3 p97).set 6 p98) p88 (XC.seq (wU true (wS 2 p156 p88 (wC 4 (p156.set 7 k59) p88 i))) (wR (p156.set 7 k59) b3K)))
theorem e3L (i:Q34):Ev e7 112 [k33,T0,k94,Z1] p168 q8 p168:=wF (fn:=a112) (wS 2 p173 p168 (XC.seq (wC 5 p174 p168 i) (wR (p174.set 6 q8) p168)))
theorem e3K (i:Q36):Ev e7 112 [k33,T0,k94,Z1] ((p168.set 31 (.cells v.C)).set 32 p0) q8 ((p168.set 31 (.cells v.C)).set 32 p0):=wF (fn:=a112) (wS 2 p173 ((p168.set 31 (.cells v.C)).set 32 p0) (XC.seq (wC 5 ((p174.set 9 b44).set 10 k28) ((p168.set 31 (.cells v.C)).set 32 p0) i) (wR d0Z ((p168.set 31 (.cells v.C)).set 32 p0))))
theorem e33 (i:Q38):Ev e7 112 [k33,T0,k94,Z1] p178 q8 p178:=wF (fn:=a112) (wS 2 p173 p178 (XC.seq (wC 5 p181 p178 i) (wR (p181.set 6 q8) p178)))
theorem t44 (i:Q40) (j:Q41) (l:Q42) (t:Q43):Ev e7 112 [k33,T0,k94,Z1] (p178.set 31 (.cells v.C)) k4 (p195.set 32 a5n):=wF (fn:=a112) (wS 2 p173 (p178.set 31 (.cells v.C)) (XC.seq (wC 5 (p181.set 9 b9r) (p178.set 31 (.cells v.C)) i) (wS 4 p199 (p178.set 31 (.cells v.C)) (XC.seq (wS 1 p201 (p178.set 31 (.cells v.C)) (wB1 (XC.loop (LX.step (wS 1 p201 (p178.set 31 (.cells v.C)) (XC.seq (wB0 (wS 2 p202 b4J (wU true (wC 18 (p202.set 9 a8Z) a8f j)))) (wN ((p202.set 9 a8Z).set 18 k17) a8f))) (LX.step (wS 1 ((p202.set 9 a8Z).set 18 k17) a8f (XC.seq (wB0 (wS 2 p204 b4B (wU true (wC 18 (p204.set 9 a0U) a3S l)))) (wN ((p204.set 9 a0U).set 18 k68) a3S))) (wL 1 ((.exit 1),((p204.set 9 a0U).set 18 k68),a3S))))))) (XC.seq (wC 6 ((p204.set 9 a0U).set 18 k68) (p195.set 32 a5n) t) (wR ((p204.set 9 a0U).set 18 k68) (p195.set 32 a5n)))))))
theorem t46:Ev e7 170 [a3L,a3U] p213 k41 p219:=wF (fn:=a170) (wS 5 p215 p217 (wO (.normal,e6G,p219) (.normal,p215,p219) (.normal,p215,p219)))
theorem t47:Ev e7 109 [a3L,a2q] b6w k41 p219:=wF (fn:=a109) (wS 1 p222 b6w (wB1 (XC.loop (LX.step (wS 1 p222 b6w (XC.seq (wB0 (wS 3 ((p222.set 2 k40).set 7 k8) p213 (wB0 (wU true (wC 2 ((p222.set 2 k40).set 7 k8) p219 (t46 hm hn)))))) (wN d1c p219))) (wL 1 ((.exit 0),d1c,p219))))))
theorem t48:Ev e7 43 b5H c8W (.sl 54 0 1 2) p219:=wF (fn:=a43) (wS 2 p226 b6w (XC.seq (wC 2 p226 p219 (t47 hm hn)) (wR (p226.set 7 (.sl 54 0 1 2)) p219)))
theorem t51 (i:Q50):Ev e7 288 p231 (p219.set 47 a0w) a8w p235:=wF (fn:=a288) (wS 2 p233 (p219.set 47 a0w) (wZ (wU true (XC.seq (wC 7 (p233.set 11 a1D) (p219.set 47 a0w) i) (wR e7Q p235)))))
theorem t52 (i:Q49) (j:Q50):Ev e7 268 p237 a3o b5O (p235.set 49 E1):=wF (fn:=a268) (wS 2 p238 c8W (XC.seq (XC.seq (wC 14 p239 p219 (t48 hm hn)) (wB1 (XC.loop (LX.step (wS 1 p239 p219 (XC.seq (wB0 (wS 3 p240 p219 (XC.seq (wD 1 false p240 (p219.set 47 a0w) i (wN p240 (p219.set 47 a0w))) (wS 1 p241 (p219.set 47 a0w) (XC.seq (wC 6 ((p241.set 13 a1D).set 14 k28) p235 (t51 hm hn j)) (wN ((p241.set 13 a1D).set 14 k28) (p235.set 49 E1))))))) (wN p243 (p235.set 49 E1)))) (wL 1 ((.exit 0),p243,(p235.set 49 E1))))))) (wR ((p243.set 6 V0).set 7 k28) (p235.set 49 E1))))
theorem t53 (i:Q45) (j:Q49) (l:Q50):Ev e7 232 p248 b3E a8R (p235.set 49 E1):=wF (fn:=a232) (wS 3 p252 a3o (XC.seq (wC 7 ((p252.set 14 a0U).set 15 k28) a3o i) (wS 1 ((p252.set 14 a0U).set 15 k28) a3o (XC.seq (wC 7 p253 (p235.set 49 E1) (t52 hm hn j l)) (wR (p253.set 8 V0) (p235.set 49 E1))))))
theorem t54 (i:Q45) (j:Q49) (l:Q50):Ev e7 181 p248 b3E b5O (p235.set 49 E1):=wF (fn:=a181) (wS 2 p255 b3E (XC.seq (wC 5 (p255.set 11 V0) (p235.set 49 E1) (t53 hm hn i j l)) (wR p256 (p235.set 49 E1))))
theorem t55 (i:Q45) (j:Q49) (l:Q50):Ev e7 113 p257 (p195.set 32 a5n) c8Y (p235.set 49 E1):=wF (fn:=a113) (wS 2 p258 b3E (XC.seq (wC 8 (p258.set 17 V0) (p235.set 49 E1) (t54 hm hn i j l)) (wR e74 (p235.set 49 E1))))
theorem e36 (i:Q40) (j:Q41) (l:Q42) (t:Q43) (u:Q45) (x:Q49) (y:Q50):Ev e7 45 a5H p262 a8R ((p235.set 49 E1).set 32 b4U):=wF (fn:=a45) (wS 4 p263 (p178.set 31 (.cells v.C)) (XC.seq (wU true (wS 2 ((p263.set 8 k94).set 9 a3d) (p178.set 31 (.cells v.C)) (wC 4 ((p263.set 8 k94).set 9 a3d) (p195.set 32 a5n) (t44 hm hn i j l t)))) (wS 1 ((p263.set 8 k94).set 9 a3d) (p195.set 32 a5n) (XC.seq (wC 25 p265 (p235.set 49 E1) (t55 hm hn u x y)) (wR d0l ((p235.set 49 E1).set 32 b4U))))))
theorem e2O (i:Q57):Ev e7 45 a5H ((p72.set 33 p85).set 33 a1w) p84 b4i:=wF (fn:=a45) (wS 4 p263 p168 (XC.seq (wU true (wS 2 ((p263.set 8 k94).set 9 a3d) p168 (wC 4 b6v p168 i))) (wR b6v b4i)))
theorem e8i (i:Q59):Ev e7 112 [k33,L3,k13,X9] p273 q8 p273:=wF (fn:=a112) (wS 2 p278 p273 (XC.seq (wC 5 p279 p273 i) (wR (p279.set 6 q8) p273)))
theorem e4u (i:Q61):Ev e7 112 [k33,L3,k13,X9] ((p273.set 31 (.cells v.C)).set 32 p0) q8 ((p273.set 31 (.cells v.C)).set 32 p0):=wF (fn:=a112) (wS 2 p278 ((p273.set 31 (.cells v.C)).set 32 p0) (XC.seq (wC 5 ((p279.set 9 b3H).set 10 k28) ((p273.set 31 (.cells v.C)).set 32 p0) i) (wR d2W ((p273.set 31 (.cells v.C)).set 32 p0))))
theorem e53 (i:Q63):Ev e7 112 [k33,L3,k13,X9] p283 q8 p283:=wF (fn:=a112) (wS 2 p278 p283 (XC.seq (wC 5 p286 p283 i) (wR (p286.set 6 q8) p283)))
theorem t66 (i:Q65):Ev e7 112 [k33,L3,k13,X9] (p283.set 31 (.cells v.C)) k4 (p283.set 31 (.cells v.C)):=wF (fn:=a112) (wS 2 p278 (p283.set 31 (.cells v.C)) (XC.seq (wC 5 (p286.set 9 a1y) (p283.set 31 (.cells v.C)) i) (wR (p286.set 9 a1y) (p283.set 31 (.cells v.C)))))
theorem t68:Ev e7 170 [k38,a3U] p291 k41 p295:=wF (fn:=a170) (wS 5 ((p215.set 0 k38).set 3 a6Y) p293 (wO (.normal,e2f,p295) (.normal,((p215.set 0 k38).set 3 a6Y),p295) (.normal,((p215.set 0 k38).set 3 a6Y),p295)))
theorem t69:Ev e7 109 [k38,a2q] b3V k41 p295:=wF (fn:=a109) (wS 1 (p222.set 0 k38) b3V (wB1 (XC.loop (LX.step (wS 1 (p222.set 0 k38) b3V (XC.seq (wB0 (wS 3 p297 p291 (wB0 (wU true (wC 2 p297 p295 (t68 hm hn)))))) (wN (p297.set 6 k17) p295))) (wL 1 ((.exit 0),(p297.set 6 k17),p295))))))
theorem t70:Ev e7 43 b5H b9Q a4I p295:=wF (fn:=a43) (wS 2 (p226.set 8 k38) b3V (XC.seq (wC 2 (p226.set 8 k38) p295 (t69 hm hn)) (wR ((p226.set 8 k38).set 7 a4I) p295)))
theorem t73:Ev e7 127 d7A (p295.set 38 l5) k28 p306:=wF (fn:=a127) (wS 3 p305 p306 (wZ (wS 1 (p305.set 8 k81) p306 (wB0 (wU true (XC.seq (d6C hm) (wR ((p305.set 8 k81).set 6 k28) p306)))))))
theorem t74:Ev e7 266 [C5,k81,a4t] (p295.set 38 l5) k28 p306:=wF (fn:=a266) (wS 2 p307 (p295.set 38 l5) (XC.seq (wC 7 (p307.set 4 k28) p306 (t73 hm hn)) (wR (p307.set 4 k28) p306)))
theorem t75:Ev e7 232 p308 (p295.set 38 l5) a4t p306:=wF (fn:=a232) (wS 1 p309 (p295.set 38 l5) (wZ (wB0 (wU false (wU false (wU true (XC.seq (wD 4 false p309 p306 (t74 hm hn) (wN p309 p306)) (wR (p309.set 8 H8) p306))))))))
theorem t76:Ev e7 181 p308 (p295.set 38 l5) a5h p306:=wF (fn:=a181) (wS 2 p310 (p295.set 38 l5) (XC.seq (wC 5 (p310.set 11 H8) p306 (t75 hm hn)) (wR e1J p306)))
theorem t77 (i:Q72):Ev e7 288 p313 (p295.set 38 l5) a5h p306:=wF (fn:=a288) (wS 2 p314 (p295.set 38 l5) (wZ (wU true (XC.seq (wC 7 (p314.set 11 H8) (p295.set 38 l5) i) (XC.seq (wC 6 d5w p306 (t76 hm hn)) (wR d5w p306))))))
theorem t78 (i:Q71) (j:Q72):Ev e7 268 ((p237.set 0 C5).set 2 a8q) a0P b6e (p306.set 40 C7):=wF (fn:=a268) (wS 2 p316 b9Q (XC.seq (XC.seq (wC 14 p317 p295 (t70 hm hn)) (wB1 (XC.loop (LX.step (wS 1 p317 p295 (XC.seq (wB0 (wS 3 p318 p295 (XC.seq (wD 1 false p318 (p295.set 38 l5) i (wN p318 (p295.set 38 l5))) (wS 1 p319 (p295.set 38 l5) (XC.seq (wC 6 ((p319.set 13 H8).set 14 k28) p306 (t77 hm hn j)) (wN ((p319.set 13 H8).set 14 k28) (p306.set 40 C7))))))) (wN p321 (p306.set 40 C7)))) (wL 1 ((.exit 0),p321,(p306.set 40 C7))))))) (wR ((p321.set 6 N0).set 7 k28) (p306.set 40 C7))))
theorem t79 (i:Q67) (j:Q71) (l:Q72):Ev e7 232 ((p248.set 0 C5).set 2 p58) a4L a8m (p306.set 40 C7):=wF (fn:=a232) (wS 3 p325 a0P (XC.seq (wC 7 ((p325.set 14 a1y).set 15 k28) a0P i) (wS 1 ((p325.set 14 a1y).set 15 k28) a0P (XC.seq (wC 7 p326 (p306.set 40 C7) (t78 hm hn j l)) (wR (p326.set 8 N0) (p306.set 40 C7))))))
theorem t80 (i:Q67) (j:Q71) (l:Q72):Ev e7 181 ((p248.set 0 C5).set 2 p58) a4L b6e (p306.set 40 C7):=wF (fn:=a181) (wS 2 p328 a4L (XC.seq (wC 5 (p328.set 11 N0) (p306.set 40 C7) (t79 hm hn i j l)) (wR p329 (p306.set 40 C7))))
theorem t81 (i:Q67) (j:Q71) (l:Q72):Ev e7 113 b6k (p283.set 31 (.cells v.C)) d2r (p306.set 40 C7):=wF (fn:=a113) (wS 2 p331 a4L (XC.seq (wC 8 (p331.set 17 N0) (p306.set 40 C7) (t80 hm hn i j l)) (wR p332 (p306.set 40 C7))))
theorem e7s (i:Q65) (j:Q67) (l:Q71) (t:Q72) (u:Q82):Ev e7 45 a1B ((p262.set 31 (.cells v.C)).set 33 a3i) a8m (p335.set 32 a9W):=wF (fn:=a45) (wS 4 (((p263.set 1 L3).set 3 a4w).set 6 a4h) (p283.set 31 (.cells v.C)) (XC.seq (wU true (wS 2 p337 (p283.set 31 (.cells v.C)) (wC 4 p337 (p283.set 31 (.cells v.C)) (t66 hm hn i)))) (wS 1 p337 (p283.set 31 (.cells v.C)) (XC.seq (wC 25 p338 (p306.set 40 C7) (t81 hm hn j l t)) (wS 1 p338 ((p306.set 40 C7).set 32 a5B) (XC.seq (wS 1 (p338.set 13 a00) ((p306.set 40 C7).set 32 a5B) (wU true (wC 6 (p338.set 13 a00) (p335.set 32 a9W) u))) (wR d37 (p335.set 32 a9W))))))))
theorem t85 (i:Q84):Ev e7 288 p313 (p295.set 38 l5) d7y (p295.set 38 l5):=wF (fn:=a288) (wS 2 p314 (p295.set 38 l5) (wZ (wU true (XC.seq (wC 7 ((p314.set 11 H8).set 11 a5a) (p295.set 38 l5) i) (wR e6g (p295.set 38 l5))))))
theorem t86 (i:Q71) (j:Q84):Ev e7 268 ((p237.set 0 C5).set 2 a8q) a0P b3L ((p295.set 38 l5).set 40 G4):=wF (fn:=a268) (wS 2 p316 b9Q (XC.seq (XC.seq (wC 14 p317 p295 (t70 hm hn)) (wB1 (XC.loop (LX.step (wS 1 p317 p295 (XC.seq (wB0 (wS 3 p318 p295 (XC.seq (wD 1 false p318 (p295.set 38 l5) i (wN p318 (p295.set 38 l5))) (wS 1 p319 (p295.set 38 l5) (XC.seq (wC 6 p345 (p295.set 38 l5) (t85 hm hn j)) (wN p345 ((p295.set 38 l5).set 40 G4))))))) (wN (p345.set 17 k17) ((p295.set 38 l5).set 40 G4)))) (wL 1 ((.exit 0),(p345.set 17 k17),((p295.set 38 l5).set 40 G4))))))) (wR e2B ((p295.set 38 l5).set 40 G4))))
theorem t87 (i:Q67) (j:Q71) (l:Q84):Ev e7 232 ((p248.set 0 C5).set 2 p58) a4L a8Y ((p295.set 38 l5).set 40 G4):=wF (fn:=a232) (wS 3 p325 a0P (XC.seq (wC 7 ((p325.set 14 a1y).set 15 k28) a0P i) (wS 1 ((p325.set 14 a1y).set 15 k28) a0P (XC.seq (wC 7 (p326.set 16 M1) ((p295.set 38 l5).set 40 G4) (t86 hm hn j l)) (wR ((p326.set 16 M1).set 8 M1) ((p295.set 38 l5).set 40 G4))))))
theorem t88 (i:Q67) (j:Q71) (l:Q84):Ev e7 181 ((p248.set 0 C5).set 2 p58) a4L b3L ((p295.set 38 l5).set 40 G4):=wF (fn:=a181) (wS 2 p328 a4L (XC.seq (wC 5 ((p328.set 11 N0).set 11 M1) ((p295.set 38 l5).set 40 G4) (t87 hm hn i j l)) (wR p351 ((p295.set 38 l5).set 40 G4))))
theorem t89 (i:Q67) (j:Q71) (l:Q84):Ev e7 113 b6k (p283.set 31 (.cells v.C)) c8i ((p295.set 38 l5).set 40 G4):=wF (fn:=a113) (wS 2 p331 a4L (XC.seq (wC 8 ((p331.set 17 N0).set 17 M1) ((p295.set 38 l5).set 40 G4) (t88 hm hn i j l)) (wR ((p332.set 13 M1).set 17 M1) ((p295.set 38 l5).set 40 G4))))
theorem e66 (i:Q65) (j:Q67) (l:Q71) (t:Q84) (u:Q90):Ev e7 45 a1B ((p262.set 31 (.cells v.C)).set 33 a3i) a8Y (p354.set 32 a2W):=wF (fn:=a45) (wS 4 (((p263.set 1 L3).set 3 a4w).set 6 a4h) (p283.set 31 (.cells v.C)) (XC.seq (wU true (wS 2 p337 (p283.set 31 (.cells v.C)) (wC 4 p337 (p283.set 31 (.cells v.C)) (t66 hm hn i)))) (wS 1 p337 (p283.set 31 (.cells v.C)) (XC.seq (wC 25 (p338.set 10 M1) ((p295.set 38 l5).set 40 G4) (t89 hm hn j l t)) (wS 1 (p338.set 10 M1) a8j (XC.seq (wS 1 p355 a8j (wU true (wC 6 p355 (p354.set 32 a2W) u))) (wR (p355.set 5 M1) (p354.set 32 a2W))))))))
theorem e76 (i:Q92):Ev e7 45 a1B p357 p84 b4Q:=wF (fn:=a45) (wS 4 (((p263.set 1 L3).set 3 a4w).set 6 a4h) p273 (XC.seq (wU true (wS 2 p337 p273 (wC 4 (p337.set 7 q8) p273 i))) (wR (p337.set 7 q8) b4Q)))
theorem e4V (i:Q94):Ev e7 112 [k33,U3,k62,Y5] p362 q8 p362:=wF (fn:=a112) (wS 2 p367 p362 (XC.seq (wC 5 p368 p362 i) (wR (p368.set 6 q8) p362)))
theorem e88 (i:Q96):Ev e7 112 [k33,U3,k62,Y5] ((p362.set 31 (.cells v.C)).set 32 p0) q8 ((p362.set 31 (.cells v.C)).set 32 p0):=wF (fn:=a112) (wS 2 p367 ((p362.set 31 (.cells v.C)).set 32 p0) (XC.seq (wC 5 ((p368.set 9 b5y).set 10 k28) ((p362.set 31 (.cells v.C)).set 32 p0) i) (wR d4r ((p362.set 31 (.cells v.C)).set 32 p0))))
theorem e80 (i:Q98):Ev e7 112 [k33,U3,k62,Y5] p372 q8 p372:=wF (fn:=a112) (wS 2 p367 p372 (XC.seq (wC 5 p375 p372 i) (wR (p375.set 6 q8) p372)))
theorem e38 (i:d6f):Ev e7 112 [k33,U3,k62,Y5] (p372.set 31 (.cells v.C)) k4 (p372.set 31 (.cells v.C)):=wF (fn:=a112) (wS 2 p367 (p372.set 31 (.cells v.C)) (XC.seq (wC 5 (p375.set 9 a8o) (p372.set 31 (.cells v.C)) i) (wR (p375.set 9 a8o) (p372.set 31 (.cells v.C)))))
theorem e1Y:Ev e7 170 [k38,a8u] p381 k41 p389:=wF (fn:=a170) (wS 5 p383 p386 (wO (.normal,e4F,p389) (.normal,p383,p389) (.normal,p383,p389)))
theorem e2v:Ev e7 109 [k38,a5d] b6d k41 p389:=wF (fn:=a109) (wS 1 p392 b6d (wB1 (XC.loop (LX.step (wS 1 p392 b6d (XC.seq (wB0 (wS 3 ((p392.set 2 J4).set 7 k8) p381 (wB0 (wU true (wC 2 ((p392.set 2 J4).set 7 k8) p389 (e1Y hm hn)))))) (wN d3d p389))) (wL 1 ((.exit 0),d3d,p389))))))
theorem e2l:Ev e7 43 d1K d6v a4I p389:=wF (fn:=a43) (wS 2 p396 b6d (XC.seq (wC 2 p396 p389 (e2v hm hn)) (wR (p396.set 7 a4I) p389)))
theorem e9n (i:a8T):Ev e7 268 p398 a2V b4a ((p389.set 38 l5).set 40 G3):=wF (fn:=a268) (wS 2 p399 d6v (XC.seq (XC.seq (wC 14 p400 p389 (e2l hm hn)) (wB1 (XC.loop (LX.step (wS 1 p400 p389 (XC.seq (wB0 (wS 3 p403 p389 (XC.seq (wD 1 false p403 (p389.set 38 l5) i (wN p403 (p389.set 38 l5))) (wN p407 ((p389.set 38 l5).set 40 G3))))) (wN (p407.set 17 k17) ((p389.set 38 l5).set 40 G3)))) (wL 1 ((.exit 0),(p407.set 17 k17),((p389.set 38 l5).set 40 G3))))))) (wR e9C ((p389.set 38 l5).set 40 G3))))
theorem e4v (i:b45) (j:a8T):Ev e7 232 (p142.set 0 C5) b5b a8p ((p389.set 38 l5).set 40 G3):=wF (fn:=a232) (wS 3 (p145.set 0 C5) a2V (XC.seq (wC 7 p412 a2V i) (wS 1 p412 a2V (XC.seq (wC 7 (p412.set 16 X6) ((p389.set 38 l5).set 40 G3) (e9n hm hn j)) (wR ((p412.set 16 X6).set 8 X6) ((p389.set 38 l5).set 40 G3))))))
theorem e6t (i:b45) (j:a8T):Ev e7 181 (p142.set 0 C5) b5b b4a ((p389.set 38 l5).set 40 G3):=wF (fn:=a181) (wS 2 (p148.set 0 C5) b5b (XC.seq (wC 5 ((p148.set 0 C5).set 11 X6) ((p389.set 38 l5).set 40 G3) (e4v hm hn i j)) (wR p414 ((p389.set 38 l5).set 40 G3))))
theorem e4b (i:b45) (j:a8T):Ev e7 113 p415 (p372.set 31 (.cells v.C)) d6z ((p389.set 38 l5).set 40 G3):=wF (fn:=a113) (wS 2 p416 b5b (XC.seq (wC 8 (p416.set 17 X6) ((p389.set 38 l5).set 40 G3) (e6t hm hn i j)) (wR p417 ((p389.set 38 l5).set 40 G3))))
theorem e9u (i:d6f) (j:b45) (l:a8T) (t:e3F):Ev e7 45 a4Y p422 a8p (p420.set 32 a2W):=wF (fn:=a45) (wS 4 p423 (p372.set 31 (.cells v.C)) (XC.seq (wU true (wS 2 ((p423.set 8 k62).set 9 a2r) (p372.set 31 (.cells v.C)) (wC 4 ((p423.set 8 k62).set 9 a2r) (p372.set 31 (.cells v.C)) (e38 hm hn i)))) (wS 1 ((p423.set 8 k62).set 9 a2r) (p372.set 31 (.cells v.C)) (XC.seq (wC 25 p424 ((p389.set 38 l5).set 40 G3) (e4b hm hn j l)) (wS 1 p424 a8C (XC.seq (wS 1 (p424.set 13 a00) a8C (wU true (wC 6 (p424.set 13 a00) (p420.set 32 a2W) t))) (wR c8T (p420.set 32 a2W))))))))
theorem e4P (i:b89):Ev e7 45 a4Y (p357.set 33 a4Z) p84 b6j:=wF (fn:=a45) (wS 4 p423 p362 (XC.seq (wU true (wS 2 ((p423.set 8 k62).set 9 a2r) p362 (wC 4 b57 p362 i))) (wR b57 b6j)))
theorem e7S (i:c8c) (j:d5c):Ev e7 112 [k33,p10,k13,p11] p429 k4 (p431.set 32 a5O):=wF (fn:=a112) (wS 2 p14 p429 (XC.seq (wC 5 p15 p429 i) (XC.seq (wB0 (wU false (wT false p15 p429 (wN (p15.set 9 p16) p429) (b4I hn (P:=fun v=>tst (callG e7 400) [] a112r10 (.t 41) p15 p429=some (.bool false,p15,p429)) (fun _ _ _ _ _ _ _ _ _ _ _ _ _ _ _ _ _=>⟨(by kernel_rfl),(by kernel_rfl),(by kernel_rfl),(by kernel_rfl),(by kernel_rfl),(by kernel_rfl),(by kernel_rfl),(by kernel_rfl),(by kernel_rfl),(by kernel_rfl),(by kernel_rfl),(by kernel_rfl),(by kernel_rfl),(by kernel_rfl)⟩))))) (wS 4 (p20.set 14 J4) b1h (XC.seq (wC 6 (p20.set 14 J4) (p431.set 32 a5O) j) (wR (p20.set 14 J4) (p431.set 32 a5O)))))))
theorem e9o:Ev e7 170 [k42,p25] p435 k41 p439:=wF (fn:=a170) (wS 5 ((p31.set 0 k42).set 3 O3) p437 (wO (.normal,e4c,p439) (.normal,((p31.set 0 k42).set 3 O3),p439) (.normal,((p31.set 0 k42).set 3 O3),p439)))
theorem e1T:Ev e7 109 [k42,p36] b4E k41 p439:=wF (fn:=a109) (wS 1 (p38.set 0 k42) b4E (wB1 (XC.loop (LX.step (wS 1 (p38.set 0 k42) b4E (XC.seq (wB0 (wS 3 p441 p435 (wB0 (wU true (wC 2 p441 p439 (e9o hm hn)))))) (wN (p441.set 6 k17) p439))) (wL 1 ((.exit 0),(p441.set 6 k17),p439))))))
theorem e9c:Ev e7 43 p41 d0M (.sl 53 0 1 2) p439:=wF (fn:=a43) (wS 2 (p44.set 8 k42) b4E (XC.seq (wC 2 (p44.set 8 k42) p439 (e1T hm hn)) (wR ((p44.set 8 k42).set 7 (.sl 53 0 1 2)) p439)))
theorem e2e (i:a8U):Ev e7 268 (p46.set 0 a0v) a3e p57 p446:=wF (fn:=a268) (wS 2 ((p48.set 0 a0v).set 8 k39) d0M (XC.seq (XC.seq (wC 14 p444 p439 (e9c hm hn)) (wB1 (XC.loop (LX.step (wS 1 p444 p439 (XC.seq (wB0 (wS 3 p445 p439 (XC.seq (wD 1 false p445 (p439.set 46 a7u) i (wN p445 (p439.set 46 a7u))) (wN p447 p446)))) (wN (p447.set 17 k17) p446))) (wL 1 ((.exit 0),(p447.set 17 k17),p446)))))) (wR e8V p446)))
theorem e3h (i:b6H) (j:a8U):Ev e7 232 (p59.set 0 a0v) b4H p64 p446:=wF (fn:=a232) (wS 3 (p62.set 0 a0v) a3e (XC.seq (wC 7 p450 a3e i) (wS 1 p450 a3e (XC.seq (wC 7 (p450.set 16 p19) p446 (e2e hm hn j)) (wR ((p450.set 16 p19).set 8 p19) p446)))))
theorem e35 (i:b6H) (j:a8U):Ev e7 181 (p59.set 0 a0v) b4H p57 p446:=wF (fn:=a181) (wS 2 (p65.set 0 a0v) b4H (XC.seq (wC 5 ((p65.set 0 a0v).set 11 p19) p446 (e3h hm hn i j)) (wR (p66.set 0 a0v) p446)))
theorem e4j (i:b6H) (j:a8U):Ev e7 113 e8s (p431.set 32 a5O) p70 p446:=wF (fn:=a113) (wS 2 p452 b4H (XC.seq (wC 8 (p452.set 17 p19) p446 (e35 hm hn i j)) (wR e3E p446)))
theorem e2F (i:c8c) (j:d5c) (l:b6H) (t:a8U):Ev e7 45 p71 p454 p64 (p446.set 32 b5W):=wF (fn:=a45) (wS 4 p73 p429 (XC.seq (wU true (wS 2 ((p73.set 8 k13).set 9 p74) p429 (wC 4 ((p73.set 8 k13).set 9 p74) (p431.set 32 a5O) (e7S hm hn i j)))) (wS 1 ((p73.set 8 k13).set 9 p74) (p431.set 32 a5O) (XC.seq (wC 25 p75 p446 (e4j hm hn l t)) (wR p77 (p446.set 32 b5W))))))
theorem e6P (i:e3w):Ev e7 112 [k33,p10,k13,p11] ((p429.set 31 (.cells v.C)).set 32 s9) k59 ((p429.set 31 (.cells v.C)).set 32 s9):=wF (fn:=a112) (wS 2 p14 ((p429.set 31 (.cells v.C)).set 32 s9) (XC.seq (wC 5 p80 ((p429.set 31 (.cells v.C)).set 32 s9) i) (wZ (wB0 (wU true (wR (p80.set 6 k59) ((p429.set 31 (.cells v.C)).set 32 s9)))))))
theorem e6V (i:b9B):Ev e7 45 p71 p454 p84 b54:=wF (fn:=a45) (wS 4 p73 p429 (XC.seq (wU true (wS 2 ((p73.set 8 k13).set 9 p74) p429 (wC 4 p81 p429 i))) (wR p81 b54)))
theorem e7q (i:d0F) (j:c8j):Ev e7 112 [k33,p95,k62,p96] p458 k4 (p460.set 32 a5G):=wF (fn:=a112) (wS 2 p99 p458 (XC.seq (wC 5 p100 p458 i) (XC.seq (wB0 (wU false (wT false p100 p458 (wN (p100.set 9 b85) p458) (b4I hn (P:=fun v=>tst (callG e7 400) [] a112r10 (.t 41) p100 p458=some (.bool false,p100,p458)) (fun _ _ _ _ _ _ _ _ _ _ _ _ _ _ _ _ _=>⟨(by kernel_rfl),(by kernel_rfl),(by kernel_rfl),(by kernel_rfl),(by kernel_rfl),(by kernel_rfl),(by kernel_rfl),(by kernel_rfl),(by kernel_rfl),(by kernel_rfl),(by kernel_rfl),(by kernel_rfl),(by kernel_rfl),(by kernel_rfl)⟩))))) (wS 4 (p106.set 14 k39) b1B (XC.seq (wC 6 (p106.set 14 k39) (p460.set 32 a5G) j) (wR (p106.set 14 k39) (p460.set 32 a5G)))))))
theorem e8p:Ev e7 170 [k85,b1b] p464 k41 p468:=wF (fn:=a170) (wS 5 ((p116.set 0 k85).set 3 (.ptr 58 0)) p466 (wO (.normal,e8W,p468) (.normal,((p116.set 0 k85).set 3 (.ptr 58 0)),p468) (.normal,((p116.set 0 k85).set 3 (.ptr 58 0)),p468)))
theorem e7W:Ev e7 109 [k85,a2k] b3P k41 p468:=wF (fn:=a109) (wS 1 (p123.set 0 k85) b3P (wB1 (XC.loop (LX.step (wS 1 (p123.set 0 k85) b3P (XC.seq (wB0 (wS 3 p470 p464 (wB0 (wU true (wC 2 p470 p468 (e8p hm hn)))))) (wN (p470.set 6 k17) p468))) (wL 1 ((.exit 0),(p470.set 6 k17),p468))))))
theorem e8a:Ev e7 43 ((p41.set 2 k71).set 3 a2k) d2T (.sl 59 0 1 2) p468:=wF (fn:=a43) (wS 2 (p126.set 8 k85) b3P (XC.seq (wC 2 (p126.set 8 k85) p468 (e7W hm hn)) (wR ((p126.set 8 k85).set 7 (.sl 59 0 1 2)) p468)))
theorem e9e (i:a8l):Ev e7 268 (p128.set 0 O3) a3l b4D p475:=wF (fn:=a268) (wS 2 ((p129.set 0 O3).set 8 k84) d2T (XC.seq (XC.seq (wC 14 p473 p468 (e8a hm hn)) (wB1 (XC.loop (LX.step (wS 1 p473 p468 (XC.seq (wB0 (wS 3 p474 p468 (XC.seq (wD 1 false p474 (p468.set 52 a6W) i (wN p474 (p468.set 52 a6W))) (wN p476 p475)))) (wN (p476.set 17 k17) p475))) (wL 1 ((.exit 0),(p476.set 17 k17),p475)))))) (wR e57 p475)))
theorem e3q (i:b5R) (j:a8l):Ev e7 232 ((p142.set 0 C5).set 0 O3) b3x a8L p475:=wF (fn:=a232) (wS 3 ((p145.set 0 C5).set 0 O3) a3l (XC.seq (wC 7 p479 a3l i) (wS 1 p479 a3l (XC.seq (wC 7 (p479.set 16 U9) p475 (e9e hm hn j)) (wR ((p479.set 16 U9).set 8 U9) p475)))))
theorem e4E (i:b5R) (j:a8l):Ev e7 181 ((p142.set 0 C5).set 0 O3) b3x b4D p475:=wF (fn:=a181) (wS 2 ((p148.set 0 C5).set 0 O3) b3x (XC.seq (wC 5 e2k p475 (e3q hm hn i j)) (wR (p149.set 0 O3) p475)))
theorem e3p (i:b5R) (j:a8l):Ev e7 113 e7y (p460.set 32 a5G) d2v p475:=wF (fn:=a113) (wS 2 p482 b3x (XC.seq (wC 8 (p482.set 17 U9) p475 (e4E hm hn i j)) (wR e1V p475)))
theorem e5z (i:d0F) (j:c8j) (l:b5R) (t:a8l):Ev e7 45 a5m (p454.set 33 p85) a8L (p475.set 32 b35):=wF (fn:=a45) (wS 4 (((p73.set 1 p95).set 3 p97).set 6 p98) p458 (XC.seq (wU true (wS 2 p156 p458 (wC 4 p156 (p460.set 32 a5G) (e7q hm hn i j)))) (wS 1 p156 (p460.set 32 a5G) (XC.seq (wC 25 p157 p475 (e3p hm hn l t)) (wR d3b (p475.set 32 b35))))))
theorem e4T (i:e5d):Ev e7 112 [k33,p95,k62,p96] ((p458.set 31 (.cells v.C)).set 32 s9) k59 ((p458.set 31 (.cells v.C)).set 32 s9):=wF (fn:=a112) (wS 2 p99 ((p458.set 31 (.cells v.C)).set 32 s9) (XC.seq (wC 5 p162 ((p458.set 31 (.cells v.C)).set 32 s9) i) (wZ (wB0 (wU true (wR (p162.set 6 k59) ((p458.set 31 (.cells v.C)).set 32 s9)))))))
theorem e5f (i:b9N):Ev e7 45 a5m (p454.set 33 p85) p84 b6s:=wF (fn:=a45) (wS 4 (((p73.set 1 p95).set 3 p97).set 6 p98) p458 (XC.seq (wU true (wS 2 p156 p458 (wC 4 (p156.set 7 k59) p458 i))) (wR (p156.set 7 k59) b6s)))
theorem e6L (i:e4K):Ev e7 112 [k33,T0,k94,Z1] p487 q8 p487:=wF (fn:=a112) (wS 2 p173 p487 (XC.seq (wC 5 p174 p487 i) (wR (p174.set 6 q8) p487)))
theorem e3s (i:e3G):Ev e7 112 [k33,T0,k94,Z1] ((p487.set 31 (.cells v.C)).set 32 s9) q8 ((p487.set 31 (.cells v.C)).set 32 s9):=wF (fn:=a112) (wS 2 p173 ((p487.set 31 (.cells v.C)).set 32 s9) (XC.seq (wC 5 ((p174.set 9 b44).set 10 k28) ((p487.set 31 (.cells v.C)).set 32 s9) i) (wR d0Z ((p487.set 31 (.cells v.C)).set 32 s9))))
theorem e9F (i:e83):Ev e7 112 [k33,T0,k94,Z1] p488 q8 p488:=wF (fn:=a112) (wS 2 p173 p488 (XC.seq (wC 5 p181 p488 i) (wR (p181.set 6 q8) p488)))
theorem e5Y (i:c8q) (j:d5g) (l:c9r) (t:d0C):Ev e7 112 [k33,T0,k94,Z1] (p488.set 31 (.cells v.C)) k4 (p493.set 32 a5P):=wF (fn:=a112) (wS 2 p173 (p488.set 31 (.cells v.C)) (XC.seq (wC 5 (p181.set 9 b9r) (p488.set 31 (.cells v.C)) i) (wS 4 p199 (p488.set 31 (.cells v.C)) (XC.seq (wS 1 p201 (p488.set 31 (.cells v.C)) (wB1 (XC.loop (LX.step (wS 1 p201 (p488.set 31 (.cells v.C)) (XC.seq (wB0 (wS 2 (p202.set 14 a7g) b5a (wU true (wC 18 ((p202.set 14 a7g).set 9 a8Z) a8S j)))) (wN d1z a8S))) (LX.step (wS 1 d1z a8S (XC.seq (wB0 (wS 2 (p204.set 14 k46) b4f (wU true (wC 18 ((p204.set 14 k46).set 9 a0U) a3Z l)))) (wN b3S a3Z))) (wL 1 ((.exit 1),b3S,a3Z))))))) (XC.seq (wC 6 b3S (p493.set 32 a5P) t) (wR b3S (p493.set 32 a5P)))))))
theorem e3T:Ev e7 170 [k40,a3U] p499 k41 p504:=wF (fn:=a170) (wS 5 p500 p502 (wO (.normal,e5w,p504) (.normal,p500,p504) (.normal,p500,p504)))
theorem e8N:Ev e7 109 [k40,a2q] b5v k41 p504:=wF (fn:=a109) (wS 1 ((p222.set 0 k38).set 0 k40) b5v (wB1 (XC.loop (LX.step (wS 1 ((p222.set 0 k38).set 0 k40) b5v (XC.seq (wB0 (wS 3 p506 p499 (wB0 (wU true (wC 2 p506 p504 (e3T hm hn)))))) (wN (p506.set 6 k17) p504))) (wL 1 ((.exit 0),(p506.set 6 k17),p504))))))
theorem e4G:Ev e7 43 b5H d5q (.sl 55 0 1 2) p504:=wF (fn:=a43) (wS 2 ((p226.set 8 k38).set 8 k40) b5v (XC.seq (wC 2 ((p226.set 8 k38).set 8 k40) p504 (e8N hm hn)) (wR e3N p504)))
theorem e5c (i:a8A):Ev e7 288 e17 (p504.set 48 a0x) a8w p512:=wF (fn:=a288) (wS 2 p511 (p504.set 48 a0x) (wZ (wU true (XC.seq (wC 7 (p511.set 11 a1D) (p504.set 48 a0x) i) (wR e7D p512)))))
theorem d2j (i:a8t) (j:a8A):Ev e7 268 (p237.set 0 k39) a2Q b5O (p512.set 50 E1):=wF (fn:=a268) (wS 2 ((p238.set 0 k39).set 8 a3L) d5q (XC.seq (XC.seq (wC 14 p514 p504 (e4G hm hn)) (wB1 (XC.loop (LX.step (wS 1 p514 p504 (XC.seq (wB0 (wS 3 p515 p504 (XC.seq (wD 1 false p515 (p504.set 48 a0x) i (wN p515 (p504.set 48 a0x))) (wS 1 p516 (p504.set 48 a0x) (XC.seq (wC 6 ((p516.set 13 a1D).set 14 k28) p512 (e5c hm hn j)) (wN ((p516.set 13 a1D).set 14 k28) (p512.set 50 E1))))))) (wN p517 (p512.set 50 E1)))) (wL 1 ((.exit 0),p517,(p512.set 50 E1))))))) (wR ((p517.set 6 V0).set 7 k28) (p512.set 50 E1))))
theorem e1D (i:b4P) (j:a8t) (l:a8A):Ev e7 232 (p248.set 0 k39) b51 a8R (p512.set 50 E1):=wF (fn:=a232) (wS 3 (p252.set 0 k39) a2Q (XC.seq (wC 7 p519 a2Q i) (wS 1 p519 a2Q (XC.seq (wC 7 (p519.set 16 V0) (p512.set 50 E1) (d2j hm hn j l)) (wR ((p519.set 16 V0).set 8 V0) (p512.set 50 E1))))))
theorem e1S (i:b4P) (j:a8t) (l:a8A):Ev e7 181 (p248.set 0 k39) b51 b5O (p512.set 50 E1):=wF (fn:=a181) (wS 2 (p255.set 0 k39) b51 (XC.seq (wC 5 ((p255.set 0 k39).set 11 V0) (p512.set 50 E1) (e1D hm hn i j l)) (wR (p256.set 0 k39) (p512.set 50 E1))))
theorem e6M (i:b4P) (j:a8t) (l:a8A):Ev e7 113 e4i (p493.set 32 a5P) c8Y (p512.set 50 E1):=wF (fn:=a113) (wS 2 p521 b51 (XC.seq (wC 8 (p521.set 17 V0) (p512.set 50 E1) (e1S hm hn i j l)) (wR e60 (p512.set 50 E1))))
theorem e12 (i:c8q) (j:d5g) (l:c9r) (t:d0C) (u:b4P) (x:a8t) (y:a8A):Ev e7 45 a5H c9y a8R ((p512.set 50 E1).set 32 b5F):=wF (fn:=a45) (wS 4 p263 (p488.set 31 (.cells v.C)) (XC.seq (wU true (wS 2 ((p263.set 8 k94).set 9 a3d) (p488.set 31 (.cells v.C)) (wC 4 ((p263.set 8 k94).set 9 a3d) (p493.set 32 a5P) (e5Y hm hn i j l t)))) (wS 1 ((p263.set 8 k94).set 9 a3d) (p493.set 32 a5P) (XC.seq (wC 25 p265 (p512.set 50 E1) (e6M hm hn u x y)) (wR d0l ((p512.set 50 E1).set 32 b5F))))))
theorem e8x (i:b9F):Ev e7 45 a5H ((p454.set 33 p85).set 33 a1w) p84 b6n:=wF (fn:=a45) (wS 4 p263 p487 (XC.seq (wU true (wS 2 ((p263.set 8 k94).set 9 a3d) p487 (wC 4 b6v p487 i))) (wR b6v b6n)))
theorem e8c (i:e1F):Ev e7 112 [k33,L3,k13,X9] p527 q8 p527:=wF (fn:=a112) (wS 2 p278 p527 (XC.seq (wC 5 p279 p527 i) (wR (p279.set 6 q8) p527)))
theorem e4d (i:e72):Ev e7 112 [k33,L3,k13,X9] ((p527.set 31 (.cells v.C)).set 32 s9) q8 ((p527.set 31 (.cells v.C)).set 32 s9):=wF (fn:=a112) (wS 2 p278 ((p527.set 31 (.cells v.C)).set 32 s9) (XC.seq (wC 5 ((p279.set 9 b3H).set 10 k28) ((p527.set 31 (.cells v.C)).set 32 s9) i) (wR d2W ((p527.set 31 (.cells v.C)).set 32 s9))))
theorem e40 (i:e2g):Ev e7 112 [k33,L3,k13,X9] p528 q8 p528:=wF (fn:=a112) (wS 2 p278 p528 (XC.seq (wC 5 p286 p528 i) (wR (p286.set 6 q8) p528)))
theorem d2w (i:c1a):Ev e7 112 [k33,L3,k13,X9] (p528.set 31 (.cells v.C)) k4 (p528.set 31 (.cells v.C)):=wF (fn:=a112) (wS 2 p278 (p528.set 31 (.cells v.C)) (XC.seq (wC 5 (p286.set 9 a1y) (p528.set 31 (.cells v.C)) i) (wR (p286.set 9 a1y) (p528.set 31 (.cells v.C)))))
theorem e5J:Ev e7 170 [J4,a3U] p530 k41 p534:=wF (fn:=a170) (wS 5 ((p500.set 0 J4).set 3 k46) p532 (wO (.normal,e6c,p534) (.normal,((p500.set 0 J4).set 3 k46),p534) (.normal,((p500.set 0 J4).set 3 k46),p534)))
theorem e2d:Ev e7 109 [J4,a2q] b4N k41 p534:=wF (fn:=a109) (wS 1 p536 b4N (wB1 (XC.loop (LX.step (wS 1 p536 b4N (XC.seq (wB0 (wS 3 ((p536.set 2 a7g).set 7 k8) p530 (wB0 (wU true (wC 2 ((p536.set 2 a7g).set 7 k8) p534 (e5J hm hn)))))) (wN d7t p534))) (wL 1 ((.exit 0),d7t,p534))))))
theorem c8y:Ev e7 43 b5H b9x a4O p534:=wF (fn:=a43) (wS 2 p539 b4N (XC.seq (wC 2 p539 p534 (e2d hm hn)) (wR (p539.set 7 a4O) p534)))
theorem e7m:Ev e7 127 d7A (p534.set 39 l5) k28 p540:=wF (fn:=a127) (wS 3 ((p305.set 3 k39).set 4 k42) p540 (wZ (wS 1 p541 p540 (wB0 (wU true (XC.seq (d6C hm) (wR (p541.set 6 k28) p540)))))))
theorem e9i:Ev e7 266 [A9,k81,a4t] (p534.set 39 l5) k28 p540:=wF (fn:=a266) (wS 2 (p307.set 0 A9) (p534.set 39 l5) (XC.seq (wC 7 ((p307.set 0 A9).set 4 k28) p540 (e7m hm hn)) (wR ((p307.set 0 A9).set 4 k28) p540)))
theorem e6l:Ev e7 232 c8Z (p534.set 39 l5) a4t p540:=wF (fn:=a232) (wS 1 p543 (p534.set 39 l5) (wZ (wB0 (wU false (wU false (wU true (XC.seq (wD 4 false p543 p540 (e9i hm hn) (wN p543 p540)) (wR (p543.set 8 H8) p540))))))))
theorem e8o:Ev e7 181 c8Z (p534.set 39 l5) a5h p540:=wF (fn:=a181) (wS 2 p544 (p534.set 39 l5) (XC.seq (wC 5 (p544.set 11 H8) p540 (e6l hm hn)) (wR e5L p540)))
theorem e7u (i:a8O):Ev e7 288 d6p (p534.set 39 l5) a5h p540:=wF (fn:=a288) (wS 2 p547 (p534.set 39 l5) (wZ (wU true (XC.seq (wC 7 (p547.set 11 H8) (p534.set 39 l5) i) (XC.seq (wC 6 c9W p540 (e8o hm hn)) (wR c9W p540))))))
theorem e51 (i:a2u) (j:a8O):Ev e7 268 d28 a0M b6e (p540.set 41 C7):=wF (fn:=a268) (wS 2 ((p316.set 0 A9).set 8 k38) b9x (XC.seq (XC.seq (wC 14 p550 p534 (c8y hm hn)) (wB1 (XC.loop (LX.step (wS 1 p550 p534 (XC.seq (wB0 (wS 3 p551 p534 (XC.seq (wD 1 false p551 (p534.set 39 l5) i (wN p551 (p534.set 39 l5))) (wS 1 p552 (p534.set 39 l5) (XC.seq (wC 6 ((p552.set 13 H8).set 14 k28) p540 (e7u hm hn j)) (wN ((p552.set 13 H8).set 14 k28) (p540.set 41 C7))))))) (wN p553 (p540.set 41 C7)))) (wL 1 ((.exit 0),p553,(p540.set 41 C7))))))) (wR ((p553.set 6 N0).set 7 k28) (p540.set 41 C7))))
theorem e7C (i:a4F) (j:a2u) (l:a8O):Ev e7 232 b5U a5C a8m (p540.set 41 C7):=wF (fn:=a232) (wS 3 (p325.set 0 A9) a0M (XC.seq (wC 7 p556 a0M i) (wS 1 p556 a0M (XC.seq (wC 7 (p556.set 16 N0) (p540.set 41 C7) (e51 hm hn j l)) (wR ((p556.set 16 N0).set 8 N0) (p540.set 41 C7))))))
theorem e4p (i:a4F) (j:a2u) (l:a8O):Ev e7 181 b5U a5C b6e (p540.set 41 C7):=wF (fn:=a181) (wS 2 (p328.set 0 A9) a5C (XC.seq (wC 5 ((p328.set 0 A9).set 11 N0) (p540.set 41 C7) (e7C hm hn i j l)) (wR (p329.set 0 A9) (p540.set 41 C7))))
theorem e82 (i:a4F) (j:a2u) (l:a8O):Ev e7 113 b6k (p528.set 31 (.cells v.C)) d2r (p540.set 41 C7):=wF (fn:=a113) (wS 2 (p331.set 16 A9) a5C (XC.seq (wC 8 ((p331.set 16 A9).set 17 N0) (p540.set 41 C7) (e4p hm hn i j l)) (wR (p332.set 16 A9) (p540.set 41 C7))))
theorem e5D (i:c1a) (j:a4F) (l:a2u) (t:a8O) (u:e3X):Ev e7 45 a1B b31 a8m (p558.set 32 b1d):=wF (fn:=a45) (wS 4 (((p263.set 1 L3).set 3 a4w).set 6 a4h) (p528.set 31 (.cells v.C)) (XC.seq (wU true (wS 2 p337 (p528.set 31 (.cells v.C)) (wC 4 p337 (p528.set 31 (.cells v.C)) (d2w hm hn i)))) (wS 1 p337 (p528.set 31 (.cells v.C)) (XC.seq (wC 25 p338 (p540.set 41 C7) (e82 hm hn j l t)) (wS 1 p338 ((p540.set 41 C7).set 32 a5p) (XC.seq (wS 1 (p338.set 13 a00) ((p540.set 41 C7).set 32 a5p) (wU true (wC 6 (p338.set 13 a00) (p558.set 32 b1d) u))) (wR d37 (p558.set 32 b1d))))))))
theorem e2T (i:a8J):Ev e7 288 d6p (p534.set 39 l5) d7y (p534.set 39 l5):=wF (fn:=a288) (wS 2 p547 (p534.set 39 l5) (wZ (wU true (XC.seq (wC 7 ((p547.set 11 H8).set 11 a5a) (p534.set 39 l5) i) (wR e7K (p534.set 39 l5))))))
theorem e3J (i:a2u) (j:a8J):Ev e7 268 d28 a0M b3L ((p534.set 39 l5).set 41 G4):=wF (fn:=a268) (wS 2 ((p316.set 0 A9).set 8 k38) b9x (XC.seq (XC.seq (wC 14 p550 p534 (c8y hm hn)) (wB1 (XC.loop (LX.step (wS 1 p550 p534 (XC.seq (wB0 (wS 3 p551 p534 (XC.seq (wD 1 false p551 (p534.set 39 l5) i (wN p551 (p534.set 39 l5))) (wS 1 p552 (p534.set 39 l5) (XC.seq (wC 6 p562 (p534.set 39 l5) (e2T hm hn j)) (wN p562 ((p534.set 39 l5).set 41 G4))))))) (wN (p562.set 17 k17) ((p534.set 39 l5).set 41 G4)))) (wL 1 ((.exit 0),(p562.set 17 k17),((p534.set 39 l5).set 41 G4))))))) (wR e5l ((p534.set 39 l5).set 41 G4))))
theorem e8F (i:a4F) (j:a2u) (l:a8J):Ev e7 232 b5U a5C a8Y ((p534.set 39 l5).set 41 G4):=wF (fn:=a232) (wS 3 (p325.set 0 A9) a0M (XC.seq (wC 7 p556 a0M i) (wS 1 p556 a0M (XC.seq (wC 7 ((p556.set 16 N0).set 16 M1) ((p534.set 39 l5).set 41 G4) (e3J hm hn j l)) (wR e9x ((p534.set 39 l5).set 41 G4))))))
theorem e21 (i:a4F) (j:a2u) (l:a8J):Ev e7 181 b5U a5C b3L ((p534.set 39 l5).set 41 G4):=wF (fn:=a181) (wS 2 (p328.set 0 A9) a5C (XC.seq (wC 5 e7R ((p534.set 39 l5).set 41 G4) (e8F hm hn i j l)) (wR (p351.set 0 A9) ((p534.set 39 l5).set 41 G4))))
theorem e2V (i:a4F) (j:a2u) (l:a8J):Ev e7 113 b6k (p528.set 31 (.cells v.C)) c8i ((p534.set 39 l5).set 41 G4):=wF (fn:=a113) (wS 2 (p331.set 16 A9) a5C (XC.seq (wC 8 e1C ((p534.set 39 l5).set 41 G4) (e21 hm hn i j l)) (wR e3I ((p534.set 39 l5).set 41 G4))))
theorem e7z (i:c1a) (j:a4F) (l:a2u) (t:a8J) (u:e5m):Ev e7 45 a1B b31 a8Y (p569.set 32 a2X):=wF (fn:=a45) (wS 4 (((p263.set 1 L3).set 3 a4w).set 6 a4h) (p528.set 31 (.cells v.C)) (XC.seq (wU true (wS 2 p337 (p528.set 31 (.cells v.C)) (wC 4 p337 (p528.set 31 (.cells v.C)) (d2w hm hn i)))) (wS 1 p337 (p528.set 31 (.cells v.C)) (XC.seq (wC 25 (p338.set 10 M1) ((p534.set 39 l5).set 41 G4) (e2V hm hn j l t)) (wS 1 (p338.set 10 M1) a8G (XC.seq (wS 1 p355 a8G (wU true (wC 6 p355 (p569.set 32 a2X) u))) (wR (p355.set 5 M1) (p569.set 32 a2X))))))))
theorem e84 (i:b9v):Ev e7 45 a1B p571 p84 b6o:=wF (fn:=a45) (wS 4 (((p263.set 1 L3).set 3 a4w).set 6 a4h) p527 (XC.seq (wU true (wS 2 p337 p527 (wC 4 (p337.set 7 q8) p527 i))) (wR (p337.set 7 q8) b6o)))
theorem e7F (i:e8P):Ev e7 112 [k33,U3,k62,Y5] p574 q8 p574:=wF (fn:=a112) (wS 2 p367 p574 (XC.seq (wC 5 p368 p574 i) (wR (p368.set 6 q8) p574)))
theorem e65 (i:e70):Ev e7 112 [k33,U3,k62,Y5] ((p574.set 31 (.cells v.C)).set 32 s9) q8 ((p574.set 31 (.cells v.C)).set 32 s9):=wF (fn:=a112) (wS 2 p367 ((p574.set 31 (.cells v.C)).set 32 s9) (XC.seq (wC 5 ((p368.set 9 b5y).set 10 k28) ((p574.set 31 (.cells v.C)).set 32 s9) i) (wR d4r ((p574.set 31 (.cells v.C)).set 32 s9))))
theorem e2o (i:e2x):Ev e7 112 [k33,U3,k62,Y5] p575 q8 p575:=wF (fn:=a112) (wS 2 p367 p575 (XC.seq (wC 5 p375 p575 i) (wR (p375.set 6 q8) p575)))
theorem e31 (i:d2V):Ev e7 112 [k33,U3,k62,Y5] (p575.set 31 (.cells v.C)) k4 (p575.set 31 (.cells v.C)):=wF (fn:=a112) (wS 2 p367 (p575.set 31 (.cells v.C)) (XC.seq (wC 5 (p375.set 9 a8o) (p575.set 31 (.cells v.C)) i) (wR (p375.set 9 a8o) (p575.set 31 (.cells v.C)))))
theorem e2A:Ev e7 170 [J4,a8u] p577 k41 p583:=wF (fn:=a170) (wS 5 p578 p580 (wO (.normal,e9h,p583) (.normal,p578,p583) (.normal,p578,p583)))
theorem e1I:Ev e7 109 [J4,a5d] b6y k41 p583:=wF (fn:=a109) (wS 1 (p392.set 0 J4) b6y (wB1 (XC.loop (LX.step (wS 1 (p392.set 0 J4) b6y (XC.seq (wB0 (wS 3 p585 p577 (wB0 (wU true (wC 2 p585 p583 (e2A hm hn)))))) (wN (p585.set 6 k17) p583))) (wL 1 ((.exit 0),(p585.set 6 k17),p583))))))
theorem e7E:Ev e7 43 d1K c9n a4O p583:=wF (fn:=a43) (wS 2 (p396.set 8 J4) b6y (XC.seq (wC 2 (p396.set 8 J4) p583 (e1I hm hn)) (wR ((p396.set 8 J4).set 7 a4O) p583)))
theorem e8K (i:a9d):Ev e7 268 (p398.set 0 A9) a3n b4a ((p583.set 39 l5).set 41 G3):=wF (fn:=a268) (wS 2 ((p399.set 0 A9).set 8 k38) c9n (XC.seq (XC.seq (wC 14 p587 p583 (e7E hm hn)) (wB1 (XC.loop (LX.step (wS 1 p587 p583 (XC.seq (wB0 (wS 3 p589 p583 (XC.seq (wD 1 false p589 (p583.set 39 l5) i (wN p589 (p583.set 39 l5))) (wN p590 ((p583.set 39 l5).set 41 G3))))) (wN (p590.set 17 k17) ((p583.set 39 l5).set 41 G3)))) (wL 1 ((.exit 0),(p590.set 17 k17),((p583.set 39 l5).set 41 G3))))))) (wR e8t ((p583.set 39 l5).set 41 G3))))
theorem e6I (i:b4K) (j:a9d):Ev e7 232 d3W b6B a8p ((p583.set 39 l5).set 41 G3):=wF (fn:=a232) (wS 3 e3O a3n (XC.seq (wC 7 (p412.set 0 A9) a3n i) (wS 1 (p412.set 0 A9) a3n (XC.seq (wC 7 ((p412.set 0 A9).set 16 X6) ((p583.set 39 l5).set 41 G3) (e8K hm hn j)) (wR e1U ((p583.set 39 l5).set 41 G3))))))
theorem e6U (i:b4K) (j:a9d):Ev e7 181 d3W b6B b4a ((p583.set 39 l5).set 41 G3):=wF (fn:=a181) (wS 2 p596 b6B (XC.seq (wC 5 (p596.set 11 X6) ((p583.set 39 l5).set 41 G3) (e6I hm hn i j)) (wR (p414.set 0 A9) ((p583.set 39 l5).set 41 G3))))
theorem e7N (i:b4K) (j:a9d):Ev e7 113 p415 (p575.set 31 (.cells v.C)) d6z ((p583.set 39 l5).set 41 G3):=wF (fn:=a113) (wS 2 (p416.set 16 A9) b6B (XC.seq (wC 8 ((p416.set 16 A9).set 17 X6) ((p583.set 39 l5).set 41 G3) (e6U hm hn i j)) (wR (p417.set 16 A9) ((p583.set 39 l5).set 41 G3))))
theorem e87 (i:d2V) (j:b4K) (l:a9d) (t:e3D):Ev e7 45 a4Y d3m a8p (p598.set 32 a2X):=wF (fn:=a45) (wS 4 p423 (p575.set 31 (.cells v.C)) (XC.seq (wU true (wS 2 ((p423.set 8 k62).set 9 a2r) (p575.set 31 (.cells v.C)) (wC 4 ((p423.set 8 k62).set 9 a2r) (p575.set 31 (.cells v.C)) (e31 hm hn i)))) (wS 1 ((p423.set 8 k62).set 9 a2r) (p575.set 31 (.cells v.C)) (XC.seq (wC 25 p424 ((p583.set 39 l5).set 41 G3) (e7N hm hn j l)) (wS 1 p424 a8E (XC.seq (wS 1 (p424.set 13 a00) a8E (wU true (wC 6 (p424.set 13 a00) (p598.set 32 a2X) t))) (wR c8T (p598.set 32 a2X))))))))
theorem e7o (i:c07):Ev e7 45 a4Y (p571.set 33 a4Z) p84 b6x:=wF (fn:=a45) (wS 4 p423 p574 (XC.seq (wU true (wS 2 ((p423.set 8 k62).set 9 a2r) p574 (wC 4 b57 p574 i))) (wR b57 b6x)))
end
end Go.Cb.CodeA
